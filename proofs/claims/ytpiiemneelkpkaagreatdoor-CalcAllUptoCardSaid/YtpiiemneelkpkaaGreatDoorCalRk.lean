import Derived.Test.YtpiiemneelkpkaaGreatDoorGcp
import Derived.Test.YtpiiemneelkpkaaGreatDoorCalRa
namespace Go.Proofs.YtpiiemneelkpkaaGreatDoor
open Go.RowKit
set_option linter.unusedVariables false
set_option linter.unusedSimpArgs false
theorem rrows_any (w : World) : Calls Tryz.prog 80 #[] w fun e w' => e = .returned (.slice (some ⟨w.heap.size, 0, none⟩) 76 76) ∧ w' = w.alloc (.cells (infoC infoL).toArray 41 (0, 0)) := by
 go_enter Tryz.func80, Tryz.ntmps80
 refine wp_seq ?_
 refine wp_region_list (wpList_run (a1 := { tmps := (Array.replicate 78 undef).setIfInBounds 0 (.slice none 0 0), defers := [] }) (w1 := w) ?_ _ _ _ (by kernel_rfl))
 simp only [Exit.then]
 refine wp_seq ?_
 refine wp_region_run 0 (.slice (some ⟨w.heap.size, 0, none⟩) 76 76) (w1 := w.alloc (.cells (infoC infoL).toArray 41 (0, 0))) (by kernel_rfl) ?_
 intro a1 h1 h2
 simp only [Exit.then]
 refine wp_ret ?_
 exact bodyPost_ret (v := .slice (some ⟨w.heap.size, 0, none⟩) 76 76) (by simp [results, Tryz.results80, h2, go_sem]) h1 ⟨rfl, rfl⟩
theorem rinfo_in (k : Nat) (hk : k < 76) (s : ByteArray) (c a b : Int) (hr : infoL[k]? = some (s, c, a, b)) (w : World) : Ret 48 #[.int .i64 ((k : Int) + 1)] w (.tuple #[.agg #[.string s, .int .i64 c, .int .i64 a, .int .i64 b], .int .i64 0]) := by
 obtain ⟨g0, g1, g2, g3⟩ := infoC_get _ _ _ hr
 have t1 : decide ((k : Int) + 1 < 1) = false := by simp; omega
 have t2 : decide ((76 : Int) < (k : Int) + 1) = false := by simp; omega
 have e1 : IntKind.i64.wrap ((k : Int) + 1 - 1) = (k : Int) := by rw [IntKind.wrap_i64]; omega
 have HL := Lib.hid (fun w => rrows_any w)
 go_enter Tryz.func48, Tryz.ntmps48
 go_wp2_with (fail)
 refine (HL.out _).mono ?_
 rintro e w1 ⟨rfl, hb1⟩
 have hx : w1.heap[w.heap.size]? = some (.cells #[.string ⟨#[]⟩, .int .i64 0, .int .i64 0, .int .i64 0] 41 (0, 0)) := by
  rw [hb1]
  exact (heap_alloc_old _ _ (by simp)).trans (heap_alloc_new _ _)
 have hs : Below w.heap.size w w1 := by
  rw [hb1]
  exact ((Below.refl _ _).alloc (Nat.le_refl _) _).alloc (by simp) _
 have hB : w1.heap[w.heap.size + 1]? = some (.cells (infoC infoL).toArray 41 (0, 0)) := by
  rw [hb1]
  have := heap_alloc_new (w.alloc (.cells #[.string ⟨#[]⟩, .int .i64 0, .int .i64 0, .int .i64 0] 41 (0, 0))) (.cells (infoC infoL).toArray 41 (0, 0))
  simpa using this
 clear hb1
 have c0 : w1.cell? ⟨w.heap.size + 1, k * 4, none⟩ = some (.string s) := by simp [World.cell?, hB, Nat.mul_comm k 4, g0]
 have c1 : w1.cell? ⟨w.heap.size + 1, k * 4 + 1, none⟩ = some (.int .i64 c) := by simp [World.cell?, hB, Nat.mul_comm k 4, g1]
 have c2 : w1.cell? ⟨w.heap.size + 1, k * 4 + 2, none⟩ = some (.int .i64 a) := by simp [World.cell?, hB, Nat.mul_comm k 4, g2]
 have c3 : w1.cell? ⟨w.heap.size + 1, k * 4 + 3, none⟩ = some (.int .i64 b) := by simp [World.cell?, hB, Nat.mul_comm k 4, g3]
 clear hB g0 g1 g2 g3
 have x0 := ch hx 0
 have x1 := ch hx 1
 have x2 := ch hx 2
 have x3 := ch hx 3
 have f0 := Lib.frozen_of_heap hx 0
 have f1 := Lib.frozen_of_heap hx 1
 have f2 := Lib.frozen_of_heap hx 2
 have f3 := Lib.frozen_of_heap hx 3
 clear hx
 simp at x0 x1 x2 x3
 go_wp2
 exact bodyPost_ret (v := .tuple #[.agg #[.string s, .int .i64 c, .int .i64 a, .int .i64 b], .int .i64 0]) (by simp [results, Tryz.results48, go_sem, x0, x1, x2, x3]) rfl ⟨rfl, (set3 hs (by simp)).setCell (p := ⟨w.heap.size, 3, none⟩) (by simp) _⟩
theorem rinfo_lo (f : Int) (h : f < 1) (w : World) : Ret 48 #[.int .i64 f] w (.tuple #[.agg #[.string ⟨#[]⟩, .int .i64 0, .int .i64 0, .int .i64 0], .int .i64 1]) := by
 have t1 : decide (f < 1) = true := by simp; omega
 clear h
 have HL := Lib.hid (fun w => rrows_any w)
 go_enter Tryz.func48, Tryz.ntmps48
 go_wp2_with (fail)
 refine (HL.out _).mono ?_
 rintro e w1 ⟨rfl, hb1⟩
 have hx : w1.heap[w.heap.size]? = some (.cells #[.string ⟨#[]⟩, .int .i64 0, .int .i64 0, .int .i64 0] 41 (0, 0)) := by
  rw [hb1]
  exact (heap_alloc_old _ _ (by simp)).trans (heap_alloc_new _ _)
 have hs : Below w.heap.size w w1 := by
  rw [hb1]
  exact ((Below.refl _ _).alloc (Nat.le_refl _) _).alloc (by simp) _
 clear hb1
 have x0 := ch hx 0
 have x1 := ch hx 1
 have x2 := ch hx 2
 have x3 := ch hx 3
 have f0 := Lib.frozen_of_heap hx 0
 have f1 := Lib.frozen_of_heap hx 1
 have f2 := Lib.frozen_of_heap hx 2
 have f3 := Lib.frozen_of_heap hx 3
 clear hx
 simp at x0 x1 x2 x3
 go_wp2
 exact bodyPost_ret (v := .tuple #[.agg #[.string ⟨#[]⟩, .int .i64 0, .int .i64 0, .int .i64 0], .int .i64 1]) (by simp [results, Tryz.results48, go_sem, x0, x1, x2, x3]) rfl ⟨rfl, (set3 hs (by simp)).setCell (p := ⟨w.heap.size, 3, none⟩) (by simp) _⟩
theorem rinfo_hi (f : Int) (h : 76 < f) (w : World) : Ret 48 #[.int .i64 f] w (.tuple #[.agg #[.string ⟨#[]⟩, .int .i64 0, .int .i64 0, .int .i64 0], .int .i64 1]) := by
 have t1 : decide (f < 1) = false := by simp; omega
 have t2 : decide ((76 : Int) < f) = true := by simp; omega
 clear h
 have HL := Lib.hid (fun w => rrows_any w)
 go_enter Tryz.func48, Tryz.ntmps48
 go_wp2_with (fail)
 refine (HL.out _).mono ?_
 rintro e w1 ⟨rfl, hb1⟩
 have hx : w1.heap[w.heap.size]? = some (.cells #[.string ⟨#[]⟩, .int .i64 0, .int .i64 0, .int .i64 0] 41 (0, 0)) := by
  rw [hb1]
  exact (heap_alloc_old _ _ (by simp)).trans (heap_alloc_new _ _)
 have hs : Below w.heap.size w w1 := by
  rw [hb1]
  exact ((Below.refl _ _).alloc (Nat.le_refl _) _).alloc (by simp) _
 clear hb1
 have x0 := ch hx 0
 have x1 := ch hx 1
 have x2 := ch hx 2
 have x3 := ch hx 3
 have f0 := Lib.frozen_of_heap hx 0
 have f1 := Lib.frozen_of_heap hx 1
 have f2 := Lib.frozen_of_heap hx 2
 have f3 := Lib.frozen_of_heap hx 3
 clear hx
 simp at x0 x1 x2 x3
 go_wp2
 exact bodyPost_ret (v := .tuple #[.agg #[.string ⟨#[]⟩, .int .i64 0, .int .i64 0, .int .i64 0], .int .i64 1]) (by simp [results, Tryz.results48, go_sem, x0, x1, x2, x3]) rfl ⟨rfl, (set3 hs (by simp)).setCell (p := ⟨w.heap.size, 3, none⟩) (by simp) _⟩
theorem rinfo_any (f : Int) (w : World) : Ret 48 #[.int .i64 f] w (.tuple #[rv (infoV f).1, .int .i64 (infoV f).2]) := by
 unfold infoV rv
 by_cases h1 : f < 1
 ·rw [if_neg (by omega)]; exact rinfo_lo f h1 w
 ·by_cases h2 : 76 < f
  ·rw [if_neg (by omega)]; exact rinfo_hi f h2 w
  ·rw [if_pos (by omega)]
   obtain ⟨k, hk⟩ := Int.eq_ofNat_of_zero_le (show 0 ≤ f - 1 by omega)
   obtain rfl : f = (k : Int) + 1 := by omega
   have hlt : k < infoL.length := by rw [infoL_len]; omega
   have e : ((k : Int) + 1 - 1).toNat = k := by omega
   rw [e, List.getD_eq_getElem?_getD, List.getElem?_eq_getElem hlt]
   exact rinfo_in k (by omega) _ _ _ _ (by rw [List.getElem?_eq_getElem hlt]; rfl) w
end Go.Proofs.YtpiiemneelkpkaaGreatDoor
