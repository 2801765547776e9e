import Derived.Test.YtpiiemneelkpkaaGreatDoorCalRo
import Derived.Test.YtpiiemneelkpkaaGreatDoorCalRp
set_option maxRecDepth 100000
namespace Go.Proofs.YtpiiemneelkpkaaGreatDoor
open Go.RowKit
set_option linter.unusedVariables false
set_option linter.unusedSimpArgs false
theorem copy_cells {w : World} {g n : Nat} {cur : Array Value} {v : Nat → Val.V} {ms : List Value} (hg : w.heap[g]? = some (.cells cur 26 (0, 0))) (hs : (n + 1) * 3 ≤ cur.size) (ht : cur.toList.take ((n + 1) * 3) = rowC v n ++ ms) : HCellP w (some ⟨g, 0, none⟩) n v := by
 have hc : ∀ j, j < n * 3 → cur[j]? = (rowC v n)[j]? := fun j hj => by
  have h1 : (cur.toList.take ((n + 1) * 3))[j]? = (rowC v n)[j]? := by rw [ht, List.getElem?_append_left (by rw [rowC_len]; exact hj)]
  rw [← h1, List.getElem?_take, if_pos (by omega), Array.getElem?_toList]
 intro j hj
 obtain ⟨g0, g1, g2⟩ := rowC_get v n j hj
 refine ⟨g, 0, rfl, (Array.getElem?_eq_some_iff.1 hg).1, ?_, ?_, ?_⟩
 all_goals
  rw [Lib.cell_of_heap hg, hc _ (by omega)]
  simp only [Nat.zero_add]
  assumption
theorem copy_mark {w : World} {g n : Nat} {cur : Array Value} {v : Nat → Val.V} {m : Value} {ms : List Value} (hg : w.heap[g]? = some (.cells cur 26 (0, 0))) (hs : (n + 1) * 3 ≤ cur.size) (ht : cur.toList.take ((n + 1) * 3) = rowC v n ++ m :: ms) : w.cell? ⟨g, n * 3, none⟩ = some m := by
 rw [Lib.cell_of_heap hg, ← Array.getElem?_toList]
 have h1 : (cur.toList.take ((n + 1) * 3))[n * 3]? = some m := by rw [ht, List.getElem?_append_right (by rw [rowC_len]; omega), rowC_len]; simp
 rw [List.getElem?_take, if_pos (by omega)] at h1
 exact h1
theorem plays_1 (v : Nat → Val.V) (rk rn z : Int) (rt : ByteArray) (f : Int) (a : Option Addr) (n ca : Nat) (xk xn yk yn : Int) (xt yt : ByteArray) (w : World) (HH : Hid (∀ u, Below w.heap.size w u → Calls Tryz.prog 23 #[.slice a n ca] u (HandedPost u n v))) (HC : Hid (∀ u g cap, Below w.heap.size w u → HCellP u (some ⟨g, 0, none⟩) n v → Ret 18 #[.int .i64 f, .slice (some ⟨g, 0, none⟩) n cap] u (.tuple #[.agg #[.int .i64 rk, .int .i64 rn, .string rt], .int .i64 z]))) (HR : Hid (∀ u, Below w.heap.size w u → Ret 24 #[.int .i64 f, .slice a n ca] u (.tuple #[.agg #[.int .i64 rk, .int .i64 rn, .string rt], .int .i64 z]))) (HK : Hid (∀ u g cap, Below w.heap.size w u → HCellP u (some ⟨g, 0, none⟩) n v → g < u.heap.size → u.cell? ⟨g, n * 3, none⟩ = some (.int .i64 (-7)) → n + 1 ≤ cap → Ret 25 #[.slice (some ⟨g, 0, none⟩) n cap, .slice a n ca] u (.bool true))) :
  Ret 10 #[.agg #[.int .i64 1, .int .i64 f, .slice a n ca, .int .i64 xk, .int .i64 xn, .string xt, .int .i64 yk, .int .i64 yn, .string yt]] w (.bool true) := by
 have hb : Below w.heap.size w (w.alloc (Obj.cells #[.int .i64 1, .int .i64 f, .slice a n ca, .int .i64 xk, .int .i64 xn, .string xt, .int .i64 yk, .int .i64 yn, .string yt] 28)) := (Below.refl _ _).alloc (Nat.le_refl _) _
 have kx : (w.alloc (Obj.cells #[.int .i64 1, .int .i64 f, .slice a n ca, .int .i64 xk, .int .i64 xn, .string xt, .int .i64 yk, .int .i64 yn, .string yt] 28)).heap[w.heap.size]? = some (.cells #[.int .i64 1, .int .i64 f, .slice a n ca, .int .i64 xk, .int .i64 xn, .string xt, .int .i64 yk, .int .i64 yn, .string yt] 28 (0, 0)) := heap_alloc_new _ _
 have x0 := ch kx 0
 have x1 := ch kx 1
 have x2 := ch kx 2
 have x3 := ch kx 3
 have x4 := ch kx 4
 have x5 := ch kx 5
 have x6 := ch kx 6
 have x7 := ch kx 7
 have x8 := ch kx 8
 simp at x0 x1 x2 x3 x4 x5 x6 x7 x8
 go_enter Tryz.func10, Tryz.ntmps10
 go_wp2_with (fail)
 generalize (w.alloc (Obj.cells #[.int .i64 1, .int .i64 f, .slice a n ca, .int .i64 xk, .int .i64 xn, .string xt, .int .i64 yk, .int .i64 yn, .string yt] 28)) = W0 at *
 refine (HH.out _ hb).mono ?_
 rintro e w1 ⟨g, cap, cur, rfl, hge, hgg, hcap, hs, ht, hb1⟩
 replace kx := blk hb1 kx
 replace hb := hb.trans (hb1.mono hb.size)
 clear x0 x1 x2 x3 x4 x5 x6 x7 x8
 have x0 := ch kx 0
 have x1 := ch kx 1
 have x2 := ch kx 2
 have x3 := ch kx 3
 have x4 := ch kx 4
 have x5 := ch kx 5
 have x6 := ch kx 6
 have x7 := ch kx 7
 have x8 := ch kx 8
 simp at x0 x1 x2 x3 x4 x5 x6 x7 x8
 have hcp := copy_cells hgg hs ht
 have hmk := copy_mark hgg hs ht
 have hlt : g < w1.heap.size := (Array.getElem?_eq_some_iff.1 hgg).1
 clear hb1 hge hgg hs ht cur
 go_wp2_with (fail)
 refine (HC.out _ _ _ hb hcp).mono ?_
 rintro e w2 ⟨rfl, hb2⟩
 replace kx := blk hb2 kx
 replace hb := hb.trans (hb2.mono hb.size)
 clear x0 x1 x2 x3 x4 x5 x6 x7 x8
 have kv : (w2.alloc (Obj.cells #[.int .i64 rk, .int .i64 rn, .string rt] 26)).heap[w2.heap.size]? = some (.cells #[.int .i64 rk, .int .i64 rn, .string rt] 26 (0, 0)) := heap_alloc_new _ _
 replace kx := (heap_alloc_old _ (Obj.cells #[.int .i64 rk, .int .i64 rn, .string rt] 26) (Array.getElem?_eq_some_iff.1 kx).1).trans kx
 replace hb := hb.alloc hb.size (Obj.cells #[.int .i64 rk, .int .i64 rn, .string rt] 26)
 have hB2 : Below w1.heap.size w1 (w2.alloc (Obj.cells #[.int .i64 rk, .int .i64 rn, .string rt] 26)) := hb2.alloc hb2.size _
 clear hb2
 have x0 := ch kx 0
 have x1 := ch kx 1
 have x2 := ch kx 2
 have x3 := ch kx 3
 have x4 := ch kx 4
 have x5 := ch kx 5
 have x6 := ch kx 6
 have x7 := ch kx 7
 have x8 := ch kx 8
 simp at x0 x1 x2 x3 x4 x5 x6 x7 x8
 go_wp2_with (fail)
 generalize (w2.alloc (Obj.cells #[.int .i64 rk, .int .i64 rn, .string rt] 26)) = W2 at *
 refine (HR.out _ hb).mono ?_
 rintro e w3 ⟨rfl, hb3⟩
 replace kx := blk hb3 kx
 replace hb := hb.trans (hb3.mono hb.size)
 replace kv := blk hb3 kv
 replace hB2 := hB2.trans (hb3.mono hB2.size)
 clear x0 x1 x2 x3 x4 x5 x6 x7 x8
 clear hb3
 have ku : (w3.alloc (Obj.cells #[.int .i64 rk, .int .i64 rn, .string rt] 26)).heap[w3.heap.size]? = some (.cells #[.int .i64 rk, .int .i64 rn, .string rt] 26 (0, 0)) := heap_alloc_new _ _
 replace kx := (heap_alloc_old _ (Obj.cells #[.int .i64 rk, .int .i64 rn, .string rt] 26) (Array.getElem?_eq_some_iff.1 kx).1).trans kx
 replace kv := (heap_alloc_old _ (Obj.cells #[.int .i64 rk, .int .i64 rn, .string rt] 26) (Array.getElem?_eq_some_iff.1 kv).1).trans kv
 replace hb := hb.alloc hb.size (Obj.cells #[.int .i64 rk, .int .i64 rn, .string rt] 26)
 replace hB2 := hB2.alloc hB2.size (Obj.cells #[.int .i64 rk, .int .i64 rn, .string rt] 26)
 have x0 := ch kx 0
 have x1 := ch kx 1
 have x2 := ch kx 2
 have x3 := ch kx 3
 have x4 := ch kx 4
 have x5 := ch kx 5
 have x6 := ch kx 6
 have x7 := ch kx 7
 have x8 := ch kx 8
 simp at x0 x1 x2 x3 x4 x5 x6 x7 x8
 obtain ⟨v0, v1, v2⟩ := val_cells kv
 obtain ⟨u0, u1, u2⟩ := val_cells ku
 go_wp2_with (fail)
 generalize (w3.alloc (Obj.cells #[.int .i64 rk, .int .i64 rn, .string rt] 26)) = W3 at *
 refine (HK.out _ _ _ hb (hcp.below rfl hB2) (Nat.lt_of_lt_of_le hlt hB2.size) ((hB2.cell (p := ⟨g, n * 3, none⟩) hlt).trans hmk) hcap).mono ?_
 rintro e w4 ⟨rfl, hb4⟩
 replace hb := hb.trans (hb4.mono hb.size)
 go_wp2
 go_ret
 exact ⟨rfl, hb⟩
theorem plays_0 (kd : Int) (f : Int) (a : Option Addr) (n ca : Nat) (xk xn yk yn : Int) (xt yt : ByteArray) (w : World) (t1 : (kd == 1) = false) (t2 : (kd == 2) = false) (t3 : (kd == 3) = false) :
  Ret 10 #[.agg #[.int .i64 kd, .int .i64 f, .slice a n ca, .int .i64 xk, .int .i64 xn, .string xt, .int .i64 yk, .int .i64 yn, .string yt]] w (.bool true) := by
 have hb : Below w.heap.size w (w.alloc (Obj.cells #[.int .i64 kd, .int .i64 f, .slice a n ca, .int .i64 xk, .int .i64 xn, .string xt, .int .i64 yk, .int .i64 yn, .string yt] 28)) := (Below.refl _ _).alloc (Nat.le_refl _) _
 have kx : (w.alloc (Obj.cells #[.int .i64 kd, .int .i64 f, .slice a n ca, .int .i64 xk, .int .i64 xn, .string xt, .int .i64 yk, .int .i64 yn, .string yt] 28)).heap[w.heap.size]? = some (.cells #[.int .i64 kd, .int .i64 f, .slice a n ca, .int .i64 xk, .int .i64 xn, .string xt, .int .i64 yk, .int .i64 yn, .string yt] 28 (0, 0)) := heap_alloc_new _ _
 have x0 := ch kx 0
 have x1 := ch kx 1
 have x2 := ch kx 2
 have x3 := ch kx 3
 have x4 := ch kx 4
 have x5 := ch kx 5
 have x6 := ch kx 6
 have x7 := ch kx 7
 have x8 := ch kx 8
 simp at x0 x1 x2 x3 x4 x5 x6 x7 x8
 go_enter Tryz.func10, Tryz.ntmps10
 go_wp2
 go_ret
 exact ⟨rfl, hb⟩
theorem plays_2 (rk rn : Int) (rt : ByteArray) (f : Int) (a : Option Addr) (n ca : Nat) (xk xn yk yn : Int) (xt yt : ByteArray) (w : World) (HU : Hid (∀ u, Below w.heap.size w u → Ret 22 #[.int .i64 f, .agg #[.int .i64 xk, .int .i64 xn, .string xt]] u (.agg #[.int .i64 rk, .int .i64 rn, .string rt]))) (HV : Hid (∀ u, Below w.heap.size w u → Ret 26 #[.int .i64 f, .agg #[.int .i64 xk, .int .i64 xn, .string xt]] u (.agg #[.int .i64 rk, .int .i64 rn, .string rt]))) :
  Ret 10 #[.agg #[.int .i64 2, .int .i64 f, .slice a n ca, .int .i64 xk, .int .i64 xn, .string xt, .int .i64 yk, .int .i64 yn, .string yt]] w (.bool true) := by
 have hb : Below w.heap.size w (w.alloc (Obj.cells #[.int .i64 2, .int .i64 f, .slice a n ca, .int .i64 xk, .int .i64 xn, .string xt, .int .i64 yk, .int .i64 yn, .string yt] 28)) := (Below.refl _ _).alloc (Nat.le_refl _) _
 have kx : (w.alloc (Obj.cells #[.int .i64 2, .int .i64 f, .slice a n ca, .int .i64 xk, .int .i64 xn, .string xt, .int .i64 yk, .int .i64 yn, .string yt] 28)).heap[w.heap.size]? = some (.cells #[.int .i64 2, .int .i64 f, .slice a n ca, .int .i64 xk, .int .i64 xn, .string xt, .int .i64 yk, .int .i64 yn, .string yt] 28 (0, 0)) := heap_alloc_new _ _
 have x0 := ch kx 0
 have x1 := ch kx 1
 have x2 := ch kx 2
 have x3 := ch kx 3
 have x4 := ch kx 4
 have x5 := ch kx 5
 have x6 := ch kx 6
 have x7 := ch kx 7
 have x8 := ch kx 8
 simp at x0 x1 x2 x3 x4 x5 x6 x7 x8
 go_enter Tryz.func10, Tryz.ntmps10
 go_upto_region 8 with (fail)
 generalize (w.alloc (Obj.cells #[.int .i64 2, .int .i64 f, .slice a n ca, .int .i64 xk, .int .i64 xn, .string xt, .int .i64 yk, .int .i64 yn, .string yt] 28)) = W0 at *
 clear x0 x1 x2 x3 x4 x5 x6 x7 x8
 refine Drw.region_values_all 12 ?Aplays_2 (fun w' => w'.heap[w.heap.size]? = some (.cells #[.int .i64 2, .int .i64 f, .slice a n ca, .int .i64 xk, .int .i64 xn, .string xt, .int .i64 yk, .int .i64 yn, .string yt] 28 (0, 0)) ∧ Below w.heap.size w w') (fun i => match i with | 0 => fun v _ => v = .pointer (some ⟨w.heap.size, 1, none⟩) | 1 => fun v _ => v = .int .i64 f | 2 => fun v _ => v = .pointer (some ⟨w.heap.size, 3, none⟩) | 3 => fun v _ => v = .agg #[.int .i64 xk, .int .i64 xn, .string xt] | 4 => fun v _ => v = .agg #[.int .i64 rk, .int .i64 rn, .string rt] | 5 => fun v _ => v = .pointer (some ⟨w.heap.size, 1, none⟩) | 6 => fun v _ => v = .int .i64 f | 7 => fun v _ => v = .pointer (some ⟨w.heap.size, 3, none⟩) | 8 => fun v _ => v = .agg #[.int .i64 xk, .int .i64 xn, .string xt] | 9 => fun v _ => v = .agg #[.int .i64 rk, .int .i64 rn, .string rt] | 10 => fun v _ => v = .bool true | 11 => fun v _ => v = .bool true | _ => fun _ _ => True) (fun i => false) ?hAplays_2 (by kernel_rfl) (by kernel_rfl) rfl ⟨kx, hb.drew⟩ (fun w1 w2 h hS => ⟨(h.block _ (Array.getElem?_eq_some_iff.1 hS.1).1).trans hS.1, hS.2.trans (h.mono hS.2.size)⟩) (Drw.lt_succ (Drw.lt_succ (Drw.lt_succ (Drw.lt_succ (Drw.lt_succ (Drw.lt_succ (Drw.lt_succ (Drw.lt_succ (Drw.lt_succ (Drw.lt_succ (Drw.lt_succ (Drw.lt_succ Drw.lt_nil Drw.st) Drw.st) Drw.st) Drw.st) Drw.st) Drw.st) Drw.st) Drw.st) Drw.st) Drw.st) Drw.st) Drw.st) ?_ ?_
 case hAplays_2 =>
  intro f
  symm
  simp only [Drw.putAll, Drw.dst, List.range, List.range.loop, List.getElem?_toArray, List.getElem?_cons_zero, List.getElem?_cons_succ, Option.bind_some, Act.put, List.setIfInBounds_toArray, List.set_cons_zero, List.set_cons_succ]
  exact rfl
 refine Drw.Obs.cons ?_ ?_
 ·intro f w _ hV K hK; unfold Drw.Give; go_simp; exact hK.out _ _ rfl (Below.refl _ _) (Drw.no rfl)
 refine Drw.Obs.cons ?_ ?_
 ·intro f w hS hV K hK; obtain ⟨s0, -⟩ := hS; have s0c0 := ch s0 0; have s0c1 := ch s0 1; have s0c2 := ch s0 2; have s0c3 := ch s0 3; have s0c4 := ch s0 4; have s0c5 := ch s0 5; have s0c6 := ch s0 6; have s0c7 := ch s0 7; have s0c8 := ch s0 8; simp at s0c0 s0c1 s0c2 s0c3 s0c4 s0c5 s0c6 s0c7 s0c8; have v0 := Drw.val (hV 0 rfl); clear hV; unfold Drw.Give; go_simp; exact hK.out _ _ rfl (Below.refl _ _) (Drw.no rfl)
 refine Drw.Obs.cons ?_ ?_
 ·intro f w _ hV K hK; unfold Drw.Give; go_simp; exact hK.out _ _ rfl (Below.refl _ _) (Drw.no rfl)
 refine Drw.Obs.cons ?_ ?_
 ·intro f w hS hV K hK; obtain ⟨s0, -⟩ := hS; have s0c0 := ch s0 0; have s0c1 := ch s0 1; have s0c2 := ch s0 2; have s0c3 := ch s0 3; have s0c4 := ch s0 4; have s0c5 := ch s0 5; have s0c6 := ch s0 6; have s0c7 := ch s0 7; have s0c8 := ch s0 8; simp at s0c0 s0c1 s0c2 s0c3 s0c4 s0c5 s0c6 s0c7 s0c8; have v2 := Drw.val (hV 2 rfl); clear hV; unfold Drw.Give; go_simp; exact hK.out _ _ rfl (Below.refl _ _) (Drw.no rfl)
 refine Drw.Obs.cons ?_ ?_
 ·intro f w hS hV K hK; obtain ⟨-, hsb⟩ := hS; have v1 := Drw.val (hV 1 rfl); have v3 := Drw.val (hV 3 rfl); clear hV; unfold Drw.Give; go_simp; unfold Drw.giveUpon; with_reducible refine (HU.out _ hsb).mono ?_; rintro e w2 ⟨rfl, hb2⟩; exact ⟨_, rfl, hK.out _ _ rfl hb2 (Drw.no rfl)⟩
 refine Drw.Obs.cons ?_ ?_
 ·intro f w _ hV K hK; unfold Drw.Give; go_simp; exact hK.out _ _ rfl (Below.refl _ _) (Drw.no rfl)
 refine Drw.Obs.cons ?_ ?_
 ·intro f w hS hV K hK; obtain ⟨s0, -⟩ := hS; have s0c0 := ch s0 0; have s0c1 := ch s0 1; have s0c2 := ch s0 2; have s0c3 := ch s0 3; have s0c4 := ch s0 4; have s0c5 := ch s0 5; have s0c6 := ch s0 6; have s0c7 := ch s0 7; have s0c8 := ch s0 8; simp at s0c0 s0c1 s0c2 s0c3 s0c4 s0c5 s0c6 s0c7 s0c8; have v5 := Drw.val (hV 5 rfl); clear hV; unfold Drw.Give; go_simp; exact hK.out _ _ rfl (Below.refl _ _) (Drw.no rfl)
 refine Drw.Obs.cons ?_ ?_
 ·intro f w _ hV K hK; unfold Drw.Give; go_simp; exact hK.out _ _ rfl (Below.refl _ _) (Drw.no rfl)
 refine Drw.Obs.cons ?_ ?_
 ·intro f w hS hV K hK; obtain ⟨s0, -⟩ := hS; have s0c0 := ch s0 0; have s0c1 := ch s0 1; have s0c2 := ch s0 2; have s0c3 := ch s0 3; have s0c4 := ch s0 4; have s0c5 := ch s0 5; have s0c6 := ch s0 6; have s0c7 := ch s0 7; have s0c8 := ch s0 8; simp at s0c0 s0c1 s0c2 s0c3 s0c4 s0c5 s0c6 s0c7 s0c8; have v7 := Drw.val (hV 7 rfl); clear hV; unfold Drw.Give; go_simp; exact hK.out _ _ rfl (Below.refl _ _) (Drw.no rfl)
 refine Drw.Obs.cons ?_ ?_
 ·intro f w hS hV K hK; obtain ⟨-, hsb⟩ := hS; have v6 := Drw.val (hV 6 rfl); have v8 := Drw.val (hV 8 rfl); clear hV; unfold Drw.Give; go_simp; unfold Drw.giveUpon; with_reducible refine (HV.out _ hsb).mono ?_; rintro e w2 ⟨rfl, hb2⟩; exact ⟨_, rfl, hK.out _ _ rfl hb2 (Drw.no rfl)⟩
 refine Drw.Obs.cons ?_ ?_
 ·intro f w _ hV K hK; have v4 := Drw.val (hV 4 rfl); have v9 := Drw.val (hV 9 rfl); clear hV; unfold Drw.Give; go_simp; exact hK.out _ _ rfl (Below.refl _ _) (Drw.no rfl)
 refine Drw.Obs.cons ?_ ?_
 ·intro f w _ hV K hK; have v10 := Drw.val (hV 10 rfl); clear hV; unfold Drw.Give; go_simp; exact hK.out _ _ rfl (Below.refl _ _) (Drw.no rfl)
 exact Drw.Obs.nil
 intro f' w4 hS hV hD hZ
 clear hD hZ
 have v11 := Drw.val (hV 11 (by decide))
 clear hV hb kx
 obtain ⟨-, hb⟩ := hS
 simp only [v11]
 clear v11
 go_wp2
 go_ret
 exact ⟨rfl, hb⟩
theorem plays_3 (rk rn : Int) (rt : ByteArray) (f : Int) (a : Option Addr) (n ca : Nat) (xk xn yk yn : Int) (xt yt : ByteArray) (w : World) (HU : Hid (∀ u, Below w.heap.size w u → Ret 13 #[.int .i64 f, .agg #[.int .i64 xk, .int .i64 xn, .string xt], .agg #[.int .i64 yk, .int .i64 yn, .string yt]] u (.agg #[.int .i64 rk, .int .i64 rn, .string rt]))) (HV : Hid (∀ u, Below w.heap.size w u → Ret 27 #[.int .i64 f, .agg #[.int .i64 xk, .int .i64 xn, .string xt], .agg #[.int .i64 yk, .int .i64 yn, .string yt]] u (.agg #[.int .i64 rk, .int .i64 rn, .string rt]))) :
  Ret 10 #[.agg #[.int .i64 3, .int .i64 f, .slice a n ca, .int .i64 xk, .int .i64 xn, .string xt, .int .i64 yk, .int .i64 yn, .string yt]] w (.bool true) := by
 have hb : Below w.heap.size w (w.alloc (Obj.cells #[.int .i64 3, .int .i64 f, .slice a n ca, .int .i64 xk, .int .i64 xn, .string xt, .int .i64 yk, .int .i64 yn, .string yt] 28)) := (Below.refl _ _).alloc (Nat.le_refl _) _
 have kx : (w.alloc (Obj.cells #[.int .i64 3, .int .i64 f, .slice a n ca, .int .i64 xk, .int .i64 xn, .string xt, .int .i64 yk, .int .i64 yn, .string yt] 28)).heap[w.heap.size]? = some (.cells #[.int .i64 3, .int .i64 f, .slice a n ca, .int .i64 xk, .int .i64 xn, .string xt, .int .i64 yk, .int .i64 yn, .string yt] 28 (0, 0)) := heap_alloc_new _ _
 have x0 := ch kx 0
 have x1 := ch kx 1
 have x2 := ch kx 2
 have x3 := ch kx 3
 have x4 := ch kx 4
 have x5 := ch kx 5
 have x6 := ch kx 6
 have x7 := ch kx 7
 have x8 := ch kx 8
 simp at x0 x1 x2 x3 x4 x5 x6 x7 x8
 go_enter Tryz.func10, Tryz.ntmps10
 go_upto_region 10 with (fail)
 generalize (w.alloc (Obj.cells #[.int .i64 3, .int .i64 f, .slice a n ca, .int .i64 xk, .int .i64 xn, .string xt, .int .i64 yk, .int .i64 yn, .string yt] 28)) = W0 at *
 clear x0 x1 x2 x3 x4 x5 x6 x7 x8
 refine Drw.region_values_all 16 ?Aplays_3 (fun w' => w'.heap[w.heap.size]? = some (.cells #[.int .i64 3, .int .i64 f, .slice a n ca, .int .i64 xk, .int .i64 xn, .string xt, .int .i64 yk, .int .i64 yn, .string yt] 28 (0, 0)) ∧ Below w.heap.size w w') (fun i => match i with | 0 => fun v _ => v = .pointer (some ⟨w.heap.size, 1, none⟩) | 1 => fun v _ => v = .int .i64 f | 2 => fun v _ => v = .pointer (some ⟨w.heap.size, 3, none⟩) | 3 => fun v _ => v = .agg #[.int .i64 xk, .int .i64 xn, .string xt] | 4 => fun v _ => v = .pointer (some ⟨w.heap.size, 6, none⟩) | 5 => fun v _ => v = .agg #[.int .i64 yk, .int .i64 yn, .string yt] | 6 => fun v _ => v = .agg #[.int .i64 rk, .int .i64 rn, .string rt] | 7 => fun v _ => v = .pointer (some ⟨w.heap.size, 1, none⟩) | 8 => fun v _ => v = .int .i64 f | 9 => fun v _ => v = .pointer (some ⟨w.heap.size, 3, none⟩) | 10 => fun v _ => v = .agg #[.int .i64 xk, .int .i64 xn, .string xt] | 11 => fun v _ => v = .pointer (some ⟨w.heap.size, 6, none⟩) | 12 => fun v _ => v = .agg #[.int .i64 yk, .int .i64 yn, .string yt] | 13 => fun v _ => v = .agg #[.int .i64 rk, .int .i64 rn, .string rt] | 14 => fun v _ => v = .bool true | 15 => fun v _ => v = .bool true | _ => fun _ _ => True) (fun i => false) ?hAplays_3 (by kernel_rfl) (by kernel_rfl) rfl ⟨kx, hb.drew⟩ (fun w1 w2 h hS => ⟨(h.block _ (Array.getElem?_eq_some_iff.1 hS.1).1).trans hS.1, hS.2.trans (h.mono hS.2.size)⟩) (Drw.lt_succ (Drw.lt_succ (Drw.lt_succ (Drw.lt_succ (Drw.lt_succ (Drw.lt_succ (Drw.lt_succ (Drw.lt_succ (Drw.lt_succ (Drw.lt_succ (Drw.lt_succ (Drw.lt_succ (Drw.lt_succ (Drw.lt_succ (Drw.lt_succ (Drw.lt_succ Drw.lt_nil Drw.st) Drw.st) Drw.st) Drw.st) Drw.st) Drw.st) Drw.st) Drw.st) Drw.st) Drw.st) Drw.st) Drw.st) Drw.st) Drw.st) Drw.st) Drw.st) ?_ ?_
 case hAplays_3 =>
  intro f
  symm
  simp only [Drw.putAll, Drw.dst, List.range, List.range.loop, List.getElem?_toArray, List.getElem?_cons_zero, List.getElem?_cons_succ, Option.bind_some, Act.put, List.setIfInBounds_toArray, List.set_cons_zero, List.set_cons_succ]
  exact rfl
 refine Drw.Obs.cons ?_ ?_
 ·intro f w _ hV K hK; unfold Drw.Give; go_simp; exact hK.out _ _ rfl (Below.refl _ _) (Drw.no rfl)
 refine Drw.Obs.cons ?_ ?_
 ·intro f w hS hV K hK; obtain ⟨s0, -⟩ := hS; have s0c0 := ch s0 0; have s0c1 := ch s0 1; have s0c2 := ch s0 2; have s0c3 := ch s0 3; have s0c4 := ch s0 4; have s0c5 := ch s0 5; have s0c6 := ch s0 6; have s0c7 := ch s0 7; have s0c8 := ch s0 8; simp at s0c0 s0c1 s0c2 s0c3 s0c4 s0c5 s0c6 s0c7 s0c8; have v0 := Drw.val (hV 0 rfl); clear hV; unfold Drw.Give; go_simp; exact hK.out _ _ rfl (Below.refl _ _) (Drw.no rfl)
 refine Drw.Obs.cons ?_ ?_
 ·intro f w _ hV K hK; unfold Drw.Give; go_simp; exact hK.out _ _ rfl (Below.refl _ _) (Drw.no rfl)
 refine Drw.Obs.cons ?_ ?_
 ·intro f w hS hV K hK; obtain ⟨s0, -⟩ := hS; have s0c0 := ch s0 0; have s0c1 := ch s0 1; have s0c2 := ch s0 2; have s0c3 := ch s0 3; have s0c4 := ch s0 4; have s0c5 := ch s0 5; have s0c6 := ch s0 6; have s0c7 := ch s0 7; have s0c8 := ch s0 8; simp at s0c0 s0c1 s0c2 s0c3 s0c4 s0c5 s0c6 s0c7 s0c8; have v2 := Drw.val (hV 2 rfl); clear hV; unfold Drw.Give; go_simp; exact hK.out _ _ rfl (Below.refl _ _) (Drw.no rfl)
 refine Drw.Obs.cons ?_ ?_
 ·intro f w _ hV K hK; unfold Drw.Give; go_simp; exact hK.out _ _ rfl (Below.refl _ _) (Drw.no rfl)
 refine Drw.Obs.cons ?_ ?_
 ·intro f w hS hV K hK; obtain ⟨s0, -⟩ := hS; have s0c0 := ch s0 0; have s0c1 := ch s0 1; have s0c2 := ch s0 2; have s0c3 := ch s0 3; have s0c4 := ch s0 4; have s0c5 := ch s0 5; have s0c6 := ch s0 6; have s0c7 := ch s0 7; have s0c8 := ch s0 8; simp at s0c0 s0c1 s0c2 s0c3 s0c4 s0c5 s0c6 s0c7 s0c8; have v4 := Drw.val (hV 4 rfl); clear hV; unfold Drw.Give; go_simp; exact hK.out _ _ rfl (Below.refl _ _) (Drw.no rfl)
 refine Drw.Obs.cons ?_ ?_
 ·intro f w hS hV K hK; obtain ⟨-, hsb⟩ := hS; have v1 := Drw.val (hV 1 rfl); have v3 := Drw.val (hV 3 rfl); have v5 := Drw.val (hV 5 rfl); clear hV; unfold Drw.Give; go_simp; unfold Drw.giveUpon; with_reducible refine (HU.out _ hsb).mono ?_; rintro e w2 ⟨rfl, hb2⟩; exact ⟨_, rfl, hK.out _ _ rfl hb2 (Drw.no rfl)⟩
 refine Drw.Obs.cons ?_ ?_
 ·intro f w _ hV K hK; unfold Drw.Give; go_simp; exact hK.out _ _ rfl (Below.refl _ _) (Drw.no rfl)
 refine Drw.Obs.cons ?_ ?_
 ·intro f w hS hV K hK; obtain ⟨s0, -⟩ := hS; have s0c0 := ch s0 0; have s0c1 := ch s0 1; have s0c2 := ch s0 2; have s0c3 := ch s0 3; have s0c4 := ch s0 4; have s0c5 := ch s0 5; have s0c6 := ch s0 6; have s0c7 := ch s0 7; have s0c8 := ch s0 8; simp at s0c0 s0c1 s0c2 s0c3 s0c4 s0c5 s0c6 s0c7 s0c8; have v7 := Drw.val (hV 7 rfl); clear hV; unfold Drw.Give; go_simp; exact hK.out _ _ rfl (Below.refl _ _) (Drw.no rfl)
 refine Drw.Obs.cons ?_ ?_
 ·intro f w _ hV K hK; unfold Drw.Give; go_simp; exact hK.out _ _ rfl (Below.refl _ _) (Drw.no rfl)
 refine Drw.Obs.cons ?_ ?_
 ·intro f w hS hV K hK; obtain ⟨s0, -⟩ := hS; have s0c0 := ch s0 0; have s0c1 := ch s0 1; have s0c2 := ch s0 2; have s0c3 := ch s0 3; have s0c4 := ch s0 4; have s0c5 := ch s0 5; have s0c6 := ch s0 6; have s0c7 := ch s0 7; have s0c8 := ch s0 8; simp at s0c0 s0c1 s0c2 s0c3 s0c4 s0c5 s0c6 s0c7 s0c8; have v9 := Drw.val (hV 9 rfl); clear hV; unfold Drw.Give; go_simp; exact hK.out _ _ rfl (Below.refl _ _) (Drw.no rfl)
 refine Drw.Obs.cons ?_ ?_
 ·intro f w _ hV K hK; unfold Drw.Give; go_simp; exact hK.out _ _ rfl (Below.refl _ _) (Drw.no rfl)
 refine Drw.Obs.cons ?_ ?_
 ·intro f w hS hV K hK; obtain ⟨s0, -⟩ := hS; have s0c0 := ch s0 0; have s0c1 := ch s0 1; have s0c2 := ch s0 2; have s0c3 := ch s0 3; have s0c4 := ch s0 4; have s0c5 := ch s0 5; have s0c6 := ch s0 6; have s0c7 := ch s0 7; have s0c8 := ch s0 8; simp at s0c0 s0c1 s0c2 s0c3 s0c4 s0c5 s0c6 s0c7 s0c8; have v11 := Drw.val (hV 11 rfl); clear hV; unfold Drw.Give; go_simp; exact hK.out _ _ rfl (Below.refl _ _) (Drw.no rfl)
 refine Drw.Obs.cons ?_ ?_
 ·intro f w hS hV K hK; obtain ⟨-, hsb⟩ := hS; have v8 := Drw.val (hV 8 rfl); have v10 := Drw.val (hV 10 rfl); have v12 := Drw.val (hV 12 rfl); clear hV; unfold Drw.Give; go_simp; unfold Drw.giveUpon; with_reducible refine (HV.out _ hsb).mono ?_; rintro e w2 ⟨rfl, hb2⟩; exact ⟨_, rfl, hK.out _ _ rfl hb2 (Drw.no rfl)⟩
 refine Drw.Obs.cons ?_ ?_
 ·intro f w _ hV K hK; have v6 := Drw.val (hV 6 rfl); have v13 := Drw.val (hV 13 rfl); clear hV; unfold Drw.Give; go_simp; exact hK.out _ _ rfl (Below.refl _ _) (Drw.no rfl)
 refine Drw.Obs.cons ?_ ?_
 ·intro f w _ hV K hK; have v14 := Drw.val (hV 14 rfl); clear hV; unfold Drw.Give; go_simp; exact hK.out _ _ rfl (Below.refl _ _) (Drw.no rfl)
 exact Drw.Obs.nil
 intro f' w4 hS hV hD hZ
 clear hD hZ
 have v15 := Drw.val (hV 15 (by decide))
 clear hV hb kx
 obtain ⟨-, hb⟩ := hS
 simp only [v15]
 clear v15
 go_wp2
 go_ret
 exact ⟨rfl, hb⟩
end Go.Proofs.YtpiiemneelkpkaaGreatDoor
