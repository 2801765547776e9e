import Derived.KernelRfl
import Derived.RowKit
import Derived.Test.YtpiiemneelkpkaaGreatDoorGva
namespace Go.Proofs.YtpiiemneelkpkaaGreatDoor
open Go.RowKit
set_option linter.unusedVariables false
def runOps (P : Program) : List Oper → Act → World → Option (Act × World)
 | [], a, w => some (a, w)
 | o :: r, a, w =>
  match o.guard, (execOp a.eval o).run P w with
  | none, .ok (.value v) w' => runOps P r (a.put o.dst v) w'
  | none, .ok .skip w' => runOps P r (a.put o.dst undef) w'
  | _, _ => none
theorem wpList_run {P : Program} {ops : Array Oper} {Q : Exit → Act → World → Prop} {a1 : Act} {w1 : World} (hQ : Q .normal a1 w1) : ∀ (l : List Oper) (a : Act) (w : World), runOps P l a w = some (a1, w1) → wpList P ops Q l a w
 | [], a, w, h => by
  cases h
  exact hQ
 | o :: r, a, w, h => by
  unfold runOps at h
  split at h
  ·rename_i hg hrun
   refine wpList_plain hg fun K hK => ?_
   unfold Oper.wp
   rw [hrun, Oper.upon_value]
   exact hK _ _ (wpList_run hQ r _ _ h)
  ·rename_i hg hrun
   refine wpList_plain hg fun K hK => ?_
   unfold Oper.wp
   rw [hrun, Oper.upon_skip]
   exact hK _ _ (wpList_run hQ r _ _ h)
  ·cases h
theorem wp_region_run {P : Program} {id : Nat} {ops : Array Oper} {Q : Exit → Act → World → Prop} {a : Act} {w w1 : World} (k : Nat) (v : Value)
  (h : (runOps P ops.toList a w).map (fun p => (p.1.defers, p.1.tmps[k]?, p.2)) = some ([], some v, w1))
  (hQ : ∀ a1 : Act, a1.defers = [] → a1.tmps[k]? = some v → Q .normal a1 w1) : (Code.region id ops false).wp P Q a w := by
 refine wp_region_list ?_
 cases hr : runOps P ops.toList a w with
 | none => rw [hr] at h; cases h
 | some p =>
  obtain ⟨a1, w2⟩ := p
  rw [hr] at h
  simp only [Option.map_some, Option.some.injEq, Prod.mk.injEq] at h
  obtain ⟨h1, h2, rfl⟩ := h
  exact wpList_run (hQ a1 h1 h2) _ _ _ hr
def infoL : List (ByteArray × Int × Int × Int) := [(⟨#[65, 66, 83]⟩, 1, 1, 1), (⟨#[83, 73, 71, 78]⟩, 1, 1, 1), (⟨#[77, 79, 68]⟩, 1, 2, 2), (⟨#[81, 85, 79, 84, 73, 69, 78, 84]⟩, 1, 2, 2), (⟨#[80, 79, 87, 69, 82]⟩, 1, 2, 2), (⟨#[71, 67, 68]⟩, 1, 2, 2), (⟨#[76, 67, 77]⟩, 1, 2, 2), (⟨#[70, 65, 67, 84]⟩, 1, 1, 1), (⟨#[73, 83, 69, 86, 69, 78]⟩, 1, 1, 1), (⟨#[73, 83, 79, 68, 68]⟩, 1, 1, 1), (⟨#[66, 73, 84, 65, 78, 68]⟩, 1, 2, 2), (⟨#[66, 73, 84, 79, 82]⟩, 1, 2, 2), (⟨#[66, 73, 84, 88, 79, 82]⟩, 1, 2, 2), (⟨#[78, 79, 84]⟩, 1, 1, 1), (⟨#[67, 76, 65, 77, 80]⟩, 1, 3, 3), (⟨#[76, 69, 78]⟩, 1, 1, 1), (⟨#[76, 69, 70, 84]⟩, 1, 1, 2), (⟨#[82, 73, 71, 72, 84]⟩, 1, 1, 2), (⟨#[77, 73, 68]⟩, 1, 3, 3), (⟨#[85, 80, 80, 69, 82]⟩, 1, 1, 1), (⟨#[76, 79, 87, 69, 82]⟩, 1, 1, 1), (⟨#[84, 82, 73, 77]⟩, 1, 1, 1), (⟨#[82, 69, 86, 69, 82, 83, 69]⟩, 1, 1, 1), (⟨#[70, 73, 78, 68]⟩, 1, 2, 3), (⟨#[83, 85, 66, 83, 84, 73, 84, 85, 84, 69]⟩, 1, 3, 3), (⟨#[82, 69, 80, 76, 65, 67, 69]⟩, 1, 4, 4), (⟨#[82, 69, 80, 84]⟩, 1, 2, 2), (⟨#[69, 88, 65, 67, 84]⟩, 1, 2, 2), (⟨#[67, 79, 68, 69]⟩, 1, 1, 1), (⟨#[67, 72, 65, 82]⟩, 1, 1, 1), (⟨#[86, 65, 76, 85, 69]⟩, 1, 1, 1), (⟨#[84, 69, 88, 84]⟩, 1, 1, 1), (⟨#[78]⟩, 1, 1, 1), (⟨#[84]⟩, 1, 1, 1), (⟨#[78, 65]⟩, 1, 0, 0), (⟨#[73, 83, 66, 76, 65, 78, 75]⟩, 2, 1, 1), (⟨#[73, 83, 78, 85, 77, 66, 69, 82]⟩, 2, 1, 1), (⟨#[73, 83, 84, 69, 88, 84]⟩, 2, 1, 1), (⟨#[73, 83, 76, 79, 71, 73, 67, 65, 76]⟩, 2, 1, 1), (⟨#[73, 83, 69, 82, 82, 79, 82]⟩, 2, 1, 1), (⟨#[73, 83, 78, 65]⟩, 2, 1, 1), (⟨#[73, 70]⟩, 3, 2, 3), (⟨#[73, 70, 69, 82, 82, 79, 82]⟩, 3, 2, 2), (⟨#[73, 70, 78, 65]⟩, 3, 2, 2), (⟨#[67, 72, 79, 79, 83, 69]⟩, 3, 2, -1), (⟨#[83, 87, 73, 84, 67, 72]⟩, 3, 3, -1), (⟨#[82, 79, 87]⟩, 4, 0, 1), (⟨#[67, 79, 76, 85, 77, 78]⟩, 4, 0, 1), (⟨#[82, 79, 87, 83]⟩, 4, 1, 1), (⟨#[67, 79, 76, 85, 77, 78, 83]⟩, 4, 1, 1), (⟨#[73, 78, 68, 73, 82, 69, 67, 84]⟩, 5, 1, 1), (⟨#[79, 70, 70, 83, 69, 84]⟩, 5, 3, 5), (⟨#[73, 78, 68, 69, 88]⟩, 5, 2, 3), (⟨#[83, 85, 77]⟩, 6, 1, -1), (⟨#[80, 82, 79, 68, 85, 67, 84]⟩, 6, 1, -1), (⟨#[67, 79, 85, 78, 84]⟩, 6, 1, -1), (⟨#[67, 79, 85, 78, 84, 65]⟩, 6, 1, -1), (⟨#[67, 79, 85, 78, 84, 66, 76, 65, 78, 75]⟩, 6, 1, -1), (⟨#[77, 73, 78]⟩, 6, 1, -1), (⟨#[77, 65, 88]⟩, 6, 1, -1), (⟨#[65, 86, 69, 82, 65, 71, 69]⟩, 6, 1, -1), (⟨#[77, 69, 68, 73, 65, 78]⟩, 6, 1, -1), (⟨#[76, 65, 82, 71, 69]⟩, 6, 2, 2), (⟨#[83, 77, 65, 76, 76]⟩, 6, 2, 2), (⟨#[65, 78, 68]⟩, 6, 1, -1), (⟨#[79, 82]⟩, 6, 1, -1), (⟨#[88, 79, 82]⟩, 6, 1, -1), (⟨#[67, 79, 78, 67, 65, 84]⟩, 6, 1, -1), (⟨#[74, 79, 73, 78]⟩, 6, 2, -1), (⟨#[77, 65, 84, 67, 72]⟩, 6, 2, 2), (⟨#[86, 76, 79, 79, 75, 85, 80]⟩, 6, 3, 3), (⟨#[72, 76, 79, 79, 75, 85, 80]⟩, 6, 3, 3), (⟨#[83, 85, 77, 73, 70]⟩, 6, 2, 3), (⟨#[67, 79, 85, 78, 84, 73, 70]⟩, 6, 2, 2), (⟨#[83, 85, 77, 80, 82, 79, 68, 85, 67, 84]⟩, 6, 2, 2), (⟨#[70, 73, 82, 83, 84]⟩, 6, 1, -1)]
def infoC (L : List (ByteArray × Int × Int × Int)) : List Value := L.flatMap fun r => [.string r.1, .int .i64 r.2.1, .int .i64 r.2.2.1, .int .i64 r.2.2.2]
theorem lrows_any (w : World) : Calls Tryz.prog 43 #[] w fun e w' => e = .returned (.slice (some ⟨w.heap.size, 0, none⟩) 76 76) ∧ w' = w.alloc (.cells (infoC infoL).toArray 41 (0, 0)) := by
 go_enter Tryz.func43, Tryz.ntmps43
 refine wp_seq ?_
 refine wp_region_list (wpList_run (a1 := { tmps := (Array.replicate 78 undef).setIfInBounds 0 (.slice none 0 0), defers := [] }) (w1 := w) ?_ _ _ _ (by kernel_rfl))
 simp only [Exit.then]
 refine wp_seq ?_
 refine wp_region_run 0 (.slice (some ⟨w.heap.size, 0, none⟩) 76 76) (w1 := w.alloc (.cells (infoC infoL).toArray 41 (0, 0))) (by kernel_rfl) ?_
 intro a1 h1 h2
 simp only [Exit.then]
 refine wp_ret ?_
 exact bodyPost_ret (v := .slice (some ⟨w.heap.size, 0, none⟩) 76 76) (by simp [results, Tryz.results43, h2, go_sem]) h1 ⟨rfl, rfl⟩
theorem infoC_get : ∀ (L : List (ByteArray × Int × Int × Int)) (k : Nat) (r : ByteArray × Int × Int × Int), L[k]? = some r →
  (infoC L)[4 * k]? = some (.string r.1) ∧ (infoC L)[4 * k + 1]? = some (.int .i64 r.2.1) ∧ (infoC L)[4 * k + 2]? = some (.int .i64 r.2.2.1) ∧ (infoC L)[4 * k + 3]? = some (.int .i64 r.2.2.2)
 | [], k, r, h => by simp at h
 | x :: L, 0, r, h => by
  simp only [List.getElem?_cons_zero, Option.some.injEq] at h
  subst h
  exact ⟨rfl, rfl, rfl, rfl⟩
 | x :: L, k + 1, r, h => by
  have ih := infoC_get L k r (by simpa using h)
  have e : ∀ j, (infoC (x :: L))[4 * (k + 1) + j]? = (infoC L)[4 * k + j]? := fun j => by
   show ([Value.string x.1, .int .i64 x.2.1, .int .i64 x.2.2.1, .int .i64 x.2.2.2] ++ infoC L)[4 * (k + 1) + j]? = _
   rw [List.getElem?_append_right (by simp; omega)]
   congr 1
   simp; omega
  exact ⟨(e 0).trans ih.1, (e 1).trans ih.2.1, (e 2).trans ih.2.2.1, (e 3).trans ih.2.2.2⟩
theorem infoL_len : infoL.length = 76 := by decide +kernel
def infoV (f : Int) : (ByteArray × Int × Int × Int) × Int := if 1 ≤ f ∧ f ≤ 76 then (infoL.getD (f - 1).toNat (⟨#[]⟩, 0, 0, 0), 0) else ((⟨#[]⟩, 0, 0, 0), 1)
abbrev rv (r : ByteArray × Int × Int × Int) : Value := .agg #[.string r.1, .int .i64 r.2.1, .int .i64 r.2.2.1, .int .i64 r.2.2.2]
end Go.Proofs.YtpiiemneelkpkaaGreatDoor
namespace Go.Proofs.YtpiiemneelkpkaaGreatDoor
open Go.RowKit
set_option linter.unusedVariables false
theorem info_in (k : Nat) (hk : k < 76) (s : ByteArray) (c a b : Int) (hr : infoL[k]? = some (s, c, a, b)) (w : World) : Ret 17 #[.int .i64 ((k : Int) + 1)] w (.tuple #[.agg #[.string s, .int .i64 c, .int .i64 a, .int .i64 b], .int .i64 0]) := by
 obtain ⟨g0, g1, g2, g3⟩ := infoC_get _ _ _ hr
 have HL := Lib.hid (fun w => lrows_any w)
 have t1 : decide ((k : Int) + 1 < 1) = false := by simp; omega
 have t2 : decide ((76 : Int) < (k : Int) + 1) = false := by simp; omega
 have e1 : IntKind.i64.wrap ((k : Int) + 1 - 1) = (k : Int) := by rw [IntKind.wrap_i64]; omega
 go_enter Tryz.func17, Tryz.ntmps17
 go_wp2_with (fail)
 refine (HL.out _).mono ?_
 rintro e w1 ⟨rfl, hb1⟩
 have hB : w1.heap[w.heap.size + 1]? = some (.cells (infoC infoL).toArray 41 (0, 0)) := by
  rw [hb1]
  have := heap_alloc_new (w.alloc (.cells #[.string ⟨#[]⟩, .int .i64 0, .int .i64 0, .int .i64 0] 41 (0, 0))) (.cells (infoC infoL).toArray 41 (0, 0))
  simpa using this
 have hx : w1.heap[w.heap.size]? = some (.cells #[.string ⟨#[]⟩, .int .i64 0, .int .i64 0, .int .i64 0] 41 (0, 0)) := by
  rw [hb1]
  exact (heap_alloc_old _ _ (by simp)).trans (heap_alloc_new _ _)
 have hs : Below w.heap.size w w1 := by
  rw [hb1]
  exact ((Below.refl _ _).alloc (Nat.le_refl _) _).alloc (by simp) _
 clear hb1
 have c0 : w1.cell? ⟨w.heap.size + 1, k * 4, none⟩ = some (.string s) := by simp [World.cell?, hB, Nat.mul_comm k 4, g0]
 have c1 : w1.cell? ⟨w.heap.size + 1, k * 4 + 1, none⟩ = some (.int .i64 c) := by simp [World.cell?, hB, Nat.mul_comm k 4, g1]
 have c2 : w1.cell? ⟨w.heap.size + 1, k * 4 + 2, none⟩ = some (.int .i64 a) := by simp [World.cell?, hB, Nat.mul_comm k 4, g2]
 have c3 : w1.cell? ⟨w.heap.size + 1, k * 4 + 3, none⟩ = some (.int .i64 b) := by simp [World.cell?, hB, Nat.mul_comm k 4, g3]
 clear hB g0 g1 g2 g3
 have x0 := ch hx 0
 have x1 := ch hx 1
 have x2 := ch hx 2
 have x3 := ch hx 3
 have f0 := Lib.frozen_of_heap hx 0
 have f1 := Lib.frozen_of_heap hx 1
 have f2 := Lib.frozen_of_heap hx 2
 have f3 := Lib.frozen_of_heap hx 3
 clear hx
 simp at x0 x1 x2 x3
 go_wp2
 exact bodyPost_ret (v := .tuple #[.agg #[.string s, .int .i64 c, .int .i64 a, .int .i64 b], .int .i64 0]) (by simp [results, Tryz.results17, go_sem, x0, x1, x2, x3]) rfl ⟨rfl, (set3 hs (by simp)).setCell (p := ⟨w.heap.size, 3, none⟩) (by simp) _⟩
theorem info_lo (f : Int) (h : f < 1) (w : World) : Ret 17 #[.int .i64 f] w (.tuple #[.agg #[.string ⟨#[]⟩, .int .i64 0, .int .i64 0, .int .i64 0], .int .i64 1]) := by
 have t1 : decide (f < 1) = true := by simp; omega
 clear h
 go_enter Tryz.func17, Tryz.ntmps17
 go_wp2
 exact bodyPost_ret (v := .tuple #[.agg #[.string ⟨#[]⟩, .int .i64 0, .int .i64 0, .int .i64 0], .int .i64 1]) (by simp [results, Tryz.results17, go_sem]) rfl ⟨rfl, (Below.refl _ _).alloc (Nat.le_refl _) _⟩
theorem info_hi (f : Int) (h : 76 < f) (w : World) : Ret 17 #[.int .i64 f] w (.tuple #[.agg #[.string ⟨#[]⟩, .int .i64 0, .int .i64 0, .int .i64 0], .int .i64 1]) := by
 have t1 : decide (f < 1) = false := by simp; omega
 have t2 : decide ((76 : Int) < f) = true := by simp; omega
 clear h
 go_enter Tryz.func17, Tryz.ntmps17
 go_wp2
 exact bodyPost_ret (v := .tuple #[.agg #[.string ⟨#[]⟩, .int .i64 0, .int .i64 0, .int .i64 0], .int .i64 1]) (by simp [results, Tryz.results17, go_sem]) rfl ⟨rfl, (Below.refl _ _).alloc (Nat.le_refl _) _⟩
theorem info_any (f : Int) (w : World) : Ret 17 #[.int .i64 f] w (.tuple #[rv (infoV f).1, .int .i64 (infoV f).2]) := by
 unfold infoV rv
 by_cases h1 : f < 1
 ·rw [if_neg (by omega)]; exact info_lo f h1 w
 ·by_cases h2 : 76 < f
  ·rw [if_neg (by omega)]; exact info_hi f h2 w
  ·rw [if_pos (by omega)]
   obtain ⟨k, hk⟩ := Int.eq_ofNat_of_zero_le (show 0 ≤ f - 1 by omega)
   obtain rfl : f = (k : Int) + 1 := by omega
   have hlt : k < infoL.length := by rw [infoL_len]; omega
   have e : ((k : Int) + 1 - 1).toNat = k := by omega
   rw [e, List.getD_eq_getElem?_getD, List.getElem?_eq_getElem hlt]
   exact info_in k (by omega) _ _ _ _ (by rw [List.getElem?_eq_getElem hlt]; rfl) w
theorem cfault_any (c : Int) (w : World) : Ret 28 #[.int .i64 c] w (.agg #[.int .i64 4, .int .i64 c, .string ⟨#[]⟩]) := by
 go_enter Tryz.func28, Tryz.ntmps28
 go_wp2
 exact bodyPost_ret (v := .agg #[.int .i64 4, .int .i64 c, .string ⟨#[]⟩]) (by simp [results, Tryz.results28, go_sem]) rfl ⟨rfl, (Below.refl _ _).alloc (Nat.le_refl _) _⟩
theorem cnumber_any (n : Int) (w : World) : Ret 47 #[.int .i64 n] w (.agg #[.int .i64 1, .int .i64 n, .string ⟨#[]⟩]) := by
 go_enter Tryz.func47, Tryz.ntmps47
 go_wp2
 exact bodyPost_ret (v := .agg #[.int .i64 1, .int .i64 n, .string ⟨#[]⟩]) (by simp [results, Tryz.results47, go_sem]) rfl ⟨rfl, (Below.refl _ _).alloc (Nat.le_refl _) _⟩
theorem ctext_any (s : ByteArray) (w : World) : Ret 70 #[.string s] w (.agg #[.int .i64 3, .int .i64 0, .string s]) := by
 go_enter Tryz.func70, Tryz.ntmps70
 go_wp2
 exact bodyPost_ret (v := .agg #[.int .i64 3, .int .i64 0, .string s]) (by simp [results, Tryz.results70, go_sem]) rfl ⟨rfl, (Below.refl _ _).alloc (Nat.le_refl _) _⟩
theorem ctruth_t (w : World) : Ret 32 #[.bool true] w (.agg #[.int .i64 2, .int .i64 1, .string ⟨#[]⟩]) := by
 go_enter Tryz.func32, Tryz.ntmps32
 go_wp2
 exact bodyPost_ret (v := .agg #[.int .i64 2, .int .i64 1, .string ⟨#[]⟩]) (by simp [results, Tryz.results32, go_sem]) rfl ⟨rfl, (Below.refl _ _).alloc (Nat.le_refl _) _⟩
theorem ctruth_f (w : World) : Ret 32 #[.bool false] w (.agg #[.int .i64 2, .int .i64 0, .string ⟨#[]⟩]) := by
 go_enter Tryz.func32, Tryz.ntmps32
 go_wp2
 exact bodyPost_ret (v := .agg #[.int .i64 2, .int .i64 0, .string ⟨#[]⟩]) (by simp [results, Tryz.results32, go_sem]) rfl ⟨rfl, (Below.refl _ _).alloc (Nat.le_refl _) _⟩
theorem ctold_0 (n : Int) (w : World) : Ret 36 #[.int .i64 n, .int .i64 0] w (.agg #[.int .i64 1, .int .i64 n, .string ⟨#[]⟩]) := by
 have HE := Lib.hid (fun w => cnumber_any n w)
 go_enter Tryz.func36, Tryz.ntmps36
 go_wp2_with (fail)
 refine (HE.out _).mono ?_
 rintro e w1 ⟨rfl, hb1⟩
 have hx := (hb1.block w.heap.size (by simp)).trans (heap_alloc_new _ _)
 have hs : Below w.heap.size w w1 := alloc_below hb1
 clear hb1
 obtain ⟨x0, x1, x2⟩ := val_cells hx
 obtain ⟨f0, f1, f2⟩ := val_frozen hx
 clear hx
 go_wp2
 exact bodyPost_ret (v := .agg #[.int .i64 1, .int .i64 n, .string ⟨#[]⟩]) (by simp [results, Tryz.results36, go_sem, x0, x1, x2]) rfl ⟨rfl, set3 hs (by simp)⟩
theorem ctold_14 (n : Int) (w : World) : Ret 36 #[.int .i64 n, .int .i64 14] w (.agg #[.int .i64 4, .int .i64 5, .string ⟨#[]⟩]) := by
 have HE := Lib.hid (fun w => cfault_any 5 w)
 go_enter Tryz.func36, Tryz.ntmps36
 go_wp2_with (fail)
 refine (HE.out _).mono ?_
 rintro e w1 ⟨rfl, hb1⟩
 have hx := (hb1.block w.heap.size (by simp)).trans (heap_alloc_new _ _)
 have hs : Below w.heap.size w w1 := alloc_below hb1
 clear hb1
 obtain ⟨x0, x1, x2⟩ := val_cells hx
 obtain ⟨f0, f1, f2⟩ := val_frozen hx
 clear hx
 go_wp2
 exact bodyPost_ret (v := .agg #[.int .i64 4, .int .i64 5, .string ⟨#[]⟩]) (by simp [results, Tryz.results36, go_sem, x0, x1, x2]) rfl ⟨rfl, set3 hs (by simp)⟩
theorem ctold_e (n x : Int) (w : World) (h0 : (x == 0) = false) (h1 : (x == 14) = false) : Ret 36 #[.int .i64 n, .int .i64 x] w (.agg #[.int .i64 4, .int .i64 2, .string ⟨#[]⟩]) := by
 have HE := Lib.hid (fun w => cfault_any 2 w)
 go_enter Tryz.func36, Tryz.ntmps36
 go_wp2_with (fail)
 refine (HE.out _).mono ?_
 rintro e w1 ⟨rfl, hb1⟩
 have hx := (hb1.block w.heap.size (by simp)).trans (heap_alloc_new _ _)
 have hs : Below w.heap.size w w1 := alloc_below hb1
 clear hb1
 obtain ⟨x0, x1, x2⟩ := val_cells hx
 obtain ⟨f0, f1, f2⟩ := val_frozen hx
 clear hx
 go_wp2
 exact bodyPost_ret (v := .agg #[.int .i64 4, .int .i64 2, .string ⟨#[]⟩]) (by simp [results, Tryz.results36, go_sem, x0, x1, x2]) rfl ⟨rfl, set3 hs (by simp)⟩
theorem cspelt_e (s : ByteArray) (x : Int) (w : World) (h0 : (x != 0) = true) : Ret 31 #[.string s, .int .i64 x] w (.agg #[.int .i64 4, .int .i64 4, .string ⟨#[]⟩]) := by
 have HE := Lib.hid (fun w => cfault_any 4 w)
 go_enter Tryz.func31, Tryz.ntmps31
 go_wp2_with (fail)
 refine (HE.out _).mono ?_
 rintro e w1 ⟨rfl, hb1⟩
 have hx := (hb1.block w.heap.size (by simp)).trans (heap_alloc_new _ _)
 have hs : Below w.heap.size w w1 := alloc_below hb1
 clear hb1
 obtain ⟨x0, x1, x2⟩ := val_cells hx
 obtain ⟨f0, f1, f2⟩ := val_frozen hx
 clear hx
 go_wp2
 exact bodyPost_ret (v := .agg #[.int .i64 4, .int .i64 4, .string ⟨#[]⟩]) (by simp [results, Tryz.results31, go_sem, x0, x1, x2]) rfl ⟨rfl, set3 hs (by simp)⟩
theorem cspelt_far (s : ByteArray) (w : World) (h0 : decide ((32767 : Int) < (s.size : Int)) = true) : Ret 31 #[.string s, .int .i64 0] w (.agg #[.int .i64 4, .int .i64 4, .string ⟨#[]⟩]) := by
 have HE := Lib.hid (fun w => cfault_any 4 w)
 go_enter Tryz.func31, Tryz.ntmps31
 go_wp2_with (fail)
 refine (HE.out _).mono ?_
 rintro e w1 ⟨rfl, hb1⟩
 have hx := (hb1.block w.heap.size (by simp)).trans (heap_alloc_new _ _)
 have hs : Below w.heap.size w w1 := alloc_below hb1
 clear hb1
 obtain ⟨x0, x1, x2⟩ := val_cells hx
 obtain ⟨f0, f1, f2⟩ := val_frozen hx
 clear hx
 go_wp2
 exact bodyPost_ret (v := .agg #[.int .i64 4, .int .i64 4, .string ⟨#[]⟩]) (by simp [results, Tryz.results31, go_sem, x0, x1, x2]) rfl ⟨rfl, set3 hs (by simp)⟩
theorem cspelt_ok (s : ByteArray) (w : World) (h0 : decide ((32767 : Int) < (s.size : Int)) = false) : Ret 31 #[.string s, .int .i64 0] w (.agg #[.int .i64 3, .int .i64 0, .string s]) := by
 have HE := Lib.hid (fun w => ctext_any s w)
 go_enter Tryz.func31, Tryz.ntmps31
 go_wp2_with (fail)
 refine (HE.out _).mono ?_
 rintro e w1 ⟨rfl, hb1⟩
 have hx := (hb1.block w.heap.size (by simp)).trans (heap_alloc_new _ _)
 have hs : Below w.heap.size w w1 := alloc_below hb1
 clear hb1
 obtain ⟨x0, x1, x2⟩ := val_cells hx
 obtain ⟨f0, f1, f2⟩ := val_frozen hx
 clear hx
 go_wp2
 exact bodyPost_ret (v := .agg #[.int .i64 3, .int .i64 0, .string s]) (by simp [results, Tryz.results31, go_sem, x0, x1, x2]) rfl ⟨rfl, set3 hs (by simp)⟩
theorem cfits_t (n : Int) (w : World) : Ret 38 #[.int .i64 n, .bool true] w (.agg #[.int .i64 1, .int .i64 n, .string ⟨#[]⟩]) := by
 have HE := Lib.hid (fun w => cnumber_any n w)
 go_enter Tryz.func38, Tryz.ntmps38
 go_wp2_with (fail)
 refine (HE.out _).mono ?_
 rintro e w1 ⟨rfl, hb1⟩
 have hx := (hb1.block w.heap.size (by simp)).trans (heap_alloc_new _ _)
 have hs : Below w.heap.size w w1 := alloc_below hb1
 clear hb1
 obtain ⟨x0, x1, x2⟩ := val_cells hx
 obtain ⟨f0, f1, f2⟩ := val_frozen hx
 clear hx
 go_wp2
 exact bodyPost_ret (v := .agg #[.int .i64 1, .int .i64 n, .string ⟨#[]⟩]) (by simp [results, Tryz.results38, go_sem, x0, x1, x2]) rfl ⟨rfl, set3 hs (by simp)⟩
theorem cfits_f (n : Int) (w : World) : Ret 38 #[.int .i64 n, .bool false] w (.agg #[.int .i64 4, .int .i64 2, .string ⟨#[]⟩]) := by
 have HE := Lib.hid (fun w => cfault_any 2 w)
 go_enter Tryz.func38, Tryz.ntmps38
 go_wp2_with (fail)
 refine (HE.out _).mono ?_
 rintro e w1 ⟨rfl, hb1⟩
 have hx := (hb1.block w.heap.size (by simp)).trans (heap_alloc_new _ _)
 have hs : Below w.heap.size w w1 := alloc_below hb1
 clear hb1
 obtain ⟨x0, x1, x2⟩ := val_cells hx
 obtain ⟨f0, f1, f2⟩ := val_frozen hx
 clear hx
 go_wp2
 exact bodyPost_ret (v := .agg #[.int .i64 4, .int .i64 2, .string ⟨#[]⟩]) (by simp [results, Tryz.results38, go_sem, x0, x1, x2]) rfl ⟨rfl, set3 hs (by simp)⟩
namespace Cal
def num (n : Int) : Val.V := ⟨1, n, ⟨#[]⟩⟩
def txt (s : ByteArray) : Val.V := ⟨3, 0, s⟩
def tru (b : Bool) : Val.V := ⟨2, cond b 1 0, ⟨#[]⟩⟩
def bad (e : Int) : Val.V := ⟨4, e, ⟨#[]⟩⟩
def told (n x : Int) : Val.V := cond (x == 0) (num n) (cond (x == 14) (bad 5) (bad 2))
def spelt (s : ByteArray) (x : Int) : Val.V := cond (x == 0 && decide (s.size ≤ 32767)) (txt s) (bad 4)
def fits (n : Int) (b : Bool) : Val.V := cond b (num n) (bad 2)
def related (op k : Int) : Bool := cond (op == 7) (k == 0) <| cond (op == 8) (k != 0) <| cond (op == 9) (decide (k < 0)) <| cond (op == 10) (decide (k ≤ 0)) <| cond (op == 11) (decide (0 < k)) (decide (0 ≤ k))
end Cal
theorem ctruth_any (b : Bool) (w : World) : Ret 32 #[.bool b] w (vv (Cal.tru b)) := by
 cases b
 ·exact ctruth_f w
 ·exact ctruth_t w
theorem ctold_any (n x : Int) (w : World) : Ret 36 #[.int .i64 n, .int .i64 x] w (vv (Cal.told n x)) := by
  unfold Cal.told
  cases h0 : (x == 0) with
  | true => obtain rfl : x = 0 := by simpa using h0
            exact ctold_0 n w
  | false => cases h1 : (x == 14) with
    | true => obtain rfl : x = 14 := by simpa using h1
              exact ctold_14 n w
    | false => exact ctold_e n x w h0 h1
theorem cspelt_any (s : ByteArray) (x : Int) (w : World) : Ret 31 #[.string s, .int .i64 x] w (vv (Cal.spelt s x)) := by
  unfold Cal.spelt
  cases h0 : (x == 0) with
  | true => obtain rfl : x = 0 := by simpa using h0
            by_cases h : s.size ≤ 32767
            · rw [decide_eq_true h]; exact cspelt_ok s w (by simp; omega)
            · rw [decide_eq_false h]; exact cspelt_far s w (by simp; omega)
  | false => exact cspelt_e s x w (by simpa using h0)
theorem cfits_any (n : Int) (b : Bool) (w : World) : Ret 38 #[.int .i64 n, .bool b] w (vv (Cal.fits n b)) := by
 cases b
 ·exact cfits_f n w
 ·exact cfits_t n w
theorem crel_7 (k : Int) (w : World) : Calls Tryz.prog 33 #[.int .i64 7, .int .i64 k] w fun e w' => e = .returned (.bool (k == 0)) ∧ w = w' := by
 generalize hb : (k == 0) = b
 go_enter Tryz.func33, Tryz.ntmps33
 go_wp2
 go_ret
 exact ⟨rfl, rfl⟩
theorem crel_8 (k : Int) (w : World) : Calls Tryz.prog 33 #[.int .i64 8, .int .i64 k] w fun e w' => e = .returned (.bool (k != 0)) ∧ w = w' := by
 generalize hb : (k != 0) = b
 go_enter Tryz.func33, Tryz.ntmps33
 go_wp2
 go_ret
 exact ⟨rfl, rfl⟩
theorem crel_9 (k : Int) (w : World) : Calls Tryz.prog 33 #[.int .i64 9, .int .i64 k] w fun e w' => e = .returned (.bool (decide (k < 0))) ∧ w = w' := by
 generalize hb : (decide (k < 0)) = b
 go_enter Tryz.func33, Tryz.ntmps33
 go_wp2
 go_ret
 exact ⟨rfl, rfl⟩
theorem crel_10 (k : Int) (w : World) : Calls Tryz.prog 33 #[.int .i64 10, .int .i64 k] w fun e w' => e = .returned (.bool (decide (k ≤ 0))) ∧ w = w' := by
 generalize hb : (decide (k ≤ 0)) = b
 go_enter Tryz.func33, Tryz.ntmps33
 go_wp2
 go_ret
 exact ⟨rfl, rfl⟩
theorem crel_11 (k : Int) (w : World) : Calls Tryz.prog 33 #[.int .i64 11, .int .i64 k] w fun e w' => e = .returned (.bool (decide (0 < k))) ∧ w = w' := by
 generalize hb : (decide (0 < k)) = b
 go_enter Tryz.func33, Tryz.ntmps33
 go_wp2
 go_ret
 exact ⟨rfl, rfl⟩
theorem crel_12 (k : Int) (w : World) : Calls Tryz.prog 33 #[.int .i64 12, .int .i64 k] w fun e w' => e = .returned (.bool (decide (0 ≤ k))) ∧ w = w' := by
 generalize hb : (decide (0 ≤ k)) = b
 go_enter Tryz.func33, Tryz.ntmps33
 go_wp2
 go_ret
 exact ⟨rfl, rfl⟩
theorem crelated_any (op k : Int) (h1 : 7 ≤ op) (h2 : op ≤ 12) (w : World) : Calls Tryz.prog 33 #[.int .i64 op, .int .i64 k] w fun e w' => e = .returned (.bool (Cal.related op k)) ∧ w = w' := by
 obtain rfl | rfl | rfl | rfl | rfl | rfl : op = 7 ∨ op = 8 ∨ op = 9 ∨ op = 10 ∨ op = 11 ∨ op = 12 := by omega
 ·exact crel_7 k w
 ·exact crel_8 k w
 ·exact crel_9 k w
 ·exact crel_10 k w
 ·exact crel_11 k w
 ·exact crel_12 k w
end Go.Proofs.YtpiiemneelkpkaaGreatDoor
namespace Go.Proofs.YtpiiemneelkpkaaGreatDoor
open Go.RowKit
set_option linter.unusedVariables false
def I64 (x : Int) : Prop := -9223372036854775808 ≤ x ∧ x ≤ 9223372036854775807
def Bin2 (f : FuncId) (x y : Int) (u v : Value) : Prop := ∀ w, Ret f #[.int .i64 x, .int .i64 y] w (.tuple #[u, v])
theorem bin2_same {f : FuncId} {x y : Int} {u v : Value} (h : ∀ w, Calls Tryz.prog f #[.int .i64 x, .int .i64 y] w fun e w' => e = .returned (.tuple #[u, v]) ∧ w = w') : Bin2 f x y u v :=
 fun w => (h w).mono fun _ _ ⟨he, hw⟩ => ⟨he, hw ▸ Below.refl _ _⟩
theorem bin2_drew {f : FuncId} {x y : Int} {u v : Value} (h : ∀ w, Calls Tryz.prog f #[.int .i64 x, .int .i64 y] w fun e w' => e = .returned (.tuple #[u, v]) ∧ ∃ n, w' = w.drewN n) : Bin2 f x y u v :=
 fun w => (h w).mono fun _ _ ⟨he, n, hw⟩ => ⟨he, by rw [hw]; exact ⟨rfl, rfl, rfl, Nat.le_refl _, fun _ _ => rfl⟩⟩
theorem over_of2 {v : Int} (h : ¬ PowG.Fits v) : v < -9223372036854775808 ∨ 9223372036854775807 < v := by unfold PowG.Fits at h; omega
namespace Cal
def errV (x : Int) : Int × Int := (Ref.fitV x, cond (Ref.fitB x) 0 13)
def quoV (x y : Int) : Int × Int := if y = 0 then (0, 14) else errV (x.tdiv y)
def modV (x y : Int) : Int × Int := if y = 0 then (0, 14) else (Div.modV x y, 0)
def gcdV (x y : Int) : Int × Int := errV (Nat.gcd x.natAbs y.natAbs : Nat)
def lcmV (x y : Int) : Int × Int := if x = 0 ∨ y = 0 then (0, 0) else errV (x.natAbs / Nat.gcd x.natAbs y.natAbs * y.natAbs : Nat)
def powV (x y : Int) : Int × Int := if y < 0 then (0, 13) else errV (x ^ y.toNat)
theorem errV_of {v : Int} (h : PowG.Fits v) : errV v = (v, 0) := by unfold errV; rw [(fit_of h).1, (fit_of h).2]; rfl
theorem errV_not {v : Int} (h : ¬ PowG.Fits v) : errV v = (0, 13) := by unfold errV; rw [(fit_not h).1, (fit_not h).2]; rfl
theorem fitV_in (v : Int) : I64 (Ref.fitV v) := by
 by_cases h : PowG.Fits v
 ·rw [(fit_of h).1]; exact h
 ·rw [(fit_not h).1]; exact ⟨by decide, by decide⟩
end Cal
section
variable (x y : Int) (hx : I64 x) (hy : I64 y)
include hx hy
theorem cadd : Bin2 41 x y (.int .i64 (Ref.fitV (x + y))) (.bool (Ref.fitB (x + y))) := by
 by_cases h : PowG.Fits (x + y)
 ·rw [(fit_of h).1, (fit_of h).2]; exact bin2_same fun w => add64_yes x y w h.1 h.2
 ·rw [(fit_not h).1, (fit_not h).2]; exact bin2_same fun w => add64_no x y w hx.1 hx.2 hy.1 hy.2 (over_of2 h)
theorem csub : Bin2 42 x y (.int .i64 (Ref.fitV (x - y))) (.bool (Ref.fitB (x - y))) := by
 by_cases h : PowG.Fits (x - y)
 ·rw [(fit_of h).1, (fit_of h).2]; exact bin2_same fun w => sub64_yes x y w h.1 h.2
 ·rw [(fit_not h).1, (fit_not h).2]; exact bin2_same fun w => sub64_no x y w hx.1 hx.2 hy.1 hy.2 (over_of2 h)
theorem cmul : Bin2 39 x y (.int .i64 (Ref.fitV (x * y))) (.bool (Ref.fitB (x * y))) := by
 by_cases h : PowG.Fits (x * y)
 ·rw [(fit_of h).1, (fit_of h).2]; exact bin2_same fun w => mul64_yes x y _ w hy.1 hy.2 rfl h.1 h.2
 ·rw [(fit_not h).1, (fit_not h).2]; exact bin2_same fun w => mul64_no x y w hx.1 hx.2 hy.1 hy.2 (over_of2 h)
theorem cquo : Bin2 40 x y (.int .i64 (Cal.quoV x y).1) (.int .i64 (Cal.quoV x y).2) := by
 unfold Cal.quoV
 by_cases h0 : y = 0
 ·subst h0; exact bin2_same fun w => quo_zero x w
 ·rw [if_neg h0]
  by_cases hm : x = -9223372036854775808 ∧ y = -1
  ·obtain ⟨rfl, rfl⟩ := hm
   rw [Cal.errV_not (by decide)]
   exact bin2_same fun w => quo_over w
  ·have hm' : x = -9223372036854775808 → y ≠ -1 := fun e e2 => hm ⟨e, e2⟩
   rw [Cal.errV_of (Div.fits64 x y h0 hx.1 hx.2 hm')]
   exact bin2_same fun w => quo_ok x y _ w h0 hm' hx.1 hx.2 rfl
theorem cmod : Bin2 107 x y (.int .i64 (Cal.modV x y).1) (.int .i64 (Cal.modV x y).2) := by
 have := hx
 unfold Cal.modV
 by_cases h0 : y = 0
 ·subst h0; exact bin2_same fun w => mod_zero x w
 ·rw [if_neg h0]
  exact bin2_same fun w => mod_ok x y _ w h0 hy.1 hy.2 rfl
theorem cgcd : Bin2 108 x y (.int .i64 (Cal.gcdV x y).1) (.int .i64 (Cal.gcdV x y).2) := by
 unfold Cal.gcdV
 by_cases h : Nat.gcd x.natAbs y.natAbs ≤ 9223372036854775807
 ·rw [Cal.errV_of (by unfold PowG.Fits; omega)]
  exact bin2_drew fun w => Gcd_ok x y _ w hx.1 hx.2 hy.1 hy.2 rfl h
 ·rw [Cal.errV_not (by unfold PowG.Fits; omega)]
  exact bin2_drew fun w => Gcd_over x y _ w hx.1 hx.2 hy.1 hy.2 rfl (by omega)
theorem clcm : Bin2 109 x y (.int .i64 (Cal.lcmV x y).1) (.int .i64 (Cal.lcmV x y).2) := by
 unfold Cal.lcmV
 by_cases h1 : x = 0
 ·subst h1; exact bin2_same fun w => Lcm_zero1 y w
 ·by_cases h2 : y = 0
  ·subst h2; rw [if_pos (.inr rfl)]; exact bin2_same fun w => Lcm_zero2 x w
  ·rw [if_neg (by omega)]
   by_cases h : x.natAbs / Nat.gcd x.natAbs y.natAbs * y.natAbs ≤ 9223372036854775807
   ·rw [Cal.errV_of (by unfold PowG.Fits; omega)]
    exact bin2_drew fun w => Lcm_ok x y _ _ _ _ _ w h1 h2 hx.1 hx.2 hy.1 hy.2 rfl rfl rfl rfl rfl h
   ·rw [Cal.errV_not (by unfold PowG.Fits; omega)]
    exact bin2_drew fun w => Lcm_over x y _ _ _ _ _ w h1 h2 hx.1 hx.2 hy.1 hy.2 rfl rfl rfl rfl rfl (by omega)
theorem cpow : Bin2 37 x y (.int .i64 (Cal.powV x y).1) (.int .i64 (Cal.powV x y).2) := by
 unfold Cal.powV
 by_cases h0 : y < 0
 ·rw [if_pos h0]; exact bin2_same fun w => pow_neg x y w h0
 ·rw [if_neg h0]
  obtain ⟨k, rfl⟩ := Int.eq_ofNat_of_zero_le (show 0 ≤ y by omega)
  have e : (k : Int).toNat = k := by omega
  rw [e]
  unfold I64 at hy
  by_cases h : PowG.Fits (x ^ k)
  ·rw [Cal.errV_of h]
   exact bin2_same fun w => pow_any x _ _ k w hx.1 hx.2 (by omega) (powN_fit h).1 (powN_fit h).2
  ·rw [Cal.errV_not h]
   exact bin2_same fun w => pow_any x _ _ k w hx.1 hx.2 (by omega) (powN_not h).1 (powN_not h).2
end
end Go.Proofs.YtpiiemneelkpkaaGreatDoor
