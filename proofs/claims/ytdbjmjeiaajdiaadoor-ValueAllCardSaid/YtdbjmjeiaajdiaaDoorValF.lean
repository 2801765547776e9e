/- Show: package value and its reference. -/
import Derived.Test.YtdbjmjeiaajdiaaDoorValE
import Derived.Deep.DeepCutAuto
namespace Go.Proofs.YtdbjmjeiaajdiaaDoor
open Go.RowKit
set_option linter.unusedVariables false
def Val.isC (v : Val.V) : Bool := v.k == 4 && v.n == 7 && v.t.toList.isEmpty
def Val.show (v : Val.V) : ByteArray := cond (Val.isC v) (Val.nameT 7) (cond ((Val.good v).k == 4) (Val.nameT (Val.good v).n) (Val.textG (Val.good v)).1)
theorem Val.good_good (v : Val.V) : Val.good (Val.good v) = Val.good v := by
  have h := Val.good_may v
  rw [show Val.good (Val.good v) = cond (Val.mayB (Val.good v)) (Val.good v) (Val.err 4) from rfl, h]
  rfl

theorem show_c (t : ByteArray) (w : World) (e1 : t.toList = []) (e2 : t.toList.isEmpty = true) (HN0 : ∀ w, Calls Tryd.prog 27 #[.int .i64 7] w fun e w' => e = .returned (.string ⟨#[35, 67, 89, 67, 76, 69, 33]⟩) ∧ w = w') : Calls Tryd.prog 8 #[.agg #[.int .i64 4, .int .i64 7, .string t]] w fun e w' => e = .returned (.string ⟨#[35, 67, 89, 67, 76, 69, 33]⟩) ∧ Below w.heap.size w w' := by
  have HN := Lib.hid HN0
  clear HN0
  have HE := Lib.hid (fun w => fault_any 7 w)
  go_enter Tryd.func8, Tryd.ntmps8
  go_upto_region 1 with (fail)
  have hx : (w.alloc (Obj.cells #[.int .i64 4, .int .i64 7, .string t] 26)).heap[w.heap.size]? = some (.cells #[.int .i64 4, .int .i64 7, .string t] 26 (0, 0)) := heap_alloc_new _ _
  have hb : Below w.heap.size w (w.alloc (Obj.cells #[.int .i64 4, .int .i64 7, .string t] 26)) := (Below.refl _ _).alloc (Nat.le_refl w.heap.size) _
  have hl : w.heap.size < (w.alloc (Obj.cells #[.int .i64 4, .int .i64 7, .string t] 26)).heap.size := by simp
  generalize (w.alloc (Obj.cells #[.int .i64 4, .int .i64 7, .string t] 26)) = W0 at *
  obtain ⟨x0, x1, x2⟩ := val_cells hx
  go_region_held3 (fun w' => w'.cell? ⟨w.heap.size, 0, none⟩ = some (.int .i64 4) ∧ w'.cell? ⟨w.heap.size, 1, none⟩ = some (.int .i64 7) ∧ w'.cell? ⟨w.heap.size, 2, none⟩ = some (.string t))
    (first | go_keep | exact ⟨x0, x1, x2⟩)
    ((go_at_call 26; refine (HE.out _).mono ?_; rintro e v ⟨rfl, hbn⟩; clear x0 x1 x2; replace hx := (hbn.block w.heap.size hl).trans hx; replace hb : Below w.heap.size w v := (by first | exact hb.trans (hbn.mono hb.size) | exact hb.drew.trans (hbn.mono hb.size)); replace hl := Nat.lt_of_lt_of_le hl hbn.size; clear hbn; obtain ⟨x0, x1, x2⟩ := val_cells hx))
  clear hx x0 x1 x2 hl
  go_wp2_with (fail)
  refine (HN.out _).mono ?_
  rintro e w2 ⟨rfl, rfl⟩
  go_wp2
  go_ret
  exact ⟨rfl, hb⟩

theorem rshow_c (t : ByteArray) (w : World) (e1 : t.toList = []) (e2 : t.toList.isEmpty = true) : Calls Tryd.prog 24 #[.agg #[.int .i64 4, .int .i64 7, .string t]] w fun e w' => e = .returned (.string ⟨#[35, 67, 89, 67, 76, 69, 33]⟩) ∧ Below w.heap.size w w' := by
  have HE := Lib.hid (fun w => rerr_any 7 w)
  have HR := Lib.hid (fun w => errors_any w)
  go_enter Tryd.func24, Tryd.ntmps24
  go_upto_region 1 with (fail)
  have hx : (w.alloc (Obj.cells #[.int .i64 4, .int .i64 7, .string t] 26)).heap[w.heap.size]? = some (.cells #[.int .i64 4, .int .i64 7, .string t] 26 (0, 0)) := heap_alloc_new _ _
  have hb : Below w.heap.size w (w.alloc (Obj.cells #[.int .i64 4, .int .i64 7, .string t] 26)) := (Below.refl _ _).alloc (Nat.le_refl w.heap.size) _
  have hl : w.heap.size < (w.alloc (Obj.cells #[.int .i64 4, .int .i64 7, .string t] 26)).heap.size := by simp
  generalize (w.alloc (Obj.cells #[.int .i64 4, .int .i64 7, .string t] 26)) = W0 at *
  obtain ⟨x0, x1, x2⟩ := val_cells hx
  go_region_held3 (fun w' => w'.cell? ⟨w.heap.size, 0, none⟩ = some (.int .i64 4) ∧ w'.cell? ⟨w.heap.size, 1, none⟩ = some (.int .i64 7) ∧ w'.cell? ⟨w.heap.size, 2, none⟩ = some (.string t))
    (first | go_keep | exact ⟨x0, x1, x2⟩)
    ((go_at_call 57; refine (HE.out _).mono ?_; rintro e v ⟨rfl, hbn⟩; clear x0 x1 x2; replace hx := (hbn.block w.heap.size hl).trans hx; replace hb : Below w.heap.size w v := (by first | exact hb.trans (hbn.mono hb.size) | exact hb.drew.trans (hbn.mono hb.size)); replace hl := Nat.lt_of_lt_of_le hl hbn.size; clear hbn; obtain ⟨x0, x1, x2⟩ := val_cells hx))
  clear hx hl
  go_wp2_with (fail)
  refine (HR.out _).mono ?_
  rintro e w5 ⟨rfl, hb5, hc5⟩
  have c5 := Lib.cell_of_heap hc5 7
  have hs5 := hb.trans (hb5.mono hb.size)
  clear hb5 hc5
  simp only [List.getElem?_toArray, List.getElem?_cons_zero, List.getElem?_cons_succ] at c5
  go_wp2
  go_ret
  exact ⟨rfl, hs5⟩

theorem show_ke (k n : Int) (t : ByteArray) (w : World) (hk : ¬ k = 4) (gn : Int) (gt r : ByteArray) (HG0 : ∀ w, Calls Tryd.prog 28 #[.agg #[.int .i64 k, .int .i64 n, .string t]] w fun e w' => e = .returned (.agg #[.int .i64 4, .int .i64 gn, .string gt]) ∧ Below w.heap.size w w') (HN0 : ∀ w, Calls Tryd.prog 27 #[.int .i64 gn] w fun e w' => e = .returned (.string r) ∧ w = w') : Calls Tryd.prog 8 #[.agg #[.int .i64 k, .int .i64 n, .string t]] w fun e w' => e = .returned (.string r) ∧ Below w.heap.size w w' := by
  have HN := Lib.hid HN0
  clear HN0
  have HE := Lib.hid (fun w => fault_any 7 w)
  have HG := Lib.hid HG0
  clear HG0
  go_enter Tryd.func8, Tryd.ntmps8
  go_upto_region 1 with (fail)
  have hx : (w.alloc (Obj.cells #[.int .i64 k, .int .i64 n, .string t] 26)).heap[w.heap.size]? = some (.cells #[.int .i64 k, .int .i64 n, .string t] 26 (0, 0)) := heap_alloc_new _ _
  have hb : Below w.heap.size w (w.alloc (Obj.cells #[.int .i64 k, .int .i64 n, .string t] 26)) := (Below.refl _ _).alloc (Nat.le_refl w.heap.size) _
  have hl : w.heap.size < (w.alloc (Obj.cells #[.int .i64 k, .int .i64 n, .string t] 26)).heap.size := by simp
  generalize (w.alloc (Obj.cells #[.int .i64 k, .int .i64 n, .string t] 26)) = W0 at *
  obtain ⟨x0, x1, x2⟩ := val_cells hx
  go_region_held3 (fun w' => w'.cell? ⟨w.heap.size, 0, none⟩ = some (.int .i64 k) ∧ w'.cell? ⟨w.heap.size, 1, none⟩ = some (.int .i64 n) ∧ w'.cell? ⟨w.heap.size, 2, none⟩ = some (.string t))
    (first | go_keep | exact ⟨x0, x1, x2⟩)
    ((go_at_call 26; refine (HE.out _).mono ?_; rintro e v ⟨rfl, hbn⟩; clear x0 x1 x2; replace hx := (hbn.block w.heap.size hl).trans hx; replace hb : Below w.heap.size w v := (by first | exact hb.trans (hbn.mono hb.size) | exact hb.drew.trans (hbn.mono hb.size)); replace hl := Nat.lt_of_lt_of_le hl hbn.size; clear hbn; obtain ⟨x0, x1, x2⟩ := val_cells hx))
  go_wp2_with (fail)
  refine (HG.out _).mono ?_
  rintro e w1 ⟨rfl, hb1⟩
  clear x0 x1 x2
  replace hx := (hb1.block w.heap.size hl).trans hx
  have hs : Below w.heap.size w w1 := hb.trans (hb1.mono hb.size)
  clear hb1 hb hl
  obtain ⟨f0, f1, f2⟩ := val_frozen hx
  obtain ⟨x0, x1, x2⟩ := val_cells hx
  have hs2 : ∀ k' n' t', Below w.heap.size w (((w1.setCell ⟨w.heap.size, 0, none⟩ (.int .i64 k')).setCell ⟨w.heap.size, 1, none⟩ (.int .i64 n')).setCell ⟨w.heap.size, 2, none⟩ (.string t')) := fun k' n' t' => ((hs.setCell (p := ⟨w.heap.size, 0, none⟩) (by simp) _).setCell (p := ⟨w.heap.size, 1, none⟩) (by simp) _).setCell (p := ⟨w.heap.size, 2, none⟩) (by simp) _
  clear hx hs
  go_wp2_with (fail)
  refine (HN.out _).mono ?_
  rintro e w2 ⟨rfl, rfl⟩
  go_wp2
  go_ret
  exact ⟨rfl, hs2 _ _ _⟩

theorem show_ko (k n : Int) (t : ByteArray) (w : World) (hk : ¬ k = 4) (gk gn y : Int) (gt r : ByteArray) (h4 : (gk == 4) = false) (HG0 : ∀ w, Calls Tryd.prog 28 #[.agg #[.int .i64 k, .int .i64 n, .string t]] w fun e w' => e = .returned (.agg #[.int .i64 gk, .int .i64 gn, .string gt]) ∧ Below w.heap.size w w') (HN0 : ∀ w', Below w.heap.size w w' → Calls Tryd.prog 10 #[.agg #[.int .i64 gk, .int .i64 gn, .string gt]] w' fun e w'' => e = .returned (.tuple #[.string r, .int .i64 y]) ∧ Below w'.heap.size w' w'') : Calls Tryd.prog 8 #[.agg #[.int .i64 k, .int .i64 n, .string t]] w fun e w' => e = .returned (.string r) ∧ Below w.heap.size w w' := by
  have HN := Lib.hid HN0
  clear HN0
  have HE := Lib.hid (fun w => fault_any 7 w)
  have HG := Lib.hid HG0
  clear HG0
  go_enter Tryd.func8, Tryd.ntmps8
  go_upto_region 1 with (fail)
  have hx : (w.alloc (Obj.cells #[.int .i64 k, .int .i64 n, .string t] 26)).heap[w.heap.size]? = some (.cells #[.int .i64 k, .int .i64 n, .string t] 26 (0, 0)) := heap_alloc_new _ _
  have hb : Below w.heap.size w (w.alloc (Obj.cells #[.int .i64 k, .int .i64 n, .string t] 26)) := (Below.refl _ _).alloc (Nat.le_refl w.heap.size) _
  have hl : w.heap.size < (w.alloc (Obj.cells #[.int .i64 k, .int .i64 n, .string t] 26)).heap.size := by simp
  generalize (w.alloc (Obj.cells #[.int .i64 k, .int .i64 n, .string t] 26)) = W0 at *
  obtain ⟨x0, x1, x2⟩ := val_cells hx
  go_region_held3 (fun w' => w'.cell? ⟨w.heap.size, 0, none⟩ = some (.int .i64 k) ∧ w'.cell? ⟨w.heap.size, 1, none⟩ = some (.int .i64 n) ∧ w'.cell? ⟨w.heap.size, 2, none⟩ = some (.string t))
    (first | go_keep | exact ⟨x0, x1, x2⟩)
    ((go_at_call 26; refine (HE.out _).mono ?_; rintro e v ⟨rfl, hbn⟩; clear x0 x1 x2; replace hx := (hbn.block w.heap.size hl).trans hx; replace hb : Below w.heap.size w v := (by first | exact hb.trans (hbn.mono hb.size) | exact hb.drew.trans (hbn.mono hb.size)); replace hl := Nat.lt_of_lt_of_le hl hbn.size; clear hbn; obtain ⟨x0, x1, x2⟩ := val_cells hx))
  go_wp2_with (fail)
  refine (HG.out _).mono ?_
  rintro e w1 ⟨rfl, hb1⟩
  clear x0 x1 x2
  replace hx := (hb1.block w.heap.size hl).trans hx
  have hs : Below w.heap.size w w1 := hb.trans (hb1.mono hb.size)
  clear hb1 hb hl
  obtain ⟨f0, f1, f2⟩ := val_frozen hx
  obtain ⟨x0, x1, x2⟩ := val_cells hx
  have hs2 : ∀ k' n' t', Below w.heap.size w (((w1.setCell ⟨w.heap.size, 0, none⟩ (.int .i64 k')).setCell ⟨w.heap.size, 1, none⟩ (.int .i64 n')).setCell ⟨w.heap.size, 2, none⟩ (.string t')) := fun k' n' t' => ((hs.setCell (p := ⟨w.heap.size, 0, none⟩) (by simp) _).setCell (p := ⟨w.heap.size, 1, none⟩) (by simp) _).setCell (p := ⟨w.heap.size, 2, none⟩) (by simp) _
  clear hx hs
  go_wp2_with (fail)
  refine (HN.out _ (hs2 _ _ _)).mono ?_
  rintro e w2 ⟨rfl, hb2⟩
  have hs3 := (hs2 _ _ _).trans (hb2.mono (hs2 _ _ _).size)
  clear hb2 hs2
  go_wp2
  go_ret
  exact ⟨rfl, hs3⟩

theorem rshow_k1 (k n : Int) (t : ByteArray) (w : World) (hk : ¬ k = 4) (r : ByteArray) (HN0 : ∀ w', Below w.heap.size w w' → Calls Tryd.prog 21 #[.agg #[.int .i64 k, .int .i64 n, .string t]] w' fun e w'' => e = .returned (.tuple #[.string r, .int .i64 1]) ∧ Below w'.heap.size w' w'') : Calls Tryd.prog 24 #[.agg #[.int .i64 k, .int .i64 n, .string t]] w fun e w' => e = .returned (.string ⟨#[35, 78, 65, 77, 69, 63]⟩) ∧ Below w.heap.size w w' := by
  have HE := Lib.hid (fun w => rerr_any 7 w)
  have HR := Lib.hid (fun w => errors_any w)
  have HN := Lib.hid HN0
  clear HN0
  go_enter Tryd.func24, Tryd.ntmps24
  go_upto_region 1 with (fail)
  have hx : (w.alloc (Obj.cells #[.int .i64 k, .int .i64 n, .string t] 26)).heap[w.heap.size]? = some (.cells #[.int .i64 k, .int .i64 n, .string t] 26 (0, 0)) := heap_alloc_new _ _
  have hb : Below w.heap.size w (w.alloc (Obj.cells #[.int .i64 k, .int .i64 n, .string t] 26)) := (Below.refl _ _).alloc (Nat.le_refl w.heap.size) _
  have hl : w.heap.size < (w.alloc (Obj.cells #[.int .i64 k, .int .i64 n, .string t] 26)).heap.size := by simp
  generalize (w.alloc (Obj.cells #[.int .i64 k, .int .i64 n, .string t] 26)) = W0 at *
  obtain ⟨x0, x1, x2⟩ := val_cells hx
  go_region_held3 (fun w' => w'.cell? ⟨w.heap.size, 0, none⟩ = some (.int .i64 k) ∧ w'.cell? ⟨w.heap.size, 1, none⟩ = some (.int .i64 n) ∧ w'.cell? ⟨w.heap.size, 2, none⟩ = some (.string t))
    (first | go_keep | exact ⟨x0, x1, x2⟩)
    ((go_at_call 57; refine (HE.out _).mono ?_; rintro e v ⟨rfl, hbn⟩; clear x0 x1 x2; replace hx := (hbn.block w.heap.size hl).trans hx; replace hb : Below w.heap.size w v := (by first | exact hb.trans (hbn.mono hb.size) | exact hb.drew.trans (hbn.mono hb.size)); replace hl := Nat.lt_of_lt_of_le hl hbn.size; clear hbn; obtain ⟨x0, x1, x2⟩ := val_cells hx))
  clear hx hl
  go_wp2_with (fail)
  refine (HN.out _ hb).mono ?_
  rintro e w2 ⟨rfl, hb2⟩
  replace hb := hb.trans (hb2.mono hb.size)
  clear hb2
  go_wp2_with (fail)
  refine (HR.out _).mono ?_
  rintro e w5 ⟨rfl, hb5, hc5⟩
  have c5 := Lib.cell_of_heap hc5 1
  have hs5 := hb.trans (hb5.mono hb.size)
  clear hb5 hc5
  simp only [List.getElem?_toArray, List.getElem?_cons_zero, List.getElem?_cons_succ] at c5
  go_wp2
  go_ret
  exact ⟨rfl, hs5⟩

theorem rshow_k2 (k n : Int) (t : ByteArray) (w : World) (hk : ¬ k = 4) (r : ByteArray) (HN0 : ∀ w', Below w.heap.size w w' → Calls Tryd.prog 21 #[.agg #[.int .i64 k, .int .i64 n, .string t]] w' fun e w'' => e = .returned (.tuple #[.string r, .int .i64 2]) ∧ Below w'.heap.size w' w'') : Calls Tryd.prog 24 #[.agg #[.int .i64 k, .int .i64 n, .string t]] w fun e w' => e = .returned (.string ⟨#[35, 78, 85, 77, 33]⟩) ∧ Below w.heap.size w w' := by
  have HE := Lib.hid (fun w => rerr_any 7 w)
  have HR := Lib.hid (fun w => errors_any w)
  have HN := Lib.hid HN0
  clear HN0
  go_enter Tryd.func24, Tryd.ntmps24
  go_upto_region 1 with (fail)
  have hx : (w.alloc (Obj.cells #[.int .i64 k, .int .i64 n, .string t] 26)).heap[w.heap.size]? = some (.cells #[.int .i64 k, .int .i64 n, .string t] 26 (0, 0)) := heap_alloc_new _ _
  have hb : Below w.heap.size w (w.alloc (Obj.cells #[.int .i64 k, .int .i64 n, .string t] 26)) := (Below.refl _ _).alloc (Nat.le_refl w.heap.size) _
  have hl : w.heap.size < (w.alloc (Obj.cells #[.int .i64 k, .int .i64 n, .string t] 26)).heap.size := by simp
  generalize (w.alloc (Obj.cells #[.int .i64 k, .int .i64 n, .string t] 26)) = W0 at *
  obtain ⟨x0, x1, x2⟩ := val_cells hx
  go_region_held3 (fun w' => w'.cell? ⟨w.heap.size, 0, none⟩ = some (.int .i64 k) ∧ w'.cell? ⟨w.heap.size, 1, none⟩ = some (.int .i64 n) ∧ w'.cell? ⟨w.heap.size, 2, none⟩ = some (.string t))
    (first | go_keep | exact ⟨x0, x1, x2⟩)
    ((go_at_call 57; refine (HE.out _).mono ?_; rintro e v ⟨rfl, hbn⟩; clear x0 x1 x2; replace hx := (hbn.block w.heap.size hl).trans hx; replace hb : Below w.heap.size w v := (by first | exact hb.trans (hbn.mono hb.size) | exact hb.drew.trans (hbn.mono hb.size)); replace hl := Nat.lt_of_lt_of_le hl hbn.size; clear hbn; obtain ⟨x0, x1, x2⟩ := val_cells hx))
  clear hx hl
  go_wp2_with (fail)
  refine (HN.out _ hb).mono ?_
  rintro e w2 ⟨rfl, hb2⟩
  replace hb := hb.trans (hb2.mono hb.size)
  clear hb2
  go_wp2_with (fail)
  refine (HR.out _).mono ?_
  rintro e w5 ⟨rfl, hb5, hc5⟩
  have c5 := Lib.cell_of_heap hc5 2
  have hs5 := hb.trans (hb5.mono hb.size)
  clear hb5 hc5
  simp only [List.getElem?_toArray, List.getElem?_cons_zero, List.getElem?_cons_succ] at c5
  go_wp2
  go_ret
  exact ⟨rfl, hs5⟩

theorem rshow_k3 (k n : Int) (t : ByteArray) (w : World) (hk : ¬ k = 4) (r : ByteArray) (HN0 : ∀ w', Below w.heap.size w w' → Calls Tryd.prog 21 #[.agg #[.int .i64 k, .int .i64 n, .string t]] w' fun e w'' => e = .returned (.tuple #[.string r, .int .i64 3]) ∧ Below w'.heap.size w' w'') : Calls Tryd.prog 24 #[.agg #[.int .i64 k, .int .i64 n, .string t]] w fun e w' => e = .returned (.string ⟨#[35, 82, 69, 70, 33]⟩) ∧ Below w.heap.size w w' := by
  have HE := Lib.hid (fun w => rerr_any 7 w)
  have HR := Lib.hid (fun w => errors_any w)
  have HN := Lib.hid HN0
  clear HN0
  go_enter Tryd.func24, Tryd.ntmps24
  go_upto_region 1 with (fail)
  have hx : (w.alloc (Obj.cells #[.int .i64 k, .int .i64 n, .string t] 26)).heap[w.heap.size]? = some (.cells #[.int .i64 k, .int .i64 n, .string t] 26 (0, 0)) := heap_alloc_new _ _
  have hb : Below w.heap.size w (w.alloc (Obj.cells #[.int .i64 k, .int .i64 n, .string t] 26)) := (Below.refl _ _).alloc (Nat.le_refl w.heap.size) _
  have hl : w.heap.size < (w.alloc (Obj.cells #[.int .i64 k, .int .i64 n, .string t] 26)).heap.size := by simp
  generalize (w.alloc (Obj.cells #[.int .i64 k, .int .i64 n, .string t] 26)) = W0 at *
  obtain ⟨x0, x1, x2⟩ := val_cells hx
  go_region_held3 (fun w' => w'.cell? ⟨w.heap.size, 0, none⟩ = some (.int .i64 k) ∧ w'.cell? ⟨w.heap.size, 1, none⟩ = some (.int .i64 n) ∧ w'.cell? ⟨w.heap.size, 2, none⟩ = some (.string t))
    (first | go_keep | exact ⟨x0, x1, x2⟩)
    ((go_at_call 57; refine (HE.out _).mono ?_; rintro e v ⟨rfl, hbn⟩; clear x0 x1 x2; replace hx := (hbn.block w.heap.size hl).trans hx; replace hb : Below w.heap.size w v := (by first | exact hb.trans (hbn.mono hb.size) | exact hb.drew.trans (hbn.mono hb.size)); replace hl := Nat.lt_of_lt_of_le hl hbn.size; clear hbn; obtain ⟨x0, x1, x2⟩ := val_cells hx))
  clear hx hl
  go_wp2_with (fail)
  refine (HN.out _ hb).mono ?_
  rintro e w2 ⟨rfl, hb2⟩
  replace hb := hb.trans (hb2.mono hb.size)
  clear hb2
  go_wp2_with (fail)
  refine (HR.out _).mono ?_
  rintro e w5 ⟨rfl, hb5, hc5⟩
  have c5 := Lib.cell_of_heap hc5 3
  have hs5 := hb.trans (hb5.mono hb.size)
  clear hb5 hc5
  simp only [List.getElem?_toArray, List.getElem?_cons_zero, List.getElem?_cons_succ] at c5
  go_wp2
  go_ret
  exact ⟨rfl, hs5⟩

theorem rshow_k4 (k n : Int) (t : ByteArray) (w : World) (hk : ¬ k = 4) (r : ByteArray) (HN0 : ∀ w', Below w.heap.size w w' → Calls Tryd.prog 21 #[.agg #[.int .i64 k, .int .i64 n, .string t]] w' fun e w'' => e = .returned (.tuple #[.string r, .int .i64 4]) ∧ Below w'.heap.size w' w'') : Calls Tryd.prog 24 #[.agg #[.int .i64 k, .int .i64 n, .string t]] w fun e w' => e = .returned (.string ⟨#[35, 86, 65, 76, 85, 69, 33]⟩) ∧ Below w.heap.size w w' := by
  have HE := Lib.hid (fun w => rerr_any 7 w)
  have HR := Lib.hid (fun w => errors_any w)
  have HN := Lib.hid HN0
  clear HN0
  go_enter Tryd.func24, Tryd.ntmps24
  go_upto_region 1 with (fail)
  have hx : (w.alloc (Obj.cells #[.int .i64 k, .int .i64 n, .string t] 26)).heap[w.heap.size]? = some (.cells #[.int .i64 k, .int .i64 n, .string t] 26 (0, 0)) := heap_alloc_new _ _
  have hb : Below w.heap.size w (w.alloc (Obj.cells #[.int .i64 k, .int .i64 n, .string t] 26)) := (Below.refl _ _).alloc (Nat.le_refl w.heap.size) _
  have hl : w.heap.size < (w.alloc (Obj.cells #[.int .i64 k, .int .i64 n, .string t] 26)).heap.size := by simp
  generalize (w.alloc (Obj.cells #[.int .i64 k, .int .i64 n, .string t] 26)) = W0 at *
  obtain ⟨x0, x1, x2⟩ := val_cells hx
  go_region_held3 (fun w' => w'.cell? ⟨w.heap.size, 0, none⟩ = some (.int .i64 k) ∧ w'.cell? ⟨w.heap.size, 1, none⟩ = some (.int .i64 n) ∧ w'.cell? ⟨w.heap.size, 2, none⟩ = some (.string t))
    (first | go_keep | exact ⟨x0, x1, x2⟩)
    ((go_at_call 57; refine (HE.out _).mono ?_; rintro e v ⟨rfl, hbn⟩; clear x0 x1 x2; replace hx := (hbn.block w.heap.size hl).trans hx; replace hb : Below w.heap.size w v := (by first | exact hb.trans (hbn.mono hb.size) | exact hb.drew.trans (hbn.mono hb.size)); replace hl := Nat.lt_of_lt_of_le hl hbn.size; clear hbn; obtain ⟨x0, x1, x2⟩ := val_cells hx))
  clear hx hl
  go_wp2_with (fail)
  refine (HN.out _ hb).mono ?_
  rintro e w2 ⟨rfl, hb2⟩
  replace hb := hb.trans (hb2.mono hb.size)
  clear hb2
  go_wp2_with (fail)
  refine (HR.out _).mono ?_
  rintro e w5 ⟨rfl, hb5, hc5⟩
  have c5 := Lib.cell_of_heap hc5 4
  have hs5 := hb.trans (hb5.mono hb.size)
  clear hb5 hc5
  simp only [List.getElem?_toArray, List.getElem?_cons_zero, List.getElem?_cons_succ] at c5
  go_wp2
  go_ret
  exact ⟨rfl, hs5⟩

theorem rshow_k5 (k n : Int) (t : ByteArray) (w : World) (hk : ¬ k = 4) (r : ByteArray) (HN0 : ∀ w', Below w.heap.size w w' → Calls Tryd.prog 21 #[.agg #[.int .i64 k, .int .i64 n, .string t]] w' fun e w'' => e = .returned (.tuple #[.string r, .int .i64 5]) ∧ Below w'.heap.size w' w'') : Calls Tryd.prog 24 #[.agg #[.int .i64 k, .int .i64 n, .string t]] w fun e w' => e = .returned (.string ⟨#[35, 68, 73, 86, 47, 48, 33]⟩) ∧ Below w.heap.size w w' := by
  have HE := Lib.hid (fun w => rerr_any 7 w)
  have HR := Lib.hid (fun w => errors_any w)
  have HN := Lib.hid HN0
  clear HN0
  go_enter Tryd.func24, Tryd.ntmps24
  go_upto_region 1 with (fail)
  have hx : (w.alloc (Obj.cells #[.int .i64 k, .int .i64 n, .string t] 26)).heap[w.heap.size]? = some (.cells #[.int .i64 k, .int .i64 n, .string t] 26 (0, 0)) := heap_alloc_new _ _
  have hb : Below w.heap.size w (w.alloc (Obj.cells #[.int .i64 k, .int .i64 n, .string t] 26)) := (Below.refl _ _).alloc (Nat.le_refl w.heap.size) _
  have hl : w.heap.size < (w.alloc (Obj.cells #[.int .i64 k, .int .i64 n, .string t] 26)).heap.size := by simp
  generalize (w.alloc (Obj.cells #[.int .i64 k, .int .i64 n, .string t] 26)) = W0 at *
  obtain ⟨x0, x1, x2⟩ := val_cells hx
  go_region_held3 (fun w' => w'.cell? ⟨w.heap.size, 0, none⟩ = some (.int .i64 k) ∧ w'.cell? ⟨w.heap.size, 1, none⟩ = some (.int .i64 n) ∧ w'.cell? ⟨w.heap.size, 2, none⟩ = some (.string t))
    (first | go_keep | exact ⟨x0, x1, x2⟩)
    ((go_at_call 57; refine (HE.out _).mono ?_; rintro e v ⟨rfl, hbn⟩; clear x0 x1 x2; replace hx := (hbn.block w.heap.size hl).trans hx; replace hb : Below w.heap.size w v := (by first | exact hb.trans (hbn.mono hb.size) | exact hb.drew.trans (hbn.mono hb.size)); replace hl := Nat.lt_of_lt_of_le hl hbn.size; clear hbn; obtain ⟨x0, x1, x2⟩ := val_cells hx))
  clear hx hl
  go_wp2_with (fail)
  refine (HN.out _ hb).mono ?_
  rintro e w2 ⟨rfl, hb2⟩
  replace hb := hb.trans (hb2.mono hb.size)
  clear hb2
  go_wp2_with (fail)
  refine (HR.out _).mono ?_
  rintro e w5 ⟨rfl, hb5, hc5⟩
  have c5 := Lib.cell_of_heap hc5 5
  have hs5 := hb.trans (hb5.mono hb.size)
  clear hb5 hc5
  simp only [List.getElem?_toArray, List.getElem?_cons_zero, List.getElem?_cons_succ] at c5
  go_wp2
  go_ret
  exact ⟨rfl, hs5⟩

theorem rshow_k6 (k n : Int) (t : ByteArray) (w : World) (hk : ¬ k = 4) (r : ByteArray) (HN0 : ∀ w', Below w.heap.size w w' → Calls Tryd.prog 21 #[.agg #[.int .i64 k, .int .i64 n, .string t]] w' fun e w'' => e = .returned (.tuple #[.string r, .int .i64 6]) ∧ Below w'.heap.size w' w'') : Calls Tryd.prog 24 #[.agg #[.int .i64 k, .int .i64 n, .string t]] w fun e w' => e = .returned (.string ⟨#[35, 78, 47, 65]⟩) ∧ Below w.heap.size w w' := by
  have HE := Lib.hid (fun w => rerr_any 7 w)
  have HR := Lib.hid (fun w => errors_any w)
  have HN := Lib.hid HN0
  clear HN0
  go_enter Tryd.func24, Tryd.ntmps24
  go_upto_region 1 with (fail)
  have hx : (w.alloc (Obj.cells #[.int .i64 k, .int .i64 n, .string t] 26)).heap[w.heap.size]? = some (.cells #[.int .i64 k, .int .i64 n, .string t] 26 (0, 0)) := heap_alloc_new _ _
  have hb : Below w.heap.size w (w.alloc (Obj.cells #[.int .i64 k, .int .i64 n, .string t] 26)) := (Below.refl _ _).alloc (Nat.le_refl w.heap.size) _
  have hl : w.heap.size < (w.alloc (Obj.cells #[.int .i64 k, .int .i64 n, .string t] 26)).heap.size := by simp
  generalize (w.alloc (Obj.cells #[.int .i64 k, .int .i64 n, .string t] 26)) = W0 at *
  obtain ⟨x0, x1, x2⟩ := val_cells hx
  go_region_held3 (fun w' => w'.cell? ⟨w.heap.size, 0, none⟩ = some (.int .i64 k) ∧ w'.cell? ⟨w.heap.size, 1, none⟩ = some (.int .i64 n) ∧ w'.cell? ⟨w.heap.size, 2, none⟩ = some (.string t))
    (first | go_keep | exact ⟨x0, x1, x2⟩)
    ((go_at_call 57; refine (HE.out _).mono ?_; rintro e v ⟨rfl, hbn⟩; clear x0 x1 x2; replace hx := (hbn.block w.heap.size hl).trans hx; replace hb : Below w.heap.size w v := (by first | exact hb.trans (hbn.mono hb.size) | exact hb.drew.trans (hbn.mono hb.size)); replace hl := Nat.lt_of_lt_of_le hl hbn.size; clear hbn; obtain ⟨x0, x1, x2⟩ := val_cells hx))
  clear hx hl
  go_wp2_with (fail)
  refine (HN.out _ hb).mono ?_
  rintro e w2 ⟨rfl, hb2⟩
  replace hb := hb.trans (hb2.mono hb.size)
  clear hb2
  go_wp2_with (fail)
  refine (HR.out _).mono ?_
  rintro e w5 ⟨rfl, hb5, hc5⟩
  have c5 := Lib.cell_of_heap hc5 6
  have hs5 := hb.trans (hb5.mono hb.size)
  clear hb5 hc5
  simp only [List.getElem?_toArray, List.getElem?_cons_zero, List.getElem?_cons_succ] at c5
  go_wp2
  go_ret
  exact ⟨rfl, hs5⟩

theorem rshow_ko (k n : Int) (t : ByteArray) (w : World) (hk : ¬ k = 4) (r : ByteArray) (HN0 : ∀ w', Below w.heap.size w w' → Calls Tryd.prog 21 #[.agg #[.int .i64 k, .int .i64 n, .string t]] w' fun e w'' => e = .returned (.tuple #[.string r, .int .i64 0]) ∧ Below w'.heap.size w' w'') : Calls Tryd.prog 24 #[.agg #[.int .i64 k, .int .i64 n, .string t]] w fun e w' => e = .returned (.string r) ∧ Below w.heap.size w w' := by
  have HE := Lib.hid (fun w => rerr_any 7 w)
  have HR := Lib.hid (fun w => errors_any w)
  have HN := Lib.hid HN0
  clear HN0
  go_enter Tryd.func24, Tryd.ntmps24
  go_upto_region 1 with (fail)
  have hx : (w.alloc (Obj.cells #[.int .i64 k, .int .i64 n, .string t] 26)).heap[w.heap.size]? = some (.cells #[.int .i64 k, .int .i64 n, .string t] 26 (0, 0)) := heap_alloc_new _ _
  have hb : Below w.heap.size w (w.alloc (Obj.cells #[.int .i64 k, .int .i64 n, .string t] 26)) := (Below.refl _ _).alloc (Nat.le_refl w.heap.size) _
  have hl : w.heap.size < (w.alloc (Obj.cells #[.int .i64 k, .int .i64 n, .string t] 26)).heap.size := by simp
  generalize (w.alloc (Obj.cells #[.int .i64 k, .int .i64 n, .string t] 26)) = W0 at *
  obtain ⟨x0, x1, x2⟩ := val_cells hx
  go_region_held3 (fun w' => w'.cell? ⟨w.heap.size, 0, none⟩ = some (.int .i64 k) ∧ w'.cell? ⟨w.heap.size, 1, none⟩ = some (.int .i64 n) ∧ w'.cell? ⟨w.heap.size, 2, none⟩ = some (.string t))
    (first | go_keep | exact ⟨x0, x1, x2⟩)
    ((go_at_call 57; refine (HE.out _).mono ?_; rintro e v ⟨rfl, hbn⟩; clear x0 x1 x2; replace hx := (hbn.block w.heap.size hl).trans hx; replace hb : Below w.heap.size w v := (by first | exact hb.trans (hbn.mono hb.size) | exact hb.drew.trans (hbn.mono hb.size)); replace hl := Nat.lt_of_lt_of_le hl hbn.size; clear hbn; obtain ⟨x0, x1, x2⟩ := val_cells hx))
  clear hx hl
  go_wp2_with (fail)
  refine (HN.out _ hb).mono ?_
  rintro e w2 ⟨rfl, hb2⟩
  replace hb := hb.trans (hb2.mono hb.size)
  clear hb2
  go_wp2
  go_ret
  exact ⟨rfl, hb⟩

theorem show_ne (n : Int) (t : ByteArray) (w : World) (hk : ¬ n = 7) (gn : Int) (gt r : ByteArray) (HG0 : ∀ w, Calls Tryd.prog 28 #[.agg #[.int .i64 4, .int .i64 n, .string t]] w fun e w' => e = .returned (.agg #[.int .i64 4, .int .i64 gn, .string gt]) ∧ Below w.heap.size w w') (HN0 : ∀ w, Calls Tryd.prog 27 #[.int .i64 gn] w fun e w' => e = .returned (.string r) ∧ w = w') : Calls Tryd.prog 8 #[.agg #[.int .i64 4, .int .i64 n, .string t]] w fun e w' => e = .returned (.string r) ∧ Below w.heap.size w w' := by
  have HN := Lib.hid HN0
  clear HN0
  have HE := Lib.hid (fun w => fault_any 7 w)
  have HG := Lib.hid HG0
  clear HG0
  go_enter Tryd.func8, Tryd.ntmps8
  go_upto_region 1 with (fail)
  have hx : (w.alloc (Obj.cells #[.int .i64 4, .int .i64 n, .string t] 26)).heap[w.heap.size]? = some (.cells #[.int .i64 4, .int .i64 n, .string t] 26 (0, 0)) := heap_alloc_new _ _
  have hb : Below w.heap.size w (w.alloc (Obj.cells #[.int .i64 4, .int .i64 n, .string t] 26)) := (Below.refl _ _).alloc (Nat.le_refl w.heap.size) _
  have hl : w.heap.size < (w.alloc (Obj.cells #[.int .i64 4, .int .i64 n, .string t] 26)).heap.size := by simp
  generalize (w.alloc (Obj.cells #[.int .i64 4, .int .i64 n, .string t] 26)) = W0 at *
  obtain ⟨x0, x1, x2⟩ := val_cells hx
  go_region_held3 (fun w' => w'.cell? ⟨w.heap.size, 0, none⟩ = some (.int .i64 4) ∧ w'.cell? ⟨w.heap.size, 1, none⟩ = some (.int .i64 n) ∧ w'.cell? ⟨w.heap.size, 2, none⟩ = some (.string t))
    (first | go_keep | exact ⟨x0, x1, x2⟩)
    ((go_at_call 26; refine (HE.out _).mono ?_; rintro e v ⟨rfl, hbn⟩; clear x0 x1 x2; replace hx := (hbn.block w.heap.size hl).trans hx; replace hb : Below w.heap.size w v := (by first | exact hb.trans (hbn.mono hb.size) | exact hb.drew.trans (hbn.mono hb.size)); replace hl := Nat.lt_of_lt_of_le hl hbn.size; clear hbn; obtain ⟨x0, x1, x2⟩ := val_cells hx))
  go_wp2_with (fail)
  refine (HG.out _).mono ?_
  rintro e w1 ⟨rfl, hb1⟩
  clear x0 x1 x2
  replace hx := (hb1.block w.heap.size hl).trans hx
  have hs : Below w.heap.size w w1 := hb.trans (hb1.mono hb.size)
  clear hb1 hb hl
  obtain ⟨f0, f1, f2⟩ := val_frozen hx
  obtain ⟨x0, x1, x2⟩ := val_cells hx
  have hs2 : ∀ k' n' t', Below w.heap.size w (((w1.setCell ⟨w.heap.size, 0, none⟩ (.int .i64 k')).setCell ⟨w.heap.size, 1, none⟩ (.int .i64 n')).setCell ⟨w.heap.size, 2, none⟩ (.string t')) := fun k' n' t' => ((hs.setCell (p := ⟨w.heap.size, 0, none⟩) (by simp) _).setCell (p := ⟨w.heap.size, 1, none⟩) (by simp) _).setCell (p := ⟨w.heap.size, 2, none⟩) (by simp) _
  clear hx hs
  go_wp2_with (fail)
  refine (HN.out _).mono ?_
  rintro e w2 ⟨rfl, rfl⟩
  go_wp2
  go_ret
  exact ⟨rfl, hs2 _ _ _⟩

theorem show_no (n : Int) (t : ByteArray) (w : World) (hk : ¬ n = 7) (gk gn y : Int) (gt r : ByteArray) (h4 : (gk == 4) = false) (HG0 : ∀ w, Calls Tryd.prog 28 #[.agg #[.int .i64 4, .int .i64 n, .string t]] w fun e w' => e = .returned (.agg #[.int .i64 gk, .int .i64 gn, .string gt]) ∧ Below w.heap.size w w') (HN0 : ∀ w', Below w.heap.size w w' → Calls Tryd.prog 10 #[.agg #[.int .i64 gk, .int .i64 gn, .string gt]] w' fun e w'' => e = .returned (.tuple #[.string r, .int .i64 y]) ∧ Below w'.heap.size w' w'') : Calls Tryd.prog 8 #[.agg #[.int .i64 4, .int .i64 n, .string t]] w fun e w' => e = .returned (.string r) ∧ Below w.heap.size w w' := by
  have HN := Lib.hid HN0
  clear HN0
  have HE := Lib.hid (fun w => fault_any 7 w)
  have HG := Lib.hid HG0
  clear HG0
  go_enter Tryd.func8, Tryd.ntmps8
  go_upto_region 1 with (fail)
  have hx : (w.alloc (Obj.cells #[.int .i64 4, .int .i64 n, .string t] 26)).heap[w.heap.size]? = some (.cells #[.int .i64 4, .int .i64 n, .string t] 26 (0, 0)) := heap_alloc_new _ _
  have hb : Below w.heap.size w (w.alloc (Obj.cells #[.int .i64 4, .int .i64 n, .string t] 26)) := (Below.refl _ _).alloc (Nat.le_refl w.heap.size) _
  have hl : w.heap.size < (w.alloc (Obj.cells #[.int .i64 4, .int .i64 n, .string t] 26)).heap.size := by simp
  generalize (w.alloc (Obj.cells #[.int .i64 4, .int .i64 n, .string t] 26)) = W0 at *
  obtain ⟨x0, x1, x2⟩ := val_cells hx
  go_region_held3 (fun w' => w'.cell? ⟨w.heap.size, 0, none⟩ = some (.int .i64 4) ∧ w'.cell? ⟨w.heap.size, 1, none⟩ = some (.int .i64 n) ∧ w'.cell? ⟨w.heap.size, 2, none⟩ = some (.string t))
    (first | go_keep | exact ⟨x0, x1, x2⟩)
    ((go_at_call 26; refine (HE.out _).mono ?_; rintro e v ⟨rfl, hbn⟩; clear x0 x1 x2; replace hx := (hbn.block w.heap.size hl).trans hx; replace hb : Below w.heap.size w v := (by first | exact hb.trans (hbn.mono hb.size) | exact hb.drew.trans (hbn.mono hb.size)); replace hl := Nat.lt_of_lt_of_le hl hbn.size; clear hbn; obtain ⟨x0, x1, x2⟩ := val_cells hx))
  go_wp2_with (fail)
  refine (HG.out _).mono ?_
  rintro e w1 ⟨rfl, hb1⟩
  clear x0 x1 x2
  replace hx := (hb1.block w.heap.size hl).trans hx
  have hs : Below w.heap.size w w1 := hb.trans (hb1.mono hb.size)
  clear hb1 hb hl
  obtain ⟨f0, f1, f2⟩ := val_frozen hx
  obtain ⟨x0, x1, x2⟩ := val_cells hx
  have hs2 : ∀ k' n' t', Below w.heap.size w (((w1.setCell ⟨w.heap.size, 0, none⟩ (.int .i64 k')).setCell ⟨w.heap.size, 1, none⟩ (.int .i64 n')).setCell ⟨w.heap.size, 2, none⟩ (.string t')) := fun k' n' t' => ((hs.setCell (p := ⟨w.heap.size, 0, none⟩) (by simp) _).setCell (p := ⟨w.heap.size, 1, none⟩) (by simp) _).setCell (p := ⟨w.heap.size, 2, none⟩) (by simp) _
  clear hx hs
  go_wp2_with (fail)
  refine (HN.out _ (hs2 _ _ _)).mono ?_
  rintro e w2 ⟨rfl, hb2⟩
  have hs3 := (hs2 _ _ _).trans (hb2.mono (hs2 _ _ _).size)
  clear hb2 hs2
  go_wp2
  go_ret
  exact ⟨rfl, hs3⟩

theorem rshow_n1 (n : Int) (t : ByteArray) (w : World) (hk : ¬ n = 7) (r : ByteArray) (HN0 : ∀ w', Below w.heap.size w w' → Calls Tryd.prog 21 #[.agg #[.int .i64 4, .int .i64 n, .string t]] w' fun e w'' => e = .returned (.tuple #[.string r, .int .i64 1]) ∧ Below w'.heap.size w' w'') : Calls Tryd.prog 24 #[.agg #[.int .i64 4, .int .i64 n, .string t]] w fun e w' => e = .returned (.string ⟨#[35, 78, 65, 77, 69, 63]⟩) ∧ Below w.heap.size w w' := by
  have HE := Lib.hid (fun w => rerr_any 7 w)
  have HR := Lib.hid (fun w => errors_any w)
  have HN := Lib.hid HN0
  clear HN0
  go_enter Tryd.func24, Tryd.ntmps24
  go_upto_region 1 with (fail)
  have hx : (w.alloc (Obj.cells #[.int .i64 4, .int .i64 n, .string t] 26)).heap[w.heap.size]? = some (.cells #[.int .i64 4, .int .i64 n, .string t] 26 (0, 0)) := heap_alloc_new _ _
  have hb : Below w.heap.size w (w.alloc (Obj.cells #[.int .i64 4, .int .i64 n, .string t] 26)) := (Below.refl _ _).alloc (Nat.le_refl w.heap.size) _
  have hl : w.heap.size < (w.alloc (Obj.cells #[.int .i64 4, .int .i64 n, .string t] 26)).heap.size := by simp
  generalize (w.alloc (Obj.cells #[.int .i64 4, .int .i64 n, .string t] 26)) = W0 at *
  obtain ⟨x0, x1, x2⟩ := val_cells hx
  go_region_held3 (fun w' => w'.cell? ⟨w.heap.size, 0, none⟩ = some (.int .i64 4) ∧ w'.cell? ⟨w.heap.size, 1, none⟩ = some (.int .i64 n) ∧ w'.cell? ⟨w.heap.size, 2, none⟩ = some (.string t))
    (first | go_keep | exact ⟨x0, x1, x2⟩)
    ((go_at_call 57; refine (HE.out _).mono ?_; rintro e v ⟨rfl, hbn⟩; clear x0 x1 x2; replace hx := (hbn.block w.heap.size hl).trans hx; replace hb : Below w.heap.size w v := (by first | exact hb.trans (hbn.mono hb.size) | exact hb.drew.trans (hbn.mono hb.size)); replace hl := Nat.lt_of_lt_of_le hl hbn.size; clear hbn; obtain ⟨x0, x1, x2⟩ := val_cells hx))
  clear hx hl
  go_wp2_with (fail)
  refine (HN.out _ hb).mono ?_
  rintro e w2 ⟨rfl, hb2⟩
  replace hb := hb.trans (hb2.mono hb.size)
  clear hb2
  go_wp2_with (fail)
  refine (HR.out _).mono ?_
  rintro e w5 ⟨rfl, hb5, hc5⟩
  have c5 := Lib.cell_of_heap hc5 1
  have hs5 := hb.trans (hb5.mono hb.size)
  clear hb5 hc5
  simp only [List.getElem?_toArray, List.getElem?_cons_zero, List.getElem?_cons_succ] at c5
  go_wp2
  go_ret
  exact ⟨rfl, hs5⟩

theorem rshow_n2 (n : Int) (t : ByteArray) (w : World) (hk : ¬ n = 7) (r : ByteArray) (HN0 : ∀ w', Below w.heap.size w w' → Calls Tryd.prog 21 #[.agg #[.int .i64 4, .int .i64 n, .string t]] w' fun e w'' => e = .returned (.tuple #[.string r, .int .i64 2]) ∧ Below w'.heap.size w' w'') : Calls Tryd.prog 24 #[.agg #[.int .i64 4, .int .i64 n, .string t]] w fun e w' => e = .returned (.string ⟨#[35, 78, 85, 77, 33]⟩) ∧ Below w.heap.size w w' := by
  have HE := Lib.hid (fun w => rerr_any 7 w)
  have HR := Lib.hid (fun w => errors_any w)
  have HN := Lib.hid HN0
  clear HN0
  go_enter Tryd.func24, Tryd.ntmps24
  go_upto_region 1 with (fail)
  have hx : (w.alloc (Obj.cells #[.int .i64 4, .int .i64 n, .string t] 26)).heap[w.heap.size]? = some (.cells #[.int .i64 4, .int .i64 n, .string t] 26 (0, 0)) := heap_alloc_new _ _
  have hb : Below w.heap.size w (w.alloc (Obj.cells #[.int .i64 4, .int .i64 n, .string t] 26)) := (Below.refl _ _).alloc (Nat.le_refl w.heap.size) _
  have hl : w.heap.size < (w.alloc (Obj.cells #[.int .i64 4, .int .i64 n, .string t] 26)).heap.size := by simp
  generalize (w.alloc (Obj.cells #[.int .i64 4, .int .i64 n, .string t] 26)) = W0 at *
  obtain ⟨x0, x1, x2⟩ := val_cells hx
  go_region_held3 (fun w' => w'.cell? ⟨w.heap.size, 0, none⟩ = some (.int .i64 4) ∧ w'.cell? ⟨w.heap.size, 1, none⟩ = some (.int .i64 n) ∧ w'.cell? ⟨w.heap.size, 2, none⟩ = some (.string t))
    (first | go_keep | exact ⟨x0, x1, x2⟩)
    ((go_at_call 57; refine (HE.out _).mono ?_; rintro e v ⟨rfl, hbn⟩; clear x0 x1 x2; replace hx := (hbn.block w.heap.size hl).trans hx; replace hb : Below w.heap.size w v := (by first | exact hb.trans (hbn.mono hb.size) | exact hb.drew.trans (hbn.mono hb.size)); replace hl := Nat.lt_of_lt_of_le hl hbn.size; clear hbn; obtain ⟨x0, x1, x2⟩ := val_cells hx))
  clear hx hl
  go_wp2_with (fail)
  refine (HN.out _ hb).mono ?_
  rintro e w2 ⟨rfl, hb2⟩
  replace hb := hb.trans (hb2.mono hb.size)
  clear hb2
  go_wp2_with (fail)
  refine (HR.out _).mono ?_
  rintro e w5 ⟨rfl, hb5, hc5⟩
  have c5 := Lib.cell_of_heap hc5 2
  have hs5 := hb.trans (hb5.mono hb.size)
  clear hb5 hc5
  simp only [List.getElem?_toArray, List.getElem?_cons_zero, List.getElem?_cons_succ] at c5
  go_wp2
  go_ret
  exact ⟨rfl, hs5⟩

theorem rshow_n3 (n : Int) (t : ByteArray) (w : World) (hk : ¬ n = 7) (r : ByteArray) (HN0 : ∀ w', Below w.heap.size w w' → Calls Tryd.prog 21 #[.agg #[.int .i64 4, .int .i64 n, .string t]] w' fun e w'' => e = .returned (.tuple #[.string r, .int .i64 3]) ∧ Below w'.heap.size w' w'') : Calls Tryd.prog 24 #[.agg #[.int .i64 4, .int .i64 n, .string t]] w fun e w' => e = .returned (.string ⟨#[35, 82, 69, 70, 33]⟩) ∧ Below w.heap.size w w' := by
  have HE := Lib.hid (fun w => rerr_any 7 w)
  have HR := Lib.hid (fun w => errors_any w)
  have HN := Lib.hid HN0
  clear HN0
  go_enter Tryd.func24, Tryd.ntmps24
  go_upto_region 1 with (fail)
  have hx : (w.alloc (Obj.cells #[.int .i64 4, .int .i64 n, .string t] 26)).heap[w.heap.size]? = some (.cells #[.int .i64 4, .int .i64 n, .string t] 26 (0, 0)) := heap_alloc_new _ _
  have hb : Below w.heap.size w (w.alloc (Obj.cells #[.int .i64 4, .int .i64 n, .string t] 26)) := (Below.refl _ _).alloc (Nat.le_refl w.heap.size) _
  have hl : w.heap.size < (w.alloc (Obj.cells #[.int .i64 4, .int .i64 n, .string t] 26)).heap.size := by simp
  generalize (w.alloc (Obj.cells #[.int .i64 4, .int .i64 n, .string t] 26)) = W0 at *
  obtain ⟨x0, x1, x2⟩ := val_cells hx
  go_region_held3 (fun w' => w'.cell? ⟨w.heap.size, 0, none⟩ = some (.int .i64 4) ∧ w'.cell? ⟨w.heap.size, 1, none⟩ = some (.int .i64 n) ∧ w'.cell? ⟨w.heap.size, 2, none⟩ = some (.string t))
    (first | go_keep | exact ⟨x0, x1, x2⟩)
    ((go_at_call 57; refine (HE.out _).mono ?_; rintro e v ⟨rfl, hbn⟩; clear x0 x1 x2; replace hx := (hbn.block w.heap.size hl).trans hx; replace hb : Below w.heap.size w v := (by first | exact hb.trans (hbn.mono hb.size) | exact hb.drew.trans (hbn.mono hb.size)); replace hl := Nat.lt_of_lt_of_le hl hbn.size; clear hbn; obtain ⟨x0, x1, x2⟩ := val_cells hx))
  clear hx hl
  go_wp2_with (fail)
  refine (HN.out _ hb).mono ?_
  rintro e w2 ⟨rfl, hb2⟩
  replace hb := hb.trans (hb2.mono hb.size)
  clear hb2
  go_wp2_with (fail)
  refine (HR.out _).mono ?_
  rintro e w5 ⟨rfl, hb5, hc5⟩
  have c5 := Lib.cell_of_heap hc5 3
  have hs5 := hb.trans (hb5.mono hb.size)
  clear hb5 hc5
  simp only [List.getElem?_toArray, List.getElem?_cons_zero, List.getElem?_cons_succ] at c5
  go_wp2
  go_ret
  exact ⟨rfl, hs5⟩

theorem rshow_n4 (n : Int) (t : ByteArray) (w : World) (hk : ¬ n = 7) (r : ByteArray) (HN0 : ∀ w', Below w.heap.size w w' → Calls Tryd.prog 21 #[.agg #[.int .i64 4, .int .i64 n, .string t]] w' fun e w'' => e = .returned (.tuple #[.string r, .int .i64 4]) ∧ Below w'.heap.size w' w'') : Calls Tryd.prog 24 #[.agg #[.int .i64 4, .int .i64 n, .string t]] w fun e w' => e = .returned (.string ⟨#[35, 86, 65, 76, 85, 69, 33]⟩) ∧ Below w.heap.size w w' := by
  have HE := Lib.hid (fun w => rerr_any 7 w)
  have HR := Lib.hid (fun w => errors_any w)
  have HN := Lib.hid HN0
  clear HN0
  go_enter Tryd.func24, Tryd.ntmps24
  go_upto_region 1 with (fail)
  have hx : (w.alloc (Obj.cells #[.int .i64 4, .int .i64 n, .string t] 26)).heap[w.heap.size]? = some (.cells #[.int .i64 4, .int .i64 n, .string t] 26 (0, 0)) := heap_alloc_new _ _
  have hb : Below w.heap.size w (w.alloc (Obj.cells #[.int .i64 4, .int .i64 n, .string t] 26)) := (Below.refl _ _).alloc (Nat.le_refl w.heap.size) _
  have hl : w.heap.size < (w.alloc (Obj.cells #[.int .i64 4, .int .i64 n, .string t] 26)).heap.size := by simp
  generalize (w.alloc (Obj.cells #[.int .i64 4, .int .i64 n, .string t] 26)) = W0 at *
  obtain ⟨x0, x1, x2⟩ := val_cells hx
  go_region_held3 (fun w' => w'.cell? ⟨w.heap.size, 0, none⟩ = some (.int .i64 4) ∧ w'.cell? ⟨w.heap.size, 1, none⟩ = some (.int .i64 n) ∧ w'.cell? ⟨w.heap.size, 2, none⟩ = some (.string t))
    (first | go_keep | exact ⟨x0, x1, x2⟩)
    ((go_at_call 57; refine (HE.out _).mono ?_; rintro e v ⟨rfl, hbn⟩; clear x0 x1 x2; replace hx := (hbn.block w.heap.size hl).trans hx; replace hb : Below w.heap.size w v := (by first | exact hb.trans (hbn.mono hb.size) | exact hb.drew.trans (hbn.mono hb.size)); replace hl := Nat.lt_of_lt_of_le hl hbn.size; clear hbn; obtain ⟨x0, x1, x2⟩ := val_cells hx))
  clear hx hl
  go_wp2_with (fail)
  refine (HN.out _ hb).mono ?_
  rintro e w2 ⟨rfl, hb2⟩
  replace hb := hb.trans (hb2.mono hb.size)
  clear hb2
  go_wp2_with (fail)
  refine (HR.out _).mono ?_
  rintro e w5 ⟨rfl, hb5, hc5⟩
  have c5 := Lib.cell_of_heap hc5 4
  have hs5 := hb.trans (hb5.mono hb.size)
  clear hb5 hc5
  simp only [List.getElem?_toArray, List.getElem?_cons_zero, List.getElem?_cons_succ] at c5
  go_wp2
  go_ret
  exact ⟨rfl, hs5⟩

theorem rshow_n5 (n : Int) (t : ByteArray) (w : World) (hk : ¬ n = 7) (r : ByteArray) (HN0 : ∀ w', Below w.heap.size w w' → Calls Tryd.prog 21 #[.agg #[.int .i64 4, .int .i64 n, .string t]] w' fun e w'' => e = .returned (.tuple #[.string r, .int .i64 5]) ∧ Below w'.heap.size w' w'') : Calls Tryd.prog 24 #[.agg #[.int .i64 4, .int .i64 n, .string t]] w fun e w' => e = .returned (.string ⟨#[35, 68, 73, 86, 47, 48, 33]⟩) ∧ Below w.heap.size w w' := by
  have HE := Lib.hid (fun w => rerr_any 7 w)
  have HR := Lib.hid (fun w => errors_any w)
  have HN := Lib.hid HN0
  clear HN0
  go_enter Tryd.func24, Tryd.ntmps24
  go_upto_region 1 with (fail)
  have hx : (w.alloc (Obj.cells #[.int .i64 4, .int .i64 n, .string t] 26)).heap[w.heap.size]? = some (.cells #[.int .i64 4, .int .i64 n, .string t] 26 (0, 0)) := heap_alloc_new _ _
  have hb : Below w.heap.size w (w.alloc (Obj.cells #[.int .i64 4, .int .i64 n, .string t] 26)) := (Below.refl _ _).alloc (Nat.le_refl w.heap.size) _
  have hl : w.heap.size < (w.alloc (Obj.cells #[.int .i64 4, .int .i64 n, .string t] 26)).heap.size := by simp
  generalize (w.alloc (Obj.cells #[.int .i64 4, .int .i64 n, .string t] 26)) = W0 at *
  obtain ⟨x0, x1, x2⟩ := val_cells hx
  go_region_held3 (fun w' => w'.cell? ⟨w.heap.size, 0, none⟩ = some (.int .i64 4) ∧ w'.cell? ⟨w.heap.size, 1, none⟩ = some (.int .i64 n) ∧ w'.cell? ⟨w.heap.size, 2, none⟩ = some (.string t))
    (first | go_keep | exact ⟨x0, x1, x2⟩)
    ((go_at_call 57; refine (HE.out _).mono ?_; rintro e v ⟨rfl, hbn⟩; clear x0 x1 x2; replace hx := (hbn.block w.heap.size hl).trans hx; replace hb : Below w.heap.size w v := (by first | exact hb.trans (hbn.mono hb.size) | exact hb.drew.trans (hbn.mono hb.size)); replace hl := Nat.lt_of_lt_of_le hl hbn.size; clear hbn; obtain ⟨x0, x1, x2⟩ := val_cells hx))
  clear hx hl
  go_wp2_with (fail)
  refine (HN.out _ hb).mono ?_
  rintro e w2 ⟨rfl, hb2⟩
  replace hb := hb.trans (hb2.mono hb.size)
  clear hb2
  go_wp2_with (fail)
  refine (HR.out _).mono ?_
  rintro e w5 ⟨rfl, hb5, hc5⟩
  have c5 := Lib.cell_of_heap hc5 5
  have hs5 := hb.trans (hb5.mono hb.size)
  clear hb5 hc5
  simp only [List.getElem?_toArray, List.getElem?_cons_zero, List.getElem?_cons_succ] at c5
  go_wp2
  go_ret
  exact ⟨rfl, hs5⟩

theorem rshow_n6 (n : Int) (t : ByteArray) (w : World) (hk : ¬ n = 7) (r : ByteArray) (HN0 : ∀ w', Below w.heap.size w w' → Calls Tryd.prog 21 #[.agg #[.int .i64 4, .int .i64 n, .string t]] w' fun e w'' => e = .returned (.tuple #[.string r, .int .i64 6]) ∧ Below w'.heap.size w' w'') : Calls Tryd.prog 24 #[.agg #[.int .i64 4, .int .i64 n, .string t]] w fun e w' => e = .returned (.string ⟨#[35, 78, 47, 65]⟩) ∧ Below w.heap.size w w' := by
  have HE := Lib.hid (fun w => rerr_any 7 w)
  have HR := Lib.hid (fun w => errors_any w)
  have HN := Lib.hid HN0
  clear HN0
  go_enter Tryd.func24, Tryd.ntmps24
  go_upto_region 1 with (fail)
  have hx : (w.alloc (Obj.cells #[.int .i64 4, .int .i64 n, .string t] 26)).heap[w.heap.size]? = some (.cells #[.int .i64 4, .int .i64 n, .string t] 26 (0, 0)) := heap_alloc_new _ _
  have hb : Below w.heap.size w (w.alloc (Obj.cells #[.int .i64 4, .int .i64 n, .string t] 26)) := (Below.refl _ _).alloc (Nat.le_refl w.heap.size) _
  have hl : w.heap.size < (w.alloc (Obj.cells #[.int .i64 4, .int .i64 n, .string t] 26)).heap.size := by simp
  generalize (w.alloc (Obj.cells #[.int .i64 4, .int .i64 n, .string t] 26)) = W0 at *
  obtain ⟨x0, x1, x2⟩ := val_cells hx
  go_region_held3 (fun w' => w'.cell? ⟨w.heap.size, 0, none⟩ = some (.int .i64 4) ∧ w'.cell? ⟨w.heap.size, 1, none⟩ = some (.int .i64 n) ∧ w'.cell? ⟨w.heap.size, 2, none⟩ = some (.string t))
    (first | go_keep | exact ⟨x0, x1, x2⟩)
    ((go_at_call 57; refine (HE.out _).mono ?_; rintro e v ⟨rfl, hbn⟩; clear x0 x1 x2; replace hx := (hbn.block w.heap.size hl).trans hx; replace hb : Below w.heap.size w v := (by first | exact hb.trans (hbn.mono hb.size) | exact hb.drew.trans (hbn.mono hb.size)); replace hl := Nat.lt_of_lt_of_le hl hbn.size; clear hbn; obtain ⟨x0, x1, x2⟩ := val_cells hx))
  clear hx hl
  go_wp2_with (fail)
  refine (HN.out _ hb).mono ?_
  rintro e w2 ⟨rfl, hb2⟩
  replace hb := hb.trans (hb2.mono hb.size)
  clear hb2
  go_wp2_with (fail)
  refine (HR.out _).mono ?_
  rintro e w5 ⟨rfl, hb5, hc5⟩
  have c5 := Lib.cell_of_heap hc5 6
  have hs5 := hb.trans (hb5.mono hb.size)
  clear hb5 hc5
  simp only [List.getElem?_toArray, List.getElem?_cons_zero, List.getElem?_cons_succ] at c5
  go_wp2
  go_ret
  exact ⟨rfl, hs5⟩

theorem rshow_no (n : Int) (t : ByteArray) (w : World) (hk : ¬ n = 7) (r : ByteArray) (HN0 : ∀ w', Below w.heap.size w w' → Calls Tryd.prog 21 #[.agg #[.int .i64 4, .int .i64 n, .string t]] w' fun e w'' => e = .returned (.tuple #[.string r, .int .i64 0]) ∧ Below w'.heap.size w' w'') : Calls Tryd.prog 24 #[.agg #[.int .i64 4, .int .i64 n, .string t]] w fun e w' => e = .returned (.string r) ∧ Below w.heap.size w w' := by
  have HE := Lib.hid (fun w => rerr_any 7 w)
  have HR := Lib.hid (fun w => errors_any w)
  have HN := Lib.hid HN0
  clear HN0
  go_enter Tryd.func24, Tryd.ntmps24
  go_upto_region 1 with (fail)
  have hx : (w.alloc (Obj.cells #[.int .i64 4, .int .i64 n, .string t] 26)).heap[w.heap.size]? = some (.cells #[.int .i64 4, .int .i64 n, .string t] 26 (0, 0)) := heap_alloc_new _ _
  have hb : Below w.heap.size w (w.alloc (Obj.cells #[.int .i64 4, .int .i64 n, .string t] 26)) := (Below.refl _ _).alloc (Nat.le_refl w.heap.size) _
  have hl : w.heap.size < (w.alloc (Obj.cells #[.int .i64 4, .int .i64 n, .string t] 26)).heap.size := by simp
  generalize (w.alloc (Obj.cells #[.int .i64 4, .int .i64 n, .string t] 26)) = W0 at *
  obtain ⟨x0, x1, x2⟩ := val_cells hx
  go_region_held3 (fun w' => w'.cell? ⟨w.heap.size, 0, none⟩ = some (.int .i64 4) ∧ w'.cell? ⟨w.heap.size, 1, none⟩ = some (.int .i64 n) ∧ w'.cell? ⟨w.heap.size, 2, none⟩ = some (.string t))
    (first | go_keep | exact ⟨x0, x1, x2⟩)
    ((go_at_call 57; refine (HE.out _).mono ?_; rintro e v ⟨rfl, hbn⟩; clear x0 x1 x2; replace hx := (hbn.block w.heap.size hl).trans hx; replace hb : Below w.heap.size w v := (by first | exact hb.trans (hbn.mono hb.size) | exact hb.drew.trans (hbn.mono hb.size)); replace hl := Nat.lt_of_lt_of_le hl hbn.size; clear hbn; obtain ⟨x0, x1, x2⟩ := val_cells hx))
  clear hx hl
  go_wp2_with (fail)
  refine (HN.out _ hb).mono ?_
  rintro e w2 ⟨rfl, hb2⟩
  replace hb := hb.trans (hb2.mono hb.size)
  clear hb2
  go_wp2
  go_ret
  exact ⟨rfl, hb⟩

theorem show_te (t : ByteArray) (w : World) (hk : ¬ t.toList = []) (gn : Int) (gt r : ByteArray) (HG0 : ∀ w, Calls Tryd.prog 28 #[.agg #[.int .i64 4, .int .i64 7, .string t]] w fun e w' => e = .returned (.agg #[.int .i64 4, .int .i64 gn, .string gt]) ∧ Below w.heap.size w w') (HN0 : ∀ w, Calls Tryd.prog 27 #[.int .i64 gn] w fun e w' => e = .returned (.string r) ∧ w = w') : Calls Tryd.prog 8 #[.agg #[.int .i64 4, .int .i64 7, .string t]] w fun e w' => e = .returned (.string r) ∧ Below w.heap.size w w' := by
  have HN := Lib.hid HN0
  clear HN0
  have HE := Lib.hid (fun w => fault_any 7 w)
  have HG := Lib.hid HG0
  clear HG0
  go_enter Tryd.func8, Tryd.ntmps8
  go_upto_region 1 with (fail)
  have hx : (w.alloc (Obj.cells #[.int .i64 4, .int .i64 7, .string t] 26)).heap[w.heap.size]? = some (.cells #[.int .i64 4, .int .i64 7, .string t] 26 (0, 0)) := heap_alloc_new _ _
  have hb : Below w.heap.size w (w.alloc (Obj.cells #[.int .i64 4, .int .i64 7, .string t] 26)) := (Below.refl _ _).alloc (Nat.le_refl w.heap.size) _
  have hl : w.heap.size < (w.alloc (Obj.cells #[.int .i64 4, .int .i64 7, .string t] 26)).heap.size := by simp
  generalize (w.alloc (Obj.cells #[.int .i64 4, .int .i64 7, .string t] 26)) = W0 at *
  obtain ⟨x0, x1, x2⟩ := val_cells hx
  go_region_held3 (fun w' => w'.cell? ⟨w.heap.size, 0, none⟩ = some (.int .i64 4) ∧ w'.cell? ⟨w.heap.size, 1, none⟩ = some (.int .i64 7) ∧ w'.cell? ⟨w.heap.size, 2, none⟩ = some (.string t))
    (first | go_keep | exact ⟨x0, x1, x2⟩)
    ((go_at_call 26; refine (HE.out _).mono ?_; rintro e v ⟨rfl, hbn⟩; clear x0 x1 x2; replace hx := (hbn.block w.heap.size hl).trans hx; replace hb : Below w.heap.size w v := (by first | exact hb.trans (hbn.mono hb.size) | exact hb.drew.trans (hbn.mono hb.size)); replace hl := Nat.lt_of_lt_of_le hl hbn.size; clear hbn; obtain ⟨x0, x1, x2⟩ := val_cells hx))
  go_wp2_with (fail)
  refine (HG.out _).mono ?_
  rintro e w1 ⟨rfl, hb1⟩
  clear x0 x1 x2
  replace hx := (hb1.block w.heap.size hl).trans hx
  have hs : Below w.heap.size w w1 := hb.trans (hb1.mono hb.size)
  clear hb1 hb hl
  obtain ⟨f0, f1, f2⟩ := val_frozen hx
  obtain ⟨x0, x1, x2⟩ := val_cells hx
  have hs2 : ∀ k' n' t', Below w.heap.size w (((w1.setCell ⟨w.heap.size, 0, none⟩ (.int .i64 k')).setCell ⟨w.heap.size, 1, none⟩ (.int .i64 n')).setCell ⟨w.heap.size, 2, none⟩ (.string t')) := fun k' n' t' => ((hs.setCell (p := ⟨w.heap.size, 0, none⟩) (by simp) _).setCell (p := ⟨w.heap.size, 1, none⟩) (by simp) _).setCell (p := ⟨w.heap.size, 2, none⟩) (by simp) _
  clear hx hs
  go_wp2_with (fail)
  refine (HN.out _).mono ?_
  rintro e w2 ⟨rfl, rfl⟩
  go_wp2
  go_ret
  exact ⟨rfl, hs2 _ _ _⟩

theorem show_to (t : ByteArray) (w : World) (hk : ¬ t.toList = []) (gk gn y : Int) (gt r : ByteArray) (h4 : (gk == 4) = false) (HG0 : ∀ w, Calls Tryd.prog 28 #[.agg #[.int .i64 4, .int .i64 7, .string t]] w fun e w' => e = .returned (.agg #[.int .i64 gk, .int .i64 gn, .string gt]) ∧ Below w.heap.size w w') (HN0 : ∀ w', Below w.heap.size w w' → Calls Tryd.prog 10 #[.agg #[.int .i64 gk, .int .i64 gn, .string gt]] w' fun e w'' => e = .returned (.tuple #[.string r, .int .i64 y]) ∧ Below w'.heap.size w' w'') : Calls Tryd.prog 8 #[.agg #[.int .i64 4, .int .i64 7, .string t]] w fun e w' => e = .returned (.string r) ∧ Below w.heap.size w w' := by
  have HN := Lib.hid HN0
  clear HN0
  have HE := Lib.hid (fun w => fault_any 7 w)
  have HG := Lib.hid HG0
  clear HG0
  go_enter Tryd.func8, Tryd.ntmps8
  go_upto_region 1 with (fail)
  have hx : (w.alloc (Obj.cells #[.int .i64 4, .int .i64 7, .string t] 26)).heap[w.heap.size]? = some (.cells #[.int .i64 4, .int .i64 7, .string t] 26 (0, 0)) := heap_alloc_new _ _
  have hb : Below w.heap.size w (w.alloc (Obj.cells #[.int .i64 4, .int .i64 7, .string t] 26)) := (Below.refl _ _).alloc (Nat.le_refl w.heap.size) _
  have hl : w.heap.size < (w.alloc (Obj.cells #[.int .i64 4, .int .i64 7, .string t] 26)).heap.size := by simp
  generalize (w.alloc (Obj.cells #[.int .i64 4, .int .i64 7, .string t] 26)) = W0 at *
  obtain ⟨x0, x1, x2⟩ := val_cells hx
  go_region_held3 (fun w' => w'.cell? ⟨w.heap.size, 0, none⟩ = some (.int .i64 4) ∧ w'.cell? ⟨w.heap.size, 1, none⟩ = some (.int .i64 7) ∧ w'.cell? ⟨w.heap.size, 2, none⟩ = some (.string t))
    (first | go_keep | exact ⟨x0, x1, x2⟩)
    ((go_at_call 26; refine (HE.out _).mono ?_; rintro e v ⟨rfl, hbn⟩; clear x0 x1 x2; replace hx := (hbn.block w.heap.size hl).trans hx; replace hb : Below w.heap.size w v := (by first | exact hb.trans (hbn.mono hb.size) | exact hb.drew.trans (hbn.mono hb.size)); replace hl := Nat.lt_of_lt_of_le hl hbn.size; clear hbn; obtain ⟨x0, x1, x2⟩ := val_cells hx))
  go_wp2_with (fail)
  refine (HG.out _).mono ?_
  rintro e w1 ⟨rfl, hb1⟩
  clear x0 x1 x2
  replace hx := (hb1.block w.heap.size hl).trans hx
  have hs : Below w.heap.size w w1 := hb.trans (hb1.mono hb.size)
  clear hb1 hb hl
  obtain ⟨f0, f1, f2⟩ := val_frozen hx
  obtain ⟨x0, x1, x2⟩ := val_cells hx
  have hs2 : ∀ k' n' t', Below w.heap.size w (((w1.setCell ⟨w.heap.size, 0, none⟩ (.int .i64 k')).setCell ⟨w.heap.size, 1, none⟩ (.int .i64 n')).setCell ⟨w.heap.size, 2, none⟩ (.string t')) := fun k' n' t' => ((hs.setCell (p := ⟨w.heap.size, 0, none⟩) (by simp) _).setCell (p := ⟨w.heap.size, 1, none⟩) (by simp) _).setCell (p := ⟨w.heap.size, 2, none⟩) (by simp) _
  clear hx hs
  go_wp2_with (fail)
  refine (HN.out _ (hs2 _ _ _)).mono ?_
  rintro e w2 ⟨rfl, hb2⟩
  have hs3 := (hs2 _ _ _).trans (hb2.mono (hs2 _ _ _).size)
  clear hb2 hs2
  go_wp2
  go_ret
  exact ⟨rfl, hs3⟩

theorem rshow_t1 (t : ByteArray) (w : World) (hk : ¬ t.toList = []) (r : ByteArray) (HN0 : ∀ w', Below w.heap.size w w' → Calls Tryd.prog 21 #[.agg #[.int .i64 4, .int .i64 7, .string t]] w' fun e w'' => e = .returned (.tuple #[.string r, .int .i64 1]) ∧ Below w'.heap.size w' w'') : Calls Tryd.prog 24 #[.agg #[.int .i64 4, .int .i64 7, .string t]] w fun e w' => e = .returned (.string ⟨#[35, 78, 65, 77, 69, 63]⟩) ∧ Below w.heap.size w w' := by
  have HE := Lib.hid (fun w => rerr_any 7 w)
  have HR := Lib.hid (fun w => errors_any w)
  have HN := Lib.hid HN0
  clear HN0
  go_enter Tryd.func24, Tryd.ntmps24
  go_upto_region 1 with (fail)
  have hx : (w.alloc (Obj.cells #[.int .i64 4, .int .i64 7, .string t] 26)).heap[w.heap.size]? = some (.cells #[.int .i64 4, .int .i64 7, .string t] 26 (0, 0)) := heap_alloc_new _ _
  have hb : Below w.heap.size w (w.alloc (Obj.cells #[.int .i64 4, .int .i64 7, .string t] 26)) := (Below.refl _ _).alloc (Nat.le_refl w.heap.size) _
  have hl : w.heap.size < (w.alloc (Obj.cells #[.int .i64 4, .int .i64 7, .string t] 26)).heap.size := by simp
  generalize (w.alloc (Obj.cells #[.int .i64 4, .int .i64 7, .string t] 26)) = W0 at *
  obtain ⟨x0, x1, x2⟩ := val_cells hx
  go_region_held3 (fun w' => w'.cell? ⟨w.heap.size, 0, none⟩ = some (.int .i64 4) ∧ w'.cell? ⟨w.heap.size, 1, none⟩ = some (.int .i64 7) ∧ w'.cell? ⟨w.heap.size, 2, none⟩ = some (.string t))
    (first | go_keep | exact ⟨x0, x1, x2⟩)
    ((go_at_call 57; refine (HE.out _).mono ?_; rintro e v ⟨rfl, hbn⟩; clear x0 x1 x2; replace hx := (hbn.block w.heap.size hl).trans hx; replace hb : Below w.heap.size w v := (by first | exact hb.trans (hbn.mono hb.size) | exact hb.drew.trans (hbn.mono hb.size)); replace hl := Nat.lt_of_lt_of_le hl hbn.size; clear hbn; obtain ⟨x0, x1, x2⟩ := val_cells hx))
  clear hx hl
  go_wp2_with (fail)
  refine (HN.out _ hb).mono ?_
  rintro e w2 ⟨rfl, hb2⟩
  replace hb := hb.trans (hb2.mono hb.size)
  clear hb2
  go_wp2_with (fail)
  refine (HR.out _).mono ?_
  rintro e w5 ⟨rfl, hb5, hc5⟩
  have c5 := Lib.cell_of_heap hc5 1
  have hs5 := hb.trans (hb5.mono hb.size)
  clear hb5 hc5
  simp only [List.getElem?_toArray, List.getElem?_cons_zero, List.getElem?_cons_succ] at c5
  go_wp2
  go_ret
  exact ⟨rfl, hs5⟩

theorem rshow_t2 (t : ByteArray) (w : World) (hk : ¬ t.toList = []) (r : ByteArray) (HN0 : ∀ w', Below w.heap.size w w' → Calls Tryd.prog 21 #[.agg #[.int .i64 4, .int .i64 7, .string t]] w' fun e w'' => e = .returned (.tuple #[.string r, .int .i64 2]) ∧ Below w'.heap.size w' w'') : Calls Tryd.prog 24 #[.agg #[.int .i64 4, .int .i64 7, .string t]] w fun e w' => e = .returned (.string ⟨#[35, 78, 85, 77, 33]⟩) ∧ Below w.heap.size w w' := by
  have HE := Lib.hid (fun w => rerr_any 7 w)
  have HR := Lib.hid (fun w => errors_any w)
  have HN := Lib.hid HN0
  clear HN0
  go_enter Tryd.func24, Tryd.ntmps24
  go_upto_region 1 with (fail)
  have hx : (w.alloc (Obj.cells #[.int .i64 4, .int .i64 7, .string t] 26)).heap[w.heap.size]? = some (.cells #[.int .i64 4, .int .i64 7, .string t] 26 (0, 0)) := heap_alloc_new _ _
  have hb : Below w.heap.size w (w.alloc (Obj.cells #[.int .i64 4, .int .i64 7, .string t] 26)) := (Below.refl _ _).alloc (Nat.le_refl w.heap.size) _
  have hl : w.heap.size < (w.alloc (Obj.cells #[.int .i64 4, .int .i64 7, .string t] 26)).heap.size := by simp
  generalize (w.alloc (Obj.cells #[.int .i64 4, .int .i64 7, .string t] 26)) = W0 at *
  obtain ⟨x0, x1, x2⟩ := val_cells hx
  go_region_held3 (fun w' => w'.cell? ⟨w.heap.size, 0, none⟩ = some (.int .i64 4) ∧ w'.cell? ⟨w.heap.size, 1, none⟩ = some (.int .i64 7) ∧ w'.cell? ⟨w.heap.size, 2, none⟩ = some (.string t))
    (first | go_keep | exact ⟨x0, x1, x2⟩)
    ((go_at_call 57; refine (HE.out _).mono ?_; rintro e v ⟨rfl, hbn⟩; clear x0 x1 x2; replace hx := (hbn.block w.heap.size hl).trans hx; replace hb : Below w.heap.size w v := (by first | exact hb.trans (hbn.mono hb.size) | exact hb.drew.trans (hbn.mono hb.size)); replace hl := Nat.lt_of_lt_of_le hl hbn.size; clear hbn; obtain ⟨x0, x1, x2⟩ := val_cells hx))
  clear hx hl
  go_wp2_with (fail)
  refine (HN.out _ hb).mono ?_
  rintro e w2 ⟨rfl, hb2⟩
  replace hb := hb.trans (hb2.mono hb.size)
  clear hb2
  go_wp2_with (fail)
  refine (HR.out _).mono ?_
  rintro e w5 ⟨rfl, hb5, hc5⟩
  have c5 := Lib.cell_of_heap hc5 2
  have hs5 := hb.trans (hb5.mono hb.size)
  clear hb5 hc5
  simp only [List.getElem?_toArray, List.getElem?_cons_zero, List.getElem?_cons_succ] at c5
  go_wp2
  go_ret
  exact ⟨rfl, hs5⟩

theorem rshow_t3 (t : ByteArray) (w : World) (hk : ¬ t.toList = []) (r : ByteArray) (HN0 : ∀ w', Below w.heap.size w w' → Calls Tryd.prog 21 #[.agg #[.int .i64 4, .int .i64 7, .string t]] w' fun e w'' => e = .returned (.tuple #[.string r, .int .i64 3]) ∧ Below w'.heap.size w' w'') : Calls Tryd.prog 24 #[.agg #[.int .i64 4, .int .i64 7, .string t]] w fun e w' => e = .returned (.string ⟨#[35, 82, 69, 70, 33]⟩) ∧ Below w.heap.size w w' := by
  have HE := Lib.hid (fun w => rerr_any 7 w)
  have HR := Lib.hid (fun w => errors_any w)
  have HN := Lib.hid HN0
  clear HN0
  go_enter Tryd.func24, Tryd.ntmps24
  go_upto_region 1 with (fail)
  have hx : (w.alloc (Obj.cells #[.int .i64 4, .int .i64 7, .string t] 26)).heap[w.heap.size]? = some (.cells #[.int .i64 4, .int .i64 7, .string t] 26 (0, 0)) := heap_alloc_new _ _
  have hb : Below w.heap.size w (w.alloc (Obj.cells #[.int .i64 4, .int .i64 7, .string t] 26)) := (Below.refl _ _).alloc (Nat.le_refl w.heap.size) _
  have hl : w.heap.size < (w.alloc (Obj.cells #[.int .i64 4, .int .i64 7, .string t] 26)).heap.size := by simp
  generalize (w.alloc (Obj.cells #[.int .i64 4, .int .i64 7, .string t] 26)) = W0 at *
  obtain ⟨x0, x1, x2⟩ := val_cells hx
  go_region_held3 (fun w' => w'.cell? ⟨w.heap.size, 0, none⟩ = some (.int .i64 4) ∧ w'.cell? ⟨w.heap.size, 1, none⟩ = some (.int .i64 7) ∧ w'.cell? ⟨w.heap.size, 2, none⟩ = some (.string t))
    (first | go_keep | exact ⟨x0, x1, x2⟩)
    ((go_at_call 57; refine (HE.out _).mono ?_; rintro e v ⟨rfl, hbn⟩; clear x0 x1 x2; replace hx := (hbn.block w.heap.size hl).trans hx; replace hb : Below w.heap.size w v := (by first | exact hb.trans (hbn.mono hb.size) | exact hb.drew.trans (hbn.mono hb.size)); replace hl := Nat.lt_of_lt_of_le hl hbn.size; clear hbn; obtain ⟨x0, x1, x2⟩ := val_cells hx))
  clear hx hl
  go_wp2_with (fail)
  refine (HN.out _ hb).mono ?_
  rintro e w2 ⟨rfl, hb2⟩
  replace hb := hb.trans (hb2.mono hb.size)
  clear hb2
  go_wp2_with (fail)
  refine (HR.out _).mono ?_
  rintro e w5 ⟨rfl, hb5, hc5⟩
  have c5 := Lib.cell_of_heap hc5 3
  have hs5 := hb.trans (hb5.mono hb.size)
  clear hb5 hc5
  simp only [List.getElem?_toArray, List.getElem?_cons_zero, List.getElem?_cons_succ] at c5
  go_wp2
  go_ret
  exact ⟨rfl, hs5⟩

theorem rshow_t4 (t : ByteArray) (w : World) (hk : ¬ t.toList = []) (r : ByteArray) (HN0 : ∀ w', Below w.heap.size w w' → Calls Tryd.prog 21 #[.agg #[.int .i64 4, .int .i64 7, .string t]] w' fun e w'' => e = .returned (.tuple #[.string r, .int .i64 4]) ∧ Below w'.heap.size w' w'') : Calls Tryd.prog 24 #[.agg #[.int .i64 4, .int .i64 7, .string t]] w fun e w' => e = .returned (.string ⟨#[35, 86, 65, 76, 85, 69, 33]⟩) ∧ Below w.heap.size w w' := by
  have HE := Lib.hid (fun w => rerr_any 7 w)
  have HR := Lib.hid (fun w => errors_any w)
  have HN := Lib.hid HN0
  clear HN0
  go_enter Tryd.func24, Tryd.ntmps24
  go_upto_region 1 with (fail)
  have hx : (w.alloc (Obj.cells #[.int .i64 4, .int .i64 7, .string t] 26)).heap[w.heap.size]? = some (.cells #[.int .i64 4, .int .i64 7, .string t] 26 (0, 0)) := heap_alloc_new _ _
  have hb : Below w.heap.size w (w.alloc (Obj.cells #[.int .i64 4, .int .i64 7, .string t] 26)) := (Below.refl _ _).alloc (Nat.le_refl w.heap.size) _
  have hl : w.heap.size < (w.alloc (Obj.cells #[.int .i64 4, .int .i64 7, .string t] 26)).heap.size := by simp
  generalize (w.alloc (Obj.cells #[.int .i64 4, .int .i64 7, .string t] 26)) = W0 at *
  obtain ⟨x0, x1, x2⟩ := val_cells hx
  go_region_held3 (fun w' => w'.cell? ⟨w.heap.size, 0, none⟩ = some (.int .i64 4) ∧ w'.cell? ⟨w.heap.size, 1, none⟩ = some (.int .i64 7) ∧ w'.cell? ⟨w.heap.size, 2, none⟩ = some (.string t))
    (first | go_keep | exact ⟨x0, x1, x2⟩)
    ((go_at_call 57; refine (HE.out _).mono ?_; rintro e v ⟨rfl, hbn⟩; clear x0 x1 x2; replace hx := (hbn.block w.heap.size hl).trans hx; replace hb : Below w.heap.size w v := (by first | exact hb.trans (hbn.mono hb.size) | exact hb.drew.trans (hbn.mono hb.size)); replace hl := Nat.lt_of_lt_of_le hl hbn.size; clear hbn; obtain ⟨x0, x1, x2⟩ := val_cells hx))
  clear hx hl
  go_wp2_with (fail)
  refine (HN.out _ hb).mono ?_
  rintro e w2 ⟨rfl, hb2⟩
  replace hb := hb.trans (hb2.mono hb.size)
  clear hb2
  go_wp2_with (fail)
  refine (HR.out _).mono ?_
  rintro e w5 ⟨rfl, hb5, hc5⟩
  have c5 := Lib.cell_of_heap hc5 4
  have hs5 := hb.trans (hb5.mono hb.size)
  clear hb5 hc5
  simp only [List.getElem?_toArray, List.getElem?_cons_zero, List.getElem?_cons_succ] at c5
  go_wp2
  go_ret
  exact ⟨rfl, hs5⟩

theorem rshow_t5 (t : ByteArray) (w : World) (hk : ¬ t.toList = []) (r : ByteArray) (HN0 : ∀ w', Below w.heap.size w w' → Calls Tryd.prog 21 #[.agg #[.int .i64 4, .int .i64 7, .string t]] w' fun e w'' => e = .returned (.tuple #[.string r, .int .i64 5]) ∧ Below w'.heap.size w' w'') : Calls Tryd.prog 24 #[.agg #[.int .i64 4, .int .i64 7, .string t]] w fun e w' => e = .returned (.string ⟨#[35, 68, 73, 86, 47, 48, 33]⟩) ∧ Below w.heap.size w w' := by
  have HE := Lib.hid (fun w => rerr_any 7 w)
  have HR := Lib.hid (fun w => errors_any w)
  have HN := Lib.hid HN0
  clear HN0
  go_enter Tryd.func24, Tryd.ntmps24
  go_upto_region 1 with (fail)
  have hx : (w.alloc (Obj.cells #[.int .i64 4, .int .i64 7, .string t] 26)).heap[w.heap.size]? = some (.cells #[.int .i64 4, .int .i64 7, .string t] 26 (0, 0)) := heap_alloc_new _ _
  have hb : Below w.heap.size w (w.alloc (Obj.cells #[.int .i64 4, .int .i64 7, .string t] 26)) := (Below.refl _ _).alloc (Nat.le_refl w.heap.size) _
  have hl : w.heap.size < (w.alloc (Obj.cells #[.int .i64 4, .int .i64 7, .string t] 26)).heap.size := by simp
  generalize (w.alloc (Obj.cells #[.int .i64 4, .int .i64 7, .string t] 26)) = W0 at *
  obtain ⟨x0, x1, x2⟩ := val_cells hx
  go_region_held3 (fun w' => w'.cell? ⟨w.heap.size, 0, none⟩ = some (.int .i64 4) ∧ w'.cell? ⟨w.heap.size, 1, none⟩ = some (.int .i64 7) ∧ w'.cell? ⟨w.heap.size, 2, none⟩ = some (.string t))
    (first | go_keep | exact ⟨x0, x1, x2⟩)
    ((go_at_call 57; refine (HE.out _).mono ?_; rintro e v ⟨rfl, hbn⟩; clear x0 x1 x2; replace hx := (hbn.block w.heap.size hl).trans hx; replace hb : Below w.heap.size w v := (by first | exact hb.trans (hbn.mono hb.size) | exact hb.drew.trans (hbn.mono hb.size)); replace hl := Nat.lt_of_lt_of_le hl hbn.size; clear hbn; obtain ⟨x0, x1, x2⟩ := val_cells hx))
  clear hx hl
  go_wp2_with (fail)
  refine (HN.out _ hb).mono ?_
  rintro e w2 ⟨rfl, hb2⟩
  replace hb := hb.trans (hb2.mono hb.size)
  clear hb2
  go_wp2_with (fail)
  refine (HR.out _).mono ?_
  rintro e w5 ⟨rfl, hb5, hc5⟩
  have c5 := Lib.cell_of_heap hc5 5
  have hs5 := hb.trans (hb5.mono hb.size)
  clear hb5 hc5
  simp only [List.getElem?_toArray, List.getElem?_cons_zero, List.getElem?_cons_succ] at c5
  go_wp2
  go_ret
  exact ⟨rfl, hs5⟩

theorem rshow_t6 (t : ByteArray) (w : World) (hk : ¬ t.toList = []) (r : ByteArray) (HN0 : ∀ w', Below w.heap.size w w' → Calls Tryd.prog 21 #[.agg #[.int .i64 4, .int .i64 7, .string t]] w' fun e w'' => e = .returned (.tuple #[.string r, .int .i64 6]) ∧ Below w'.heap.size w' w'') : Calls Tryd.prog 24 #[.agg #[.int .i64 4, .int .i64 7, .string t]] w fun e w' => e = .returned (.string ⟨#[35, 78, 47, 65]⟩) ∧ Below w.heap.size w w' := by
  have HE := Lib.hid (fun w => rerr_any 7 w)
  have HR := Lib.hid (fun w => errors_any w)
  have HN := Lib.hid HN0
  clear HN0
  go_enter Tryd.func24, Tryd.ntmps24
  go_upto_region 1 with (fail)
  have hx : (w.alloc (Obj.cells #[.int .i64 4, .int .i64 7, .string t] 26)).heap[w.heap.size]? = some (.cells #[.int .i64 4, .int .i64 7, .string t] 26 (0, 0)) := heap_alloc_new _ _
  have hb : Below w.heap.size w (w.alloc (Obj.cells #[.int .i64 4, .int .i64 7, .string t] 26)) := (Below.refl _ _).alloc (Nat.le_refl w.heap.size) _
  have hl : w.heap.size < (w.alloc (Obj.cells #[.int .i64 4, .int .i64 7, .string t] 26)).heap.size := by simp
  generalize (w.alloc (Obj.cells #[.int .i64 4, .int .i64 7, .string t] 26)) = W0 at *
  obtain ⟨x0, x1, x2⟩ := val_cells hx
  go_region_held3 (fun w' => w'.cell? ⟨w.heap.size, 0, none⟩ = some (.int .i64 4) ∧ w'.cell? ⟨w.heap.size, 1, none⟩ = some (.int .i64 7) ∧ w'.cell? ⟨w.heap.size, 2, none⟩ = some (.string t))
    (first | go_keep | exact ⟨x0, x1, x2⟩)
    ((go_at_call 57; refine (HE.out _).mono ?_; rintro e v ⟨rfl, hbn⟩; clear x0 x1 x2; replace hx := (hbn.block w.heap.size hl).trans hx; replace hb : Below w.heap.size w v := (by first | exact hb.trans (hbn.mono hb.size) | exact hb.drew.trans (hbn.mono hb.size)); replace hl := Nat.lt_of_lt_of_le hl hbn.size; clear hbn; obtain ⟨x0, x1, x2⟩ := val_cells hx))
  clear hx hl
  go_wp2_with (fail)
  refine (HN.out _ hb).mono ?_
  rintro e w2 ⟨rfl, hb2⟩
  replace hb := hb.trans (hb2.mono hb.size)
  clear hb2
  go_wp2_with (fail)
  refine (HR.out _).mono ?_
  rintro e w5 ⟨rfl, hb5, hc5⟩
  have c5 := Lib.cell_of_heap hc5 6
  have hs5 := hb.trans (hb5.mono hb.size)
  clear hb5 hc5
  simp only [List.getElem?_toArray, List.getElem?_cons_zero, List.getElem?_cons_succ] at c5
  go_wp2
  go_ret
  exact ⟨rfl, hs5⟩

theorem rshow_to (t : ByteArray) (w : World) (hk : ¬ t.toList = []) (r : ByteArray) (HN0 : ∀ w', Below w.heap.size w w' → Calls Tryd.prog 21 #[.agg #[.int .i64 4, .int .i64 7, .string t]] w' fun e w'' => e = .returned (.tuple #[.string r, .int .i64 0]) ∧ Below w'.heap.size w' w'') : Calls Tryd.prog 24 #[.agg #[.int .i64 4, .int .i64 7, .string t]] w fun e w' => e = .returned (.string r) ∧ Below w.heap.size w w' := by
  have HE := Lib.hid (fun w => rerr_any 7 w)
  have HR := Lib.hid (fun w => errors_any w)
  have HN := Lib.hid HN0
  clear HN0
  go_enter Tryd.func24, Tryd.ntmps24
  go_upto_region 1 with (fail)
  have hx : (w.alloc (Obj.cells #[.int .i64 4, .int .i64 7, .string t] 26)).heap[w.heap.size]? = some (.cells #[.int .i64 4, .int .i64 7, .string t] 26 (0, 0)) := heap_alloc_new _ _
  have hb : Below w.heap.size w (w.alloc (Obj.cells #[.int .i64 4, .int .i64 7, .string t] 26)) := (Below.refl _ _).alloc (Nat.le_refl w.heap.size) _
  have hl : w.heap.size < (w.alloc (Obj.cells #[.int .i64 4, .int .i64 7, .string t] 26)).heap.size := by simp
  generalize (w.alloc (Obj.cells #[.int .i64 4, .int .i64 7, .string t] 26)) = W0 at *
  obtain ⟨x0, x1, x2⟩ := val_cells hx
  go_region_held3 (fun w' => w'.cell? ⟨w.heap.size, 0, none⟩ = some (.int .i64 4) ∧ w'.cell? ⟨w.heap.size, 1, none⟩ = some (.int .i64 7) ∧ w'.cell? ⟨w.heap.size, 2, none⟩ = some (.string t))
    (first | go_keep | exact ⟨x0, x1, x2⟩)
    ((go_at_call 57; refine (HE.out _).mono ?_; rintro e v ⟨rfl, hbn⟩; clear x0 x1 x2; replace hx := (hbn.block w.heap.size hl).trans hx; replace hb : Below w.heap.size w v := (by first | exact hb.trans (hbn.mono hb.size) | exact hb.drew.trans (hbn.mono hb.size)); replace hl := Nat.lt_of_lt_of_le hl hbn.size; clear hbn; obtain ⟨x0, x1, x2⟩ := val_cells hx))
  clear hx hl
  go_wp2_with (fail)
  refine (HN.out _ hb).mono ?_
  rintro e w2 ⟨rfl, hb2⟩
  replace hb := hb.trans (hb2.mono hb.size)
  clear hb2
  go_wp2
  go_ret
  exact ⟨rfl, hb⟩

theorem Val.textG_zero {g : Val.V} (h : ¬ g.k = 4) : (Val.textG g).2 = 0 := by
  unfold Val.textG
  rw [show (g.k == 4) = false by simpa using h]
  cases (g.k == 1) <;> cases (g.k == 2) <;> rfl
theorem Val.isC_cases (k n : Int) (t : ByteArray) : (Val.isC ⟨k, n, t⟩ = true ∧ k = 4 ∧ n = 7 ∧ t.toList = []) ∨ (Val.isC ⟨k, n, t⟩ = false ∧ ¬ k = 4) ∨ (Val.isC ⟨k, n, t⟩ = false ∧ k = 4 ∧ ¬ n = 7) ∨ (Val.isC ⟨k, n, t⟩ = false ∧ k = 4 ∧ n = 7 ∧ ¬ t.toList = []) := by
  unfold Val.isC
  by_cases h1 : k = 4 <;> by_cases h2 : n = 7 <;> by_cases h3 : t.toList = [] <;> simp [h1, h2, h3]
theorem Val.good_err {v : Val.V} (h : (Val.good v).k = 4) : 1 ≤ (Val.good v).n ∧ (Val.good v).n ≤ 6 := by
  rcases Val.may_cases (Val.good_may v) with ⟨a, b⟩ | ⟨a, b⟩ | ⟨a, b⟩ | ⟨a, b⟩ | ⟨a, b, c, d⟩
  · rw [a] at h; cases h
  · rw [a] at h; cases h
  · rw [a] at h; cases h
  · rw [a] at h; cases h
  · exact ⟨b, c⟩
theorem show_any (v : Val.V) (w : World) (hv : VB v) (hN : NumW w) : Calls Tryd.prog 8 #[vv v] w fun e w' => e = .returned (.string (Val.show v)) ∧ Below w.heap.size w w' := by
  have HG := fun w => vgood_any v w
  have HE := @Val.good_err v
  have HA : ∀ w', Below w.heap.size w w' → Calls Tryd.prog 10 #[vv (Val.good v)] w' fun e w'' => e = .returned (.tuple #[.string (Val.textG (Val.good v)).1, .int .i64 (Val.textG (Val.good v)).2]) ∧ Below w'.heap.size w' w'' := by
    intro w' hb
    have := astext_any (Val.good v) w' hv.good (hN.below hb)
    unfold Val.asText at this
    rw [Val.good_good] at this
    exact this
  unfold Val.show
  generalize Val.good v = g at HG HE HA ⊢
  obtain ⟨gk, gn, gt⟩ := g
  obtain ⟨k, n, t⟩ := v
  simp only at HE ⊢
  have e2 : ∀ t : ByteArray, t.toList = [] → t.toList.isEmpty = true := fun t h => by rw [h]; rfl
  rcases Val.isC_cases k n t with ⟨h, rfl, rfl, h1⟩ | ⟨h, h1⟩ | ⟨h, rfl, h1⟩ | ⟨h, rfl, rfl, h1⟩
  · rw [h]
    exact show_c t w h1 (e2 t h1) (fun w => name_any 7 w (by decide) (by decide))
  · rw [h]
    by_cases h4 : gk = 4
    · subst h4
      exact show_ke k n t w h1 gn gt _ HG (fun w => name_any gn w (by have := HE rfl; omega) (by have := HE rfl; omega))
    · rw [show (gk == 4) = false by simpa using h4]
      exact show_ko k n t w h1 gk gn _ gt _ (by simpa using h4) HG HA
  · rw [h]
    by_cases h4 : gk = 4
    · subst h4
      exact show_ne n t w h1 gn gt _ HG (fun w => name_any gn w (by have := HE rfl; omega) (by have := HE rfl; omega))
    · rw [show (gk == 4) = false by simpa using h4]
      exact show_no n t w h1 gk gn _ gt _ (by simpa using h4) HG HA
  · rw [h]
    by_cases h4 : gk = 4
    · subst h4
      exact show_te t w h1 gn gt _ HG (fun w => name_any gn w (by have := HE rfl; omega) (by have := HE rfl; omega))
    · rw [show (gk == 4) = false by simpa using h4]
      exact show_to t w h1 gk gn _ gt _ (by simpa using h4) HG HA
theorem rshow_any (v : Val.V) (w : World) (hv : VB v) : Calls Tryd.prog 24 #[vv v] w fun e w' => e = .returned (.string (Val.show v)) ∧ Below w.heap.size w w' := by
  have HE := @Val.good_err v
  have HA : ∀ w', Below w.heap.size w w' → Calls Tryd.prog 21 #[vv v] w' fun e w'' => e = .returned (.tuple #[.string (Val.textG (Val.good v)).1, .int .i64 (Val.textG (Val.good v)).2]) ∧ Below w'.heap.size w' w'' := fun w' _ => rastext_any v w' hv
  unfold Val.show
  generalize Val.good v = g at HE HA ⊢
  obtain ⟨gk, gn, gt⟩ := g
  obtain ⟨k, n, t⟩ := v
  simp only at HE ⊢
  have e2 : ∀ t : ByteArray, t.toList = [] → t.toList.isEmpty = true := fun t h => by rw [h]; rfl
  rcases Val.isC_cases k n t with ⟨h, rfl, rfl, h1⟩ | ⟨h, h1⟩ | ⟨h, rfl, h1⟩ | ⟨h, rfl, rfl, h1⟩
  · rw [h]
    exact rshow_c t w h1 (e2 t h1)
  · rw [h]
    by_cases h4 : gk = 4
    · subst h4
      have hy : (Val.textG ⟨4, gn, gt⟩).2 = gn := rfl
      rw [hy] at HA
      obtain rfl | rfl | rfl | rfl | rfl | rfl : gn = 1 ∨ gn = 2 ∨ gn = 3 ∨ gn = 4 ∨ gn = 5 ∨ gn = 6 := by have := HE rfl; omega
      · exact rshow_k1 k n t w h1 _ HA
      · exact rshow_k2 k n t w h1 _ HA
      · exact rshow_k3 k n t w h1 _ HA
      · exact rshow_k4 k n t w h1 _ HA
      · exact rshow_k5 k n t w h1 _ HA
      · exact rshow_k6 k n t w h1 _ HA
    · rw [show (gk == 4) = false by simpa using h4]
      rw [Val.textG_zero (g := ⟨gk, gn, gt⟩) h4] at HA
      exact rshow_ko k n t w h1 _ HA
  · rw [h]
    by_cases h4 : gk = 4
    · subst h4
      have hy : (Val.textG ⟨4, gn, gt⟩).2 = gn := rfl
      rw [hy] at HA
      obtain rfl | rfl | rfl | rfl | rfl | rfl : gn = 1 ∨ gn = 2 ∨ gn = 3 ∨ gn = 4 ∨ gn = 5 ∨ gn = 6 := by have := HE rfl; omega
      · exact rshow_n1 n t w h1 _ HA
      · exact rshow_n2 n t w h1 _ HA
      · exact rshow_n3 n t w h1 _ HA
      · exact rshow_n4 n t w h1 _ HA
      · exact rshow_n5 n t w h1 _ HA
      · exact rshow_n6 n t w h1 _ HA
    · rw [show (gk == 4) = false by simpa using h4]
      rw [Val.textG_zero (g := ⟨gk, gn, gt⟩) h4] at HA
      exact rshow_no n t w h1 _ HA
  · rw [h]
    by_cases h4 : gk = 4
    · subst h4
      have hy : (Val.textG ⟨4, gn, gt⟩).2 = gn := rfl
      rw [hy] at HA
      obtain rfl | rfl | rfl | rfl | rfl | rfl : gn = 1 ∨ gn = 2 ∨ gn = 3 ∨ gn = 4 ∨ gn = 5 ∨ gn = 6 := by have := HE rfl; omega
      · exact rshow_t1 t w h1 _ HA
      · exact rshow_t2 t w h1 _ HA
      · exact rshow_t3 t w h1 _ HA
      · exact rshow_t4 t w h1 _ HA
      · exact rshow_t5 t w h1 _ HA
      · exact rshow_t6 t w h1 _ HA
    · rw [show (gk == 4) = false by simpa using h4]
      rw [Val.textG_zero (g := ⟨gk, gn, gt⟩) h4] at HA
      exact rshow_to t w h1 _ HA
end Go.Proofs.YtdbjmjeiaajdiaaDoor
