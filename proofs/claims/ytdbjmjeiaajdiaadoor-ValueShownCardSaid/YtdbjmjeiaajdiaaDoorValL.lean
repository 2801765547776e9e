/- The walk of quadrillelaw4.ValueShown. -/
import Derived.Test.YtdbjmjeiaajdiaaDoorValI
namespace Go.Proofs.YtdbjmjeiaajdiaaDoor
open Go.RowKit
set_option linter.unusedVariables false

set_option maxRecDepth 100000 in
theorem shown_x (k n : Int) (t : ByteArray) (w : World) 
    (HB0 : ∀ w', Below w.heap.size w w' → Calls Tryd.prog 6 #[] w' fun e w'' => e = .returned (.bool true) ∧ Below w'.heap.size w' w'')
    (H10 : ∀ w', Below w.heap.size w w' → Calls Tryd.prog 8 #[.agg #[.int .i64 k, .int .i64 n, .string t]] w' fun e w'' => e = .returned (.string ⟨#[35, 86, 65, 76, 85, 69, 33]⟩) ∧ Below w'.heap.size w' w'')
    (H20 : ∀ w', Below w.heap.size w w' → Calls Tryd.prog 9 #[.agg #[.int .i64 k, .int .i64 n, .string t]] w' fun e w'' => e = .returned (.bool false) ∧ Below w'.heap.size w' w'')
    : Calls Tryd.prog 4 #[.agg #[.int .i64 k, .int .i64 n, .string t]] w fun e w' => e = .returned (.bool true) ∧ Below w.heap.size w w' := by
  have HB := Lib.hid HB0
  have H1 := Lib.hid H10
  have H2 := Lib.hid H20
  clear HB0 H10 H20
  go_enter Tryd.func4, Tryd.ntmps4
  go_upto_region 1 with (fail)
  have hx : (w.alloc (Obj.cells #[.int .i64 k, .int .i64 n, .string t] 26)).heap[w.heap.size]? = some (.cells #[.int .i64 k, .int .i64 n, .string t] 26 (0, 0)) := heap_alloc_new _ _
  have hb : Below w.heap.size w (w.alloc (Obj.cells #[.int .i64 k, .int .i64 n, .string t] 26)) := (Below.refl _ _).alloc (Nat.le_refl _) _
  have hl : w.heap.size < (w.alloc (Obj.cells #[.int .i64 k, .int .i64 n, .string t] 26)).heap.size := by simp
  generalize (w.alloc (Obj.cells #[.int .i64 k, .int .i64 n, .string t] 26)) = W0 at *
  obtain ⟨x0, x1, x2⟩ := val_cells hx
  go_wp2_with (fail)
  refine (HB.out _ hb).mono ?_
  rintro e w1 ⟨rfl, hb1⟩
  replace hx := (hb1.block w.heap.size hl).trans hx
  replace hb := hb.trans (hb1.mono hb.size)
  replace hl := Nat.lt_of_lt_of_le hl hb1.size
  clear hb1 x0 x1 x2
  obtain ⟨x0, x1, x2⟩ := val_cells hx
  go_wp2_with (fail)
  refine (H1.out _ hb).mono ?_
  rintro e w2 ⟨rfl, hb2⟩
  replace hx := (hb2.block w.heap.size hl).trans hx
  replace hb := hb.trans (hb2.mono hb.size)
  replace hl := Nat.lt_of_lt_of_le hl hb2.size
  clear hb2 x0 x1 x2
  obtain ⟨x0, x1, x2⟩ := val_cells hx
  go_wp2_with (fail)
  refine (H2.out _ hb).mono ?_
  rintro e w3 ⟨rfl, hb3⟩
  replace hx := (hb3.block w.heap.size hl).trans hx
  replace hb := hb.trans (hb3.mono hb.size)
  replace hl := Nat.lt_of_lt_of_le hl hb3.size
  clear hb3 x0 x1 x2
  obtain ⟨x0, x1, x2⟩ := val_cells hx
  go_wp2
  go_ret
  exact ⟨rfl, hb⟩

set_option maxRecDepth 100000 in
theorem shown_c (w : World) 
    (HB0 : ∀ w', Below w.heap.size w w' → Calls Tryd.prog 6 #[] w' fun e w'' => e = .returned (.bool true) ∧ Below w'.heap.size w' w'')
    (H10 : ∀ w', Below w.heap.size w w' → Calls Tryd.prog 8 #[.agg #[.int .i64 4, .int .i64 7, .string ⟨#[]⟩]] w' fun e w'' => e = .returned (.string ⟨#[35, 67, 89, 67, 76, 69, 33]⟩) ∧ Below w'.heap.size w' w'')
    (H20 : ∀ w', Below w.heap.size w w' → Calls Tryd.prog 9 #[.agg #[.int .i64 4, .int .i64 7, .string ⟨#[]⟩]] w' fun e w'' => e = .returned (.bool false) ∧ Below w'.heap.size w' w'')
    : Calls Tryd.prog 4 #[.agg #[.int .i64 4, .int .i64 7, .string ⟨#[]⟩]] w fun e w' => e = .returned (.bool true) ∧ Below w.heap.size w w' := by
  have HB := Lib.hid HB0
  have H1 := Lib.hid H10
  have H2 := Lib.hid H20
  clear HB0 H10 H20
  go_enter Tryd.func4, Tryd.ntmps4
  go_upto_region 1 with (fail)
  have hx : (w.alloc (Obj.cells #[.int .i64 4, .int .i64 7, .string ⟨#[]⟩] 26)).heap[w.heap.size]? = some (.cells #[.int .i64 4, .int .i64 7, .string ⟨#[]⟩] 26 (0, 0)) := heap_alloc_new _ _
  have hb : Below w.heap.size w (w.alloc (Obj.cells #[.int .i64 4, .int .i64 7, .string ⟨#[]⟩] 26)) := (Below.refl _ _).alloc (Nat.le_refl _) _
  have hl : w.heap.size < (w.alloc (Obj.cells #[.int .i64 4, .int .i64 7, .string ⟨#[]⟩] 26)).heap.size := by simp
  generalize (w.alloc (Obj.cells #[.int .i64 4, .int .i64 7, .string ⟨#[]⟩] 26)) = W0 at *
  obtain ⟨x0, x1, x2⟩ := val_cells hx
  go_wp2_with (fail)
  refine (HB.out _ hb).mono ?_
  rintro e w1 ⟨rfl, hb1⟩
  replace hx := (hb1.block w.heap.size hl).trans hx
  replace hb := hb.trans (hb1.mono hb.size)
  replace hl := Nat.lt_of_lt_of_le hl hb1.size
  clear hb1 x0 x1 x2
  obtain ⟨x0, x1, x2⟩ := val_cells hx
  go_wp2_with (fail)
  refine (H1.out _ hb).mono ?_
  rintro e w2 ⟨rfl, hb2⟩
  replace hx := (hb2.block w.heap.size hl).trans hx
  replace hb := hb.trans (hb2.mono hb.size)
  replace hl := Nat.lt_of_lt_of_le hl hb2.size
  clear hb2 x0 x1 x2
  obtain ⟨x0, x1, x2⟩ := val_cells hx
  go_wp2_with (fail)
  refine (H2.out _ hb).mono ?_
  rintro e w3 ⟨rfl, hb3⟩
  replace hx := (hb3.block w.heap.size hl).trans hx
  replace hb := hb.trans (hb3.mono hb.size)
  replace hl := Nat.lt_of_lt_of_le hl hb3.size
  clear hb3 x0 x1 x2
  obtain ⟨x0, x1, x2⟩ := val_cells hx
  go_wp2
  go_ret
  exact ⟨rfl, hb⟩

set_option maxRecDepth 100000 in
theorem shown_b (w : World) 
    (HB0 : ∀ w', Below w.heap.size w w' → Calls Tryd.prog 6 #[] w' fun e w'' => e = .returned (.bool true) ∧ Below w'.heap.size w' w'')
    (H10 : ∀ w', Below w.heap.size w w' → Calls Tryd.prog 8 #[.agg #[.int .i64 0, .int .i64 0, .string ⟨#[]⟩]] w' fun e w'' => e = .returned (.string ⟨#[]⟩) ∧ Below w'.heap.size w' w'')
    (H20 : ∀ w', Below w.heap.size w w' → Calls Tryd.prog 9 #[.agg #[.int .i64 0, .int .i64 0, .string ⟨#[]⟩]] w' fun e w'' => e = .returned (.bool true) ∧ Below w'.heap.size w' w'')
    (H30 : ∀ w', Below w.heap.size w w' → Calls Tryd.prog 10 #[.agg #[.int .i64 0, .int .i64 0, .string ⟨#[]⟩]] w' fun e w'' => e = .returned (.tuple #[.string ⟨#[]⟩, .int .i64 0]) ∧ Below w'.heap.size w' w'')
    (H40 : ∀ w', Below w.heap.size w w' → Calls Tryd.prog 11 #[.string ⟨#[]⟩] w' fun e w'' => e = .returned (.tuple #[.agg #[.int .i64 0, .int .i64 0, .string ⟨#[]⟩], .bool true]) ∧ Below w'.heap.size w' w'')
    : Calls Tryd.prog 4 #[.agg #[.int .i64 0, .int .i64 0, .string ⟨#[]⟩]] w fun e w' => e = .returned (.bool true) ∧ Below w.heap.size w w' := by
  have HB := Lib.hid HB0
  have H1 := Lib.hid H10
  have H2 := Lib.hid H20
  have H3 := Lib.hid H30
  have H4 := Lib.hid H40
  clear HB0 H10 H20 H30 H40
  go_enter Tryd.func4, Tryd.ntmps4
  go_upto_region 1 with (fail)
  have hx : (w.alloc (Obj.cells #[.int .i64 0, .int .i64 0, .string ⟨#[]⟩] 26)).heap[w.heap.size]? = some (.cells #[.int .i64 0, .int .i64 0, .string ⟨#[]⟩] 26 (0, 0)) := heap_alloc_new _ _
  have hb : Below w.heap.size w (w.alloc (Obj.cells #[.int .i64 0, .int .i64 0, .string ⟨#[]⟩] 26)) := (Below.refl _ _).alloc (Nat.le_refl _) _
  have hl : w.heap.size < (w.alloc (Obj.cells #[.int .i64 0, .int .i64 0, .string ⟨#[]⟩] 26)).heap.size := by simp
  generalize (w.alloc (Obj.cells #[.int .i64 0, .int .i64 0, .string ⟨#[]⟩] 26)) = W0 at *
  obtain ⟨x0, x1, x2⟩ := val_cells hx
  go_wp2_with (fail)
  refine (HB.out _ hb).mono ?_
  rintro e w1 ⟨rfl, hb1⟩
  replace hx := (hb1.block w.heap.size hl).trans hx
  replace hb := hb.trans (hb1.mono hb.size)
  replace hl := Nat.lt_of_lt_of_le hl hb1.size
  clear hb1 x0 x1 x2
  obtain ⟨x0, x1, x2⟩ := val_cells hx
  go_wp2_with (fail)
  refine (H1.out _ hb).mono ?_
  rintro e w2 ⟨rfl, hb2⟩
  replace hx := (hb2.block w.heap.size hl).trans hx
  replace hb := hb.trans (hb2.mono hb.size)
  replace hl := Nat.lt_of_lt_of_le hl hb2.size
  clear hb2 x0 x1 x2
  obtain ⟨x0, x1, x2⟩ := val_cells hx
  go_wp2_with (fail)
  refine (H2.out _ hb).mono ?_
  rintro e w3 ⟨rfl, hb3⟩
  replace hx := (hb3.block w.heap.size hl).trans hx
  replace hb := hb.trans (hb3.mono hb.size)
  replace hl := Nat.lt_of_lt_of_le hl hb3.size
  clear hb3 x0 x1 x2
  obtain ⟨x0, x1, x2⟩ := val_cells hx
  go_wp2_with (fail)
  refine (H3.out _ hb).mono ?_
  rintro e w4 ⟨rfl, hb4⟩
  replace hx := (hb4.block w.heap.size hl).trans hx
  replace hb := hb.trans (hb4.mono hb.size)
  replace hl := Nat.lt_of_lt_of_le hl hb4.size
  clear hb4 x0 x1 x2
  obtain ⟨x0, x1, x2⟩ := val_cells hx
  go_wp2_with (fail)
  refine (H4.out _ hb).mono ?_
  rintro e w5 ⟨rfl, hb5⟩
  replace hx := (hb5.block w.heap.size hl).trans hx
  replace hb := hb.trans (hb5.mono hb.size)
  replace hl := Nat.lt_of_lt_of_le hl hb5.size
  clear hb5 x0 x1 x2
  obtain ⟨x0, x1, x2⟩ := val_cells hx
  go_upto_region 10 with (fail)
  replace hx := (Below.heap_alloc _ (Obj.cells #[.int .i64 0, .int .i64 0, .string ⟨#[]⟩] 26) w.heap.size hl).trans hx
  replace hb := hb.alloc hb.size (Obj.cells #[.int .i64 0, .int .i64 0, .string ⟨#[]⟩] 26)
  have hq5 : (w5.alloc (Obj.cells #[.int .i64 0, .int .i64 0, .string ⟨#[]⟩] 26)).heap[w5.heap.size]? = some (.cells #[.int .i64 0, .int .i64 0, .string ⟨#[]⟩] 26 (0, 0)) := heap_alloc_new _ _
  have hl5 : w5.heap.size < (w5.alloc (Obj.cells #[.int .i64 0, .int .i64 0, .string ⟨#[]⟩] 26)).heap.size := by simp
  replace hl : w.heap.size < (w5.alloc (Obj.cells #[.int .i64 0, .int .i64 0, .string ⟨#[]⟩] 26)).heap.size := by simp; omega
  generalize (w5.alloc (Obj.cells #[.int .i64 0, .int .i64 0, .string ⟨#[]⟩] 26)) = W5 at hx hb hl hq5 hl5 ⊢
  obtain ⟨x0, x1, x2⟩ := val_cells hx
  obtain ⟨q0, q1, q2⟩ := val_cells hq5
  go_wp2
  go_ret
  exact ⟨rfl, hb⟩

set_option maxRecDepth 100000 in
theorem shown_i (n : Int) (s : ByteArray) (w : World) 
    (HB0 : ∀ w', Below w.heap.size w w' → Calls Tryd.prog 6 #[] w' fun e w'' => e = .returned (.bool true) ∧ Below w'.heap.size w' w'')
    (H10 : ∀ w', Below w.heap.size w w' → Calls Tryd.prog 8 #[.agg #[.int .i64 1, .int .i64 n, .string ⟨#[]⟩]] w' fun e w'' => e = .returned (.string s) ∧ Below w'.heap.size w' w'')
    (H20 : ∀ w', Below w.heap.size w w' → Calls Tryd.prog 9 #[.agg #[.int .i64 1, .int .i64 n, .string ⟨#[]⟩]] w' fun e w'' => e = .returned (.bool true) ∧ Below w'.heap.size w' w'')
    (H30 : ∀ w', Below w.heap.size w w' → Calls Tryd.prog 10 #[.agg #[.int .i64 1, .int .i64 n, .string ⟨#[]⟩]] w' fun e w'' => e = .returned (.tuple #[.string s, .int .i64 0]) ∧ Below w'.heap.size w' w'')
    (H40 : ∀ w', Below w.heap.size w w' → Calls Tryd.prog 11 #[.string s] w' fun e w'' => e = .returned (.tuple #[.agg #[.int .i64 1, .int .i64 n, .string ⟨#[]⟩], .bool true]) ∧ Below w'.heap.size w' w'')
    : Calls Tryd.prog 4 #[.agg #[.int .i64 1, .int .i64 n, .string ⟨#[]⟩]] w fun e w' => e = .returned (.bool true) ∧ Below w.heap.size w w' := by
  have HB := Lib.hid HB0
  have H1 := Lib.hid H10
  have H2 := Lib.hid H20
  have H3 := Lib.hid H30
  have H4 := Lib.hid H40
  clear HB0 H10 H20 H30 H40
  go_enter Tryd.func4, Tryd.ntmps4
  go_upto_region 1 with (fail)
  have hx : (w.alloc (Obj.cells #[.int .i64 1, .int .i64 n, .string ⟨#[]⟩] 26)).heap[w.heap.size]? = some (.cells #[.int .i64 1, .int .i64 n, .string ⟨#[]⟩] 26 (0, 0)) := heap_alloc_new _ _
  have hb : Below w.heap.size w (w.alloc (Obj.cells #[.int .i64 1, .int .i64 n, .string ⟨#[]⟩] 26)) := (Below.refl _ _).alloc (Nat.le_refl _) _
  have hl : w.heap.size < (w.alloc (Obj.cells #[.int .i64 1, .int .i64 n, .string ⟨#[]⟩] 26)).heap.size := by simp
  generalize (w.alloc (Obj.cells #[.int .i64 1, .int .i64 n, .string ⟨#[]⟩] 26)) = W0 at *
  obtain ⟨x0, x1, x2⟩ := val_cells hx
  go_wp2_with (fail)
  refine (HB.out _ hb).mono ?_
  rintro e w1 ⟨rfl, hb1⟩
  replace hx := (hb1.block w.heap.size hl).trans hx
  replace hb := hb.trans (hb1.mono hb.size)
  replace hl := Nat.lt_of_lt_of_le hl hb1.size
  clear hb1 x0 x1 x2
  obtain ⟨x0, x1, x2⟩ := val_cells hx
  go_wp2_with (fail)
  refine (H1.out _ hb).mono ?_
  rintro e w2 ⟨rfl, hb2⟩
  replace hx := (hb2.block w.heap.size hl).trans hx
  replace hb := hb.trans (hb2.mono hb.size)
  replace hl := Nat.lt_of_lt_of_le hl hb2.size
  clear hb2 x0 x1 x2
  obtain ⟨x0, x1, x2⟩ := val_cells hx
  go_wp2_with (fail)
  refine (H2.out _ hb).mono ?_
  rintro e w3 ⟨rfl, hb3⟩
  replace hx := (hb3.block w.heap.size hl).trans hx
  replace hb := hb.trans (hb3.mono hb.size)
  replace hl := Nat.lt_of_lt_of_le hl hb3.size
  clear hb3 x0 x1 x2
  obtain ⟨x0, x1, x2⟩ := val_cells hx
  go_wp2_with (fail)
  refine (H3.out _ hb).mono ?_
  rintro e w4 ⟨rfl, hb4⟩
  replace hx := (hb4.block w.heap.size hl).trans hx
  replace hb := hb.trans (hb4.mono hb.size)
  replace hl := Nat.lt_of_lt_of_le hl hb4.size
  clear hb4 x0 x1 x2
  obtain ⟨x0, x1, x2⟩ := val_cells hx
  go_wp2_with (fail)
  refine (H4.out _ hb).mono ?_
  rintro e w5 ⟨rfl, hb5⟩
  replace hx := (hb5.block w.heap.size hl).trans hx
  replace hb := hb.trans (hb5.mono hb.size)
  replace hl := Nat.lt_of_lt_of_le hl hb5.size
  clear hb5 x0 x1 x2
  obtain ⟨x0, x1, x2⟩ := val_cells hx
  go_upto_region 10 with (fail)
  replace hx := (Below.heap_alloc _ (Obj.cells #[.int .i64 1, .int .i64 n, .string ⟨#[]⟩] 26) w.heap.size hl).trans hx
  replace hb := hb.alloc hb.size (Obj.cells #[.int .i64 1, .int .i64 n, .string ⟨#[]⟩] 26)
  have hq5 : (w5.alloc (Obj.cells #[.int .i64 1, .int .i64 n, .string ⟨#[]⟩] 26)).heap[w5.heap.size]? = some (.cells #[.int .i64 1, .int .i64 n, .string ⟨#[]⟩] 26 (0, 0)) := heap_alloc_new _ _
  have hl5 : w5.heap.size < (w5.alloc (Obj.cells #[.int .i64 1, .int .i64 n, .string ⟨#[]⟩] 26)).heap.size := by simp
  replace hl : w.heap.size < (w5.alloc (Obj.cells #[.int .i64 1, .int .i64 n, .string ⟨#[]⟩] 26)).heap.size := by simp; omega
  generalize (w5.alloc (Obj.cells #[.int .i64 1, .int .i64 n, .string ⟨#[]⟩] 26)) = W5 at hx hb hl hq5 hl5 ⊢
  obtain ⟨x0, x1, x2⟩ := val_cells hx
  obtain ⟨q0, q1, q2⟩ := val_cells hq5
  go_wp2
  go_ret
  exact ⟨rfl, hb⟩

set_option maxRecDepth 100000 in
theorem shown_l0 (w : World) 
    (HB0 : ∀ w', Below w.heap.size w w' → Calls Tryd.prog 6 #[] w' fun e w'' => e = .returned (.bool true) ∧ Below w'.heap.size w' w'')
    (H10 : ∀ w', Below w.heap.size w w' → Calls Tryd.prog 8 #[.agg #[.int .i64 2, .int .i64 0, .string ⟨#[]⟩]] w' fun e w'' => e = .returned (.string ⟨#[70, 65, 76, 83, 69]⟩) ∧ Below w'.heap.size w' w'')
    (H20 : ∀ w', Below w.heap.size w w' → Calls Tryd.prog 9 #[.agg #[.int .i64 2, .int .i64 0, .string ⟨#[]⟩]] w' fun e w'' => e = .returned (.bool true) ∧ Below w'.heap.size w' w'')
    (H30 : ∀ w', Below w.heap.size w w' → Calls Tryd.prog 10 #[.agg #[.int .i64 2, .int .i64 0, .string ⟨#[]⟩]] w' fun e w'' => e = .returned (.tuple #[.string ⟨#[70, 65, 76, 83, 69]⟩, .int .i64 0]) ∧ Below w'.heap.size w' w'')
    (H40 : ∀ w', Below w.heap.size w w' → Calls Tryd.prog 11 #[.string ⟨#[70, 65, 76, 83, 69]⟩] w' fun e w'' => e = .returned (.tuple #[.agg #[.int .i64 2, .int .i64 0, .string ⟨#[]⟩], .bool true]) ∧ Below w'.heap.size w' w'')
    : Calls Tryd.prog 4 #[.agg #[.int .i64 2, .int .i64 0, .string ⟨#[]⟩]] w fun e w' => e = .returned (.bool true) ∧ Below w.heap.size w w' := by
  have HB := Lib.hid HB0
  have H1 := Lib.hid H10
  have H2 := Lib.hid H20
  have H3 := Lib.hid H30
  have H4 := Lib.hid H40
  clear HB0 H10 H20 H30 H40
  go_enter Tryd.func4, Tryd.ntmps4
  go_upto_region 1 with (fail)
  have hx : (w.alloc (Obj.cells #[.int .i64 2, .int .i64 0, .string ⟨#[]⟩] 26)).heap[w.heap.size]? = some (.cells #[.int .i64 2, .int .i64 0, .string ⟨#[]⟩] 26 (0, 0)) := heap_alloc_new _ _
  have hb : Below w.heap.size w (w.alloc (Obj.cells #[.int .i64 2, .int .i64 0, .string ⟨#[]⟩] 26)) := (Below.refl _ _).alloc (Nat.le_refl _) _
  have hl : w.heap.size < (w.alloc (Obj.cells #[.int .i64 2, .int .i64 0, .string ⟨#[]⟩] 26)).heap.size := by simp
  generalize (w.alloc (Obj.cells #[.int .i64 2, .int .i64 0, .string ⟨#[]⟩] 26)) = W0 at *
  obtain ⟨x0, x1, x2⟩ := val_cells hx
  go_wp2_with (fail)
  refine (HB.out _ hb).mono ?_
  rintro e w1 ⟨rfl, hb1⟩
  replace hx := (hb1.block w.heap.size hl).trans hx
  replace hb := hb.trans (hb1.mono hb.size)
  replace hl := Nat.lt_of_lt_of_le hl hb1.size
  clear hb1 x0 x1 x2
  obtain ⟨x0, x1, x2⟩ := val_cells hx
  go_wp2_with (fail)
  refine (H1.out _ hb).mono ?_
  rintro e w2 ⟨rfl, hb2⟩
  replace hx := (hb2.block w.heap.size hl).trans hx
  replace hb := hb.trans (hb2.mono hb.size)
  replace hl := Nat.lt_of_lt_of_le hl hb2.size
  clear hb2 x0 x1 x2
  obtain ⟨x0, x1, x2⟩ := val_cells hx
  go_wp2_with (fail)
  refine (H2.out _ hb).mono ?_
  rintro e w3 ⟨rfl, hb3⟩
  replace hx := (hb3.block w.heap.size hl).trans hx
  replace hb := hb.trans (hb3.mono hb.size)
  replace hl := Nat.lt_of_lt_of_le hl hb3.size
  clear hb3 x0 x1 x2
  obtain ⟨x0, x1, x2⟩ := val_cells hx
  go_wp2_with (fail)
  refine (H3.out _ hb).mono ?_
  rintro e w4 ⟨rfl, hb4⟩
  replace hx := (hb4.block w.heap.size hl).trans hx
  replace hb := hb.trans (hb4.mono hb.size)
  replace hl := Nat.lt_of_lt_of_le hl hb4.size
  clear hb4 x0 x1 x2
  obtain ⟨x0, x1, x2⟩ := val_cells hx
  go_wp2_with (fail)
  refine (H4.out _ hb).mono ?_
  rintro e w5 ⟨rfl, hb5⟩
  replace hx := (hb5.block w.heap.size hl).trans hx
  replace hb := hb.trans (hb5.mono hb.size)
  replace hl := Nat.lt_of_lt_of_le hl hb5.size
  clear hb5 x0 x1 x2
  obtain ⟨x0, x1, x2⟩ := val_cells hx
  go_upto_region 10 with (fail)
  replace hx := (Below.heap_alloc _ (Obj.cells #[.int .i64 2, .int .i64 0, .string ⟨#[]⟩] 26) w.heap.size hl).trans hx
  replace hb := hb.alloc hb.size (Obj.cells #[.int .i64 2, .int .i64 0, .string ⟨#[]⟩] 26)
  have hq5 : (w5.alloc (Obj.cells #[.int .i64 2, .int .i64 0, .string ⟨#[]⟩] 26)).heap[w5.heap.size]? = some (.cells #[.int .i64 2, .int .i64 0, .string ⟨#[]⟩] 26 (0, 0)) := heap_alloc_new _ _
  have hl5 : w5.heap.size < (w5.alloc (Obj.cells #[.int .i64 2, .int .i64 0, .string ⟨#[]⟩] 26)).heap.size := by simp
  replace hl : w.heap.size < (w5.alloc (Obj.cells #[.int .i64 2, .int .i64 0, .string ⟨#[]⟩] 26)).heap.size := by simp; omega
  generalize (w5.alloc (Obj.cells #[.int .i64 2, .int .i64 0, .string ⟨#[]⟩] 26)) = W5 at hx hb hl hq5 hl5 ⊢
  obtain ⟨x0, x1, x2⟩ := val_cells hx
  obtain ⟨q0, q1, q2⟩ := val_cells hq5
  go_wp2
  go_ret
  exact ⟨rfl, hb⟩

set_option maxRecDepth 100000 in
theorem shown_l1 (w : World) 
    (HB0 : ∀ w', Below w.heap.size w w' → Calls Tryd.prog 6 #[] w' fun e w'' => e = .returned (.bool true) ∧ Below w'.heap.size w' w'')
    (H10 : ∀ w', Below w.heap.size w w' → Calls Tryd.prog 8 #[.agg #[.int .i64 2, .int .i64 1, .string ⟨#[]⟩]] w' fun e w'' => e = .returned (.string ⟨#[84, 82, 85, 69]⟩) ∧ Below w'.heap.size w' w'')
    (H20 : ∀ w', Below w.heap.size w w' → Calls Tryd.prog 9 #[.agg #[.int .i64 2, .int .i64 1, .string ⟨#[]⟩]] w' fun e w'' => e = .returned (.bool true) ∧ Below w'.heap.size w' w'')
    (H30 : ∀ w', Below w.heap.size w w' → Calls Tryd.prog 10 #[.agg #[.int .i64 2, .int .i64 1, .string ⟨#[]⟩]] w' fun e w'' => e = .returned (.tuple #[.string ⟨#[84, 82, 85, 69]⟩, .int .i64 0]) ∧ Below w'.heap.size w' w'')
    (H40 : ∀ w', Below w.heap.size w w' → Calls Tryd.prog 11 #[.string ⟨#[84, 82, 85, 69]⟩] w' fun e w'' => e = .returned (.tuple #[.agg #[.int .i64 2, .int .i64 1, .string ⟨#[]⟩], .bool true]) ∧ Below w'.heap.size w' w'')
    : Calls Tryd.prog 4 #[.agg #[.int .i64 2, .int .i64 1, .string ⟨#[]⟩]] w fun e w' => e = .returned (.bool true) ∧ Below w.heap.size w w' := by
  have HB := Lib.hid HB0
  have H1 := Lib.hid H10
  have H2 := Lib.hid H20
  have H3 := Lib.hid H30
  have H4 := Lib.hid H40
  clear HB0 H10 H20 H30 H40
  go_enter Tryd.func4, Tryd.ntmps4
  go_upto_region 1 with (fail)
  have hx : (w.alloc (Obj.cells #[.int .i64 2, .int .i64 1, .string ⟨#[]⟩] 26)).heap[w.heap.size]? = some (.cells #[.int .i64 2, .int .i64 1, .string ⟨#[]⟩] 26 (0, 0)) := heap_alloc_new _ _
  have hb : Below w.heap.size w (w.alloc (Obj.cells #[.int .i64 2, .int .i64 1, .string ⟨#[]⟩] 26)) := (Below.refl _ _).alloc (Nat.le_refl _) _
  have hl : w.heap.size < (w.alloc (Obj.cells #[.int .i64 2, .int .i64 1, .string ⟨#[]⟩] 26)).heap.size := by simp
  generalize (w.alloc (Obj.cells #[.int .i64 2, .int .i64 1, .string ⟨#[]⟩] 26)) = W0 at *
  obtain ⟨x0, x1, x2⟩ := val_cells hx
  go_wp2_with (fail)
  refine (HB.out _ hb).mono ?_
  rintro e w1 ⟨rfl, hb1⟩
  replace hx := (hb1.block w.heap.size hl).trans hx
  replace hb := hb.trans (hb1.mono hb.size)
  replace hl := Nat.lt_of_lt_of_le hl hb1.size
  clear hb1 x0 x1 x2
  obtain ⟨x0, x1, x2⟩ := val_cells hx
  go_wp2_with (fail)
  refine (H1.out _ hb).mono ?_
  rintro e w2 ⟨rfl, hb2⟩
  replace hx := (hb2.block w.heap.size hl).trans hx
  replace hb := hb.trans (hb2.mono hb.size)
  replace hl := Nat.lt_of_lt_of_le hl hb2.size
  clear hb2 x0 x1 x2
  obtain ⟨x0, x1, x2⟩ := val_cells hx
  go_wp2_with (fail)
  refine (H2.out _ hb).mono ?_
  rintro e w3 ⟨rfl, hb3⟩
  replace hx := (hb3.block w.heap.size hl).trans hx
  replace hb := hb.trans (hb3.mono hb.size)
  replace hl := Nat.lt_of_lt_of_le hl hb3.size
  clear hb3 x0 x1 x2
  obtain ⟨x0, x1, x2⟩ := val_cells hx
  go_wp2_with (fail)
  refine (H3.out _ hb).mono ?_
  rintro e w4 ⟨rfl, hb4⟩
  replace hx := (hb4.block w.heap.size hl).trans hx
  replace hb := hb.trans (hb4.mono hb.size)
  replace hl := Nat.lt_of_lt_of_le hl hb4.size
  clear hb4 x0 x1 x2
  obtain ⟨x0, x1, x2⟩ := val_cells hx
  go_wp2_with (fail)
  refine (H4.out _ hb).mono ?_
  rintro e w5 ⟨rfl, hb5⟩
  replace hx := (hb5.block w.heap.size hl).trans hx
  replace hb := hb.trans (hb5.mono hb.size)
  replace hl := Nat.lt_of_lt_of_le hl hb5.size
  clear hb5 x0 x1 x2
  obtain ⟨x0, x1, x2⟩ := val_cells hx
  go_upto_region 10 with (fail)
  replace hx := (Below.heap_alloc _ (Obj.cells #[.int .i64 2, .int .i64 1, .string ⟨#[]⟩] 26) w.heap.size hl).trans hx
  replace hb := hb.alloc hb.size (Obj.cells #[.int .i64 2, .int .i64 1, .string ⟨#[]⟩] 26)
  have hq5 : (w5.alloc (Obj.cells #[.int .i64 2, .int .i64 1, .string ⟨#[]⟩] 26)).heap[w5.heap.size]? = some (.cells #[.int .i64 2, .int .i64 1, .string ⟨#[]⟩] 26 (0, 0)) := heap_alloc_new _ _
  have hl5 : w5.heap.size < (w5.alloc (Obj.cells #[.int .i64 2, .int .i64 1, .string ⟨#[]⟩] 26)).heap.size := by simp
  replace hl : w.heap.size < (w5.alloc (Obj.cells #[.int .i64 2, .int .i64 1, .string ⟨#[]⟩] 26)).heap.size := by simp; omega
  generalize (w5.alloc (Obj.cells #[.int .i64 2, .int .i64 1, .string ⟨#[]⟩] 26)) = W5 at hx hb hl hq5 hl5 ⊢
  obtain ⟨x0, x1, x2⟩ := val_cells hx
  obtain ⟨q0, q1, q2⟩ := val_cells hq5
  go_wp2
  go_ret
  exact ⟨rfl, hb⟩

set_option maxRecDepth 100000 in
theorem shown_e1 (w : World) 
    (HB0 : ∀ w', Below w.heap.size w w' → Calls Tryd.prog 6 #[] w' fun e w'' => e = .returned (.bool true) ∧ Below w'.heap.size w' w'')
    (H10 : ∀ w', Below w.heap.size w w' → Calls Tryd.prog 8 #[.agg #[.int .i64 4, .int .i64 1, .string ⟨#[]⟩]] w' fun e w'' => e = .returned (.string ⟨#[35, 78, 65, 77, 69, 63]⟩) ∧ Below w'.heap.size w' w'')
    (H20 : ∀ w', Below w.heap.size w w' → Calls Tryd.prog 9 #[.agg #[.int .i64 4, .int .i64 1, .string ⟨#[]⟩]] w' fun e w'' => e = .returned (.bool true) ∧ Below w'.heap.size w' w'')
    (H30 : ∀ w', Below w.heap.size w w' → Calls Tryd.prog 10 #[.agg #[.int .i64 4, .int .i64 1, .string ⟨#[]⟩]] w' fun e w'' => e = .returned (.tuple #[.string ⟨#[]⟩, .int .i64 1]) ∧ Below w'.heap.size w' w'')
    (H40 : ∀ w', Below w.heap.size w w' → Calls Tryd.prog 11 #[.string ⟨#[35, 78, 65, 77, 69, 63]⟩] w' fun e w'' => e = .returned (.tuple #[.agg #[.int .i64 4, .int .i64 1, .string ⟨#[]⟩], .bool true]) ∧ Below w'.heap.size w' w'')
    : Calls Tryd.prog 4 #[.agg #[.int .i64 4, .int .i64 1, .string ⟨#[]⟩]] w fun e w' => e = .returned (.bool true) ∧ Below w.heap.size w w' := by
  have HB := Lib.hid HB0
  have H1 := Lib.hid H10
  have H2 := Lib.hid H20
  have H3 := Lib.hid H30
  have H4 := Lib.hid H40
  clear HB0 H10 H20 H30 H40
  go_enter Tryd.func4, Tryd.ntmps4
  go_upto_region 1 with (fail)
  have hx : (w.alloc (Obj.cells #[.int .i64 4, .int .i64 1, .string ⟨#[]⟩] 26)).heap[w.heap.size]? = some (.cells #[.int .i64 4, .int .i64 1, .string ⟨#[]⟩] 26 (0, 0)) := heap_alloc_new _ _
  have hb : Below w.heap.size w (w.alloc (Obj.cells #[.int .i64 4, .int .i64 1, .string ⟨#[]⟩] 26)) := (Below.refl _ _).alloc (Nat.le_refl _) _
  have hl : w.heap.size < (w.alloc (Obj.cells #[.int .i64 4, .int .i64 1, .string ⟨#[]⟩] 26)).heap.size := by simp
  generalize (w.alloc (Obj.cells #[.int .i64 4, .int .i64 1, .string ⟨#[]⟩] 26)) = W0 at *
  obtain ⟨x0, x1, x2⟩ := val_cells hx
  go_wp2_with (fail)
  refine (HB.out _ hb).mono ?_
  rintro e w1 ⟨rfl, hb1⟩
  replace hx := (hb1.block w.heap.size hl).trans hx
  replace hb := hb.trans (hb1.mono hb.size)
  replace hl := Nat.lt_of_lt_of_le hl hb1.size
  clear hb1 x0 x1 x2
  obtain ⟨x0, x1, x2⟩ := val_cells hx
  go_wp2_with (fail)
  refine (H1.out _ hb).mono ?_
  rintro e w2 ⟨rfl, hb2⟩
  replace hx := (hb2.block w.heap.size hl).trans hx
  replace hb := hb.trans (hb2.mono hb.size)
  replace hl := Nat.lt_of_lt_of_le hl hb2.size
  clear hb2 x0 x1 x2
  obtain ⟨x0, x1, x2⟩ := val_cells hx
  go_wp2_with (fail)
  refine (H2.out _ hb).mono ?_
  rintro e w3 ⟨rfl, hb3⟩
  replace hx := (hb3.block w.heap.size hl).trans hx
  replace hb := hb.trans (hb3.mono hb.size)
  replace hl := Nat.lt_of_lt_of_le hl hb3.size
  clear hb3 x0 x1 x2
  obtain ⟨x0, x1, x2⟩ := val_cells hx
  go_wp2_with (fail)
  refine (H3.out _ hb).mono ?_
  rintro e w4 ⟨rfl, hb4⟩
  replace hx := (hb4.block w.heap.size hl).trans hx
  replace hb := hb.trans (hb4.mono hb.size)
  replace hl := Nat.lt_of_lt_of_le hl hb4.size
  clear hb4 x0 x1 x2
  obtain ⟨x0, x1, x2⟩ := val_cells hx
  go_wp2_with (fail)
  refine (H4.out _ hb).mono ?_
  rintro e w5 ⟨rfl, hb5⟩
  replace hx := (hb5.block w.heap.size hl).trans hx
  replace hb := hb.trans (hb5.mono hb.size)
  replace hl := Nat.lt_of_lt_of_le hl hb5.size
  clear hb5 x0 x1 x2
  obtain ⟨x0, x1, x2⟩ := val_cells hx
  go_upto_region 10 with (fail)
  replace hx := (Below.heap_alloc _ (Obj.cells #[.int .i64 4, .int .i64 1, .string ⟨#[]⟩] 26) w.heap.size hl).trans hx
  replace hb := hb.alloc hb.size (Obj.cells #[.int .i64 4, .int .i64 1, .string ⟨#[]⟩] 26)
  have hq5 : (w5.alloc (Obj.cells #[.int .i64 4, .int .i64 1, .string ⟨#[]⟩] 26)).heap[w5.heap.size]? = some (.cells #[.int .i64 4, .int .i64 1, .string ⟨#[]⟩] 26 (0, 0)) := heap_alloc_new _ _
  have hl5 : w5.heap.size < (w5.alloc (Obj.cells #[.int .i64 4, .int .i64 1, .string ⟨#[]⟩] 26)).heap.size := by simp
  replace hl : w.heap.size < (w5.alloc (Obj.cells #[.int .i64 4, .int .i64 1, .string ⟨#[]⟩] 26)).heap.size := by simp; omega
  generalize (w5.alloc (Obj.cells #[.int .i64 4, .int .i64 1, .string ⟨#[]⟩] 26)) = W5 at hx hb hl hq5 hl5 ⊢
  obtain ⟨x0, x1, x2⟩ := val_cells hx
  obtain ⟨q0, q1, q2⟩ := val_cells hq5
  go_wp2
  go_ret
  exact ⟨rfl, hb⟩

set_option maxRecDepth 100000 in
theorem shown_e2 (w : World) 
    (HB0 : ∀ w', Below w.heap.size w w' → Calls Tryd.prog 6 #[] w' fun e w'' => e = .returned (.bool true) ∧ Below w'.heap.size w' w'')
    (H10 : ∀ w', Below w.heap.size w w' → Calls Tryd.prog 8 #[.agg #[.int .i64 4, .int .i64 2, .string ⟨#[]⟩]] w' fun e w'' => e = .returned (.string ⟨#[35, 78, 85, 77, 33]⟩) ∧ Below w'.heap.size w' w'')
    (H20 : ∀ w', Below w.heap.size w w' → Calls Tryd.prog 9 #[.agg #[.int .i64 4, .int .i64 2, .string ⟨#[]⟩]] w' fun e w'' => e = .returned (.bool true) ∧ Below w'.heap.size w' w'')
    (H30 : ∀ w', Below w.heap.size w w' → Calls Tryd.prog 10 #[.agg #[.int .i64 4, .int .i64 2, .string ⟨#[]⟩]] w' fun e w'' => e = .returned (.tuple #[.string ⟨#[]⟩, .int .i64 2]) ∧ Below w'.heap.size w' w'')
    (H40 : ∀ w', Below w.heap.size w w' → Calls Tryd.prog 11 #[.string ⟨#[35, 78, 85, 77, 33]⟩] w' fun e w'' => e = .returned (.tuple #[.agg #[.int .i64 4, .int .i64 2, .string ⟨#[]⟩], .bool true]) ∧ Below w'.heap.size w' w'')
    : Calls Tryd.prog 4 #[.agg #[.int .i64 4, .int .i64 2, .string ⟨#[]⟩]] w fun e w' => e = .returned (.bool true) ∧ Below w.heap.size w w' := by
  have HB := Lib.hid HB0
  have H1 := Lib.hid H10
  have H2 := Lib.hid H20
  have H3 := Lib.hid H30
  have H4 := Lib.hid H40
  clear HB0 H10 H20 H30 H40
  go_enter Tryd.func4, Tryd.ntmps4
  go_upto_region 1 with (fail)
  have hx : (w.alloc (Obj.cells #[.int .i64 4, .int .i64 2, .string ⟨#[]⟩] 26)).heap[w.heap.size]? = some (.cells #[.int .i64 4, .int .i64 2, .string ⟨#[]⟩] 26 (0, 0)) := heap_alloc_new _ _
  have hb : Below w.heap.size w (w.alloc (Obj.cells #[.int .i64 4, .int .i64 2, .string ⟨#[]⟩] 26)) := (Below.refl _ _).alloc (Nat.le_refl _) _
  have hl : w.heap.size < (w.alloc (Obj.cells #[.int .i64 4, .int .i64 2, .string ⟨#[]⟩] 26)).heap.size := by simp
  generalize (w.alloc (Obj.cells #[.int .i64 4, .int .i64 2, .string ⟨#[]⟩] 26)) = W0 at *
  obtain ⟨x0, x1, x2⟩ := val_cells hx
  go_wp2_with (fail)
  refine (HB.out _ hb).mono ?_
  rintro e w1 ⟨rfl, hb1⟩
  replace hx := (hb1.block w.heap.size hl).trans hx
  replace hb := hb.trans (hb1.mono hb.size)
  replace hl := Nat.lt_of_lt_of_le hl hb1.size
  clear hb1 x0 x1 x2
  obtain ⟨x0, x1, x2⟩ := val_cells hx
  go_wp2_with (fail)
  refine (H1.out _ hb).mono ?_
  rintro e w2 ⟨rfl, hb2⟩
  replace hx := (hb2.block w.heap.size hl).trans hx
  replace hb := hb.trans (hb2.mono hb.size)
  replace hl := Nat.lt_of_lt_of_le hl hb2.size
  clear hb2 x0 x1 x2
  obtain ⟨x0, x1, x2⟩ := val_cells hx
  go_wp2_with (fail)
  refine (H2.out _ hb).mono ?_
  rintro e w3 ⟨rfl, hb3⟩
  replace hx := (hb3.block w.heap.size hl).trans hx
  replace hb := hb.trans (hb3.mono hb.size)
  replace hl := Nat.lt_of_lt_of_le hl hb3.size
  clear hb3 x0 x1 x2
  obtain ⟨x0, x1, x2⟩ := val_cells hx
  go_wp2_with (fail)
  refine (H3.out _ hb).mono ?_
  rintro e w4 ⟨rfl, hb4⟩
  replace hx := (hb4.block w.heap.size hl).trans hx
  replace hb := hb.trans (hb4.mono hb.size)
  replace hl := Nat.lt_of_lt_of_le hl hb4.size
  clear hb4 x0 x1 x2
  obtain ⟨x0, x1, x2⟩ := val_cells hx
  go_wp2_with (fail)
  refine (H4.out _ hb).mono ?_
  rintro e w5 ⟨rfl, hb5⟩
  replace hx := (hb5.block w.heap.size hl).trans hx
  replace hb := hb.trans (hb5.mono hb.size)
  replace hl := Nat.lt_of_lt_of_le hl hb5.size
  clear hb5 x0 x1 x2
  obtain ⟨x0, x1, x2⟩ := val_cells hx
  go_upto_region 10 with (fail)
  replace hx := (Below.heap_alloc _ (Obj.cells #[.int .i64 4, .int .i64 2, .string ⟨#[]⟩] 26) w.heap.size hl).trans hx
  replace hb := hb.alloc hb.size (Obj.cells #[.int .i64 4, .int .i64 2, .string ⟨#[]⟩] 26)
  have hq5 : (w5.alloc (Obj.cells #[.int .i64 4, .int .i64 2, .string ⟨#[]⟩] 26)).heap[w5.heap.size]? = some (.cells #[.int .i64 4, .int .i64 2, .string ⟨#[]⟩] 26 (0, 0)) := heap_alloc_new _ _
  have hl5 : w5.heap.size < (w5.alloc (Obj.cells #[.int .i64 4, .int .i64 2, .string ⟨#[]⟩] 26)).heap.size := by simp
  replace hl : w.heap.size < (w5.alloc (Obj.cells #[.int .i64 4, .int .i64 2, .string ⟨#[]⟩] 26)).heap.size := by simp; omega
  generalize (w5.alloc (Obj.cells #[.int .i64 4, .int .i64 2, .string ⟨#[]⟩] 26)) = W5 at hx hb hl hq5 hl5 ⊢
  obtain ⟨x0, x1, x2⟩ := val_cells hx
  obtain ⟨q0, q1, q2⟩ := val_cells hq5
  go_wp2
  go_ret
  exact ⟨rfl, hb⟩

set_option maxRecDepth 100000 in
theorem shown_e3 (w : World) 
    (HB0 : ∀ w', Below w.heap.size w w' → Calls Tryd.prog 6 #[] w' fun e w'' => e = .returned (.bool true) ∧ Below w'.heap.size w' w'')
    (H10 : ∀ w', Below w.heap.size w w' → Calls Tryd.prog 8 #[.agg #[.int .i64 4, .int .i64 3, .string ⟨#[]⟩]] w' fun e w'' => e = .returned (.string ⟨#[35, 82, 69, 70, 33]⟩) ∧ Below w'.heap.size w' w'')
    (H20 : ∀ w', Below w.heap.size w w' → Calls Tryd.prog 9 #[.agg #[.int .i64 4, .int .i64 3, .string ⟨#[]⟩]] w' fun e w'' => e = .returned (.bool true) ∧ Below w'.heap.size w' w'')
    (H30 : ∀ w', Below w.heap.size w w' → Calls Tryd.prog 10 #[.agg #[.int .i64 4, .int .i64 3, .string ⟨#[]⟩]] w' fun e w'' => e = .returned (.tuple #[.string ⟨#[]⟩, .int .i64 3]) ∧ Below w'.heap.size w' w'')
    (H40 : ∀ w', Below w.heap.size w w' → Calls Tryd.prog 11 #[.string ⟨#[35, 82, 69, 70, 33]⟩] w' fun e w'' => e = .returned (.tuple #[.agg #[.int .i64 4, .int .i64 3, .string ⟨#[]⟩], .bool true]) ∧ Below w'.heap.size w' w'')
    : Calls Tryd.prog 4 #[.agg #[.int .i64 4, .int .i64 3, .string ⟨#[]⟩]] w fun e w' => e = .returned (.bool true) ∧ Below w.heap.size w w' := by
  have HB := Lib.hid HB0
  have H1 := Lib.hid H10
  have H2 := Lib.hid H20
  have H3 := Lib.hid H30
  have H4 := Lib.hid H40
  clear HB0 H10 H20 H30 H40
  go_enter Tryd.func4, Tryd.ntmps4
  go_upto_region 1 with (fail)
  have hx : (w.alloc (Obj.cells #[.int .i64 4, .int .i64 3, .string ⟨#[]⟩] 26)).heap[w.heap.size]? = some (.cells #[.int .i64 4, .int .i64 3, .string ⟨#[]⟩] 26 (0, 0)) := heap_alloc_new _ _
  have hb : Below w.heap.size w (w.alloc (Obj.cells #[.int .i64 4, .int .i64 3, .string ⟨#[]⟩] 26)) := (Below.refl _ _).alloc (Nat.le_refl _) _
  have hl : w.heap.size < (w.alloc (Obj.cells #[.int .i64 4, .int .i64 3, .string ⟨#[]⟩] 26)).heap.size := by simp
  generalize (w.alloc (Obj.cells #[.int .i64 4, .int .i64 3, .string ⟨#[]⟩] 26)) = W0 at *
  obtain ⟨x0, x1, x2⟩ := val_cells hx
  go_wp2_with (fail)
  refine (HB.out _ hb).mono ?_
  rintro e w1 ⟨rfl, hb1⟩
  replace hx := (hb1.block w.heap.size hl).trans hx
  replace hb := hb.trans (hb1.mono hb.size)
  replace hl := Nat.lt_of_lt_of_le hl hb1.size
  clear hb1 x0 x1 x2
  obtain ⟨x0, x1, x2⟩ := val_cells hx
  go_wp2_with (fail)
  refine (H1.out _ hb).mono ?_
  rintro e w2 ⟨rfl, hb2⟩
  replace hx := (hb2.block w.heap.size hl).trans hx
  replace hb := hb.trans (hb2.mono hb.size)
  replace hl := Nat.lt_of_lt_of_le hl hb2.size
  clear hb2 x0 x1 x2
  obtain ⟨x0, x1, x2⟩ := val_cells hx
  go_wp2_with (fail)
  refine (H2.out _ hb).mono ?_
  rintro e w3 ⟨rfl, hb3⟩
  replace hx := (hb3.block w.heap.size hl).trans hx
  replace hb := hb.trans (hb3.mono hb.size)
  replace hl := Nat.lt_of_lt_of_le hl hb3.size
  clear hb3 x0 x1 x2
  obtain ⟨x0, x1, x2⟩ := val_cells hx
  go_wp2_with (fail)
  refine (H3.out _ hb).mono ?_
  rintro e w4 ⟨rfl, hb4⟩
  replace hx := (hb4.block w.heap.size hl).trans hx
  replace hb := hb.trans (hb4.mono hb.size)
  replace hl := Nat.lt_of_lt_of_le hl hb4.size
  clear hb4 x0 x1 x2
  obtain ⟨x0, x1, x2⟩ := val_cells hx
  go_wp2_with (fail)
  refine (H4.out _ hb).mono ?_
  rintro e w5 ⟨rfl, hb5⟩
  replace hx := (hb5.block w.heap.size hl).trans hx
  replace hb := hb.trans (hb5.mono hb.size)
  replace hl := Nat.lt_of_lt_of_le hl hb5.size
  clear hb5 x0 x1 x2
  obtain ⟨x0, x1, x2⟩ := val_cells hx
  go_upto_region 10 with (fail)
  replace hx := (Below.heap_alloc _ (Obj.cells #[.int .i64 4, .int .i64 3, .string ⟨#[]⟩] 26) w.heap.size hl).trans hx
  replace hb := hb.alloc hb.size (Obj.cells #[.int .i64 4, .int .i64 3, .string ⟨#[]⟩] 26)
  have hq5 : (w5.alloc (Obj.cells #[.int .i64 4, .int .i64 3, .string ⟨#[]⟩] 26)).heap[w5.heap.size]? = some (.cells #[.int .i64 4, .int .i64 3, .string ⟨#[]⟩] 26 (0, 0)) := heap_alloc_new _ _
  have hl5 : w5.heap.size < (w5.alloc (Obj.cells #[.int .i64 4, .int .i64 3, .string ⟨#[]⟩] 26)).heap.size := by simp
  replace hl : w.heap.size < (w5.alloc (Obj.cells #[.int .i64 4, .int .i64 3, .string ⟨#[]⟩] 26)).heap.size := by simp; omega
  generalize (w5.alloc (Obj.cells #[.int .i64 4, .int .i64 3, .string ⟨#[]⟩] 26)) = W5 at hx hb hl hq5 hl5 ⊢
  obtain ⟨x0, x1, x2⟩ := val_cells hx
  obtain ⟨q0, q1, q2⟩ := val_cells hq5
  go_wp2
  go_ret
  exact ⟨rfl, hb⟩

set_option maxRecDepth 100000 in
theorem shown_e4 (w : World) 
    (HB0 : ∀ w', Below w.heap.size w w' → Calls Tryd.prog 6 #[] w' fun e w'' => e = .returned (.bool true) ∧ Below w'.heap.size w' w'')
    (H10 : ∀ w', Below w.heap.size w w' → Calls Tryd.prog 8 #[.agg #[.int .i64 4, .int .i64 4, .string ⟨#[]⟩]] w' fun e w'' => e = .returned (.string ⟨#[35, 86, 65, 76, 85, 69, 33]⟩) ∧ Below w'.heap.size w' w'')
    (H20 : ∀ w', Below w.heap.size w w' → Calls Tryd.prog 9 #[.agg #[.int .i64 4, .int .i64 4, .string ⟨#[]⟩]] w' fun e w'' => e = .returned (.bool true) ∧ Below w'.heap.size w' w'')
    (H30 : ∀ w', Below w.heap.size w w' → Calls Tryd.prog 10 #[.agg #[.int .i64 4, .int .i64 4, .string ⟨#[]⟩]] w' fun e w'' => e = .returned (.tuple #[.string ⟨#[]⟩, .int .i64 4]) ∧ Below w'.heap.size w' w'')
    (H40 : ∀ w', Below w.heap.size w w' → Calls Tryd.prog 11 #[.string ⟨#[35, 86, 65, 76, 85, 69, 33]⟩] w' fun e w'' => e = .returned (.tuple #[.agg #[.int .i64 4, .int .i64 4, .string ⟨#[]⟩], .bool true]) ∧ Below w'.heap.size w' w'')
    : Calls Tryd.prog 4 #[.agg #[.int .i64 4, .int .i64 4, .string ⟨#[]⟩]] w fun e w' => e = .returned (.bool true) ∧ Below w.heap.size w w' := by
  have HB := Lib.hid HB0
  have H1 := Lib.hid H10
  have H2 := Lib.hid H20
  have H3 := Lib.hid H30
  have H4 := Lib.hid H40
  clear HB0 H10 H20 H30 H40
  go_enter Tryd.func4, Tryd.ntmps4
  go_upto_region 1 with (fail)
  have hx : (w.alloc (Obj.cells #[.int .i64 4, .int .i64 4, .string ⟨#[]⟩] 26)).heap[w.heap.size]? = some (.cells #[.int .i64 4, .int .i64 4, .string ⟨#[]⟩] 26 (0, 0)) := heap_alloc_new _ _
  have hb : Below w.heap.size w (w.alloc (Obj.cells #[.int .i64 4, .int .i64 4, .string ⟨#[]⟩] 26)) := (Below.refl _ _).alloc (Nat.le_refl _) _
  have hl : w.heap.size < (w.alloc (Obj.cells #[.int .i64 4, .int .i64 4, .string ⟨#[]⟩] 26)).heap.size := by simp
  generalize (w.alloc (Obj.cells #[.int .i64 4, .int .i64 4, .string ⟨#[]⟩] 26)) = W0 at *
  obtain ⟨x0, x1, x2⟩ := val_cells hx
  go_wp2_with (fail)
  refine (HB.out _ hb).mono ?_
  rintro e w1 ⟨rfl, hb1⟩
  replace hx := (hb1.block w.heap.size hl).trans hx
  replace hb := hb.trans (hb1.mono hb.size)
  replace hl := Nat.lt_of_lt_of_le hl hb1.size
  clear hb1 x0 x1 x2
  obtain ⟨x0, x1, x2⟩ := val_cells hx
  go_wp2_with (fail)
  refine (H1.out _ hb).mono ?_
  rintro e w2 ⟨rfl, hb2⟩
  replace hx := (hb2.block w.heap.size hl).trans hx
  replace hb := hb.trans (hb2.mono hb.size)
  replace hl := Nat.lt_of_lt_of_le hl hb2.size
  clear hb2 x0 x1 x2
  obtain ⟨x0, x1, x2⟩ := val_cells hx
  go_wp2_with (fail)
  refine (H2.out _ hb).mono ?_
  rintro e w3 ⟨rfl, hb3⟩
  replace hx := (hb3.block w.heap.size hl).trans hx
  replace hb := hb.trans (hb3.mono hb.size)
  replace hl := Nat.lt_of_lt_of_le hl hb3.size
  clear hb3 x0 x1 x2
  obtain ⟨x0, x1, x2⟩ := val_cells hx
  go_wp2_with (fail)
  refine (H3.out _ hb).mono ?_
  rintro e w4 ⟨rfl, hb4⟩
  replace hx := (hb4.block w.heap.size hl).trans hx
  replace hb := hb.trans (hb4.mono hb.size)
  replace hl := Nat.lt_of_lt_of_le hl hb4.size
  clear hb4 x0 x1 x2
  obtain ⟨x0, x1, x2⟩ := val_cells hx
  go_wp2_with (fail)
  refine (H4.out _ hb).mono ?_
  rintro e w5 ⟨rfl, hb5⟩
  replace hx := (hb5.block w.heap.size hl).trans hx
  replace hb := hb.trans (hb5.mono hb.size)
  replace hl := Nat.lt_of_lt_of_le hl hb5.size
  clear hb5 x0 x1 x2
  obtain ⟨x0, x1, x2⟩ := val_cells hx
  go_upto_region 10 with (fail)
  replace hx := (Below.heap_alloc _ (Obj.cells #[.int .i64 4, .int .i64 4, .string ⟨#[]⟩] 26) w.heap.size hl).trans hx
  replace hb := hb.alloc hb.size (Obj.cells #[.int .i64 4, .int .i64 4, .string ⟨#[]⟩] 26)
  have hq5 : (w5.alloc (Obj.cells #[.int .i64 4, .int .i64 4, .string ⟨#[]⟩] 26)).heap[w5.heap.size]? = some (.cells #[.int .i64 4, .int .i64 4, .string ⟨#[]⟩] 26 (0, 0)) := heap_alloc_new _ _
  have hl5 : w5.heap.size < (w5.alloc (Obj.cells #[.int .i64 4, .int .i64 4, .string ⟨#[]⟩] 26)).heap.size := by simp
  replace hl : w.heap.size < (w5.alloc (Obj.cells #[.int .i64 4, .int .i64 4, .string ⟨#[]⟩] 26)).heap.size := by simp; omega
  generalize (w5.alloc (Obj.cells #[.int .i64 4, .int .i64 4, .string ⟨#[]⟩] 26)) = W5 at hx hb hl hq5 hl5 ⊢
  obtain ⟨x0, x1, x2⟩ := val_cells hx
  obtain ⟨q0, q1, q2⟩ := val_cells hq5
  go_wp2
  go_ret
  exact ⟨rfl, hb⟩

set_option maxRecDepth 100000 in
theorem shown_e5 (w : World) 
    (HB0 : ∀ w', Below w.heap.size w w' → Calls Tryd.prog 6 #[] w' fun e w'' => e = .returned (.bool true) ∧ Below w'.heap.size w' w'')
    (H10 : ∀ w', Below w.heap.size w w' → Calls Tryd.prog 8 #[.agg #[.int .i64 4, .int .i64 5, .string ⟨#[]⟩]] w' fun e w'' => e = .returned (.string ⟨#[35, 68, 73, 86, 47, 48, 33]⟩) ∧ Below w'.heap.size w' w'')
    (H20 : ∀ w', Below w.heap.size w w' → Calls Tryd.prog 9 #[.agg #[.int .i64 4, .int .i64 5, .string ⟨#[]⟩]] w' fun e w'' => e = .returned (.bool true) ∧ Below w'.heap.size w' w'')
    (H30 : ∀ w', Below w.heap.size w w' → Calls Tryd.prog 10 #[.agg #[.int .i64 4, .int .i64 5, .string ⟨#[]⟩]] w' fun e w'' => e = .returned (.tuple #[.string ⟨#[]⟩, .int .i64 5]) ∧ Below w'.heap.size w' w'')
    (H40 : ∀ w', Below w.heap.size w w' → Calls Tryd.prog 11 #[.string ⟨#[35, 68, 73, 86, 47, 48, 33]⟩] w' fun e w'' => e = .returned (.tuple #[.agg #[.int .i64 4, .int .i64 5, .string ⟨#[]⟩], .bool true]) ∧ Below w'.heap.size w' w'')
    : Calls Tryd.prog 4 #[.agg #[.int .i64 4, .int .i64 5, .string ⟨#[]⟩]] w fun e w' => e = .returned (.bool true) ∧ Below w.heap.size w w' := by
  have HB := Lib.hid HB0
  have H1 := Lib.hid H10
  have H2 := Lib.hid H20
  have H3 := Lib.hid H30
  have H4 := Lib.hid H40
  clear HB0 H10 H20 H30 H40
  go_enter Tryd.func4, Tryd.ntmps4
  go_upto_region 1 with (fail)
  have hx : (w.alloc (Obj.cells #[.int .i64 4, .int .i64 5, .string ⟨#[]⟩] 26)).heap[w.heap.size]? = some (.cells #[.int .i64 4, .int .i64 5, .string ⟨#[]⟩] 26 (0, 0)) := heap_alloc_new _ _
  have hb : Below w.heap.size w (w.alloc (Obj.cells #[.int .i64 4, .int .i64 5, .string ⟨#[]⟩] 26)) := (Below.refl _ _).alloc (Nat.le_refl _) _
  have hl : w.heap.size < (w.alloc (Obj.cells #[.int .i64 4, .int .i64 5, .string ⟨#[]⟩] 26)).heap.size := by simp
  generalize (w.alloc (Obj.cells #[.int .i64 4, .int .i64 5, .string ⟨#[]⟩] 26)) = W0 at *
  obtain ⟨x0, x1, x2⟩ := val_cells hx
  go_wp2_with (fail)
  refine (HB.out _ hb).mono ?_
  rintro e w1 ⟨rfl, hb1⟩
  replace hx := (hb1.block w.heap.size hl).trans hx
  replace hb := hb.trans (hb1.mono hb.size)
  replace hl := Nat.lt_of_lt_of_le hl hb1.size
  clear hb1 x0 x1 x2
  obtain ⟨x0, x1, x2⟩ := val_cells hx
  go_wp2_with (fail)
  refine (H1.out _ hb).mono ?_
  rintro e w2 ⟨rfl, hb2⟩
  replace hx := (hb2.block w.heap.size hl).trans hx
  replace hb := hb.trans (hb2.mono hb.size)
  replace hl := Nat.lt_of_lt_of_le hl hb2.size
  clear hb2 x0 x1 x2
  obtain ⟨x0, x1, x2⟩ := val_cells hx
  go_wp2_with (fail)
  refine (H2.out _ hb).mono ?_
  rintro e w3 ⟨rfl, hb3⟩
  replace hx := (hb3.block w.heap.size hl).trans hx
  replace hb := hb.trans (hb3.mono hb.size)
  replace hl := Nat.lt_of_lt_of_le hl hb3.size
  clear hb3 x0 x1 x2
  obtain ⟨x0, x1, x2⟩ := val_cells hx
  go_wp2_with (fail)
  refine (H3.out _ hb).mono ?_
  rintro e w4 ⟨rfl, hb4⟩
  replace hx := (hb4.block w.heap.size hl).trans hx
  replace hb := hb.trans (hb4.mono hb.size)
  replace hl := Nat.lt_of_lt_of_le hl hb4.size
  clear hb4 x0 x1 x2
  obtain ⟨x0, x1, x2⟩ := val_cells hx
  go_wp2_with (fail)
  refine (H4.out _ hb).mono ?_
  rintro e w5 ⟨rfl, hb5⟩
  replace hx := (hb5.block w.heap.size hl).trans hx
  replace hb := hb.trans (hb5.mono hb.size)
  replace hl := Nat.lt_of_lt_of_le hl hb5.size
  clear hb5 x0 x1 x2
  obtain ⟨x0, x1, x2⟩ := val_cells hx
  go_upto_region 10 with (fail)
  replace hx := (Below.heap_alloc _ (Obj.cells #[.int .i64 4, .int .i64 5, .string ⟨#[]⟩] 26) w.heap.size hl).trans hx
  replace hb := hb.alloc hb.size (Obj.cells #[.int .i64 4, .int .i64 5, .string ⟨#[]⟩] 26)
  have hq5 : (w5.alloc (Obj.cells #[.int .i64 4, .int .i64 5, .string ⟨#[]⟩] 26)).heap[w5.heap.size]? = some (.cells #[.int .i64 4, .int .i64 5, .string ⟨#[]⟩] 26 (0, 0)) := heap_alloc_new _ _
  have hl5 : w5.heap.size < (w5.alloc (Obj.cells #[.int .i64 4, .int .i64 5, .string ⟨#[]⟩] 26)).heap.size := by simp
  replace hl : w.heap.size < (w5.alloc (Obj.cells #[.int .i64 4, .int .i64 5, .string ⟨#[]⟩] 26)).heap.size := by simp; omega
  generalize (w5.alloc (Obj.cells #[.int .i64 4, .int .i64 5, .string ⟨#[]⟩] 26)) = W5 at hx hb hl hq5 hl5 ⊢
  obtain ⟨x0, x1, x2⟩ := val_cells hx
  obtain ⟨q0, q1, q2⟩ := val_cells hq5
  go_wp2
  go_ret
  exact ⟨rfl, hb⟩

set_option maxRecDepth 100000 in
theorem shown_e6 (w : World) 
    (HB0 : ∀ w', Below w.heap.size w w' → Calls Tryd.prog 6 #[] w' fun e w'' => e = .returned (.bool true) ∧ Below w'.heap.size w' w'')
    (H10 : ∀ w', Below w.heap.size w w' → Calls Tryd.prog 8 #[.agg #[.int .i64 4, .int .i64 6, .string ⟨#[]⟩]] w' fun e w'' => e = .returned (.string ⟨#[35, 78, 47, 65]⟩) ∧ Below w'.heap.size w' w'')
    (H20 : ∀ w', Below w.heap.size w w' → Calls Tryd.prog 9 #[.agg #[.int .i64 4, .int .i64 6, .string ⟨#[]⟩]] w' fun e w'' => e = .returned (.bool true) ∧ Below w'.heap.size w' w'')
    (H30 : ∀ w', Below w.heap.size w w' → Calls Tryd.prog 10 #[.agg #[.int .i64 4, .int .i64 6, .string ⟨#[]⟩]] w' fun e w'' => e = .returned (.tuple #[.string ⟨#[]⟩, .int .i64 6]) ∧ Below w'.heap.size w' w'')
    (H40 : ∀ w', Below w.heap.size w w' → Calls Tryd.prog 11 #[.string ⟨#[35, 78, 47, 65]⟩] w' fun e w'' => e = .returned (.tuple #[.agg #[.int .i64 4, .int .i64 6, .string ⟨#[]⟩], .bool true]) ∧ Below w'.heap.size w' w'')
    : Calls Tryd.prog 4 #[.agg #[.int .i64 4, .int .i64 6, .string ⟨#[]⟩]] w fun e w' => e = .returned (.bool true) ∧ Below w.heap.size w w' := by
  have HB := Lib.hid HB0
  have H1 := Lib.hid H10
  have H2 := Lib.hid H20
  have H3 := Lib.hid H30
  have H4 := Lib.hid H40
  clear HB0 H10 H20 H30 H40
  go_enter Tryd.func4, Tryd.ntmps4
  go_upto_region 1 with (fail)
  have hx : (w.alloc (Obj.cells #[.int .i64 4, .int .i64 6, .string ⟨#[]⟩] 26)).heap[w.heap.size]? = some (.cells #[.int .i64 4, .int .i64 6, .string ⟨#[]⟩] 26 (0, 0)) := heap_alloc_new _ _
  have hb : Below w.heap.size w (w.alloc (Obj.cells #[.int .i64 4, .int .i64 6, .string ⟨#[]⟩] 26)) := (Below.refl _ _).alloc (Nat.le_refl _) _
  have hl : w.heap.size < (w.alloc (Obj.cells #[.int .i64 4, .int .i64 6, .string ⟨#[]⟩] 26)).heap.size := by simp
  generalize (w.alloc (Obj.cells #[.int .i64 4, .int .i64 6, .string ⟨#[]⟩] 26)) = W0 at *
  obtain ⟨x0, x1, x2⟩ := val_cells hx
  go_wp2_with (fail)
  refine (HB.out _ hb).mono ?_
  rintro e w1 ⟨rfl, hb1⟩
  replace hx := (hb1.block w.heap.size hl).trans hx
  replace hb := hb.trans (hb1.mono hb.size)
  replace hl := Nat.lt_of_lt_of_le hl hb1.size
  clear hb1 x0 x1 x2
  obtain ⟨x0, x1, x2⟩ := val_cells hx
  go_wp2_with (fail)
  refine (H1.out _ hb).mono ?_
  rintro e w2 ⟨rfl, hb2⟩
  replace hx := (hb2.block w.heap.size hl).trans hx
  replace hb := hb.trans (hb2.mono hb.size)
  replace hl := Nat.lt_of_lt_of_le hl hb2.size
  clear hb2 x0 x1 x2
  obtain ⟨x0, x1, x2⟩ := val_cells hx
  go_wp2_with (fail)
  refine (H2.out _ hb).mono ?_
  rintro e w3 ⟨rfl, hb3⟩
  replace hx := (hb3.block w.heap.size hl).trans hx
  replace hb := hb.trans (hb3.mono hb.size)
  replace hl := Nat.lt_of_lt_of_le hl hb3.size
  clear hb3 x0 x1 x2
  obtain ⟨x0, x1, x2⟩ := val_cells hx
  go_wp2_with (fail)
  refine (H3.out _ hb).mono ?_
  rintro e w4 ⟨rfl, hb4⟩
  replace hx := (hb4.block w.heap.size hl).trans hx
  replace hb := hb.trans (hb4.mono hb.size)
  replace hl := Nat.lt_of_lt_of_le hl hb4.size
  clear hb4 x0 x1 x2
  obtain ⟨x0, x1, x2⟩ := val_cells hx
  go_wp2_with (fail)
  refine (H4.out _ hb).mono ?_
  rintro e w5 ⟨rfl, hb5⟩
  replace hx := (hb5.block w.heap.size hl).trans hx
  replace hb := hb.trans (hb5.mono hb.size)
  replace hl := Nat.lt_of_lt_of_le hl hb5.size
  clear hb5 x0 x1 x2
  obtain ⟨x0, x1, x2⟩ := val_cells hx
  go_upto_region 10 with (fail)
  replace hx := (Below.heap_alloc _ (Obj.cells #[.int .i64 4, .int .i64 6, .string ⟨#[]⟩] 26) w.heap.size hl).trans hx
  replace hb := hb.alloc hb.size (Obj.cells #[.int .i64 4, .int .i64 6, .string ⟨#[]⟩] 26)
  have hq5 : (w5.alloc (Obj.cells #[.int .i64 4, .int .i64 6, .string ⟨#[]⟩] 26)).heap[w5.heap.size]? = some (.cells #[.int .i64 4, .int .i64 6, .string ⟨#[]⟩] 26 (0, 0)) := heap_alloc_new _ _
  have hl5 : w5.heap.size < (w5.alloc (Obj.cells #[.int .i64 4, .int .i64 6, .string ⟨#[]⟩] 26)).heap.size := by simp
  replace hl : w.heap.size < (w5.alloc (Obj.cells #[.int .i64 4, .int .i64 6, .string ⟨#[]⟩] 26)).heap.size := by simp; omega
  generalize (w5.alloc (Obj.cells #[.int .i64 4, .int .i64 6, .string ⟨#[]⟩] 26)) = W5 at hx hb hl hq5 hl5 ⊢
  obtain ⟨x0, x1, x2⟩ := val_cells hx
  obtain ⟨q0, q1, q2⟩ := val_cells hq5
  go_wp2
  go_ret
  exact ⟨rfl, hb⟩

set_option maxRecDepth 100000 in
theorem shown_t (t : ByteArray) (a1 a2 : Int) (a3 : ByteArray) (ok : Bool) (w : World) (hs : t.size ≤ 32767) 
    (HB0 : ∀ w', Below w.heap.size w w' → Calls Tryd.prog 6 #[] w' fun e w'' => e = .returned (.bool true) ∧ Below w'.heap.size w' w'')
    (H10 : ∀ w', Below w.heap.size w w' → Calls Tryd.prog 8 #[.agg #[.int .i64 3, .int .i64 0, .string t]] w' fun e w'' => e = .returned (.string t) ∧ Below w'.heap.size w' w'')
    (H20 : ∀ w', Below w.heap.size w w' → Calls Tryd.prog 9 #[.agg #[.int .i64 3, .int .i64 0, .string t]] w' fun e w'' => e = .returned (.bool true) ∧ Below w'.heap.size w' w'')
    (H30 : ∀ w', Below w.heap.size w w' → Calls Tryd.prog 10 #[.agg #[.int .i64 3, .int .i64 0, .string t]] w' fun e w'' => e = .returned (.tuple #[.string t, .int .i64 0]) ∧ Below w'.heap.size w' w'')
    (H40 : ∀ w', Below w.heap.size w w' → Calls Tryd.prog 11 #[.string t] w' fun e w'' => e = .returned (.tuple #[.agg #[.int .i64 a1, .int .i64 a2, .string a3], .bool ok]) ∧ Below w'.heap.size w' w'')
    (H50 : ∀ w', Below w.heap.size w w' → Calls Tryd.prog 11 #[.string (⟨#[39]⟩ ++ t)] w' fun e w'' => e = .returned (.tuple #[.agg #[.int .i64 3, .int .i64 0, .string t], .bool true]) ∧ Below w'.heap.size w' w'')
    : Calls Tryd.prog 4 #[.agg #[.int .i64 3, .int .i64 0, .string t]] w fun e w' => e = .returned (.bool true) ∧ Below w.heap.size w w' := by
  have HB := Lib.hid HB0
  have H1 := Lib.hid H10
  have H2 := Lib.hid H20
  have H3 := Lib.hid H30
  have H4 := Lib.hid H40
  have H5 := Lib.hid H50
  clear HB0 H10 H20 H30 H40 H50
  go_enter Tryd.func4, Tryd.ntmps4
  go_upto_region 1 with (fail)
  have hx : (w.alloc (Obj.cells #[.int .i64 3, .int .i64 0, .string t] 26)).heap[w.heap.size]? = some (.cells #[.int .i64 3, .int .i64 0, .string t] 26 (0, 0)) := heap_alloc_new _ _
  have hb : Below w.heap.size w (w.alloc (Obj.cells #[.int .i64 3, .int .i64 0, .string t] 26)) := (Below.refl _ _).alloc (Nat.le_refl _) _
  have hl : w.heap.size < (w.alloc (Obj.cells #[.int .i64 3, .int .i64 0, .string t] 26)).heap.size := by simp
  generalize (w.alloc (Obj.cells #[.int .i64 3, .int .i64 0, .string t] 26)) = W0 at *
  obtain ⟨x0, x1, x2⟩ := val_cells hx
  go_wp2_with (fail)
  refine (HB.out _ hb).mono ?_
  rintro e w1 ⟨rfl, hb1⟩
  replace hx := (hb1.block w.heap.size hl).trans hx
  replace hb := hb.trans (hb1.mono hb.size)
  replace hl := Nat.lt_of_lt_of_le hl hb1.size
  clear hb1 x0 x1 x2
  obtain ⟨x0, x1, x2⟩ := val_cells hx
  go_wp2_with (fail)
  refine (H1.out _ hb).mono ?_
  rintro e w2 ⟨rfl, hb2⟩
  replace hx := (hb2.block w.heap.size hl).trans hx
  replace hb := hb.trans (hb2.mono hb.size)
  replace hl := Nat.lt_of_lt_of_le hl hb2.size
  clear hb2 x0 x1 x2
  obtain ⟨x0, x1, x2⟩ := val_cells hx
  go_wp2_with (fail)
  refine (H2.out _ hb).mono ?_
  rintro e w3 ⟨rfl, hb3⟩
  replace hx := (hb3.block w.heap.size hl).trans hx
  replace hb := hb.trans (hb3.mono hb.size)
  replace hl := Nat.lt_of_lt_of_le hl hb3.size
  clear hb3 x0 x1 x2
  obtain ⟨x0, x1, x2⟩ := val_cells hx
  go_wp2_with (fail)
  refine (H3.out _ hb).mono ?_
  rintro e w4 ⟨rfl, hb4⟩
  replace hx := (hb4.block w.heap.size hl).trans hx
  replace hb := hb.trans (hb4.mono hb.size)
  replace hl := Nat.lt_of_lt_of_le hl hb4.size
  clear hb4 x0 x1 x2
  obtain ⟨x0, x1, x2⟩ := val_cells hx
  go_wp2_with (fail)
  refine (H4.out _ hb).mono ?_
  rintro e w5 ⟨rfl, hb5⟩
  replace hx := (hb5.block w.heap.size hl).trans hx
  replace hb := hb.trans (hb5.mono hb.size)
  replace hl := Nat.lt_of_lt_of_le hl hb5.size
  clear hb5 x0 x1 x2
  obtain ⟨x0, x1, x2⟩ := val_cells hx
  go_upto_region 10 with (fail)
  replace hx := (Below.heap_alloc _ (Obj.cells #[.int .i64 a1, .int .i64 a2, .string a3] 26) w.heap.size hl).trans hx
  replace hb := hb.alloc hb.size (Obj.cells #[.int .i64 a1, .int .i64 a2, .string a3] 26)
  have hq5 : (w5.alloc (Obj.cells #[.int .i64 a1, .int .i64 a2, .string a3] 26)).heap[w5.heap.size]? = some (.cells #[.int .i64 a1, .int .i64 a2, .string a3] 26 (0, 0)) := heap_alloc_new _ _
  have hl5 : w5.heap.size < (w5.alloc (Obj.cells #[.int .i64 a1, .int .i64 a2, .string a3] 26)).heap.size := by simp
  replace hl : w.heap.size < (w5.alloc (Obj.cells #[.int .i64 a1, .int .i64 a2, .string a3] 26)).heap.size := by simp; omega
  generalize (w5.alloc (Obj.cells #[.int .i64 a1, .int .i64 a2, .string a3] 26)) = W5 at hx hb hl hq5 hl5 ⊢
  obtain ⟨x0, x1, x2⟩ := val_cells hx
  obtain ⟨q0, q1, q2⟩ := val_cells hq5
  go_wp2_with (fail)
  refine (H5.out _ hb).mono ?_
  rintro e w6 ⟨rfl, hb6⟩
  replace hx := (hb6.block w.heap.size hl).trans hx
  replace hb := hb.trans (hb6.mono hb.size)
  replace hl := Nat.lt_of_lt_of_le hl hb6.size
  clear hb6 x0 x1 x2
  obtain ⟨x0, x1, x2⟩ := val_cells hx
  go_upto_region 15 with (fail)
  replace hx := (Below.heap_alloc _ (Obj.cells #[.int .i64 3, .int .i64 0, .string t] 26) w.heap.size hl).trans hx
  replace hb := hb.alloc hb.size (Obj.cells #[.int .i64 3, .int .i64 0, .string t] 26)
  have hq6 : (w6.alloc (Obj.cells #[.int .i64 3, .int .i64 0, .string t] 26)).heap[w6.heap.size]? = some (.cells #[.int .i64 3, .int .i64 0, .string t] 26 (0, 0)) := heap_alloc_new _ _
  have hl6 : w6.heap.size < (w6.alloc (Obj.cells #[.int .i64 3, .int .i64 0, .string t] 26)).heap.size := by simp
  replace hl : w.heap.size < (w6.alloc (Obj.cells #[.int .i64 3, .int .i64 0, .string t] 26)).heap.size := by simp; omega
  generalize (w6.alloc (Obj.cells #[.int .i64 3, .int .i64 0, .string t] 26)) = W6 at hx hb hl hq6 hl6 ⊢
  obtain ⟨x0, x1, x2⟩ := val_cells hx
  obtain ⟨q0, q1, q2⟩ := val_cells hq6
  go_wp2
  go_ret
  exact ⟨rfl, hb⟩
end Go.Proofs.YtdbjmjeiaajdiaaDoor
