/- The walk of quadrillelaw4.ValueKinds. -/
import Derived.Test.YtedcfddbfpgeaabDoorValI
namespace Go.Proofs.YtedcfddbfpgeaabDoor
open Go.RowKit
set_option linter.unusedVariables false

theorem kinds_x (k n : Int) (t : ByteArray) (w : World) 
    (HB0 : ∀ w', Below w.heap.size w w' → Calls Tryd.prog 8 #[] w' fun e w'' => e = .returned (.bool true) ∧ Below w'.heap.size w' w'')
    (H10 : ∀ w', Below w.heap.size w w' → Calls Tryd.prog 14 #[.agg #[.int .i64 k, .int .i64 n, .string t]] w' fun e w'' => e = .returned (.tuple #[.int .i64 0, .int .i64 4]) ∧ Below w'.heap.size w' w'')
    (H20 : ∀ w', Below w.heap.size w w' → Calls Tryd.prog 15 #[.agg #[.int .i64 k, .int .i64 n, .string t]] w' fun e w'' => e = .returned (.tuple #[.bool false, .int .i64 4]) ∧ Below w'.heap.size w' w'')
    (H30 : ∀ w', Below w.heap.size w w' → Calls Tryd.prog 12 #[.agg #[.int .i64 k, .int .i64 n, .string t]] w' fun e w'' => e = .returned (.tuple #[.string ⟨#[]⟩, .int .i64 4]) ∧ Below w'.heap.size w' w'')
    (H40 : ∀ w', Below w.heap.size w w' → Calls Tryd.prog 11 #[.agg #[.int .i64 k, .int .i64 n, .string t]] w' fun e w'' => e = .returned (.bool false) ∧ Below w'.heap.size w' w'')
    : Calls Tryd.prog 5 #[.agg #[.int .i64 k, .int .i64 n, .string t]] w fun e w' => e = .returned (.bool true) ∧ Below w.heap.size w w' := by
  have HB := Lib.hid HB0
  have H1 := Lib.hid H10
  have H2 := Lib.hid H20
  have H3 := Lib.hid H30
  have H4 := Lib.hid H40
  clear HB0 H10 H20 H30 H40
  go_enter Tryd.func5, Tryd.ntmps5
  go_upto_region 1 with (fail)
  have hx : (w.alloc (Obj.cells #[.int .i64 k, .int .i64 n, .string t] 26)).heap[w.heap.size]? = some (.cells #[.int .i64 k, .int .i64 n, .string t] 26 (0, 0)) := heap_alloc_new _ _
  have hb : Below w.heap.size w (w.alloc (Obj.cells #[.int .i64 k, .int .i64 n, .string t] 26)) := (Below.refl _ _).alloc (Nat.le_refl _) _
  have hl : w.heap.size < (w.alloc (Obj.cells #[.int .i64 k, .int .i64 n, .string t] 26)).heap.size := by simp
  generalize (w.alloc (Obj.cells #[.int .i64 k, .int .i64 n, .string t] 26)) = W0 at *
  obtain ⟨x0, x1, x2⟩ := val_cells hx
  go_wp2_with (fail)
  refine (HB.out _ hb).mono ?_
  rintro e w1 ⟨rfl, hb1⟩
  replace hx := (hb1.block w.heap.size hl).trans hx
  replace hb := hb.trans (hb1.mono hb.size)
  replace hl := Nat.lt_of_lt_of_le hl hb1.size
  clear hb1 x0 x1 x2
  obtain ⟨x0, x1, x2⟩ := val_cells hx
  go_wp2_with (fail)
  refine (H1.out _ hb).mono ?_
  rintro e w2 ⟨rfl, hb2⟩
  replace hx := (hb2.block w.heap.size hl).trans hx
  replace hb := hb.trans (hb2.mono hb.size)
  replace hl := Nat.lt_of_lt_of_le hl hb2.size
  clear hb2 x0 x1 x2
  obtain ⟨x0, x1, x2⟩ := val_cells hx
  go_wp2_with (fail)
  refine (H2.out _ hb).mono ?_
  rintro e w3 ⟨rfl, hb3⟩
  replace hx := (hb3.block w.heap.size hl).trans hx
  replace hb := hb.trans (hb3.mono hb.size)
  replace hl := Nat.lt_of_lt_of_le hl hb3.size
  clear hb3 x0 x1 x2
  obtain ⟨x0, x1, x2⟩ := val_cells hx
  go_wp2_with (fail)
  refine (H3.out _ hb).mono ?_
  rintro e w4 ⟨rfl, hb4⟩
  replace hx := (hb4.block w.heap.size hl).trans hx
  replace hb := hb.trans (hb4.mono hb.size)
  replace hl := Nat.lt_of_lt_of_le hl hb4.size
  clear hb4 x0 x1 x2
  obtain ⟨x0, x1, x2⟩ := val_cells hx
  go_wp2_with (fail)
  refine (H4.out _ hb).mono ?_
  rintro e w5 ⟨rfl, hb5⟩
  replace hx := (hb5.block w.heap.size hl).trans hx
  replace hb := hb.trans (hb5.mono hb.size)
  replace hl := Nat.lt_of_lt_of_le hl hb5.size
  clear hb5 x0 x1 x2
  obtain ⟨x0, x1, x2⟩ := val_cells hx
  go_wp2
  go_ret
  exact ⟨rfl, hb⟩

theorem kinds_e (n : Int) (t : ByteArray) (w : World) (hn : (n != 0) = true) (hn2 : (n == 0) = false) 
    (HB0 : ∀ w', Below w.heap.size w w' → Calls Tryd.prog 8 #[] w' fun e w'' => e = .returned (.bool true) ∧ Below w'.heap.size w' w'')
    (H10 : ∀ w', Below w.heap.size w w' → Calls Tryd.prog 14 #[.agg #[.int .i64 4, .int .i64 n, .string t]] w' fun e w'' => e = .returned (.tuple #[.int .i64 0, .int .i64 n]) ∧ Below w'.heap.size w' w'')
    (H20 : ∀ w', Below w.heap.size w w' → Calls Tryd.prog 15 #[.agg #[.int .i64 4, .int .i64 n, .string t]] w' fun e w'' => e = .returned (.tuple #[.bool false, .int .i64 n]) ∧ Below w'.heap.size w' w'')
    (H30 : ∀ w', Below w.heap.size w w' → Calls Tryd.prog 12 #[.agg #[.int .i64 4, .int .i64 n, .string t]] w' fun e w'' => e = .returned (.tuple #[.string ⟨#[]⟩, .int .i64 n]) ∧ Below w'.heap.size w' w'')
    (H40 : ∀ w', Below w.heap.size w w' → Calls Tryd.prog 11 #[.agg #[.int .i64 4, .int .i64 n, .string t]] w' fun e w'' => e = .returned (.bool true) ∧ Below w'.heap.size w' w'')
    : Calls Tryd.prog 5 #[.agg #[.int .i64 4, .int .i64 n, .string t]] w fun e w' => e = .returned (.bool true) ∧ Below w.heap.size w w' := by
  have HB := Lib.hid HB0
  have H1 := Lib.hid H10
  have H2 := Lib.hid H20
  have H3 := Lib.hid H30
  have H4 := Lib.hid H40
  clear HB0 H10 H20 H30 H40
  go_enter Tryd.func5, Tryd.ntmps5
  go_upto_region 1 with (fail)
  have hx : (w.alloc (Obj.cells #[.int .i64 4, .int .i64 n, .string t] 26)).heap[w.heap.size]? = some (.cells #[.int .i64 4, .int .i64 n, .string t] 26 (0, 0)) := heap_alloc_new _ _
  have hb : Below w.heap.size w (w.alloc (Obj.cells #[.int .i64 4, .int .i64 n, .string t] 26)) := (Below.refl _ _).alloc (Nat.le_refl _) _
  have hl : w.heap.size < (w.alloc (Obj.cells #[.int .i64 4, .int .i64 n, .string t] 26)).heap.size := by simp
  generalize (w.alloc (Obj.cells #[.int .i64 4, .int .i64 n, .string t] 26)) = W0 at *
  obtain ⟨x0, x1, x2⟩ := val_cells hx
  go_wp2_with (fail)
  refine (HB.out _ hb).mono ?_
  rintro e w1 ⟨rfl, hb1⟩
  replace hx := (hb1.block w.heap.size hl).trans hx
  replace hb := hb.trans (hb1.mono hb.size)
  replace hl := Nat.lt_of_lt_of_le hl hb1.size
  clear hb1 x0 x1 x2
  obtain ⟨x0, x1, x2⟩ := val_cells hx
  go_wp2_with (fail)
  refine (H1.out _ hb).mono ?_
  rintro e w2 ⟨rfl, hb2⟩
  replace hx := (hb2.block w.heap.size hl).trans hx
  replace hb := hb.trans (hb2.mono hb.size)
  replace hl := Nat.lt_of_lt_of_le hl hb2.size
  clear hb2 x0 x1 x2
  obtain ⟨x0, x1, x2⟩ := val_cells hx
  go_wp2_with (fail)
  refine (H2.out _ hb).mono ?_
  rintro e w3 ⟨rfl, hb3⟩
  replace hx := (hb3.block w.heap.size hl).trans hx
  replace hb := hb.trans (hb3.mono hb.size)
  replace hl := Nat.lt_of_lt_of_le hl hb3.size
  clear hb3 x0 x1 x2
  obtain ⟨x0, x1, x2⟩ := val_cells hx
  go_wp2_with (fail)
  refine (H3.out _ hb).mono ?_
  rintro e w4 ⟨rfl, hb4⟩
  replace hx := (hb4.block w.heap.size hl).trans hx
  replace hb := hb.trans (hb4.mono hb.size)
  replace hl := Nat.lt_of_lt_of_le hl hb4.size
  clear hb4 x0 x1 x2
  obtain ⟨x0, x1, x2⟩ := val_cells hx
  go_wp2_with (fail)
  refine (H4.out _ hb).mono ?_
  rintro e w5 ⟨rfl, hb5⟩
  replace hx := (hb5.block w.heap.size hl).trans hx
  replace hb := hb.trans (hb5.mono hb.size)
  replace hl := Nat.lt_of_lt_of_le hl hb5.size
  clear hb5 x0 x1 x2
  obtain ⟨x0, x1, x2⟩ := val_cells hx
  go_wp2
  go_ret
  exact ⟨rfl, hb⟩

theorem kinds_nT (m : Int) (t : ByteArray) (w : World) (tt : (t.toList == [84, 82, 85, 69]) = true) 
    (HB0 : ∀ w', Below w.heap.size w w' → Calls Tryd.prog 8 #[] w' fun e w'' => e = .returned (.bool true) ∧ Below w'.heap.size w' w'')
    (H10 : ∀ w', Below w.heap.size w w' → Calls Tryd.prog 14 #[.agg #[.int .i64 3, .int .i64 0, .string t]] w' fun e w'' => e = .returned (.tuple #[.int .i64 m, .int .i64 0]) ∧ Below w'.heap.size w' w'')
    (H20 : ∀ w', Below w.heap.size w w' → Calls Tryd.prog 15 #[.agg #[.int .i64 3, .int .i64 0, .string t]] w' fun e w'' => e = .returned (.tuple #[.bool true, .int .i64 0]) ∧ Below w'.heap.size w' w'')
    (H30 : ∀ w', Below w.heap.size w w' → Calls Tryd.prog 12 #[.agg #[.int .i64 3, .int .i64 0, .string t]] w' fun e w'' => e = .returned (.tuple #[.string t, .int .i64 0]) ∧ Below w'.heap.size w' w'')
    (H40 : ∀ w', Below w.heap.size w w' → Calls Tryd.prog 11 #[.agg #[.int .i64 3, .int .i64 0, .string t]] w' fun e w'' => e = .returned (.bool true) ∧ Below w'.heap.size w' w'')
    (H50 : ∀ w', Below w.heap.size w w' → Calls Tryd.prog 12 #[.agg #[.int .i64 1, .int .i64 m, .string ⟨#[]⟩]] w' fun e w'' => e = .returned (.tuple #[.string t, .int .i64 0]) ∧ Below w'.heap.size w' w'')
    : Calls Tryd.prog 5 #[.agg #[.int .i64 3, .int .i64 0, .string t]] w fun e w' => e = .returned (.bool true) ∧ Below w.heap.size w w' := by
  have HB := Lib.hid HB0
  have H1 := Lib.hid H10
  have H2 := Lib.hid H20
  have H3 := Lib.hid H30
  have H4 := Lib.hid H40
  have H5 := Lib.hid H50
  clear HB0 H10 H20 H30 H40 H50
  go_enter Tryd.func5, Tryd.ntmps5
  go_upto_region 1 with (fail)
  have hx : (w.alloc (Obj.cells #[.int .i64 3, .int .i64 0, .string t] 26)).heap[w.heap.size]? = some (.cells #[.int .i64 3, .int .i64 0, .string t] 26 (0, 0)) := heap_alloc_new _ _
  have hb : Below w.heap.size w (w.alloc (Obj.cells #[.int .i64 3, .int .i64 0, .string t] 26)) := (Below.refl _ _).alloc (Nat.le_refl _) _
  have hl : w.heap.size < (w.alloc (Obj.cells #[.int .i64 3, .int .i64 0, .string t] 26)).heap.size := by simp
  generalize (w.alloc (Obj.cells #[.int .i64 3, .int .i64 0, .string t] 26)) = W0 at *
  obtain ⟨x0, x1, x2⟩ := val_cells hx
  go_wp2_with (fail)
  refine (HB.out _ hb).mono ?_
  rintro e w1 ⟨rfl, hb1⟩
  replace hx := (hb1.block w.heap.size hl).trans hx
  replace hb := hb.trans (hb1.mono hb.size)
  replace hl := Nat.lt_of_lt_of_le hl hb1.size
  clear hb1 x0 x1 x2
  obtain ⟨x0, x1, x2⟩ := val_cells hx
  go_wp2_with (fail)
  refine (H1.out _ hb).mono ?_
  rintro e w2 ⟨rfl, hb2⟩
  replace hx := (hb2.block w.heap.size hl).trans hx
  replace hb := hb.trans (hb2.mono hb.size)
  replace hl := Nat.lt_of_lt_of_le hl hb2.size
  clear hb2 x0 x1 x2
  obtain ⟨x0, x1, x2⟩ := val_cells hx
  go_wp2_with (fail)
  refine (H2.out _ hb).mono ?_
  rintro e w3 ⟨rfl, hb3⟩
  replace hx := (hb3.block w.heap.size hl).trans hx
  replace hb := hb.trans (hb3.mono hb.size)
  replace hl := Nat.lt_of_lt_of_le hl hb3.size
  clear hb3 x0 x1 x2
  obtain ⟨x0, x1, x2⟩ := val_cells hx
  go_wp2_with (fail)
  refine (H3.out _ hb).mono ?_
  rintro e w4 ⟨rfl, hb4⟩
  replace hx := (hb4.block w.heap.size hl).trans hx
  replace hb := hb.trans (hb4.mono hb.size)
  replace hl := Nat.lt_of_lt_of_le hl hb4.size
  clear hb4 x0 x1 x2
  obtain ⟨x0, x1, x2⟩ := val_cells hx
  go_wp2_with (fail)
  refine (H4.out _ hb).mono ?_
  rintro e w5 ⟨rfl, hb5⟩
  replace hx := (hb5.block w.heap.size hl).trans hx
  replace hb := hb.trans (hb5.mono hb.size)
  replace hl := Nat.lt_of_lt_of_le hl hb5.size
  clear hb5 x0 x1 x2
  obtain ⟨x0, x1, x2⟩ := val_cells hx
  go_wp2_with (fail)
  refine (H5.out _ hb).mono ?_
  rintro e w6 ⟨rfl, hb6⟩
  replace hx := (hb6.block w.heap.size hl).trans hx
  replace hb := hb.trans (hb6.mono hb.size)
  replace hl := Nat.lt_of_lt_of_le hl hb6.size
  clear hb6 x0 x1 x2
  obtain ⟨x0, x1, x2⟩ := val_cells hx
  go_wp2
  go_ret
  exact ⟨rfl, hb⟩

theorem kinds_tT (t : ByteArray) (w : World) (tt : (t.toList == [84, 82, 85, 69]) = true) 
    (HB0 : ∀ w', Below w.heap.size w w' → Calls Tryd.prog 8 #[] w' fun e w'' => e = .returned (.bool true) ∧ Below w'.heap.size w' w'')
    (H10 : ∀ w', Below w.heap.size w w' → Calls Tryd.prog 14 #[.agg #[.int .i64 3, .int .i64 0, .string t]] w' fun e w'' => e = .returned (.tuple #[.int .i64 0, .int .i64 4]) ∧ Below w'.heap.size w' w'')
    (H20 : ∀ w', Below w.heap.size w w' → Calls Tryd.prog 15 #[.agg #[.int .i64 3, .int .i64 0, .string t]] w' fun e w'' => e = .returned (.tuple #[.bool true, .int .i64 0]) ∧ Below w'.heap.size w' w'')
    (H30 : ∀ w', Below w.heap.size w w' → Calls Tryd.prog 12 #[.agg #[.int .i64 3, .int .i64 0, .string t]] w' fun e w'' => e = .returned (.tuple #[.string t, .int .i64 0]) ∧ Below w'.heap.size w' w'')
    (H40 : ∀ w', Below w.heap.size w w' → Calls Tryd.prog 11 #[.agg #[.int .i64 3, .int .i64 0, .string t]] w' fun e w'' => e = .returned (.bool true) ∧ Below w'.heap.size w' w'')
    : Calls Tryd.prog 5 #[.agg #[.int .i64 3, .int .i64 0, .string t]] w fun e w' => e = .returned (.bool true) ∧ Below w.heap.size w w' := by
  have HB := Lib.hid HB0
  have H1 := Lib.hid H10
  have H2 := Lib.hid H20
  have H3 := Lib.hid H30
  have H4 := Lib.hid H40
  clear HB0 H10 H20 H30 H40
  go_enter Tryd.func5, Tryd.ntmps5
  go_upto_region 1 with (fail)
  have hx : (w.alloc (Obj.cells #[.int .i64 3, .int .i64 0, .string t] 26)).heap[w.heap.size]? = some (.cells #[.int .i64 3, .int .i64 0, .string t] 26 (0, 0)) := heap_alloc_new _ _
  have hb : Below w.heap.size w (w.alloc (Obj.cells #[.int .i64 3, .int .i64 0, .string t] 26)) := (Below.refl _ _).alloc (Nat.le_refl _) _
  have hl : w.heap.size < (w.alloc (Obj.cells #[.int .i64 3, .int .i64 0, .string t] 26)).heap.size := by simp
  generalize (w.alloc (Obj.cells #[.int .i64 3, .int .i64 0, .string t] 26)) = W0 at *
  obtain ⟨x0, x1, x2⟩ := val_cells hx
  go_wp2_with (fail)
  refine (HB.out _ hb).mono ?_
  rintro e w1 ⟨rfl, hb1⟩
  replace hx := (hb1.block w.heap.size hl).trans hx
  replace hb := hb.trans (hb1.mono hb.size)
  replace hl := Nat.lt_of_lt_of_le hl hb1.size
  clear hb1 x0 x1 x2
  obtain ⟨x0, x1, x2⟩ := val_cells hx
  go_wp2_with (fail)
  refine (H1.out _ hb).mono ?_
  rintro e w2 ⟨rfl, hb2⟩
  replace hx := (hb2.block w.heap.size hl).trans hx
  replace hb := hb.trans (hb2.mono hb.size)
  replace hl := Nat.lt_of_lt_of_le hl hb2.size
  clear hb2 x0 x1 x2
  obtain ⟨x0, x1, x2⟩ := val_cells hx
  go_wp2_with (fail)
  refine (H2.out _ hb).mono ?_
  rintro e w3 ⟨rfl, hb3⟩
  replace hx := (hb3.block w.heap.size hl).trans hx
  replace hb := hb.trans (hb3.mono hb.size)
  replace hl := Nat.lt_of_lt_of_le hl hb3.size
  clear hb3 x0 x1 x2
  obtain ⟨x0, x1, x2⟩ := val_cells hx
  go_wp2_with (fail)
  refine (H3.out _ hb).mono ?_
  rintro e w4 ⟨rfl, hb4⟩
  replace hx := (hb4.block w.heap.size hl).trans hx
  replace hb := hb.trans (hb4.mono hb.size)
  replace hl := Nat.lt_of_lt_of_le hl hb4.size
  clear hb4 x0 x1 x2
  obtain ⟨x0, x1, x2⟩ := val_cells hx
  go_wp2_with (fail)
  refine (H4.out _ hb).mono ?_
  rintro e w5 ⟨rfl, hb5⟩
  replace hx := (hb5.block w.heap.size hl).trans hx
  replace hb := hb.trans (hb5.mono hb.size)
  replace hl := Nat.lt_of_lt_of_le hl hb5.size
  clear hb5 x0 x1 x2
  obtain ⟨x0, x1, x2⟩ := val_cells hx
  go_wp2
  go_ret
  exact ⟨rfl, hb⟩

theorem kinds_nF (m : Int) (t : ByteArray) (w : World) (tt : (t.toList == [84, 82, 85, 69]) = false) (tf : (t.toList == [70, 65, 76, 83, 69]) = true) 
    (HB0 : ∀ w', Below w.heap.size w w' → Calls Tryd.prog 8 #[] w' fun e w'' => e = .returned (.bool true) ∧ Below w'.heap.size w' w'')
    (H10 : ∀ w', Below w.heap.size w w' → Calls Tryd.prog 14 #[.agg #[.int .i64 3, .int .i64 0, .string t]] w' fun e w'' => e = .returned (.tuple #[.int .i64 m, .int .i64 0]) ∧ Below w'.heap.size w' w'')
    (H20 : ∀ w', Below w.heap.size w w' → Calls Tryd.prog 15 #[.agg #[.int .i64 3, .int .i64 0, .string t]] w' fun e w'' => e = .returned (.tuple #[.bool false, .int .i64 0]) ∧ Below w'.heap.size w' w'')
    (H30 : ∀ w', Below w.heap.size w w' → Calls Tryd.prog 12 #[.agg #[.int .i64 3, .int .i64 0, .string t]] w' fun e w'' => e = .returned (.tuple #[.string t, .int .i64 0]) ∧ Below w'.heap.size w' w'')
    (H40 : ∀ w', Below w.heap.size w w' → Calls Tryd.prog 11 #[.agg #[.int .i64 3, .int .i64 0, .string t]] w' fun e w'' => e = .returned (.bool true) ∧ Below w'.heap.size w' w'')
    (H50 : ∀ w', Below w.heap.size w w' → Calls Tryd.prog 12 #[.agg #[.int .i64 1, .int .i64 m, .string ⟨#[]⟩]] w' fun e w'' => e = .returned (.tuple #[.string t, .int .i64 0]) ∧ Below w'.heap.size w' w'')
    : Calls Tryd.prog 5 #[.agg #[.int .i64 3, .int .i64 0, .string t]] w fun e w' => e = .returned (.bool true) ∧ Below w.heap.size w w' := by
  have HB := Lib.hid HB0
  have H1 := Lib.hid H10
  have H2 := Lib.hid H20
  have H3 := Lib.hid H30
  have H4 := Lib.hid H40
  have H5 := Lib.hid H50
  clear HB0 H10 H20 H30 H40 H50
  go_enter Tryd.func5, Tryd.ntmps5
  go_upto_region 1 with (fail)
  have hx : (w.alloc (Obj.cells #[.int .i64 3, .int .i64 0, .string t] 26)).heap[w.heap.size]? = some (.cells #[.int .i64 3, .int .i64 0, .string t] 26 (0, 0)) := heap_alloc_new _ _
  have hb : Below w.heap.size w (w.alloc (Obj.cells #[.int .i64 3, .int .i64 0, .string t] 26)) := (Below.refl _ _).alloc (Nat.le_refl _) _
  have hl : w.heap.size < (w.alloc (Obj.cells #[.int .i64 3, .int .i64 0, .string t] 26)).heap.size := by simp
  generalize (w.alloc (Obj.cells #[.int .i64 3, .int .i64 0, .string t] 26)) = W0 at *
  obtain ⟨x0, x1, x2⟩ := val_cells hx
  go_wp2_with (fail)
  refine (HB.out _ hb).mono ?_
  rintro e w1 ⟨rfl, hb1⟩
  replace hx := (hb1.block w.heap.size hl).trans hx
  replace hb := hb.trans (hb1.mono hb.size)
  replace hl := Nat.lt_of_lt_of_le hl hb1.size
  clear hb1 x0 x1 x2
  obtain ⟨x0, x1, x2⟩ := val_cells hx
  go_wp2_with (fail)
  refine (H1.out _ hb).mono ?_
  rintro e w2 ⟨rfl, hb2⟩
  replace hx := (hb2.block w.heap.size hl).trans hx
  replace hb := hb.trans (hb2.mono hb.size)
  replace hl := Nat.lt_of_lt_of_le hl hb2.size
  clear hb2 x0 x1 x2
  obtain ⟨x0, x1, x2⟩ := val_cells hx
  go_wp2_with (fail)
  refine (H2.out _ hb).mono ?_
  rintro e w3 ⟨rfl, hb3⟩
  replace hx := (hb3.block w.heap.size hl).trans hx
  replace hb := hb.trans (hb3.mono hb.size)
  replace hl := Nat.lt_of_lt_of_le hl hb3.size
  clear hb3 x0 x1 x2
  obtain ⟨x0, x1, x2⟩ := val_cells hx
  go_wp2_with (fail)
  refine (H3.out _ hb).mono ?_
  rintro e w4 ⟨rfl, hb4⟩
  replace hx := (hb4.block w.heap.size hl).trans hx
  replace hb := hb.trans (hb4.mono hb.size)
  replace hl := Nat.lt_of_lt_of_le hl hb4.size
  clear hb4 x0 x1 x2
  obtain ⟨x0, x1, x2⟩ := val_cells hx
  go_wp2_with (fail)
  refine (H4.out _ hb).mono ?_
  rintro e w5 ⟨rfl, hb5⟩
  replace hx := (hb5.block w.heap.size hl).trans hx
  replace hb := hb.trans (hb5.mono hb.size)
  replace hl := Nat.lt_of_lt_of_le hl hb5.size
  clear hb5 x0 x1 x2
  obtain ⟨x0, x1, x2⟩ := val_cells hx
  go_wp2_with (fail)
  refine (H5.out _ hb).mono ?_
  rintro e w6 ⟨rfl, hb6⟩
  replace hx := (hb6.block w.heap.size hl).trans hx
  replace hb := hb.trans (hb6.mono hb.size)
  replace hl := Nat.lt_of_lt_of_le hl hb6.size
  clear hb6 x0 x1 x2
  obtain ⟨x0, x1, x2⟩ := val_cells hx
  go_wp2
  go_ret
  exact ⟨rfl, hb⟩

theorem kinds_tF (t : ByteArray) (w : World) (tt : (t.toList == [84, 82, 85, 69]) = false) (tf : (t.toList == [70, 65, 76, 83, 69]) = true) 
    (HB0 : ∀ w', Below w.heap.size w w' → Calls Tryd.prog 8 #[] w' fun e w'' => e = .returned (.bool true) ∧ Below w'.heap.size w' w'')
    (H10 : ∀ w', Below w.heap.size w w' → Calls Tryd.prog 14 #[.agg #[.int .i64 3, .int .i64 0, .string t]] w' fun e w'' => e = .returned (.tuple #[.int .i64 0, .int .i64 4]) ∧ Below w'.heap.size w' w'')
    (H20 : ∀ w', Below w.heap.size w w' → Calls Tryd.prog 15 #[.agg #[.int .i64 3, .int .i64 0, .string t]] w' fun e w'' => e = .returned (.tuple #[.bool false, .int .i64 0]) ∧ Below w'.heap.size w' w'')
    (H30 : ∀ w', Below w.heap.size w w' → Calls Tryd.prog 12 #[.agg #[.int .i64 3, .int .i64 0, .string t]] w' fun e w'' => e = .returned (.tuple #[.string t, .int .i64 0]) ∧ Below w'.heap.size w' w'')
    (H40 : ∀ w', Below w.heap.size w w' → Calls Tryd.prog 11 #[.agg #[.int .i64 3, .int .i64 0, .string t]] w' fun e w'' => e = .returned (.bool true) ∧ Below w'.heap.size w' w'')
    : Calls Tryd.prog 5 #[.agg #[.int .i64 3, .int .i64 0, .string t]] w fun e w' => e = .returned (.bool true) ∧ Below w.heap.size w w' := by
  have HB := Lib.hid HB0
  have H1 := Lib.hid H10
  have H2 := Lib.hid H20
  have H3 := Lib.hid H30
  have H4 := Lib.hid H40
  clear HB0 H10 H20 H30 H40
  go_enter Tryd.func5, Tryd.ntmps5
  go_upto_region 1 with (fail)
  have hx : (w.alloc (Obj.cells #[.int .i64 3, .int .i64 0, .string t] 26)).heap[w.heap.size]? = some (.cells #[.int .i64 3, .int .i64 0, .string t] 26 (0, 0)) := heap_alloc_new _ _
  have hb : Below w.heap.size w (w.alloc (Obj.cells #[.int .i64 3, .int .i64 0, .string t] 26)) := (Below.refl _ _).alloc (Nat.le_refl _) _
  have hl : w.heap.size < (w.alloc (Obj.cells #[.int .i64 3, .int .i64 0, .string t] 26)).heap.size := by simp
  generalize (w.alloc (Obj.cells #[.int .i64 3, .int .i64 0, .string t] 26)) = W0 at *
  obtain ⟨x0, x1, x2⟩ := val_cells hx
  go_wp2_with (fail)
  refine (HB.out _ hb).mono ?_
  rintro e w1 ⟨rfl, hb1⟩
  replace hx := (hb1.block w.heap.size hl).trans hx
  replace hb := hb.trans (hb1.mono hb.size)
  replace hl := Nat.lt_of_lt_of_le hl hb1.size
  clear hb1 x0 x1 x2
  obtain ⟨x0, x1, x2⟩ := val_cells hx
  go_wp2_with (fail)
  refine (H1.out _ hb).mono ?_
  rintro e w2 ⟨rfl, hb2⟩
  replace hx := (hb2.block w.heap.size hl).trans hx
  replace hb := hb.trans (hb2.mono hb.size)
  replace hl := Nat.lt_of_lt_of_le hl hb2.size
  clear hb2 x0 x1 x2
  obtain ⟨x0, x1, x2⟩ := val_cells hx
  go_wp2_with (fail)
  refine (H2.out _ hb).mono ?_
  rintro e w3 ⟨rfl, hb3⟩
  replace hx := (hb3.block w.heap.size hl).trans hx
  replace hb := hb.trans (hb3.mono hb.size)
  replace hl := Nat.lt_of_lt_of_le hl hb3.size
  clear hb3 x0 x1 x2
  obtain ⟨x0, x1, x2⟩ := val_cells hx
  go_wp2_with (fail)
  refine (H3.out _ hb).mono ?_
  rintro e w4 ⟨rfl, hb4⟩
  replace hx := (hb4.block w.heap.size hl).trans hx
  replace hb := hb.trans (hb4.mono hb.size)
  replace hl := Nat.lt_of_lt_of_le hl hb4.size
  clear hb4 x0 x1 x2
  obtain ⟨x0, x1, x2⟩ := val_cells hx
  go_wp2_with (fail)
  refine (H4.out _ hb).mono ?_
  rintro e w5 ⟨rfl, hb5⟩
  replace hx := (hb5.block w.heap.size hl).trans hx
  replace hb := hb.trans (hb5.mono hb.size)
  replace hl := Nat.lt_of_lt_of_le hl hb5.size
  clear hb5 x0 x1 x2
  obtain ⟨x0, x1, x2⟩ := val_cells hx
  go_wp2
  go_ret
  exact ⟨rfl, hb⟩

theorem kinds_nN (m : Int) (t : ByteArray) (w : World) (tt : (t.toList == [84, 82, 85, 69]) = false) (tf : (t.toList == [70, 65, 76, 83, 69]) = false) 
    (HB0 : ∀ w', Below w.heap.size w w' → Calls Tryd.prog 8 #[] w' fun e w'' => e = .returned (.bool true) ∧ Below w'.heap.size w' w'')
    (H10 : ∀ w', Below w.heap.size w w' → Calls Tryd.prog 14 #[.agg #[.int .i64 3, .int .i64 0, .string t]] w' fun e w'' => e = .returned (.tuple #[.int .i64 m, .int .i64 0]) ∧ Below w'.heap.size w' w'')
    (H20 : ∀ w', Below w.heap.size w w' → Calls Tryd.prog 15 #[.agg #[.int .i64 3, .int .i64 0, .string t]] w' fun e w'' => e = .returned (.tuple #[.bool false, .int .i64 4]) ∧ Below w'.heap.size w' w'')
    (H30 : ∀ w', Below w.heap.size w w' → Calls Tryd.prog 12 #[.agg #[.int .i64 3, .int .i64 0, .string t]] w' fun e w'' => e = .returned (.tuple #[.string t, .int .i64 0]) ∧ Below w'.heap.size w' w'')
    (H40 : ∀ w', Below w.heap.size w w' → Calls Tryd.prog 11 #[.agg #[.int .i64 3, .int .i64 0, .string t]] w' fun e w'' => e = .returned (.bool true) ∧ Below w'.heap.size w' w'')
    (H50 : ∀ w', Below w.heap.size w w' → Calls Tryd.prog 12 #[.agg #[.int .i64 1, .int .i64 m, .string ⟨#[]⟩]] w' fun e w'' => e = .returned (.tuple #[.string t, .int .i64 0]) ∧ Below w'.heap.size w' w'')
    : Calls Tryd.prog 5 #[.agg #[.int .i64 3, .int .i64 0, .string t]] w fun e w' => e = .returned (.bool true) ∧ Below w.heap.size w w' := by
  have HB := Lib.hid HB0
  have H1 := Lib.hid H10
  have H2 := Lib.hid H20
  have H3 := Lib.hid H30
  have H4 := Lib.hid H40
  have H5 := Lib.hid H50
  clear HB0 H10 H20 H30 H40 H50
  go_enter Tryd.func5, Tryd.ntmps5
  go_upto_region 1 with (fail)
  have hx : (w.alloc (Obj.cells #[.int .i64 3, .int .i64 0, .string t] 26)).heap[w.heap.size]? = some (.cells #[.int .i64 3, .int .i64 0, .string t] 26 (0, 0)) := heap_alloc_new _ _
  have hb : Below w.heap.size w (w.alloc (Obj.cells #[.int .i64 3, .int .i64 0, .string t] 26)) := (Below.refl _ _).alloc (Nat.le_refl _) _
  have hl : w.heap.size < (w.alloc (Obj.cells #[.int .i64 3, .int .i64 0, .string t] 26)).heap.size := by simp
  generalize (w.alloc (Obj.cells #[.int .i64 3, .int .i64 0, .string t] 26)) = W0 at *
  obtain ⟨x0, x1, x2⟩ := val_cells hx
  go_wp2_with (fail)
  refine (HB.out _ hb).mono ?_
  rintro e w1 ⟨rfl, hb1⟩
  replace hx := (hb1.block w.heap.size hl).trans hx
  replace hb := hb.trans (hb1.mono hb.size)
  replace hl := Nat.lt_of_lt_of_le hl hb1.size
  clear hb1 x0 x1 x2
  obtain ⟨x0, x1, x2⟩ := val_cells hx
  go_wp2_with (fail)
  refine (H1.out _ hb).mono ?_
  rintro e w2 ⟨rfl, hb2⟩
  replace hx := (hb2.block w.heap.size hl).trans hx
  replace hb := hb.trans (hb2.mono hb.size)
  replace hl := Nat.lt_of_lt_of_le hl hb2.size
  clear hb2 x0 x1 x2
  obtain ⟨x0, x1, x2⟩ := val_cells hx
  go_wp2_with (fail)
  refine (H2.out _ hb).mono ?_
  rintro e w3 ⟨rfl, hb3⟩
  replace hx := (hb3.block w.heap.size hl).trans hx
  replace hb := hb.trans (hb3.mono hb.size)
  replace hl := Nat.lt_of_lt_of_le hl hb3.size
  clear hb3 x0 x1 x2
  obtain ⟨x0, x1, x2⟩ := val_cells hx
  go_wp2_with (fail)
  refine (H3.out _ hb).mono ?_
  rintro e w4 ⟨rfl, hb4⟩
  replace hx := (hb4.block w.heap.size hl).trans hx
  replace hb := hb.trans (hb4.mono hb.size)
  replace hl := Nat.lt_of_lt_of_le hl hb4.size
  clear hb4 x0 x1 x2
  obtain ⟨x0, x1, x2⟩ := val_cells hx
  go_wp2_with (fail)
  refine (H4.out _ hb).mono ?_
  rintro e w5 ⟨rfl, hb5⟩
  replace hx := (hb5.block w.heap.size hl).trans hx
  replace hb := hb.trans (hb5.mono hb.size)
  replace hl := Nat.lt_of_lt_of_le hl hb5.size
  clear hb5 x0 x1 x2
  obtain ⟨x0, x1, x2⟩ := val_cells hx
  go_wp2_with (fail)
  refine (H5.out _ hb).mono ?_
  rintro e w6 ⟨rfl, hb6⟩
  replace hx := (hb6.block w.heap.size hl).trans hx
  replace hb := hb.trans (hb6.mono hb.size)
  replace hl := Nat.lt_of_lt_of_le hl hb6.size
  clear hb6 x0 x1 x2
  obtain ⟨x0, x1, x2⟩ := val_cells hx
  go_wp2
  go_ret
  exact ⟨rfl, hb⟩

theorem kinds_tN (t : ByteArray) (w : World) (tt : (t.toList == [84, 82, 85, 69]) = false) (tf : (t.toList == [70, 65, 76, 83, 69]) = false) 
    (HB0 : ∀ w', Below w.heap.size w w' → Calls Tryd.prog 8 #[] w' fun e w'' => e = .returned (.bool true) ∧ Below w'.heap.size w' w'')
    (H10 : ∀ w', Below w.heap.size w w' → Calls Tryd.prog 14 #[.agg #[.int .i64 3, .int .i64 0, .string t]] w' fun e w'' => e = .returned (.tuple #[.int .i64 0, .int .i64 4]) ∧ Below w'.heap.size w' w'')
    (H20 : ∀ w', Below w.heap.size w w' → Calls Tryd.prog 15 #[.agg #[.int .i64 3, .int .i64 0, .string t]] w' fun e w'' => e = .returned (.tuple #[.bool false, .int .i64 4]) ∧ Below w'.heap.size w' w'')
    (H30 : ∀ w', Below w.heap.size w w' → Calls Tryd.prog 12 #[.agg #[.int .i64 3, .int .i64 0, .string t]] w' fun e w'' => e = .returned (.tuple #[.string t, .int .i64 0]) ∧ Below w'.heap.size w' w'')
    (H40 : ∀ w', Below w.heap.size w w' → Calls Tryd.prog 11 #[.agg #[.int .i64 3, .int .i64 0, .string t]] w' fun e w'' => e = .returned (.bool true) ∧ Below w'.heap.size w' w'')
    : Calls Tryd.prog 5 #[.agg #[.int .i64 3, .int .i64 0, .string t]] w fun e w' => e = .returned (.bool true) ∧ Below w.heap.size w w' := by
  have HB := Lib.hid HB0
  have H1 := Lib.hid H10
  have H2 := Lib.hid H20
  have H3 := Lib.hid H30
  have H4 := Lib.hid H40
  clear HB0 H10 H20 H30 H40
  go_enter Tryd.func5, Tryd.ntmps5
  go_upto_region 1 with (fail)
  have hx : (w.alloc (Obj.cells #[.int .i64 3, .int .i64 0, .string t] 26)).heap[w.heap.size]? = some (.cells #[.int .i64 3, .int .i64 0, .string t] 26 (0, 0)) := heap_alloc_new _ _
  have hb : Below w.heap.size w (w.alloc (Obj.cells #[.int .i64 3, .int .i64 0, .string t] 26)) := (Below.refl _ _).alloc (Nat.le_refl _) _
  have hl : w.heap.size < (w.alloc (Obj.cells #[.int .i64 3, .int .i64 0, .string t] 26)).heap.size := by simp
  generalize (w.alloc (Obj.cells #[.int .i64 3, .int .i64 0, .string t] 26)) = W0 at *
  obtain ⟨x0, x1, x2⟩ := val_cells hx
  go_wp2_with (fail)
  refine (HB.out _ hb).mono ?_
  rintro e w1 ⟨rfl, hb1⟩
  replace hx := (hb1.block w.heap.size hl).trans hx
  replace hb := hb.trans (hb1.mono hb.size)
  replace hl := Nat.lt_of_lt_of_le hl hb1.size
  clear hb1 x0 x1 x2
  obtain ⟨x0, x1, x2⟩ := val_cells hx
  go_wp2_with (fail)
  refine (H1.out _ hb).mono ?_
  rintro e w2 ⟨rfl, hb2⟩
  replace hx := (hb2.block w.heap.size hl).trans hx
  replace hb := hb.trans (hb2.mono hb.size)
  replace hl := Nat.lt_of_lt_of_le hl hb2.size
  clear hb2 x0 x1 x2
  obtain ⟨x0, x1, x2⟩ := val_cells hx
  go_wp2_with (fail)
  refine (H2.out _ hb).mono ?_
  rintro e w3 ⟨rfl, hb3⟩
  replace hx := (hb3.block w.heap.size hl).trans hx
  replace hb := hb.trans (hb3.mono hb.size)
  replace hl := Nat.lt_of_lt_of_le hl hb3.size
  clear hb3 x0 x1 x2
  obtain ⟨x0, x1, x2⟩ := val_cells hx
  go_wp2_with (fail)
  refine (H3.out _ hb).mono ?_
  rintro e w4 ⟨rfl, hb4⟩
  replace hx := (hb4.block w.heap.size hl).trans hx
  replace hb := hb.trans (hb4.mono hb.size)
  replace hl := Nat.lt_of_lt_of_le hl hb4.size
  clear hb4 x0 x1 x2
  obtain ⟨x0, x1, x2⟩ := val_cells hx
  go_wp2_with (fail)
  refine (H4.out _ hb).mono ?_
  rintro e w5 ⟨rfl, hb5⟩
  replace hx := (hb5.block w.heap.size hl).trans hx
  replace hb := hb.trans (hb5.mono hb.size)
  replace hl := Nat.lt_of_lt_of_le hl hb5.size
  clear hb5 x0 x1 x2
  obtain ⟨x0, x1, x2⟩ := val_cells hx
  go_wp2
  go_ret
  exact ⟨rfl, hb⟩

theorem kinds_o (k n : Int) (s : ByteArray) (t : ByteArray) (w : World) (k4 : (k == 4) = false) (k3 : (k == 3) = false) 
    (HB0 : ∀ w', Below w.heap.size w w' → Calls Tryd.prog 8 #[] w' fun e w'' => e = .returned (.bool true) ∧ Below w'.heap.size w' w'')
    (H10 : ∀ w', Below w.heap.size w w' → Calls Tryd.prog 14 #[.agg #[.int .i64 k, .int .i64 n, .string t]] w' fun e w'' => e = .returned (.tuple #[.int .i64 n, .int .i64 0]) ∧ Below w'.heap.size w' w'')
    (H20 : ∀ w', Below w.heap.size w w' → Calls Tryd.prog 15 #[.agg #[.int .i64 k, .int .i64 n, .string t]] w' fun e w'' => e = .returned (.tuple #[.bool (n != 0), .int .i64 0]) ∧ Below w'.heap.size w' w'')
    (H30 : ∀ w', Below w.heap.size w w' → Calls Tryd.prog 12 #[.agg #[.int .i64 k, .int .i64 n, .string t]] w' fun e w'' => e = .returned (.tuple #[.string s, .int .i64 0]) ∧ Below w'.heap.size w' w'')
    (H40 : ∀ w', Below w.heap.size w w' → Calls Tryd.prog 11 #[.agg #[.int .i64 k, .int .i64 n, .string t]] w' fun e w'' => e = .returned (.bool true) ∧ Below w'.heap.size w' w'')
    : Calls Tryd.prog 5 #[.agg #[.int .i64 k, .int .i64 n, .string t]] w fun e w' => e = .returned (.bool true) ∧ Below w.heap.size w w' := by
  have HB := Lib.hid HB0
  have H1 := Lib.hid H10
  have H2 := Lib.hid H20
  have H3 := Lib.hid H30
  have H4 := Lib.hid H40
  clear HB0 H10 H20 H30 H40
  go_enter Tryd.func5, Tryd.ntmps5
  go_upto_region 1 with (fail)
  have hx : (w.alloc (Obj.cells #[.int .i64 k, .int .i64 n, .string t] 26)).heap[w.heap.size]? = some (.cells #[.int .i64 k, .int .i64 n, .string t] 26 (0, 0)) := heap_alloc_new _ _
  have hb : Below w.heap.size w (w.alloc (Obj.cells #[.int .i64 k, .int .i64 n, .string t] 26)) := (Below.refl _ _).alloc (Nat.le_refl _) _
  have hl : w.heap.size < (w.alloc (Obj.cells #[.int .i64 k, .int .i64 n, .string t] 26)).heap.size := by simp
  generalize (w.alloc (Obj.cells #[.int .i64 k, .int .i64 n, .string t] 26)) = W0 at *
  obtain ⟨x0, x1, x2⟩ := val_cells hx
  go_wp2_with (fail)
  refine (HB.out _ hb).mono ?_
  rintro e w1 ⟨rfl, hb1⟩
  replace hx := (hb1.block w.heap.size hl).trans hx
  replace hb := hb.trans (hb1.mono hb.size)
  replace hl := Nat.lt_of_lt_of_le hl hb1.size
  clear hb1 x0 x1 x2
  obtain ⟨x0, x1, x2⟩ := val_cells hx
  go_wp2_with (fail)
  refine (H1.out _ hb).mono ?_
  rintro e w2 ⟨rfl, hb2⟩
  replace hx := (hb2.block w.heap.size hl).trans hx
  replace hb := hb.trans (hb2.mono hb.size)
  replace hl := Nat.lt_of_lt_of_le hl hb2.size
  clear hb2 x0 x1 x2
  obtain ⟨x0, x1, x2⟩ := val_cells hx
  go_wp2_with (fail)
  refine (H2.out _ hb).mono ?_
  rintro e w3 ⟨rfl, hb3⟩
  replace hx := (hb3.block w.heap.size hl).trans hx
  replace hb := hb.trans (hb3.mono hb.size)
  replace hl := Nat.lt_of_lt_of_le hl hb3.size
  clear hb3 x0 x1 x2
  obtain ⟨x0, x1, x2⟩ := val_cells hx
  go_wp2_with (fail)
  refine (H3.out _ hb).mono ?_
  rintro e w4 ⟨rfl, hb4⟩
  replace hx := (hb4.block w.heap.size hl).trans hx
  replace hb := hb.trans (hb4.mono hb.size)
  replace hl := Nat.lt_of_lt_of_le hl hb4.size
  clear hb4 x0 x1 x2
  obtain ⟨x0, x1, x2⟩ := val_cells hx
  go_wp2_with (fail)
  refine (H4.out _ hb).mono ?_
  rintro e w5 ⟨rfl, hb5⟩
  replace hx := (hb5.block w.heap.size hl).trans hx
  replace hb := hb.trans (hb5.mono hb.size)
  replace hl := Nat.lt_of_lt_of_le hl hb5.size
  clear hb5 x0 x1 x2
  obtain ⟨x0, x1, x2⟩ := val_cells hx
  go_wp2
  go_ret
  exact ⟨rfl, hb⟩
end Go.Proofs.YtedcfddbfpgeaabDoor
