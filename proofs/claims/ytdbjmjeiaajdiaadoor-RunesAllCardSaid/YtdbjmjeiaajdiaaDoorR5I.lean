/- The walks of quadrillelaw5.one, meant and plays: each call answers what the reference answers. -/
import Derived.Test.YtdbjmjeiaajdiaaDoorR5H
import Derived.Test.YtdbjmjeiaajdiaaDoorRunH
import Derived.Deep.DeepCutAuto
import Derived.Deep.RegionHeld3
import Derived.StillTailTactics
namespace Go.Proofs.YtdbjmjeiaajdiaaDoor
open Go.RowKit
set_option linter.unusedVariables false

theorem below_box {w w1 : World} {o : Obj} (hb : Below (w.alloc o).heap.size (w.alloc o) w1) : Below w.heap.size w w1 := ((Below.refl _ _).alloc (Nat.le_refl _) _).trans (hb.mono (by simp))
theorem box6_of {w1 : World} {B : Nat} {K n m : Int} {s t u : ByteArray} {T : TypeId} (h : w1.heap[B]? = some (.cells #[.int .i64 K, .string s, .string t, .string u, .int .i64 n, .int .i64 m] T (0, 0))) :
    w1.cell? ⟨B, 0, none⟩ = some (.int .i64 K) ∧ w1.cell? ⟨B, 1, none⟩ = some (.string s) ∧ w1.cell? ⟨B, 2, none⟩ = some (.string t) ∧ w1.cell? ⟨B, 3, none⟩ = some (.string u) ∧ w1.cell? ⟨B, 4, none⟩ = some (.int .i64 n) ∧ w1.cell? ⟨B, 5, none⟩ = some (.int .i64 m) :=
  ⟨Lib.cell_of_heap h 0, Lib.cell_of_heap h 1, Lib.cell_of_heap h 2, Lib.cell_of_heap h 3, Lib.cell_of_heap h 4, Lib.cell_of_heap h 5⟩
theorem box6_set {w1 : World} {B : Nat} {K n m : Int} {s t u s' t' u' : ByteArray} {T : TypeId} (h : w1.heap[B]? = some (.cells #[.int .i64 K, .string s, .string t, .string u, .int .i64 n, .int .i64 m] T (0, 0))) :
    (((w1.setCell ⟨B, 1, none⟩ (.string s')).setCell ⟨B, 2, none⟩ (.string t')).setCell ⟨B, 3, none⟩ (.string u')).heap[B]? = some (.cells #[.int .i64 K, .string s', .string t', .string u', .int .i64 n, .int .i64 m] T (0, 0)) := by
  have h1 := heap_setCell_same w1 B 1 _ T (.string s') h
  have h2 := heap_setCell_same _ B 2 _ T (.string t') h1
  exact heap_setCell_same _ B 3 _ T (.string u') h2

set_option maxRecDepth 100000 in
theorem one_2 (s t u : ByteArray) (n m : Int) (a : ByteArray) (b : Int) (w : World)
    (H0 : ∀ w', Below w.heap.size w w' → Calls Tryd.prog 33 #[.string s, .int .i64 n] w' fun e w'' => e = .returned (.tuple #[.string a, .int .i64 b]) ∧ Below w'.heap.size w' w'')
    : Calls Tryd.prog 45 #[.agg #[.int .i64 2, .string s, .string t, .string u, .int .i64 n, .int .i64 m]] w fun e w' => e = .returned (.tuple #[.string a, .int .i64 b]) ∧ Below w.heap.size w w' := by
  have H := Lib.hid H0
  clear H0
  go_enter Tryd.func45, Tryd.ntmps45
  go_wp2_with (fail)
  refine (H.out _ ((Below.refl _ _).alloc (Nat.le_refl _) _)).mono ?_
  rintro e w1 ⟨rfl, hb1⟩
  replace hb1 := below_box hb1
  go_wp2
  go_ret2
  exact ⟨rfl, hb1⟩

set_option maxRecDepth 100000 in
theorem meant_2 (s t u : ByteArray) (n m : Int) (a : ByteArray) (b : Int) (w : World)
    (H0 : ∀ w', Below w.heap.size w w' → Calls Tryd.prog 80 #[.string s, .int .i64 n] w' fun e w'' => e = .returned (.tuple #[.string a, .int .i64 b]) ∧ Below w'.heap.size w' w'')
    : Calls Tryd.prog 46 #[.agg #[.int .i64 2, .string s, .string t, .string u, .int .i64 n, .int .i64 m]] w fun e w' => e = .returned (.tuple #[.string a, .int .i64 b]) ∧ Below w.heap.size w w' := by
  have H := Lib.hid H0
  clear H0
  go_enter Tryd.func46, Tryd.ntmps46
  go_wp2_with (fail)
  refine (H.out _ ((Below.refl _ _).alloc (Nat.le_refl _) _)).mono ?_
  rintro e w1 ⟨rfl, hb1⟩
  replace hb1 := below_box hb1
  go_wp2
  go_ret2
  exact ⟨rfl, hb1⟩

set_option maxRecDepth 100000 in
theorem one_3 (s t u : ByteArray) (n m : Int) (a : ByteArray) (b : Int) (w : World)
    (H0 : ∀ w', Below w.heap.size w w' → Calls Tryd.prog 73 #[.string s, .int .i64 n] w' fun e w'' => e = .returned (.tuple #[.string a, .int .i64 b]) ∧ Below w'.heap.size w' w'')
    : Calls Tryd.prog 45 #[.agg #[.int .i64 3, .string s, .string t, .string u, .int .i64 n, .int .i64 m]] w fun e w' => e = .returned (.tuple #[.string a, .int .i64 b]) ∧ Below w.heap.size w w' := by
  have H := Lib.hid H0
  clear H0
  go_enter Tryd.func45, Tryd.ntmps45
  go_wp2_with (fail)
  refine (H.out _ ((Below.refl _ _).alloc (Nat.le_refl _) _)).mono ?_
  rintro e w1 ⟨rfl, hb1⟩
  replace hb1 := below_box hb1
  go_wp2
  go_ret2
  exact ⟨rfl, hb1⟩

set_option maxRecDepth 100000 in
theorem meant_3 (s t u : ByteArray) (n m : Int) (a : ByteArray) (b : Int) (w : World)
    (H0 : ∀ w', Below w.heap.size w w' → Calls Tryd.prog 81 #[.string s, .int .i64 n] w' fun e w'' => e = .returned (.tuple #[.string a, .int .i64 b]) ∧ Below w'.heap.size w' w'')
    : Calls Tryd.prog 46 #[.agg #[.int .i64 3, .string s, .string t, .string u, .int .i64 n, .int .i64 m]] w fun e w' => e = .returned (.tuple #[.string a, .int .i64 b]) ∧ Below w.heap.size w w' := by
  have H := Lib.hid H0
  clear H0
  go_enter Tryd.func46, Tryd.ntmps46
  go_wp2_with (fail)
  refine (H.out _ ((Below.refl _ _).alloc (Nat.le_refl _) _)).mono ?_
  rintro e w1 ⟨rfl, hb1⟩
  replace hb1 := below_box hb1
  go_wp2
  go_ret2
  exact ⟨rfl, hb1⟩

set_option maxRecDepth 100000 in
theorem one_4 (s t u : ByteArray) (n m : Int) (a : ByteArray) (b : Int) (w : World)
    (H0 : ∀ w', Below w.heap.size w w' → Calls Tryd.prog 74 #[.string s, .int .i64 n, .int .i64 m] w' fun e w'' => e = .returned (.tuple #[.string a, .int .i64 b]) ∧ Below w'.heap.size w' w'')
    : Calls Tryd.prog 45 #[.agg #[.int .i64 4, .string s, .string t, .string u, .int .i64 n, .int .i64 m]] w fun e w' => e = .returned (.tuple #[.string a, .int .i64 b]) ∧ Below w.heap.size w w' := by
  have H := Lib.hid H0
  clear H0
  go_enter Tryd.func45, Tryd.ntmps45
  go_wp2_with (fail)
  refine (H.out _ ((Below.refl _ _).alloc (Nat.le_refl _) _)).mono ?_
  rintro e w1 ⟨rfl, hb1⟩
  replace hb1 := below_box hb1
  go_wp2
  go_ret2
  exact ⟨rfl, hb1⟩

set_option maxRecDepth 100000 in
theorem meant_4 (s t u : ByteArray) (n m : Int) (a : ByteArray) (b : Int) (w : World)
    (H0 : ∀ w', Below w.heap.size w w' → Calls Tryd.prog 82 #[.string s, .int .i64 n, .int .i64 m] w' fun e w'' => e = .returned (.tuple #[.string a, .int .i64 b]) ∧ Below w'.heap.size w' w'')
    : Calls Tryd.prog 46 #[.agg #[.int .i64 4, .string s, .string t, .string u, .int .i64 n, .int .i64 m]] w fun e w' => e = .returned (.tuple #[.string a, .int .i64 b]) ∧ Below w.heap.size w w' := by
  have H := Lib.hid H0
  clear H0
  go_enter Tryd.func46, Tryd.ntmps46
  go_wp2_with (fail)
  refine (H.out _ ((Below.refl _ _).alloc (Nat.le_refl _) _)).mono ?_
  rintro e w1 ⟨rfl, hb1⟩
  replace hb1 := below_box hb1
  go_wp2
  go_ret2
  exact ⟨rfl, hb1⟩

set_option maxRecDepth 100000 in
theorem one_5 (s t u : ByteArray) (n m : Int) (a : ByteArray) (w : World)
    (H0 : ∀ w', Below w.heap.size w w' → Calls Tryd.prog 75 #[.string s] w' fun e w'' => e = .returned (.string a) ∧ Below w'.heap.size w' w'')
    : Calls Tryd.prog 45 #[.agg #[.int .i64 5, .string s, .string t, .string u, .int .i64 n, .int .i64 m]] w fun e w' => e = .returned (.tuple #[.string a, .int .i64 0]) ∧ Below w.heap.size w w' := by
  have H := Lib.hid H0
  clear H0
  go_enter Tryd.func45, Tryd.ntmps45
  go_wp2_with (fail)
  refine (H.out _ ((Below.refl _ _).alloc (Nat.le_refl _) _)).mono ?_
  rintro e w1 ⟨rfl, hb1⟩
  replace hb1 := below_box hb1
  go_wp2
  go_ret2
  exact ⟨rfl, hb1⟩

set_option maxRecDepth 100000 in
theorem meant_5 (s t u : ByteArray) (n m : Int) (a : ByteArray) (w : World)
    (H0 : ∀ w', Below w.heap.size w w' → Calls Tryd.prog 83 #[.string s] w' fun e w'' => e = .returned (.string a) ∧ Below w'.heap.size w' w'')
    : Calls Tryd.prog 46 #[.agg #[.int .i64 5, .string s, .string t, .string u, .int .i64 n, .int .i64 m]] w fun e w' => e = .returned (.tuple #[.string a, .int .i64 0]) ∧ Below w.heap.size w w' := by
  have H := Lib.hid H0
  clear H0
  go_enter Tryd.func46, Tryd.ntmps46
  go_wp2_with (fail)
  refine (H.out _ ((Below.refl _ _).alloc (Nat.le_refl _) _)).mono ?_
  rintro e w1 ⟨rfl, hb1⟩
  replace hb1 := below_box hb1
  go_wp2
  go_ret2
  exact ⟨rfl, hb1⟩

set_option maxRecDepth 100000 in
theorem one_6 (s t u : ByteArray) (n m : Int) (a : ByteArray) (w : World)
    (H0 : ∀ w', Below w.heap.size w w' → Calls Tryd.prog 76 #[.string s] w' fun e w'' => e = .returned (.string a) ∧ Below w'.heap.size w' w'')
    : Calls Tryd.prog 45 #[.agg #[.int .i64 6, .string s, .string t, .string u, .int .i64 n, .int .i64 m]] w fun e w' => e = .returned (.tuple #[.string a, .int .i64 0]) ∧ Below w.heap.size w w' := by
  have H := Lib.hid H0
  clear H0
  go_enter Tryd.func45, Tryd.ntmps45
  go_wp2_with (fail)
  refine (H.out _ ((Below.refl _ _).alloc (Nat.le_refl _) _)).mono ?_
  rintro e w1 ⟨rfl, hb1⟩
  replace hb1 := below_box hb1
  go_wp2
  go_ret2
  exact ⟨rfl, hb1⟩

set_option maxRecDepth 100000 in
theorem meant_6 (s t u : ByteArray) (n m : Int) (a : ByteArray) (w : World)
    (H0 : ∀ w', Below w.heap.size w w' → Calls Tryd.prog 84 #[.string s] w' fun e w'' => e = .returned (.string a) ∧ Below w'.heap.size w' w'')
    : Calls Tryd.prog 46 #[.agg #[.int .i64 6, .string s, .string t, .string u, .int .i64 n, .int .i64 m]] w fun e w' => e = .returned (.tuple #[.string a, .int .i64 0]) ∧ Below w.heap.size w w' := by
  have H := Lib.hid H0
  clear H0
  go_enter Tryd.func46, Tryd.ntmps46
  go_wp2_with (fail)
  refine (H.out _ ((Below.refl _ _).alloc (Nat.le_refl _) _)).mono ?_
  rintro e w1 ⟨rfl, hb1⟩
  replace hb1 := below_box hb1
  go_wp2
  go_ret2
  exact ⟨rfl, hb1⟩

set_option maxRecDepth 100000 in
theorem one_7 (s t u : ByteArray) (n m : Int) (a : ByteArray) (w : World)
    (H0 : ∀ w', Below w.heap.size w w' → Calls Tryd.prog 77 #[.string s] w' fun e w'' => e = .returned (.string a) ∧ Below w'.heap.size w' w'')
    : Calls Tryd.prog 45 #[.agg #[.int .i64 7, .string s, .string t, .string u, .int .i64 n, .int .i64 m]] w fun e w' => e = .returned (.tuple #[.string a, .int .i64 0]) ∧ Below w.heap.size w w' := by
  have H := Lib.hid H0
  clear H0
  go_enter Tryd.func45, Tryd.ntmps45
  go_wp2_with (fail)
  refine (H.out _ ((Below.refl _ _).alloc (Nat.le_refl _) _)).mono ?_
  rintro e w1 ⟨rfl, hb1⟩
  replace hb1 := below_box hb1
  go_wp2
  go_ret2
  exact ⟨rfl, hb1⟩

set_option maxRecDepth 100000 in
theorem meant_7 (s t u : ByteArray) (n m : Int) (a : ByteArray) (w : World)
    (H0 : ∀ w', Below w.heap.size w w' → Calls Tryd.prog 85 #[.string s] w' fun e w'' => e = .returned (.string a) ∧ Below w'.heap.size w' w'')
    : Calls Tryd.prog 46 #[.agg #[.int .i64 7, .string s, .string t, .string u, .int .i64 n, .int .i64 m]] w fun e w' => e = .returned (.tuple #[.string a, .int .i64 0]) ∧ Below w.heap.size w w' := by
  have H := Lib.hid H0
  clear H0
  go_enter Tryd.func46, Tryd.ntmps46
  go_wp2_with (fail)
  refine (H.out _ ((Below.refl _ _).alloc (Nat.le_refl _) _)).mono ?_
  rintro e w1 ⟨rfl, hb1⟩
  replace hb1 := below_box hb1
  go_wp2
  go_ret2
  exact ⟨rfl, hb1⟩

set_option maxRecDepth 100000 in
theorem one_8 (s t u : ByteArray) (n m : Int) (a : ByteArray) (w : World)
    (H0 : ∀ w', Below w.heap.size w w' → Calls Tryd.prog 39 #[.string s] w' fun e w'' => e = .returned (.string a) ∧ Below w'.heap.size w' w'')
    : Calls Tryd.prog 45 #[.agg #[.int .i64 8, .string s, .string t, .string u, .int .i64 n, .int .i64 m]] w fun e w' => e = .returned (.tuple #[.string a, .int .i64 0]) ∧ Below w.heap.size w w' := by
  have H := Lib.hid H0
  clear H0
  go_enter Tryd.func45, Tryd.ntmps45
  go_wp2_with (fail)
  refine (H.out _ ((Below.refl _ _).alloc (Nat.le_refl _) _)).mono ?_
  rintro e w1 ⟨rfl, hb1⟩
  replace hb1 := below_box hb1
  go_wp2
  go_ret2
  exact ⟨rfl, hb1⟩

set_option maxRecDepth 100000 in
theorem meant_8 (s t u : ByteArray) (n m : Int) (a : ByteArray) (w : World)
    (H0 : ∀ w', Below w.heap.size w w' → Calls Tryd.prog 86 #[.string s] w' fun e w'' => e = .returned (.string a) ∧ Below w'.heap.size w' w'')
    : Calls Tryd.prog 46 #[.agg #[.int .i64 8, .string s, .string t, .string u, .int .i64 n, .int .i64 m]] w fun e w' => e = .returned (.tuple #[.string a, .int .i64 0]) ∧ Below w.heap.size w w' := by
  have H := Lib.hid H0
  clear H0
  go_enter Tryd.func46, Tryd.ntmps46
  go_wp2_with (fail)
  refine (H.out _ ((Below.refl _ _).alloc (Nat.le_refl _) _)).mono ?_
  rintro e w1 ⟨rfl, hb1⟩
  replace hb1 := below_box hb1
  go_wp2
  go_ret2
  exact ⟨rfl, hb1⟩

set_option maxRecDepth 100000 in
theorem one_10 (s t u : ByteArray) (n m : Int) (a : ByteArray) (b : Int) (w : World)
    (H0 : ∀ w', Below w.heap.size w w' → Calls Tryd.prog 78 #[.string s, .string t, .string u] w' fun e w'' => e = .returned (.tuple #[.string a, .int .i64 b]) ∧ Below w'.heap.size w' w'')
    : Calls Tryd.prog 45 #[.agg #[.int .i64 10, .string s, .string t, .string u, .int .i64 n, .int .i64 m]] w fun e w' => e = .returned (.tuple #[.string a, .int .i64 b]) ∧ Below w.heap.size w w' := by
  have H := Lib.hid H0
  clear H0
  go_enter Tryd.func45, Tryd.ntmps45
  go_wp2_with (fail)
  refine (H.out _ ((Below.refl _ _).alloc (Nat.le_refl _) _)).mono ?_
  rintro e w1 ⟨rfl, hb1⟩
  replace hb1 := below_box hb1
  go_wp2
  go_ret2
  exact ⟨rfl, hb1⟩

set_option maxRecDepth 100000 in
theorem meant_10 (s t u : ByteArray) (n m : Int) (a : ByteArray) (b : Int) (w : World)
    (H0 : ∀ w', Below w.heap.size w w' → Calls Tryd.prog 87 #[.string s, .string t, .string u] w' fun e w'' => e = .returned (.tuple #[.string a, .int .i64 b]) ∧ Below w'.heap.size w' w'')
    : Calls Tryd.prog 46 #[.agg #[.int .i64 10, .string s, .string t, .string u, .int .i64 n, .int .i64 m]] w fun e w' => e = .returned (.tuple #[.string a, .int .i64 b]) ∧ Below w.heap.size w w' := by
  have H := Lib.hid H0
  clear H0
  go_enter Tryd.func46, Tryd.ntmps46
  go_wp2_with (fail)
  refine (H.out _ ((Below.refl _ _).alloc (Nat.le_refl _) _)).mono ?_
  rintro e w1 ⟨rfl, hb1⟩
  replace hb1 := below_box hb1
  go_wp2
  go_ret2
  exact ⟨rfl, hb1⟩

set_option maxRecDepth 100000 in
theorem one_11 (s t u : ByteArray) (n m : Int) (a : ByteArray) (b : Int) (w : World)
    (H0 : ∀ w', Below w.heap.size w w' → Calls Tryd.prog 79 #[.string s, .int .i64 n] w' fun e w'' => e = .returned (.tuple #[.string a, .int .i64 b]) ∧ Below w'.heap.size w' w'')
    : Calls Tryd.prog 45 #[.agg #[.int .i64 11, .string s, .string t, .string u, .int .i64 n, .int .i64 m]] w fun e w' => e = .returned (.tuple #[.string a, .int .i64 b]) ∧ Below w.heap.size w w' := by
  have H := Lib.hid H0
  clear H0
  go_enter Tryd.func45, Tryd.ntmps45
  go_wp2_with (fail)
  refine (H.out _ ((Below.refl _ _).alloc (Nat.le_refl _) _)).mono ?_
  rintro e w1 ⟨rfl, hb1⟩
  replace hb1 := below_box hb1
  go_wp2
  go_ret2
  exact ⟨rfl, hb1⟩

set_option maxRecDepth 100000 in
theorem meant_11 (s t u : ByteArray) (n m : Int) (a : ByteArray) (b : Int) (w : World)
    (H0 : ∀ w', Below w.heap.size w w' → Calls Tryd.prog 88 #[.string s, .int .i64 n] w' fun e w'' => e = .returned (.tuple #[.string a, .int .i64 b]) ∧ Below w'.heap.size w' w'')
    : Calls Tryd.prog 46 #[.agg #[.int .i64 11, .string s, .string t, .string u, .int .i64 n, .int .i64 m]] w fun e w' => e = .returned (.tuple #[.string a, .int .i64 b]) ∧ Below w.heap.size w w' := by
  have H := Lib.hid H0
  clear H0
  go_enter Tryd.func46, Tryd.ntmps46
  go_wp2_with (fail)
  refine (H.out _ ((Below.refl _ _).alloc (Nat.le_refl _) _)).mono ?_
  rintro e w1 ⟨rfl, hb1⟩
  replace hb1 := below_box hb1
  go_wp2
  go_ret2
  exact ⟨rfl, hb1⟩

set_option maxRecDepth 100000 in
theorem one_13 (s t u : ByteArray) (n m : Int) (a : ByteArray) (b : Int) (w : World)
    (H0 : ∀ w', Below w.heap.size w w' → Calls Tryd.prog 36 #[.int .i64 n] w' fun e w'' => e = .returned (.tuple #[.string a, .int .i64 b]) ∧ Below w'.heap.size w' w'')
    : Calls Tryd.prog 45 #[.agg #[.int .i64 13, .string s, .string t, .string u, .int .i64 n, .int .i64 m]] w fun e w' => e = .returned (.tuple #[.string a, .int .i64 b]) ∧ Below w.heap.size w w' := by
  have H := Lib.hid H0
  clear H0
  go_enter Tryd.func45, Tryd.ntmps45
  go_wp2_with (fail)
  refine (H.out _ ((Below.refl _ _).alloc (Nat.le_refl _) _)).mono ?_
  rintro e w1 ⟨rfl, hb1⟩
  replace hb1 := below_box hb1
  go_wp2
  go_ret2
  exact ⟨rfl, hb1⟩

set_option maxRecDepth 100000 in
theorem meant_13 (s t u : ByteArray) (n m : Int) (a : ByteArray) (b : Int) (w : World)
    (H0 : ∀ w', Below w.heap.size w w' → Calls Tryd.prog 89 #[.int .i64 n] w' fun e w'' => e = .returned (.tuple #[.string a, .int .i64 b]) ∧ Below w'.heap.size w' w'')
    : Calls Tryd.prog 46 #[.agg #[.int .i64 13, .string s, .string t, .string u, .int .i64 n, .int .i64 m]] w fun e w' => e = .returned (.tuple #[.string a, .int .i64 b]) ∧ Below w.heap.size w w' := by
  have H := Lib.hid H0
  clear H0
  go_enter Tryd.func46, Tryd.ntmps46
  go_wp2_with (fail)
  refine (H.out _ ((Below.refl _ _).alloc (Nat.le_refl _) _)).mono ?_
  rintro e w1 ⟨rfl, hb1⟩
  replace hb1 := below_box hb1
  go_wp2
  go_ret2
  exact ⟨rfl, hb1⟩

set_option maxRecDepth 100000 in
set_option maxHeartbeats 1000000 in
theorem splays_text (s t u : ByteArray) (n m : Int) (K : Int) (a : ByteArray) (b : Int) (w : World) (hs : s.size ≤ 140737488351232) (ht : t.size ≤ 140737488351232) (hu : u.size ≤ 140737488351232) (k1 : (K == 1) = false) (k9 : (K == 9) = false) (k12 : (K == 12) = false) (k14 : (K == 14) = false) (kl : decide (K < 1) = false) (kg : decide ((14 : Int) < K) = false) 
    (H1 : ∀ w', Below w.heap.size w w' → Calls Tryd.prog 45 #[.agg #[.int .i64 K, .string (shortS s), .string (shortS t), .string (shortS u), .int .i64 n, .int .i64 m]] w' fun e w'' => e = .returned (.tuple #[.string a, .int .i64 b]) ∧ Below w'.heap.size w' w'')
    (H2 : ∀ w', Below w.heap.size w w' → Calls Tryd.prog 46 #[.agg #[.int .i64 K, .string (shortS s), .string (shortS t), .string (shortS u), .int .i64 n, .int .i64 m]] w' fun e w'' => e = .returned (.tuple #[.string a, .int .i64 b]) ∧ Below w'.heap.size w' w'')
    : Calls Tryd.prog 13 #[.agg #[.int .i64 K, .string s, .string t, .string u, .int .i64 n, .int .i64 m]] w fun e w' => e = .returned (.bool true) ∧ Below w.heap.size w w' := by
  have HH1 := Lib.hid H1
  have HH2 := Lib.hid H2
  clear H1 H2
  go_enter Tryd.func13, Tryd.ntmps13
  go_upto_region 1 with (fail)
  have hx : (w.alloc (Obj.cells #[.int .i64 K, .string s, .string t, .string u, .int .i64 n, .int .i64 m] 39)).heap[w.heap.size]? = some (.cells #[.int .i64 K, .string s, .string t, .string u, .int .i64 n, .int .i64 m] 39 (0, 0)) := heap_alloc_new _ _
  have hb : Below w.heap.size w (w.alloc (Obj.cells #[.int .i64 K, .string s, .string t, .string u, .int .i64 n, .int .i64 m] 39)) := (Below.refl _ _).alloc (Nat.le_refl w.heap.size) _
  have hl : w.heap.size < (w.alloc (Obj.cells #[.int .i64 K, .string s, .string t, .string u, .int .i64 n, .int .i64 m] 39)).heap.size := by simp
  generalize (w.alloc (Obj.cells #[.int .i64 K, .string s, .string t, .string u, .int .i64 n, .int .i64 m] 39)) = W0 at *
  obtain ⟨c0, c1, c2, c3, c4, c5⟩ := box6_of hx
  with_reducible refine wp_region_still_tail 10 (by kernel_rfl) (by kernel_rfl) ?_
  simp only [List.take_succ_cons, List.take_zero, List.drop_succ_cons, List.drop_zero]
  iterate 2 ((with_reducible refine wpStill_step (fun K hK => ?_)); go_simp; (with_reducible refine hK _ ?_); clear hK K)
  with_reducible refine wpStill_step (fun K hK => ?_)
  go_simp
  refine ⟨_, ((short_any s _ hs).mono fun e w2 h => ⟨h.1, h.2.symm⟩), ?_⟩
  with_reducible refine hK _ ?_
  clear hK K
  iterate 2 ((with_reducible refine wpStill_step (fun K hK => ?_)); go_simp; (with_reducible refine hK _ ?_); clear hK K)
  with_reducible refine wpStill_step (fun K hK => ?_)
  go_simp
  refine ⟨_, ((short_any t _ ht).mono fun e w2 h => ⟨h.1, h.2.symm⟩), ?_⟩
  with_reducible refine hK _ ?_
  clear hK K
  iterate 2 ((with_reducible refine wpStill_step (fun K hK => ?_)); go_simp; (with_reducible refine hK _ ?_); clear hK K)
  with_reducible refine wpStill_step (fun K hK => ?_)
  go_simp
  refine ⟨_, ((short_any u _ hu).mono fun e w2 h => ⟨h.1, h.2.symm⟩), ?_⟩
  with_reducible refine hK _ ?_
  clear hK K
  iterate 1 ((with_reducible refine wpStill_step (fun K hK => ?_)); go_simp; (with_reducible refine hK _ ?_); clear hK K)
  with_reducible refine wpStill_nil ?_
  change wpList _ _ _ _ _ W0.drew
  replace hb := hb.drew
  replace hx : W0.drew.heap[w.heap.size]? = _ := hx
  replace hl : w.heap.size < W0.drew.heap.size := hl
  clear c0 c1 c2 c3 c4 c5
  generalize W0.drew = W1 at *
  obtain ⟨c0, c1, c2, c3, c4, c5⟩ := box6_of hx
  obtain ⟨f1, f2, f3⟩ : W1.frozen? ⟨w.heap.size, 1, none⟩ = false ∧ W1.frozen? ⟨w.heap.size, 2, none⟩ = false ∧ W1.frozen? ⟨w.heap.size, 3, none⟩ = false := ⟨Lib.frozen_of_heap hx 1, Lib.frozen_of_heap hx 2, Lib.frozen_of_heap hx 3⟩
  go_upto_region 2 with (fail)
  have hx2 := box6_set (s' := shortS s) (t' := shortS t) (u' := shortS u) hx
  have hb2 : Below w.heap.size w (((W1.setCell ⟨w.heap.size, 1, none⟩ (.string (shortS s))).setCell ⟨w.heap.size, 2, none⟩ (.string (shortS t))).setCell ⟨w.heap.size, 3, none⟩ (.string (shortS u))) := ((hb.setCell (p := ⟨w.heap.size, 1, none⟩) (Nat.le_refl _) _).setCell (p := ⟨w.heap.size, 2, none⟩) (Nat.le_refl _) _).setCell (p := ⟨w.heap.size, 3, none⟩) (Nat.le_refl _) _
  have hl2 : w.heap.size < (((W1.setCell ⟨w.heap.size, 1, none⟩ (.string (shortS s))).setCell ⟨w.heap.size, 2, none⟩ (.string (shortS t))).setCell ⟨w.heap.size, 3, none⟩ (.string (shortS u))).heap.size := by simpa using hl
  clear c0 c1 c2 c3 c4 c5 f1 f2 f3 hx hb hl
  generalize (((W1.setCell ⟨w.heap.size, 1, none⟩ (.string (shortS s))).setCell ⟨w.heap.size, 2, none⟩ (.string (shortS t))).setCell ⟨w.heap.size, 3, none⟩ (.string (shortS u))) = W2 at *
  generalize shortS s = s at *
  generalize shortS t = t at *
  generalize shortS u = u at *
  obtain ⟨c0, c1, c2, c3, c4, c5⟩ := box6_of hx2
  go_wp2_with (fail)
  refine (HH1.out _ hb2).mono ?_
  rintro e w3 ⟨rfl, hb30⟩
  replace hx2 := (hb30.block w.heap.size hl2).trans hx2
  replace hb2 := hb2.trans (hb30.mono hb2.size)
  replace hl2 := Nat.lt_of_lt_of_le hl2 hb30.size
  clear hb30 c0 c1 c2 c3 c4 c5
  obtain ⟨c0, c1, c2, c3, c4, c5⟩ := box6_of hx2
  go_wp2_with (fail)
  refine (HH2.out _ hb2).mono ?_
  rintro e w4 ⟨rfl, hb40⟩
  replace hx2 := (hb40.block w.heap.size hl2).trans hx2
  replace hb2 := hb2.trans (hb40.mono hb2.size)
  replace hl2 := Nat.lt_of_lt_of_le hl2 hb40.size
  clear hb40 c0 c1 c2 c3 c4 c5
  obtain ⟨c0, c1, c2, c3, c4, c5⟩ := box6_of hx2
  go_wp2
  go_ret
  exact ⟨by simp, hb2⟩

set_option maxRecDepth 100000 in
set_option maxHeartbeats 1000000 in
theorem splays_find (s t u : ByteArray) (n m : Int) (a b : Int) (w : World) (hs : s.size ≤ 140737488351232) (ht : t.size ≤ 140737488351232) (hu : u.size ≤ 140737488351232) 
    (H1 : ∀ w', Below w.heap.size w w' → Calls Tryd.prog 34 #[.string (shortS t), .string (shortS s), .int .i64 n] w' fun e w'' => e = .returned (.tuple #[.int .i64 a, .int .i64 b]) ∧ Below w'.heap.size w' w'')
    (H2 : ∀ w', Below w.heap.size w w' → Calls Tryd.prog 42 #[.string (shortS t), .string (shortS s), .int .i64 n] w' fun e w'' => e = .returned (.tuple #[.int .i64 a, .int .i64 b]) ∧ Below w'.heap.size w' w'')
    : Calls Tryd.prog 13 #[.agg #[.int .i64 9, .string s, .string t, .string u, .int .i64 n, .int .i64 m]] w fun e w' => e = .returned (.bool true) ∧ Below w.heap.size w w' := by
  have HH1 := Lib.hid H1
  have HH2 := Lib.hid H2
  clear H1 H2
  go_enter Tryd.func13, Tryd.ntmps13
  go_upto_region 1 with (fail)
  have hx : (w.alloc (Obj.cells #[.int .i64 9, .string s, .string t, .string u, .int .i64 n, .int .i64 m] 39)).heap[w.heap.size]? = some (.cells #[.int .i64 9, .string s, .string t, .string u, .int .i64 n, .int .i64 m] 39 (0, 0)) := heap_alloc_new _ _
  have hb : Below w.heap.size w (w.alloc (Obj.cells #[.int .i64 9, .string s, .string t, .string u, .int .i64 n, .int .i64 m] 39)) := (Below.refl _ _).alloc (Nat.le_refl w.heap.size) _
  have hl : w.heap.size < (w.alloc (Obj.cells #[.int .i64 9, .string s, .string t, .string u, .int .i64 n, .int .i64 m] 39)).heap.size := by simp
  generalize (w.alloc (Obj.cells #[.int .i64 9, .string s, .string t, .string u, .int .i64 n, .int .i64 m] 39)) = W0 at *
  obtain ⟨c0, c1, c2, c3, c4, c5⟩ := box6_of hx
  with_reducible refine wp_region_still_tail 10 (by kernel_rfl) (by kernel_rfl) ?_
  simp only [List.take_succ_cons, List.take_zero, List.drop_succ_cons, List.drop_zero]
  iterate 2 ((with_reducible refine wpStill_step (fun K hK => ?_)); go_simp; (with_reducible refine hK _ ?_); clear hK K)
  with_reducible refine wpStill_step (fun K hK => ?_)
  go_simp
  refine ⟨_, ((short_any s _ hs).mono fun e w2 h => ⟨h.1, h.2.symm⟩), ?_⟩
  with_reducible refine hK _ ?_
  clear hK K
  iterate 2 ((with_reducible refine wpStill_step (fun K hK => ?_)); go_simp; (with_reducible refine hK _ ?_); clear hK K)
  with_reducible refine wpStill_step (fun K hK => ?_)
  go_simp
  refine ⟨_, ((short_any t _ ht).mono fun e w2 h => ⟨h.1, h.2.symm⟩), ?_⟩
  with_reducible refine hK _ ?_
  clear hK K
  iterate 2 ((with_reducible refine wpStill_step (fun K hK => ?_)); go_simp; (with_reducible refine hK _ ?_); clear hK K)
  with_reducible refine wpStill_step (fun K hK => ?_)
  go_simp
  refine ⟨_, ((short_any u _ hu).mono fun e w2 h => ⟨h.1, h.2.symm⟩), ?_⟩
  with_reducible refine hK _ ?_
  clear hK K
  iterate 1 ((with_reducible refine wpStill_step (fun K hK => ?_)); go_simp; (with_reducible refine hK _ ?_); clear hK K)
  with_reducible refine wpStill_nil ?_
  change wpList _ _ _ _ _ W0.drew
  replace hb := hb.drew
  replace hx : W0.drew.heap[w.heap.size]? = _ := hx
  replace hl : w.heap.size < W0.drew.heap.size := hl
  clear c0 c1 c2 c3 c4 c5
  generalize W0.drew = W1 at *
  obtain ⟨c0, c1, c2, c3, c4, c5⟩ := box6_of hx
  obtain ⟨f1, f2, f3⟩ : W1.frozen? ⟨w.heap.size, 1, none⟩ = false ∧ W1.frozen? ⟨w.heap.size, 2, none⟩ = false ∧ W1.frozen? ⟨w.heap.size, 3, none⟩ = false := ⟨Lib.frozen_of_heap hx 1, Lib.frozen_of_heap hx 2, Lib.frozen_of_heap hx 3⟩
  go_upto_region 2 with (fail)
  have hx2 := box6_set (s' := shortS s) (t' := shortS t) (u' := shortS u) hx
  have hb2 : Below w.heap.size w (((W1.setCell ⟨w.heap.size, 1, none⟩ (.string (shortS s))).setCell ⟨w.heap.size, 2, none⟩ (.string (shortS t))).setCell ⟨w.heap.size, 3, none⟩ (.string (shortS u))) := ((hb.setCell (p := ⟨w.heap.size, 1, none⟩) (Nat.le_refl _) _).setCell (p := ⟨w.heap.size, 2, none⟩) (Nat.le_refl _) _).setCell (p := ⟨w.heap.size, 3, none⟩) (Nat.le_refl _) _
  have hl2 : w.heap.size < (((W1.setCell ⟨w.heap.size, 1, none⟩ (.string (shortS s))).setCell ⟨w.heap.size, 2, none⟩ (.string (shortS t))).setCell ⟨w.heap.size, 3, none⟩ (.string (shortS u))).heap.size := by simpa using hl
  clear c0 c1 c2 c3 c4 c5 f1 f2 f3 hx hb hl
  generalize (((W1.setCell ⟨w.heap.size, 1, none⟩ (.string (shortS s))).setCell ⟨w.heap.size, 2, none⟩ (.string (shortS t))).setCell ⟨w.heap.size, 3, none⟩ (.string (shortS u))) = W2 at *
  generalize shortS s = s at *
  generalize shortS t = t at *
  generalize shortS u = u at *
  obtain ⟨c0, c1, c2, c3, c4, c5⟩ := box6_of hx2
  go_wp2_with (fail)
  refine (HH1.out _ hb2).mono ?_
  rintro e w3 ⟨rfl, hb30⟩
  replace hx2 := (hb30.block w.heap.size hl2).trans hx2
  replace hb2 := hb2.trans (hb30.mono hb2.size)
  replace hl2 := Nat.lt_of_lt_of_le hl2 hb30.size
  clear hb30 c0 c1 c2 c3 c4 c5
  obtain ⟨c0, c1, c2, c3, c4, c5⟩ := box6_of hx2
  go_wp2_with (fail)
  refine (HH2.out _ hb2).mono ?_
  rintro e w4 ⟨rfl, hb40⟩
  replace hx2 := (hb40.block w.heap.size hl2).trans hx2
  replace hb2 := hb2.trans (hb40.mono hb2.size)
  replace hl2 := Nat.lt_of_lt_of_le hl2 hb40.size
  clear hb40 c0 c1 c2 c3 c4 c5
  obtain ⟨c0, c1, c2, c3, c4, c5⟩ := box6_of hx2
  go_wp2
  go_ret
  exact ⟨by simp, hb2⟩

set_option maxRecDepth 100000 in
set_option maxHeartbeats 1000000 in
theorem splays_code (s t u : ByteArray) (n m : Int) (a b : Int) (w : World) (hs : s.size ≤ 140737488351232) (ht : t.size ≤ 140737488351232) (hu : u.size ≤ 140737488351232) 
    (H1 : ∀ w', Below w.heap.size w w' → Calls Tryd.prog 35 #[.string (shortS s)] w' fun e w'' => e = .returned (.tuple #[.int .i64 a, .int .i64 b]) ∧ Below w'.heap.size w' w'')
    (H2 : ∀ w', Below w.heap.size w w' → Calls Tryd.prog 43 #[.string (shortS s)] w' fun e w'' => e = .returned (.tuple #[.int .i64 a, .int .i64 b]) ∧ Below w'.heap.size w' w'')
    : Calls Tryd.prog 13 #[.agg #[.int .i64 12, .string s, .string t, .string u, .int .i64 n, .int .i64 m]] w fun e w' => e = .returned (.bool true) ∧ Below w.heap.size w w' := by
  have HH1 := Lib.hid H1
  have HH2 := Lib.hid H2
  clear H1 H2
  go_enter Tryd.func13, Tryd.ntmps13
  go_upto_region 1 with (fail)
  have hx : (w.alloc (Obj.cells #[.int .i64 12, .string s, .string t, .string u, .int .i64 n, .int .i64 m] 39)).heap[w.heap.size]? = some (.cells #[.int .i64 12, .string s, .string t, .string u, .int .i64 n, .int .i64 m] 39 (0, 0)) := heap_alloc_new _ _
  have hb : Below w.heap.size w (w.alloc (Obj.cells #[.int .i64 12, .string s, .string t, .string u, .int .i64 n, .int .i64 m] 39)) := (Below.refl _ _).alloc (Nat.le_refl w.heap.size) _
  have hl : w.heap.size < (w.alloc (Obj.cells #[.int .i64 12, .string s, .string t, .string u, .int .i64 n, .int .i64 m] 39)).heap.size := by simp
  generalize (w.alloc (Obj.cells #[.int .i64 12, .string s, .string t, .string u, .int .i64 n, .int .i64 m] 39)) = W0 at *
  obtain ⟨c0, c1, c2, c3, c4, c5⟩ := box6_of hx
  with_reducible refine wp_region_still_tail 10 (by kernel_rfl) (by kernel_rfl) ?_
  simp only [List.take_succ_cons, List.take_zero, List.drop_succ_cons, List.drop_zero]
  iterate 2 ((with_reducible refine wpStill_step (fun K hK => ?_)); go_simp; (with_reducible refine hK _ ?_); clear hK K)
  with_reducible refine wpStill_step (fun K hK => ?_)
  go_simp
  refine ⟨_, ((short_any s _ hs).mono fun e w2 h => ⟨h.1, h.2.symm⟩), ?_⟩
  with_reducible refine hK _ ?_
  clear hK K
  iterate 2 ((with_reducible refine wpStill_step (fun K hK => ?_)); go_simp; (with_reducible refine hK _ ?_); clear hK K)
  with_reducible refine wpStill_step (fun K hK => ?_)
  go_simp
  refine ⟨_, ((short_any t _ ht).mono fun e w2 h => ⟨h.1, h.2.symm⟩), ?_⟩
  with_reducible refine hK _ ?_
  clear hK K
  iterate 2 ((with_reducible refine wpStill_step (fun K hK => ?_)); go_simp; (with_reducible refine hK _ ?_); clear hK K)
  with_reducible refine wpStill_step (fun K hK => ?_)
  go_simp
  refine ⟨_, ((short_any u _ hu).mono fun e w2 h => ⟨h.1, h.2.symm⟩), ?_⟩
  with_reducible refine hK _ ?_
  clear hK K
  iterate 1 ((with_reducible refine wpStill_step (fun K hK => ?_)); go_simp; (with_reducible refine hK _ ?_); clear hK K)
  with_reducible refine wpStill_nil ?_
  change wpList _ _ _ _ _ W0.drew
  replace hb := hb.drew
  replace hx : W0.drew.heap[w.heap.size]? = _ := hx
  replace hl : w.heap.size < W0.drew.heap.size := hl
  clear c0 c1 c2 c3 c4 c5
  generalize W0.drew = W1 at *
  obtain ⟨c0, c1, c2, c3, c4, c5⟩ := box6_of hx
  obtain ⟨f1, f2, f3⟩ : W1.frozen? ⟨w.heap.size, 1, none⟩ = false ∧ W1.frozen? ⟨w.heap.size, 2, none⟩ = false ∧ W1.frozen? ⟨w.heap.size, 3, none⟩ = false := ⟨Lib.frozen_of_heap hx 1, Lib.frozen_of_heap hx 2, Lib.frozen_of_heap hx 3⟩
  go_upto_region 2 with (fail)
  have hx2 := box6_set (s' := shortS s) (t' := shortS t) (u' := shortS u) hx
  have hb2 : Below w.heap.size w (((W1.setCell ⟨w.heap.size, 1, none⟩ (.string (shortS s))).setCell ⟨w.heap.size, 2, none⟩ (.string (shortS t))).setCell ⟨w.heap.size, 3, none⟩ (.string (shortS u))) := ((hb.setCell (p := ⟨w.heap.size, 1, none⟩) (Nat.le_refl _) _).setCell (p := ⟨w.heap.size, 2, none⟩) (Nat.le_refl _) _).setCell (p := ⟨w.heap.size, 3, none⟩) (Nat.le_refl _) _
  have hl2 : w.heap.size < (((W1.setCell ⟨w.heap.size, 1, none⟩ (.string (shortS s))).setCell ⟨w.heap.size, 2, none⟩ (.string (shortS t))).setCell ⟨w.heap.size, 3, none⟩ (.string (shortS u))).heap.size := by simpa using hl
  clear c0 c1 c2 c3 c4 c5 f1 f2 f3 hx hb hl
  generalize (((W1.setCell ⟨w.heap.size, 1, none⟩ (.string (shortS s))).setCell ⟨w.heap.size, 2, none⟩ (.string (shortS t))).setCell ⟨w.heap.size, 3, none⟩ (.string (shortS u))) = W2 at *
  generalize shortS s = s at *
  generalize shortS t = t at *
  generalize shortS u = u at *
  obtain ⟨c0, c1, c2, c3, c4, c5⟩ := box6_of hx2
  go_wp2_with (fail)
  refine (HH1.out _ hb2).mono ?_
  rintro e w3 ⟨rfl, hb30⟩
  replace hx2 := (hb30.block w.heap.size hl2).trans hx2
  replace hb2 := hb2.trans (hb30.mono hb2.size)
  replace hl2 := Nat.lt_of_lt_of_le hl2 hb30.size
  clear hb30 c0 c1 c2 c3 c4 c5
  obtain ⟨c0, c1, c2, c3, c4, c5⟩ := box6_of hx2
  go_wp2_with (fail)
  refine (HH2.out _ hb2).mono ?_
  rintro e w4 ⟨rfl, hb40⟩
  replace hx2 := (hb40.block w.heap.size hl2).trans hx2
  replace hb2 := hb2.trans (hb40.mono hb2.size)
  replace hl2 := Nat.lt_of_lt_of_le hl2 hb40.size
  clear hb40 c0 c1 c2 c3 c4 c5
  obtain ⟨c0, c1, c2, c3, c4, c5⟩ := box6_of hx2
  go_wp2
  go_ret
  exact ⟨by simp, hb2⟩

set_option maxRecDepth 100000 in
set_option maxHeartbeats 1000000 in
theorem splays_all (s t u : ByteArray) (n m : Int) (w : World) (hs : s.size ≤ 140737488351232) (ht : t.size ≤ 140737488351232) (hu : u.size ≤ 140737488351232) 
    (H1 : ∀ w', Below w.heap.size w w' → Calls Tryd.prog 44 #[.string (shortS s), .int .i64 n] w' fun e w'' => e = .returned (.bool true) ∧ Below w'.heap.size w' w'')
    : Calls Tryd.prog 13 #[.agg #[.int .i64 14, .string s, .string t, .string u, .int .i64 n, .int .i64 m]] w fun e w' => e = .returned (.bool true) ∧ Below w.heap.size w w' := by
  have HH1 := Lib.hid H1
  clear H1
  go_enter Tryd.func13, Tryd.ntmps13
  go_upto_region 1 with (fail)
  have hx : (w.alloc (Obj.cells #[.int .i64 14, .string s, .string t, .string u, .int .i64 n, .int .i64 m] 39)).heap[w.heap.size]? = some (.cells #[.int .i64 14, .string s, .string t, .string u, .int .i64 n, .int .i64 m] 39 (0, 0)) := heap_alloc_new _ _
  have hb : Below w.heap.size w (w.alloc (Obj.cells #[.int .i64 14, .string s, .string t, .string u, .int .i64 n, .int .i64 m] 39)) := (Below.refl _ _).alloc (Nat.le_refl w.heap.size) _
  have hl : w.heap.size < (w.alloc (Obj.cells #[.int .i64 14, .string s, .string t, .string u, .int .i64 n, .int .i64 m] 39)).heap.size := by simp
  generalize (w.alloc (Obj.cells #[.int .i64 14, .string s, .string t, .string u, .int .i64 n, .int .i64 m] 39)) = W0 at *
  obtain ⟨c0, c1, c2, c3, c4, c5⟩ := box6_of hx
  with_reducible refine wp_region_still_tail 10 (by kernel_rfl) (by kernel_rfl) ?_
  simp only [List.take_succ_cons, List.take_zero, List.drop_succ_cons, List.drop_zero]
  iterate 2 ((with_reducible refine wpStill_step (fun K hK => ?_)); go_simp; (with_reducible refine hK _ ?_); clear hK K)
  with_reducible refine wpStill_step (fun K hK => ?_)
  go_simp
  refine ⟨_, ((short_any s _ hs).mono fun e w2 h => ⟨h.1, h.2.symm⟩), ?_⟩
  with_reducible refine hK _ ?_
  clear hK K
  iterate 2 ((with_reducible refine wpStill_step (fun K hK => ?_)); go_simp; (with_reducible refine hK _ ?_); clear hK K)
  with_reducible refine wpStill_step (fun K hK => ?_)
  go_simp
  refine ⟨_, ((short_any t _ ht).mono fun e w2 h => ⟨h.1, h.2.symm⟩), ?_⟩
  with_reducible refine hK _ ?_
  clear hK K
  iterate 2 ((with_reducible refine wpStill_step (fun K hK => ?_)); go_simp; (with_reducible refine hK _ ?_); clear hK K)
  with_reducible refine wpStill_step (fun K hK => ?_)
  go_simp
  refine ⟨_, ((short_any u _ hu).mono fun e w2 h => ⟨h.1, h.2.symm⟩), ?_⟩
  with_reducible refine hK _ ?_
  clear hK K
  iterate 1 ((with_reducible refine wpStill_step (fun K hK => ?_)); go_simp; (with_reducible refine hK _ ?_); clear hK K)
  with_reducible refine wpStill_nil ?_
  change wpList _ _ _ _ _ W0.drew
  replace hb := hb.drew
  replace hx : W0.drew.heap[w.heap.size]? = _ := hx
  replace hl : w.heap.size < W0.drew.heap.size := hl
  clear c0 c1 c2 c3 c4 c5
  generalize W0.drew = W1 at *
  obtain ⟨c0, c1, c2, c3, c4, c5⟩ := box6_of hx
  obtain ⟨f1, f2, f3⟩ : W1.frozen? ⟨w.heap.size, 1, none⟩ = false ∧ W1.frozen? ⟨w.heap.size, 2, none⟩ = false ∧ W1.frozen? ⟨w.heap.size, 3, none⟩ = false := ⟨Lib.frozen_of_heap hx 1, Lib.frozen_of_heap hx 2, Lib.frozen_of_heap hx 3⟩
  go_upto_region 2 with (fail)
  have hx2 := box6_set (s' := shortS s) (t' := shortS t) (u' := shortS u) hx
  have hb2 : Below w.heap.size w (((W1.setCell ⟨w.heap.size, 1, none⟩ (.string (shortS s))).setCell ⟨w.heap.size, 2, none⟩ (.string (shortS t))).setCell ⟨w.heap.size, 3, none⟩ (.string (shortS u))) := ((hb.setCell (p := ⟨w.heap.size, 1, none⟩) (Nat.le_refl _) _).setCell (p := ⟨w.heap.size, 2, none⟩) (Nat.le_refl _) _).setCell (p := ⟨w.heap.size, 3, none⟩) (Nat.le_refl _) _
  have hl2 : w.heap.size < (((W1.setCell ⟨w.heap.size, 1, none⟩ (.string (shortS s))).setCell ⟨w.heap.size, 2, none⟩ (.string (shortS t))).setCell ⟨w.heap.size, 3, none⟩ (.string (shortS u))).heap.size := by simpa using hl
  clear c0 c1 c2 c3 c4 c5 f1 f2 f3 hx hb hl
  generalize (((W1.setCell ⟨w.heap.size, 1, none⟩ (.string (shortS s))).setCell ⟨w.heap.size, 2, none⟩ (.string (shortS t))).setCell ⟨w.heap.size, 3, none⟩ (.string (shortS u))) = W2 at *
  generalize shortS s = s at *
  generalize shortS t = t at *
  generalize shortS u = u at *
  obtain ⟨c0, c1, c2, c3, c4, c5⟩ := box6_of hx2
  go_wp2_with (fail)
  refine (HH1.out _ hb2).mono ?_
  rintro e w3 ⟨rfl, hb30⟩
  replace hx2 := (hb30.block w.heap.size hl2).trans hx2
  replace hb2 := hb2.trans (hb30.mono hb2.size)
  replace hl2 := Nat.lt_of_lt_of_le hl2 hb30.size
  clear hb30 c0 c1 c2 c3 c4 c5
  obtain ⟨c0, c1, c2, c3, c4, c5⟩ := box6_of hx2
  go_wp2
  go_ret
  exact ⟨by simp, hb2⟩

set_option maxRecDepth 100000 in
set_option maxHeartbeats 1000000 in
theorem splays_len (s t u : ByteArray) (n m : Int) (a : Int) (w : World) (hs : s.size ≤ 140737488351232) (ht : t.size ≤ 140737488351232) (hu : u.size ≤ 140737488351232) 
    (H1 : ∀ w', Below w.heap.size w w' → Calls Tryd.prog 38 #[.string (shortS s)] w' fun e w'' => e = .returned (.int .i64 a) ∧ Below w'.heap.size w' w'')
    (H2 : ∀ w', Below w.heap.size w w' → Calls Tryd.prog 41 #[.string (shortS s)] w' fun e w'' => e = .returned (.int .i64 a) ∧ Below w'.heap.size w' w'')
    : Calls Tryd.prog 13 #[.agg #[.int .i64 1, .string s, .string t, .string u, .int .i64 n, .int .i64 m]] w fun e w' => e = .returned (.bool true) ∧ Below w.heap.size w w' := by
  have HH1 := Lib.hid H1
  have HH2 := Lib.hid H2
  clear H1 H2
  go_enter Tryd.func13, Tryd.ntmps13
  go_upto_region 1 with (fail)
  have hx : (w.alloc (Obj.cells #[.int .i64 1, .string s, .string t, .string u, .int .i64 n, .int .i64 m] 39)).heap[w.heap.size]? = some (.cells #[.int .i64 1, .string s, .string t, .string u, .int .i64 n, .int .i64 m] 39 (0, 0)) := heap_alloc_new _ _
  have hb : Below w.heap.size w (w.alloc (Obj.cells #[.int .i64 1, .string s, .string t, .string u, .int .i64 n, .int .i64 m] 39)) := (Below.refl _ _).alloc (Nat.le_refl w.heap.size) _
  have hl : w.heap.size < (w.alloc (Obj.cells #[.int .i64 1, .string s, .string t, .string u, .int .i64 n, .int .i64 m] 39)).heap.size := by simp
  generalize (w.alloc (Obj.cells #[.int .i64 1, .string s, .string t, .string u, .int .i64 n, .int .i64 m] 39)) = W0 at *
  obtain ⟨c0, c1, c2, c3, c4, c5⟩ := box6_of hx
  with_reducible refine wp_region_still_tail 10 (by kernel_rfl) (by kernel_rfl) ?_
  simp only [List.take_succ_cons, List.take_zero, List.drop_succ_cons, List.drop_zero]
  iterate 2 ((with_reducible refine wpStill_step (fun K hK => ?_)); go_simp; (with_reducible refine hK _ ?_); clear hK K)
  with_reducible refine wpStill_step (fun K hK => ?_)
  go_simp
  refine ⟨_, ((short_any s _ hs).mono fun e w2 h => ⟨h.1, h.2.symm⟩), ?_⟩
  with_reducible refine hK _ ?_
  clear hK K
  iterate 2 ((with_reducible refine wpStill_step (fun K hK => ?_)); go_simp; (with_reducible refine hK _ ?_); clear hK K)
  with_reducible refine wpStill_step (fun K hK => ?_)
  go_simp
  refine ⟨_, ((short_any t _ ht).mono fun e w2 h => ⟨h.1, h.2.symm⟩), ?_⟩
  with_reducible refine hK _ ?_
  clear hK K
  iterate 2 ((with_reducible refine wpStill_step (fun K hK => ?_)); go_simp; (with_reducible refine hK _ ?_); clear hK K)
  with_reducible refine wpStill_step (fun K hK => ?_)
  go_simp
  refine ⟨_, ((short_any u _ hu).mono fun e w2 h => ⟨h.1, h.2.symm⟩), ?_⟩
  with_reducible refine hK _ ?_
  clear hK K
  iterate 1 ((with_reducible refine wpStill_step (fun K hK => ?_)); go_simp; (with_reducible refine hK _ ?_); clear hK K)
  with_reducible refine wpStill_nil ?_
  change wpList _ _ _ _ _ W0.drew
  replace hb := hb.drew
  replace hx : W0.drew.heap[w.heap.size]? = _ := hx
  replace hl : w.heap.size < W0.drew.heap.size := hl
  clear c0 c1 c2 c3 c4 c5
  generalize W0.drew = W1 at *
  obtain ⟨c0, c1, c2, c3, c4, c5⟩ := box6_of hx
  obtain ⟨f1, f2, f3⟩ : W1.frozen? ⟨w.heap.size, 1, none⟩ = false ∧ W1.frozen? ⟨w.heap.size, 2, none⟩ = false ∧ W1.frozen? ⟨w.heap.size, 3, none⟩ = false := ⟨Lib.frozen_of_heap hx 1, Lib.frozen_of_heap hx 2, Lib.frozen_of_heap hx 3⟩
  go_upto_region 2 with (fail)
  have hx2 := box6_set (s' := shortS s) (t' := shortS t) (u' := shortS u) hx
  have hb2 : Below w.heap.size w (((W1.setCell ⟨w.heap.size, 1, none⟩ (.string (shortS s))).setCell ⟨w.heap.size, 2, none⟩ (.string (shortS t))).setCell ⟨w.heap.size, 3, none⟩ (.string (shortS u))) := ((hb.setCell (p := ⟨w.heap.size, 1, none⟩) (Nat.le_refl _) _).setCell (p := ⟨w.heap.size, 2, none⟩) (Nat.le_refl _) _).setCell (p := ⟨w.heap.size, 3, none⟩) (Nat.le_refl _) _
  have hl2 : w.heap.size < (((W1.setCell ⟨w.heap.size, 1, none⟩ (.string (shortS s))).setCell ⟨w.heap.size, 2, none⟩ (.string (shortS t))).setCell ⟨w.heap.size, 3, none⟩ (.string (shortS u))).heap.size := by simpa using hl
  clear c0 c1 c2 c3 c4 c5 f1 f2 f3 hx hb hl
  generalize (((W1.setCell ⟨w.heap.size, 1, none⟩ (.string (shortS s))).setCell ⟨w.heap.size, 2, none⟩ (.string (shortS t))).setCell ⟨w.heap.size, 3, none⟩ (.string (shortS u))) = W2 at *
  generalize shortS s = s at *
  generalize shortS t = t at *
  generalize shortS u = u at *
  obtain ⟨c0, c1, c2, c3, c4, c5⟩ := box6_of hx2
  go_upto_region 4 with (fail)
  go_region_held3 (fun w' => w'.cell? ⟨w.heap.size, 0, none⟩ = some (.int .i64 1) ∧ w'.cell? ⟨w.heap.size, 1, none⟩ = some (.string s) ∧ w'.cell? ⟨w.heap.size, 2, none⟩ = some (.string t) ∧ w'.cell? ⟨w.heap.size, 3, none⟩ = some (.string u) ∧ w'.cell? ⟨w.heap.size, 4, none⟩ = some (.int .i64 n) ∧ w'.cell? ⟨w.heap.size, 5, none⟩ = some (.int .i64 m))
    (first | go_keep | exact ⟨c0, c1, c2, c3, c4, c5⟩)
    (((first | (go_at_call 38; refine (HH1.out _ ?_).mono ?_; (first | exact hb2 | exact hb2.drew)) | (go_at_call 41; refine (HH2.out _ ?_).mono ?_; (first | exact hb2 | exact hb2.drew))); rintro e v ⟨rfl, hbn⟩; clear c0 c1 c2 c3 c4 c5; replace hx2 := (hbn.block w.heap.size hl2).trans hx2; replace hb2 : Below w.heap.size w v := (by first | exact hb2.trans (hbn.mono hb2.size) | exact hb2.drew.trans (hbn.mono hb2.size)); replace hl2 := Nat.lt_of_lt_of_le hl2 hbn.size; clear hbn; obtain ⟨c0, c1, c2, c3, c4, c5⟩ := box6_of hx2))
  all_goals
    go_wp2
    go_ret
    exact ⟨by simp, hb2⟩

set_option maxRecDepth 100000 in
set_option maxHeartbeats 1000000 in
theorem splays_under (s t u : ByteArray) (n m : Int) (K : Int) (w : World) (hs : s.size ≤ 140737488351232) (ht : t.size ≤ 140737488351232) (hu : u.size ≤ 140737488351232) (k1 : (K == 1) = false) (k9 : (K == 9) = false) (k12 : (K == 12) = false) (k14 : (K == 14) = false) (kl : decide (K < 1) = true) 
    : Calls Tryd.prog 13 #[.agg #[.int .i64 K, .string s, .string t, .string u, .int .i64 n, .int .i64 m]] w fun e w' => e = .returned (.bool true) ∧ Below w.heap.size w w' := by
  go_enter Tryd.func13, Tryd.ntmps13
  go_upto_region 1 with (fail)
  have hx : (w.alloc (Obj.cells #[.int .i64 K, .string s, .string t, .string u, .int .i64 n, .int .i64 m] 39)).heap[w.heap.size]? = some (.cells #[.int .i64 K, .string s, .string t, .string u, .int .i64 n, .int .i64 m] 39 (0, 0)) := heap_alloc_new _ _
  have hb : Below w.heap.size w (w.alloc (Obj.cells #[.int .i64 K, .string s, .string t, .string u, .int .i64 n, .int .i64 m] 39)) := (Below.refl _ _).alloc (Nat.le_refl w.heap.size) _
  have hl : w.heap.size < (w.alloc (Obj.cells #[.int .i64 K, .string s, .string t, .string u, .int .i64 n, .int .i64 m] 39)).heap.size := by simp
  generalize (w.alloc (Obj.cells #[.int .i64 K, .string s, .string t, .string u, .int .i64 n, .int .i64 m] 39)) = W0 at *
  obtain ⟨c0, c1, c2, c3, c4, c5⟩ := box6_of hx
  with_reducible refine wp_region_still_tail 10 (by kernel_rfl) (by kernel_rfl) ?_
  simp only [List.take_succ_cons, List.take_zero, List.drop_succ_cons, List.drop_zero]
  iterate 2 ((with_reducible refine wpStill_step (fun K hK => ?_)); go_simp; (with_reducible refine hK _ ?_); clear hK K)
  with_reducible refine wpStill_step (fun K hK => ?_)
  go_simp
  refine ⟨_, ((short_any s _ hs).mono fun e w2 h => ⟨h.1, h.2.symm⟩), ?_⟩
  with_reducible refine hK _ ?_
  clear hK K
  iterate 2 ((with_reducible refine wpStill_step (fun K hK => ?_)); go_simp; (with_reducible refine hK _ ?_); clear hK K)
  with_reducible refine wpStill_step (fun K hK => ?_)
  go_simp
  refine ⟨_, ((short_any t _ ht).mono fun e w2 h => ⟨h.1, h.2.symm⟩), ?_⟩
  with_reducible refine hK _ ?_
  clear hK K
  iterate 2 ((with_reducible refine wpStill_step (fun K hK => ?_)); go_simp; (with_reducible refine hK _ ?_); clear hK K)
  with_reducible refine wpStill_step (fun K hK => ?_)
  go_simp
  refine ⟨_, ((short_any u _ hu).mono fun e w2 h => ⟨h.1, h.2.symm⟩), ?_⟩
  with_reducible refine hK _ ?_
  clear hK K
  iterate 1 ((with_reducible refine wpStill_step (fun K hK => ?_)); go_simp; (with_reducible refine hK _ ?_); clear hK K)
  with_reducible refine wpStill_nil ?_
  change wpList _ _ _ _ _ W0.drew
  replace hb := hb.drew
  replace hx : W0.drew.heap[w.heap.size]? = _ := hx
  replace hl : w.heap.size < W0.drew.heap.size := hl
  clear c0 c1 c2 c3 c4 c5
  generalize W0.drew = W1 at *
  obtain ⟨c0, c1, c2, c3, c4, c5⟩ := box6_of hx
  obtain ⟨f1, f2, f3⟩ : W1.frozen? ⟨w.heap.size, 1, none⟩ = false ∧ W1.frozen? ⟨w.heap.size, 2, none⟩ = false ∧ W1.frozen? ⟨w.heap.size, 3, none⟩ = false := ⟨Lib.frozen_of_heap hx 1, Lib.frozen_of_heap hx 2, Lib.frozen_of_heap hx 3⟩
  go_upto_region 2 with (fail)
  have hx2 := box6_set (s' := shortS s) (t' := shortS t) (u' := shortS u) hx
  have hb2 : Below w.heap.size w (((W1.setCell ⟨w.heap.size, 1, none⟩ (.string (shortS s))).setCell ⟨w.heap.size, 2, none⟩ (.string (shortS t))).setCell ⟨w.heap.size, 3, none⟩ (.string (shortS u))) := ((hb.setCell (p := ⟨w.heap.size, 1, none⟩) (Nat.le_refl _) _).setCell (p := ⟨w.heap.size, 2, none⟩) (Nat.le_refl _) _).setCell (p := ⟨w.heap.size, 3, none⟩) (Nat.le_refl _) _
  have hl2 : w.heap.size < (((W1.setCell ⟨w.heap.size, 1, none⟩ (.string (shortS s))).setCell ⟨w.heap.size, 2, none⟩ (.string (shortS t))).setCell ⟨w.heap.size, 3, none⟩ (.string (shortS u))).heap.size := by simpa using hl
  clear c0 c1 c2 c3 c4 c5 f1 f2 f3 hx hb hl
  generalize (((W1.setCell ⟨w.heap.size, 1, none⟩ (.string (shortS s))).setCell ⟨w.heap.size, 2, none⟩ (.string (shortS t))).setCell ⟨w.heap.size, 3, none⟩ (.string (shortS u))) = W2 at *
  generalize shortS s = s at *
  generalize shortS t = t at *
  generalize shortS u = u at *
  obtain ⟨c0, c1, c2, c3, c4, c5⟩ := box6_of hx2
  go_wp2
  go_ret
  exact ⟨rfl, hb2⟩

set_option maxRecDepth 100000 in
set_option maxHeartbeats 1000000 in
theorem splays_over (s t u : ByteArray) (n m : Int) (K : Int) (w : World) (hs : s.size ≤ 140737488351232) (ht : t.size ≤ 140737488351232) (hu : u.size ≤ 140737488351232) (k1 : (K == 1) = false) (k9 : (K == 9) = false) (k12 : (K == 12) = false) (k14 : (K == 14) = false) (kl : decide (K < 1) = false) (kg : decide ((14 : Int) < K) = true) 
    : Calls Tryd.prog 13 #[.agg #[.int .i64 K, .string s, .string t, .string u, .int .i64 n, .int .i64 m]] w fun e w' => e = .returned (.bool true) ∧ Below w.heap.size w w' := by
  go_enter Tryd.func13, Tryd.ntmps13
  go_upto_region 1 with (fail)
  have hx : (w.alloc (Obj.cells #[.int .i64 K, .string s, .string t, .string u, .int .i64 n, .int .i64 m] 39)).heap[w.heap.size]? = some (.cells #[.int .i64 K, .string s, .string t, .string u, .int .i64 n, .int .i64 m] 39 (0, 0)) := heap_alloc_new _ _
  have hb : Below w.heap.size w (w.alloc (Obj.cells #[.int .i64 K, .string s, .string t, .string u, .int .i64 n, .int .i64 m] 39)) := (Below.refl _ _).alloc (Nat.le_refl w.heap.size) _
  have hl : w.heap.size < (w.alloc (Obj.cells #[.int .i64 K, .string s, .string t, .string u, .int .i64 n, .int .i64 m] 39)).heap.size := by simp
  generalize (w.alloc (Obj.cells #[.int .i64 K, .string s, .string t, .string u, .int .i64 n, .int .i64 m] 39)) = W0 at *
  obtain ⟨c0, c1, c2, c3, c4, c5⟩ := box6_of hx
  with_reducible refine wp_region_still_tail 10 (by kernel_rfl) (by kernel_rfl) ?_
  simp only [List.take_succ_cons, List.take_zero, List.drop_succ_cons, List.drop_zero]
  iterate 2 ((with_reducible refine wpStill_step (fun K hK => ?_)); go_simp; (with_reducible refine hK _ ?_); clear hK K)
  with_reducible refine wpStill_step (fun K hK => ?_)
  go_simp
  refine ⟨_, ((short_any s _ hs).mono fun e w2 h => ⟨h.1, h.2.symm⟩), ?_⟩
  with_reducible refine hK _ ?_
  clear hK K
  iterate 2 ((with_reducible refine wpStill_step (fun K hK => ?_)); go_simp; (with_reducible refine hK _ ?_); clear hK K)
  with_reducible refine wpStill_step (fun K hK => ?_)
  go_simp
  refine ⟨_, ((short_any t _ ht).mono fun e w2 h => ⟨h.1, h.2.symm⟩), ?_⟩
  with_reducible refine hK _ ?_
  clear hK K
  iterate 2 ((with_reducible refine wpStill_step (fun K hK => ?_)); go_simp; (with_reducible refine hK _ ?_); clear hK K)
  with_reducible refine wpStill_step (fun K hK => ?_)
  go_simp
  refine ⟨_, ((short_any u _ hu).mono fun e w2 h => ⟨h.1, h.2.symm⟩), ?_⟩
  with_reducible refine hK _ ?_
  clear hK K
  iterate 1 ((with_reducible refine wpStill_step (fun K hK => ?_)); go_simp; (with_reducible refine hK _ ?_); clear hK K)
  with_reducible refine wpStill_nil ?_
  change wpList _ _ _ _ _ W0.drew
  replace hb := hb.drew
  replace hx : W0.drew.heap[w.heap.size]? = _ := hx
  replace hl : w.heap.size < W0.drew.heap.size := hl
  clear c0 c1 c2 c3 c4 c5
  generalize W0.drew = W1 at *
  obtain ⟨c0, c1, c2, c3, c4, c5⟩ := box6_of hx
  obtain ⟨f1, f2, f3⟩ : W1.frozen? ⟨w.heap.size, 1, none⟩ = false ∧ W1.frozen? ⟨w.heap.size, 2, none⟩ = false ∧ W1.frozen? ⟨w.heap.size, 3, none⟩ = false := ⟨Lib.frozen_of_heap hx 1, Lib.frozen_of_heap hx 2, Lib.frozen_of_heap hx 3⟩
  go_upto_region 2 with (fail)
  have hx2 := box6_set (s' := shortS s) (t' := shortS t) (u' := shortS u) hx
  have hb2 : Below w.heap.size w (((W1.setCell ⟨w.heap.size, 1, none⟩ (.string (shortS s))).setCell ⟨w.heap.size, 2, none⟩ (.string (shortS t))).setCell ⟨w.heap.size, 3, none⟩ (.string (shortS u))) := ((hb.setCell (p := ⟨w.heap.size, 1, none⟩) (Nat.le_refl _) _).setCell (p := ⟨w.heap.size, 2, none⟩) (Nat.le_refl _) _).setCell (p := ⟨w.heap.size, 3, none⟩) (Nat.le_refl _) _
  have hl2 : w.heap.size < (((W1.setCell ⟨w.heap.size, 1, none⟩ (.string (shortS s))).setCell ⟨w.heap.size, 2, none⟩ (.string (shortS t))).setCell ⟨w.heap.size, 3, none⟩ (.string (shortS u))).heap.size := by simpa using hl
  clear c0 c1 c2 c3 c4 c5 f1 f2 f3 hx hb hl
  generalize (((W1.setCell ⟨w.heap.size, 1, none⟩ (.string (shortS s))).setCell ⟨w.heap.size, 2, none⟩ (.string (shortS t))).setCell ⟨w.heap.size, 3, none⟩ (.string (shortS u))) = W2 at *
  generalize shortS s = s at *
  generalize shortS t = t at *
  generalize shortS u = u at *
  obtain ⟨c0, c1, c2, c3, c4, c5⟩ := box6_of hx2
  go_wp2
  go_ret
  exact ⟨rfl, hb2⟩
end Go.Proofs.YtdbjmjeiaajdiaaDoor
