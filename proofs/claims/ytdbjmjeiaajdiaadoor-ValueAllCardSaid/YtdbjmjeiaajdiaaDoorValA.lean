/- Contracts of May, good, fault (package value) and May, fit, Err (its reference), of word and place. -/
import Derived.Test.YtdbjmjeiaajdiaaDoorVal
import Derived.Test.YtdbjmjeiaajdiaaDoorRefD
namespace Go.Proofs.YtdbjmjeiaajdiaaDoor
open Go.RowKit
set_option linter.unusedVariables false
theorem val_cells {w : World} {B T : Nat} {k n : Int} {t : ByteArray} (h : w.heap[B]? = some (.cells #[.int .i64 k, .int .i64 n, .string t] T (0, 0))) :
    w.cell? ⟨B, 0, none⟩ = some (.int .i64 k) ∧ w.cell? ⟨B, 1, none⟩ = some (.int .i64 n) ∧ w.cell? ⟨B, 2, none⟩ = some (.string t) :=
  ⟨Lib.cell_of_heap h 0, Lib.cell_of_heap h 1, Lib.cell_of_heap h 2⟩
theorem val_frozen {w : World} {B T : Nat} {k n : Int} {t : ByteArray} (h : w.heap[B]? = some (.cells #[.int .i64 k, .int .i64 n, .string t] T (0, 0))) :
    w.frozen? ⟨B, 0, none⟩ = false ∧ w.frozen? ⟨B, 1, none⟩ = false ∧ w.frozen? ⟨B, 2, none⟩ = false :=
  ⟨Lib.frozen_of_heap h 0, Lib.frozen_of_heap h 1, Lib.frozen_of_heap h 2⟩
theorem val_set {w : World} {B T : Nat} {k n k' n' : Int} {t t' : ByteArray} (h : w.heap[B]? = some (.cells #[.int .i64 k, .int .i64 n, .string t] T (0, 0))) :
    (((w.setCell ⟨B, 0, none⟩ (.int .i64 k')).setCell ⟨B, 1, none⟩ (.int .i64 n')).setCell ⟨B, 2, none⟩ (.string t')).heap[B]? = some (.cells #[.int .i64 k', .int .i64 n', .string t'] T (0, 0)) := by
  have h1 := heap_setCell_same w B 0 _ T (.int .i64 k') h
  have h2 := heap_setCell_same _ B 1 _ T (.int .i64 n') h1
  exact heap_setCell_same _ B 2 _ T (.string t') h2
theorem alloc_below {w w1 : World} {o : Obj} (hb : Below (w.alloc o).heap.size (w.alloc o) w1) : Below w.heap.size w w1 := ((Below.refl _ _).alloc (Nat.le_refl _) _).trans (hb.mono (by simp))
/-- A value of the program. -/
abbrev vv (v : Val.V) : Value := .agg #[.int .i64 v.k, .int .i64 v.n, .string v.t]
theorem vmay_0n (n : Int) (t : ByteArray) (w : World) (h : (n == 0) = false) : Calls Tryd.prog 9 #[.agg #[.int .i64 0, .int .i64 n, .string t]] w fun e w' => e = .returned (.bool false) ∧ Below w.heap.size w w' := by
  go_enter Tryd.func9, Tryd.ntmps9
  go_wp2
  go_ret
  exact ⟨rfl, (Below.refl _ _).alloc (Nat.le_refl _) _⟩

theorem vmay_0e (n : Int) (t : ByteArray) (w : World) (h : (n == 0) = true) (e1 : t.toList = []) (e2 : t.toList.isEmpty = true) : Calls Tryd.prog 9 #[.agg #[.int .i64 0, .int .i64 n, .string t]] w fun e w' => e = .returned (.bool true) ∧ Below w.heap.size w w' := by
  go_enter Tryd.func9, Tryd.ntmps9
  go_wp2
  go_ret
  exact ⟨rfl, (Below.refl _ _).alloc (Nat.le_refl _) _⟩

theorem vmay_0f (n : Int) (t : ByteArray) (w : World) (h : (n == 0) = true) (e1 : ¬ t.toList = []) (e2 : t.toList.isEmpty = false) : Calls Tryd.prog 9 #[.agg #[.int .i64 0, .int .i64 n, .string t]] w fun e w' => e = .returned (.bool false) ∧ Below w.heap.size w w' := by
  go_enter Tryd.func9, Tryd.ntmps9
  go_wp2
  go_ret
  exact ⟨rfl, (Below.refl _ _).alloc (Nat.le_refl _) _⟩

theorem vmay_1e (n : Int) (t : ByteArray) (w : World) (e1 : t.toList = []) (e2 : t.toList.isEmpty = true) : Calls Tryd.prog 9 #[.agg #[.int .i64 1, .int .i64 n, .string t]] w fun e w' => e = .returned (.bool true) ∧ Below w.heap.size w w' := by
  go_enter Tryd.func9, Tryd.ntmps9
  go_wp2
  go_ret
  exact ⟨rfl, (Below.refl _ _).alloc (Nat.le_refl _) _⟩

theorem vmay_1f (n : Int) (t : ByteArray) (w : World) (e1 : ¬ t.toList = []) (e2 : t.toList.isEmpty = false) : Calls Tryd.prog 9 #[.agg #[.int .i64 1, .int .i64 n, .string t]] w fun e w' => e = .returned (.bool false) ∧ Below w.heap.size w w' := by
  go_enter Tryd.func9, Tryd.ntmps9
  go_wp2
  go_ret
  exact ⟨rfl, (Below.refl _ _).alloc (Nat.le_refl _) _⟩

theorem vmay_2n (n : Int) (t : ByteArray) (w : World) (h : (n == 0) = false) (h1 : (n == 1) = false) : Calls Tryd.prog 9 #[.agg #[.int .i64 2, .int .i64 n, .string t]] w fun e w' => e = .returned (.bool false) ∧ Below w.heap.size w w' := by
  go_enter Tryd.func9, Tryd.ntmps9
  go_wp2
  go_ret
  exact ⟨rfl, (Below.refl _ _).alloc (Nat.le_refl _) _⟩

theorem vmay_2ae (n : Int) (t : ByteArray) (w : World) (h : (n == 0) = true) (e1 : t.toList = []) (e2 : t.toList.isEmpty = true) : Calls Tryd.prog 9 #[.agg #[.int .i64 2, .int .i64 n, .string t]] w fun e w' => e = .returned (.bool true) ∧ Below w.heap.size w w' := by
  go_enter Tryd.func9, Tryd.ntmps9
  go_wp2
  go_ret
  exact ⟨rfl, (Below.refl _ _).alloc (Nat.le_refl _) _⟩

theorem vmay_2be (n : Int) (t : ByteArray) (w : World) (h : (n == 0) = false) (h1 : (n == 1) = true) (e1 : t.toList = []) (e2 : t.toList.isEmpty = true) : Calls Tryd.prog 9 #[.agg #[.int .i64 2, .int .i64 n, .string t]] w fun e w' => e = .returned (.bool true) ∧ Below w.heap.size w w' := by
  go_enter Tryd.func9, Tryd.ntmps9
  go_wp2
  go_ret
  exact ⟨rfl, (Below.refl _ _).alloc (Nat.le_refl _) _⟩

theorem vmay_2af (n : Int) (t : ByteArray) (w : World) (h : (n == 0) = true) (e1 : ¬ t.toList = []) (e2 : t.toList.isEmpty = false) : Calls Tryd.prog 9 #[.agg #[.int .i64 2, .int .i64 n, .string t]] w fun e w' => e = .returned (.bool false) ∧ Below w.heap.size w w' := by
  go_enter Tryd.func9, Tryd.ntmps9
  go_wp2
  go_ret
  exact ⟨rfl, (Below.refl _ _).alloc (Nat.le_refl _) _⟩

theorem vmay_2bf (n : Int) (t : ByteArray) (w : World) (h : (n == 0) = false) (h1 : (n == 1) = true) (e1 : ¬ t.toList = []) (e2 : t.toList.isEmpty = false) : Calls Tryd.prog 9 #[.agg #[.int .i64 2, .int .i64 n, .string t]] w fun e w' => e = .returned (.bool false) ∧ Below w.heap.size w w' := by
  go_enter Tryd.func9, Tryd.ntmps9
  go_wp2
  go_ret
  exact ⟨rfl, (Below.refl _ _).alloc (Nat.le_refl _) _⟩

theorem vmay_3n (n : Int) (t : ByteArray) (w : World) (h : (n == 0) = false) : Calls Tryd.prog 9 #[.agg #[.int .i64 3, .int .i64 n, .string t]] w fun e w' => e = .returned (.bool false) ∧ Below w.heap.size w w' := by
  go_enter Tryd.func9, Tryd.ntmps9
  go_wp2
  go_ret
  exact ⟨rfl, (Below.refl _ _).alloc (Nat.le_refl _) _⟩

theorem vmay_3e (n : Int) (t : ByteArray) (w : World) (h : (n == 0) = true) (e1 : decide ((t.size : Int) ≤ 32767) = true) : Calls Tryd.prog 9 #[.agg #[.int .i64 3, .int .i64 n, .string t]] w fun e w' => e = .returned (.bool true) ∧ Below w.heap.size w w' := by
  go_enter Tryd.func9, Tryd.ntmps9
  go_wp2
  go_ret
  exact ⟨rfl, (Below.refl _ _).alloc (Nat.le_refl _) _⟩

theorem vmay_3f (n : Int) (t : ByteArray) (w : World) (h : (n == 0) = true) (e1 : decide ((t.size : Int) ≤ 32767) = false) : Calls Tryd.prog 9 #[.agg #[.int .i64 3, .int .i64 n, .string t]] w fun e w' => e = .returned (.bool false) ∧ Below w.heap.size w w' := by
  go_enter Tryd.func9, Tryd.ntmps9
  go_wp2
  go_ret
  exact ⟨rfl, (Below.refl _ _).alloc (Nat.le_refl _) _⟩

theorem vmay_4l (n : Int) (t : ByteArray) (w : World) (h : decide (1 ≤ n) = false) : Calls Tryd.prog 9 #[.agg #[.int .i64 4, .int .i64 n, .string t]] w fun e w' => e = .returned (.bool false) ∧ Below w.heap.size w w' := by
  go_enter Tryd.func9, Tryd.ntmps9
  go_wp2
  go_ret
  exact ⟨rfl, (Below.refl _ _).alloc (Nat.le_refl _) _⟩

theorem vmay_4g (n : Int) (t : ByteArray) (w : World) (h : decide (1 ≤ n) = true) (h1 : decide (n ≤ 6) = false) : Calls Tryd.prog 9 #[.agg #[.int .i64 4, .int .i64 n, .string t]] w fun e w' => e = .returned (.bool false) ∧ Below w.heap.size w w' := by
  go_enter Tryd.func9, Tryd.ntmps9
  go_wp2
  go_ret
  exact ⟨rfl, (Below.refl _ _).alloc (Nat.le_refl _) _⟩

theorem vmay_4e (n : Int) (t : ByteArray) (w : World) (h : decide (1 ≤ n) = true) (h1 : decide (n ≤ 6) = true) (e1 : t.toList = []) (e2 : t.toList.isEmpty = true) : Calls Tryd.prog 9 #[.agg #[.int .i64 4, .int .i64 n, .string t]] w fun e w' => e = .returned (.bool true) ∧ Below w.heap.size w w' := by
  go_enter Tryd.func9, Tryd.ntmps9
  go_wp2
  go_ret
  exact ⟨rfl, (Below.refl _ _).alloc (Nat.le_refl _) _⟩

theorem vmay_4f (n : Int) (t : ByteArray) (w : World) (h : decide (1 ≤ n) = true) (h1 : decide (n ≤ 6) = true) (e1 : ¬ t.toList = []) (e2 : t.toList.isEmpty = false) : Calls Tryd.prog 9 #[.agg #[.int .i64 4, .int .i64 n, .string t]] w fun e w' => e = .returned (.bool false) ∧ Below w.heap.size w w' := by
  go_enter Tryd.func9, Tryd.ntmps9
  go_wp2
  go_ret
  exact ⟨rfl, (Below.refl _ _).alloc (Nat.le_refl _) _⟩

theorem vmay_o (K : Int) (n : Int) (t : ByteArray) (w : World) (k0 : (K == 0) = false) (k1 : (K == 1) = false) (k2 : (K == 2) = false) (k3 : (K == 3) = false) (k4 : (K == 4) = false) : Calls Tryd.prog 9 #[.agg #[.int .i64 K, .int .i64 n, .string t]] w fun e w' => e = .returned (.bool false) ∧ Below w.heap.size w w' := by
  go_enter Tryd.func9, Tryd.ntmps9
  go_wp2
  go_ret
  exact ⟨rfl, (Below.refl _ _).alloc (Nat.le_refl _) _⟩

theorem vmay_any (v : Val.V) (w : World) : Calls Tryd.prog 9 #[vv v] w fun e w' => e = .returned (.bool (Val.mayB v)) ∧ Below w.heap.size w w' := by
  obtain ⟨k, n, t⟩ := v
  have E : (t.toList = [] ∧ t.toList.isEmpty = true) ∨ (¬ t.toList = [] ∧ t.toList.isEmpty = false) := by
    cases h : t.toList <;> simp
  unfold Val.mayB Val.isE
  show Calls Tryd.prog 9 #[.agg #[.int .i64 k, .int .i64 n, .string t]] w _
  by_cases h0 : k = 0
  · subst h0
    by_cases hn : n = 0
    · have t1 : (n == 0) = true := by simpa using hn
      rcases E with ⟨e1, e2⟩ | ⟨e1, e2⟩
      · simpa [t1, e2] using vmay_0e n t w t1 e1 e2
      · simpa [t1, e2] using vmay_0f n t w t1 e1 e2
    · have t1 : (n == 0) = false := by simpa using hn
      simpa [t1] using vmay_0n n t w t1
  by_cases h1 : k = 1
  · subst h1
    rcases E with ⟨e1, e2⟩ | ⟨e1, e2⟩
    · simpa [e2] using vmay_1e n t w e1 e2
    · simpa [e2] using vmay_1f n t w e1 e2
  by_cases h2 : k = 2
  · subst h2
    by_cases hn : n = 0
    · have t1 : (n == 0) = true := by simpa using hn
      rcases E with ⟨e1, e2⟩ | ⟨e1, e2⟩
      · simpa [t1, e2] using vmay_2ae n t w t1 e1 e2
      · simpa [t1, e2] using vmay_2af n t w t1 e1 e2
    · have t1 : (n == 0) = false := by simpa using hn
      by_cases hn1 : n = 1
      · have t2 : (n == 1) = true := by simpa using hn1
        rcases E with ⟨e1, e2⟩ | ⟨e1, e2⟩
        · simpa [t1, t2, e2] using vmay_2be n t w t1 t2 e1 e2
        · simpa [t1, t2, e2] using vmay_2bf n t w t1 t2 e1 e2
      · have t2 : (n == 1) = false := by simpa using hn1
        simpa [t1, t2] using vmay_2n n t w t1 t2
  by_cases h3 : k = 3
  · subst h3
    by_cases hn : n = 0
    · have t1 : (n == 0) = true := by simpa using hn
      by_cases ht : t.size ≤ 32767
      · have t2 : decide (t.size ≤ 32767) = true := decide_eq_true ht
        simpa [t1, t2, ht] using vmay_3e n t w t1 (decide_eq_true (by omega))
      · have t2 : decide (t.size ≤ 32767) = false := decide_eq_false ht
        simpa [t1, t2, ht] using vmay_3f n t w t1 (decide_eq_false (by omega))
    · have t1 : (n == 0) = false := by simpa using hn
      simpa [t1] using vmay_3n n t w t1
  by_cases h4 : k = 4
  · subst h4
    by_cases hn : 1 ≤ n
    · have t1 : decide (1 ≤ n) = true := decide_eq_true hn
      by_cases hn6 : n ≤ 6
      · have t2 : decide (n ≤ 6) = true := decide_eq_true hn6
        rcases E with ⟨e1, e2⟩ | ⟨e1, e2⟩
        · simpa [t1, t2, e2, hn, hn6] using vmay_4e n t w t1 t2 e1 e2
        · simpa [t1, t2, e2, hn, hn6] using vmay_4f n t w t1 t2 e1 e2
      · have t2 : decide (n ≤ 6) = false := decide_eq_false hn6
        simpa [t1, t2, hn, hn6] using vmay_4g n t w t1 t2
    · have t1 : decide (1 ≤ n) = false := decide_eq_false hn
      simpa [t1, hn] using vmay_4l n t w t1
  have k0 : (k == 0) = false := by simpa using h0
  have k1 : (k == 1) = false := by simpa using h1
  have k2 : (k == 2) = false := by simpa using h2
  have k3 : (k == 3) = false := by simpa using h3
  have k4 : (k == 4) = false := by simpa using h4
  simpa [k0, k1, k2, k3, k4] using vmay_o k n t w k0 k1 k2 k3 k4
theorem rmay_0n (n : Int) (t : ByteArray) (w : World) (h : (n == 0) = false) : Calls Tryd.prog 18 #[.agg #[.int .i64 0, .int .i64 n, .string t]] w fun e w' => e = .returned (.bool false) ∧ Below w.heap.size w w' := by
  go_enter Tryd.func18, Tryd.ntmps18
  go_wp2
  go_ret
  exact ⟨rfl, (Below.refl _ _).alloc (Nat.le_refl _) _⟩

theorem rmay_0e (n : Int) (t : ByteArray) (w : World) (h : (n == 0) = true) (e1 : t.toList = []) (e2 : t.toList.isEmpty = true) : Calls Tryd.prog 18 #[.agg #[.int .i64 0, .int .i64 n, .string t]] w fun e w' => e = .returned (.bool true) ∧ Below w.heap.size w w' := by
  go_enter Tryd.func18, Tryd.ntmps18
  go_wp2
  go_ret
  exact ⟨rfl, (Below.refl _ _).alloc (Nat.le_refl _) _⟩

theorem rmay_0f (n : Int) (t : ByteArray) (w : World) (h : (n == 0) = true) (e1 : ¬ t.toList = []) (e2 : t.toList.isEmpty = false) : Calls Tryd.prog 18 #[.agg #[.int .i64 0, .int .i64 n, .string t]] w fun e w' => e = .returned (.bool false) ∧ Below w.heap.size w w' := by
  go_enter Tryd.func18, Tryd.ntmps18
  go_wp2
  go_ret
  exact ⟨rfl, (Below.refl _ _).alloc (Nat.le_refl _) _⟩

theorem rmay_1e (n : Int) (t : ByteArray) (w : World) (e1 : t.toList = []) (e2 : t.toList.isEmpty = true) : Calls Tryd.prog 18 #[.agg #[.int .i64 1, .int .i64 n, .string t]] w fun e w' => e = .returned (.bool true) ∧ Below w.heap.size w w' := by
  go_enter Tryd.func18, Tryd.ntmps18
  go_wp2
  go_ret
  exact ⟨rfl, (Below.refl _ _).alloc (Nat.le_refl _) _⟩

theorem rmay_1f (n : Int) (t : ByteArray) (w : World) (e1 : ¬ t.toList = []) (e2 : t.toList.isEmpty = false) : Calls Tryd.prog 18 #[.agg #[.int .i64 1, .int .i64 n, .string t]] w fun e w' => e = .returned (.bool false) ∧ Below w.heap.size w w' := by
  go_enter Tryd.func18, Tryd.ntmps18
  go_wp2
  go_ret
  exact ⟨rfl, (Below.refl _ _).alloc (Nat.le_refl _) _⟩

theorem rmay_2n (n : Int) (t : ByteArray) (w : World) (h : (n == 0) = false) (h1 : (n == 1) = false) : Calls Tryd.prog 18 #[.agg #[.int .i64 2, .int .i64 n, .string t]] w fun e w' => e = .returned (.bool false) ∧ Below w.heap.size w w' := by
  go_enter Tryd.func18, Tryd.ntmps18
  go_wp2
  go_ret
  exact ⟨rfl, (Below.refl _ _).alloc (Nat.le_refl _) _⟩

theorem rmay_2ae (n : Int) (t : ByteArray) (w : World) (h : (n == 0) = true) (e1 : t.toList = []) (e2 : t.toList.isEmpty = true) : Calls Tryd.prog 18 #[.agg #[.int .i64 2, .int .i64 n, .string t]] w fun e w' => e = .returned (.bool true) ∧ Below w.heap.size w w' := by
  go_enter Tryd.func18, Tryd.ntmps18
  go_wp2
  go_ret
  exact ⟨rfl, (Below.refl _ _).alloc (Nat.le_refl _) _⟩

theorem rmay_2be (n : Int) (t : ByteArray) (w : World) (h : (n == 0) = false) (h1 : (n == 1) = true) (e1 : t.toList = []) (e2 : t.toList.isEmpty = true) : Calls Tryd.prog 18 #[.agg #[.int .i64 2, .int .i64 n, .string t]] w fun e w' => e = .returned (.bool true) ∧ Below w.heap.size w w' := by
  go_enter Tryd.func18, Tryd.ntmps18
  go_wp2
  go_ret
  exact ⟨rfl, (Below.refl _ _).alloc (Nat.le_refl _) _⟩

theorem rmay_2af (n : Int) (t : ByteArray) (w : World) (h : (n == 0) = true) (e1 : ¬ t.toList = []) (e2 : t.toList.isEmpty = false) : Calls Tryd.prog 18 #[.agg #[.int .i64 2, .int .i64 n, .string t]] w fun e w' => e = .returned (.bool false) ∧ Below w.heap.size w w' := by
  go_enter Tryd.func18, Tryd.ntmps18
  go_wp2
  go_ret
  exact ⟨rfl, (Below.refl _ _).alloc (Nat.le_refl _) _⟩

theorem rmay_2bf (n : Int) (t : ByteArray) (w : World) (h : (n == 0) = false) (h1 : (n == 1) = true) (e1 : ¬ t.toList = []) (e2 : t.toList.isEmpty = false) : Calls Tryd.prog 18 #[.agg #[.int .i64 2, .int .i64 n, .string t]] w fun e w' => e = .returned (.bool false) ∧ Below w.heap.size w w' := by
  go_enter Tryd.func18, Tryd.ntmps18
  go_wp2
  go_ret
  exact ⟨rfl, (Below.refl _ _).alloc (Nat.le_refl _) _⟩

theorem rmay_3n (n : Int) (t : ByteArray) (w : World) (h : (n == 0) = false) : Calls Tryd.prog 18 #[.agg #[.int .i64 3, .int .i64 n, .string t]] w fun e w' => e = .returned (.bool false) ∧ Below w.heap.size w w' := by
  go_enter Tryd.func18, Tryd.ntmps18
  go_wp2
  go_ret
  exact ⟨rfl, (Below.refl _ _).alloc (Nat.le_refl _) _⟩

theorem rmay_3e (n : Int) (t : ByteArray) (w : World) (h : (n == 0) = true) (e1 : decide ((t.size : Int) ≤ 32767) = true) : Calls Tryd.prog 18 #[.agg #[.int .i64 3, .int .i64 n, .string t]] w fun e w' => e = .returned (.bool true) ∧ Below w.heap.size w w' := by
  go_enter Tryd.func18, Tryd.ntmps18
  go_wp2
  go_ret
  exact ⟨rfl, (Below.refl _ _).alloc (Nat.le_refl _) _⟩

theorem rmay_3f (n : Int) (t : ByteArray) (w : World) (h : (n == 0) = true) (e1 : decide ((t.size : Int) ≤ 32767) = false) : Calls Tryd.prog 18 #[.agg #[.int .i64 3, .int .i64 n, .string t]] w fun e w' => e = .returned (.bool false) ∧ Below w.heap.size w w' := by
  go_enter Tryd.func18, Tryd.ntmps18
  go_wp2
  go_ret
  exact ⟨rfl, (Below.refl _ _).alloc (Nat.le_refl _) _⟩

theorem rmay_4l (n : Int) (t : ByteArray) (w : World) (h : decide (1 ≤ n) = false) : Calls Tryd.prog 18 #[.agg #[.int .i64 4, .int .i64 n, .string t]] w fun e w' => e = .returned (.bool false) ∧ Below w.heap.size w w' := by
  go_enter Tryd.func18, Tryd.ntmps18
  go_wp2
  go_ret
  exact ⟨rfl, (Below.refl _ _).alloc (Nat.le_refl _) _⟩

theorem rmay_4g (n : Int) (t : ByteArray) (w : World) (h : decide (1 ≤ n) = true) (h1 : decide (n ≤ 6) = false) : Calls Tryd.prog 18 #[.agg #[.int .i64 4, .int .i64 n, .string t]] w fun e w' => e = .returned (.bool false) ∧ Below w.heap.size w w' := by
  go_enter Tryd.func18, Tryd.ntmps18
  go_wp2
  go_ret
  exact ⟨rfl, (Below.refl _ _).alloc (Nat.le_refl _) _⟩

theorem rmay_4e (n : Int) (t : ByteArray) (w : World) (h : decide (1 ≤ n) = true) (h1 : decide (n ≤ 6) = true) (e1 : t.toList = []) (e2 : t.toList.isEmpty = true) : Calls Tryd.prog 18 #[.agg #[.int .i64 4, .int .i64 n, .string t]] w fun e w' => e = .returned (.bool true) ∧ Below w.heap.size w w' := by
  go_enter Tryd.func18, Tryd.ntmps18
  go_wp2
  go_ret
  exact ⟨rfl, (Below.refl _ _).alloc (Nat.le_refl _) _⟩

theorem rmay_4f (n : Int) (t : ByteArray) (w : World) (h : decide (1 ≤ n) = true) (h1 : decide (n ≤ 6) = true) (e1 : ¬ t.toList = []) (e2 : t.toList.isEmpty = false) : Calls Tryd.prog 18 #[.agg #[.int .i64 4, .int .i64 n, .string t]] w fun e w' => e = .returned (.bool false) ∧ Below w.heap.size w w' := by
  go_enter Tryd.func18, Tryd.ntmps18
  go_wp2
  go_ret
  exact ⟨rfl, (Below.refl _ _).alloc (Nat.le_refl _) _⟩

theorem rmay_o (K : Int) (n : Int) (t : ByteArray) (w : World) (k0 : (K == 0) = false) (k1 : (K == 1) = false) (k2 : (K == 2) = false) (k3 : (K == 3) = false) (k4 : (K == 4) = false) : Calls Tryd.prog 18 #[.agg #[.int .i64 K, .int .i64 n, .string t]] w fun e w' => e = .returned (.bool false) ∧ Below w.heap.size w w' := by
  go_enter Tryd.func18, Tryd.ntmps18
  go_wp2
  go_ret
  exact ⟨rfl, (Below.refl _ _).alloc (Nat.le_refl _) _⟩

theorem rmay_any (v : Val.V) (w : World) : Calls Tryd.prog 18 #[vv v] w fun e w' => e = .returned (.bool (Val.mayB v)) ∧ Below w.heap.size w w' := by
  obtain ⟨k, n, t⟩ := v
  have E : (t.toList = [] ∧ t.toList.isEmpty = true) ∨ (¬ t.toList = [] ∧ t.toList.isEmpty = false) := by
    cases h : t.toList <;> simp
  unfold Val.mayB Val.isE
  show Calls Tryd.prog 18 #[.agg #[.int .i64 k, .int .i64 n, .string t]] w _
  by_cases h0 : k = 0
  · subst h0
    by_cases hn : n = 0
    · have t1 : (n == 0) = true := by simpa using hn
      rcases E with ⟨e1, e2⟩ | ⟨e1, e2⟩
      · simpa [t1, e2] using rmay_0e n t w t1 e1 e2
      · simpa [t1, e2] using rmay_0f n t w t1 e1 e2
    · have t1 : (n == 0) = false := by simpa using hn
      simpa [t1] using rmay_0n n t w t1
  by_cases h1 : k = 1
  · subst h1
    rcases E with ⟨e1, e2⟩ | ⟨e1, e2⟩
    · simpa [e2] using rmay_1e n t w e1 e2
    · simpa [e2] using rmay_1f n t w e1 e2
  by_cases h2 : k = 2
  · subst h2
    by_cases hn : n = 0
    · have t1 : (n == 0) = true := by simpa using hn
      rcases E with ⟨e1, e2⟩ | ⟨e1, e2⟩
      · simpa [t1, e2] using rmay_2ae n t w t1 e1 e2
      · simpa [t1, e2] using rmay_2af n t w t1 e1 e2
    · have t1 : (n == 0) = false := by simpa using hn
      by_cases hn1 : n = 1
      · have t2 : (n == 1) = true := by simpa using hn1
        rcases E with ⟨e1, e2⟩ | ⟨e1, e2⟩
        · simpa [t1, t2, e2] using rmay_2be n t w t1 t2 e1 e2
        · simpa [t1, t2, e2] using rmay_2bf n t w t1 t2 e1 e2
      · have t2 : (n == 1) = false := by simpa using hn1
        simpa [t1, t2] using rmay_2n n t w t1 t2
  by_cases h3 : k = 3
  · subst h3
    by_cases hn : n = 0
    · have t1 : (n == 0) = true := by simpa using hn
      by_cases ht : t.size ≤ 32767
      · have t2 : decide (t.size ≤ 32767) = true := decide_eq_true ht
        simpa [t1, t2, ht] using rmay_3e n t w t1 (decide_eq_true (by omega))
      · have t2 : decide (t.size ≤ 32767) = false := decide_eq_false ht
        simpa [t1, t2, ht] using rmay_3f n t w t1 (decide_eq_false (by omega))
    · have t1 : (n == 0) = false := by simpa using hn
      simpa [t1] using rmay_3n n t w t1
  by_cases h4 : k = 4
  · subst h4
    by_cases hn : 1 ≤ n
    · have t1 : decide (1 ≤ n) = true := decide_eq_true hn
      by_cases hn6 : n ≤ 6
      · have t2 : decide (n ≤ 6) = true := decide_eq_true hn6
        rcases E with ⟨e1, e2⟩ | ⟨e1, e2⟩
        · simpa [t1, t2, e2, hn, hn6] using rmay_4e n t w t1 t2 e1 e2
        · simpa [t1, t2, e2, hn, hn6] using rmay_4f n t w t1 t2 e1 e2
      · have t2 : decide (n ≤ 6) = false := decide_eq_false hn6
        simpa [t1, t2, hn, hn6] using rmay_4g n t w t1 t2
    · have t1 : decide (1 ≤ n) = false := decide_eq_false hn
      simpa [t1, hn] using rmay_4l n t w t1
  have k0 : (k == 0) = false := by simpa using h0
  have k1 : (k == 1) = false := by simpa using h1
  have k2 : (k == 2) = false := by simpa using h2
  have k3 : (k == 3) = false := by simpa using h3
  have k4 : (k == 4) = false := by simpa using h4
  simpa [k0, k1, k2, k3, k4] using rmay_o k n t w k0 k1 k2 k3 k4
theorem fault_any (e : Int) (w : World) : Calls Tryd.prog 26 #[.int .i64 e] w fun e' w' => e' = .returned (.agg #[.int .i64 4, .int .i64 e, .string ⟨#[]⟩]) ∧ Below w.heap.size w w' := by
  go_enter Tryd.func26, Tryd.ntmps26
  go_wp2
  exact bodyPost_ret (v := .agg #[.int .i64 4, .int .i64 e, .string ⟨#[]⟩]) (by simp [results, Tryd.results26, go_sem]) rfl ⟨rfl, (Below.refl _ _).alloc (Nat.le_refl _) _⟩
set_option maxHeartbeats 400000 in
theorem vgood_any (v : Val.V) (w : World) : Calls Tryd.prog 28 #[vv v] w fun e w' => e = .returned (vv (Val.good v)) ∧ Below w.heap.size w w' := by
  have HM := Lib.hid (fun w => vmay_any v w)
  unfold Val.good
  cases hm : Val.mayB v with
  | true =>
    rw [hm] at HM
    clear hm
    obtain ⟨k, n, t⟩ := v
    show Calls Tryd.prog 28 #[.agg #[.int .i64 k, .int .i64 n, .string t]] w fun e w' => e = .returned (.agg #[.int .i64 k, .int .i64 n, .string t]) ∧ Below w.heap.size w w'
    replace HM : Hid (∀ w, Calls Tryd.prog 9 #[.agg #[.int .i64 k, .int .i64 n, .string t]] w fun e w' => e = .returned (.bool true) ∧ Below w.heap.size w w') := HM
    go_enter Tryd.func28, Tryd.ntmps28
    go_wp2_with (fail)
    refine (HM.out _).mono ?_
    rintro e w1 ⟨rfl, hb1⟩
    have hx := (hb1.block w.heap.size (by simp; omega)).trans ((Below.heap_alloc _ _ w.heap.size (by simp)).trans (heap_alloc_new _ _))
    have hy : w1.heap[w.heap.size + 1]? = some (.cells #[.int .i64 0, .int .i64 0, .string ⟨#[]⟩] 26 (0, 0)) := (hb1.block (w.heap.size + 1) (by simp)).trans (by
      rw [show w.heap.size + 1 = (w.alloc (Obj.cells #[.int .i64 k, .int .i64 n, .string t] 26)).heap.size by simp]; exact heap_alloc_new _ _)
    have hs : Below w.heap.size w w1 := (((Below.refl _ _).alloc (Nat.le_refl w.heap.size) _).alloc (by simp) _).trans (hb1.mono (by simp; omega))
    obtain ⟨x0, x1, x2⟩ := val_cells hx
    obtain ⟨y0, y1, y2⟩ := val_cells hy
    obtain ⟨f0, f1, f2⟩ := val_frozen hy
    clear hx hy hb1
    go_wp2
    refine bodyPost_ret (v := (.agg #[.int .i64 k, .int .i64 n, .string t])) ?_ rfl ⟨rfl, ((hs.setCell (p := ⟨w.heap.size + 1, 0, none⟩) (by simp) _).setCell (p := ⟨w.heap.size + 1, 1, none⟩) (by simp) _).setCell (p := ⟨w.heap.size + 1, 2, none⟩) (by simp) _⟩
    simp [results, Tryd.results28, go_sem, y0, y1, y2]
  | false =>
    rw [hm] at HM
    clear hm
    obtain ⟨k, n, t⟩ := v
    show Calls Tryd.prog 28 #[.agg #[.int .i64 k, .int .i64 n, .string t]] w fun e w' => e = .returned (.agg #[.int .i64 4, .int .i64 4, .string ⟨#[]⟩]) ∧ Below w.heap.size w w'
    replace HM : Hid (∀ w, Calls Tryd.prog 9 #[.agg #[.int .i64 k, .int .i64 n, .string t]] w fun e w' => e = .returned (.bool false) ∧ Below w.heap.size w w') := HM
    go_enter Tryd.func28, Tryd.ntmps28
    go_wp2_with (fail)
    refine (HM.out _).mono ?_
    rintro e w1 ⟨rfl, hb1⟩
    have hx := (hb1.block w.heap.size (by simp; omega)).trans ((Below.heap_alloc _ _ w.heap.size (by simp)).trans (heap_alloc_new _ _))
    have hy : w1.heap[w.heap.size + 1]? = some (.cells #[.int .i64 0, .int .i64 0, .string ⟨#[]⟩] 26 (0, 0)) := (hb1.block (w.heap.size + 1) (by simp)).trans (by
      rw [show w.heap.size + 1 = (w.alloc (Obj.cells #[.int .i64 k, .int .i64 n, .string t] 26)).heap.size by simp]; exact heap_alloc_new _ _)
    have hs : Below w.heap.size w w1 := (((Below.refl _ _).alloc (Nat.le_refl w.heap.size) _).alloc (by simp) _).trans (hb1.mono (by simp; omega))
    clear hx
    have hl1 : w.heap.size + 1 < w1.heap.size := Nat.lt_of_lt_of_le (by simp) hb1.size
    clear hb1
    go_wp2_with (fail)
    refine (fault_any 4 _).mono ?_
    rintro e w2 ⟨rfl, hb2⟩
    have hy2 := (hb2.block (w.heap.size + 1) hl1).trans hy
    obtain ⟨y0, y1, y2⟩ := val_cells hy2
    obtain ⟨f0, f1, f2⟩ := val_frozen hy2
    replace hs := hs.trans (hb2.mono hs.size)
    clear hy hb2 hy2
    go_wp2
    refine bodyPost_ret (v := (.agg #[.int .i64 4, .int .i64 4, .string ⟨#[]⟩])) ?_ rfl ⟨rfl, ((hs.setCell (p := ⟨w.heap.size + 1, 0, none⟩) (by simp) _).setCell (p := ⟨w.heap.size + 1, 1, none⟩) (by simp) _).setCell (p := ⟨w.heap.size + 1, 2, none⟩) (by simp) _⟩
    simp [results, Tryd.results28, go_sem, y0, y1, y2]

theorem rerr_any (e : Int) (w : World) : Calls Tryd.prog 57 #[.int .i64 e] w fun e' w' => e' = .returned (.agg #[.int .i64 4, .int .i64 e, .string ⟨#[]⟩]) ∧ Below w.heap.size w w' := by
  go_enter Tryd.func57, Tryd.ntmps57
  go_wp2
  exact bodyPost_ret (v := .agg #[.int .i64 4, .int .i64 e, .string ⟨#[]⟩]) (by simp [results, Tryd.results57, go_sem]) rfl ⟨rfl, (Below.refl _ _).alloc (Nat.le_refl _) _⟩
set_option maxHeartbeats 400000 in
theorem fit_any (v : Val.V) (w : World) : Calls Tryd.prog 53 #[vv v] w fun e w' => e = .returned (vv (Val.good v)) ∧ Below w.heap.size w w' := by
  have HM := Lib.hid (fun w => rmay_any v w)
  unfold Val.good
  cases hm : Val.mayB v with
  | true =>
    rw [hm] at HM
    clear hm
    obtain ⟨k, n, t⟩ := v
    show Calls Tryd.prog 53 #[.agg #[.int .i64 k, .int .i64 n, .string t]] w fun e w' => e = .returned (.agg #[.int .i64 k, .int .i64 n, .string t]) ∧ Below w.heap.size w w'
    replace HM : Hid (∀ w, Calls Tryd.prog 18 #[.agg #[.int .i64 k, .int .i64 n, .string t]] w fun e w' => e = .returned (.bool true) ∧ Below w.heap.size w w') := HM
    go_enter Tryd.func53, Tryd.ntmps53
    go_wp2_with (fail)
    refine (HM.out _).mono ?_
    rintro e w1 ⟨rfl, hb1⟩
    have hx := (hb1.block w.heap.size (by simp; omega)).trans ((Below.heap_alloc _ _ w.heap.size (by simp)).trans (heap_alloc_new _ _))
    have hy : w1.heap[w.heap.size + 1]? = some (.cells #[.int .i64 0, .int .i64 0, .string ⟨#[]⟩] 26 (0, 0)) := (hb1.block (w.heap.size + 1) (by simp)).trans (by
      rw [show w.heap.size + 1 = (w.alloc (Obj.cells #[.int .i64 k, .int .i64 n, .string t] 26)).heap.size by simp]; exact heap_alloc_new _ _)
    have hs : Below w.heap.size w w1 := (((Below.refl _ _).alloc (Nat.le_refl w.heap.size) _).alloc (by simp) _).trans (hb1.mono (by simp; omega))
    obtain ⟨x0, x1, x2⟩ := val_cells hx
    obtain ⟨y0, y1, y2⟩ := val_cells hy
    obtain ⟨f0, f1, f2⟩ := val_frozen hy
    clear hx hy hb1
    go_wp2
    refine bodyPost_ret (v := (.agg #[.int .i64 k, .int .i64 n, .string t])) ?_ rfl ⟨rfl, ((hs.setCell (p := ⟨w.heap.size + 1, 0, none⟩) (by simp) _).setCell (p := ⟨w.heap.size + 1, 1, none⟩) (by simp) _).setCell (p := ⟨w.heap.size + 1, 2, none⟩) (by simp) _⟩
    simp [results, Tryd.results53, go_sem, y0, y1, y2]
  | false =>
    rw [hm] at HM
    clear hm
    obtain ⟨k, n, t⟩ := v
    show Calls Tryd.prog 53 #[.agg #[.int .i64 k, .int .i64 n, .string t]] w fun e w' => e = .returned (.agg #[.int .i64 4, .int .i64 4, .string ⟨#[]⟩]) ∧ Below w.heap.size w w'
    replace HM : Hid (∀ w, Calls Tryd.prog 18 #[.agg #[.int .i64 k, .int .i64 n, .string t]] w fun e w' => e = .returned (.bool false) ∧ Below w.heap.size w w') := HM
    go_enter Tryd.func53, Tryd.ntmps53
    go_wp2_with (fail)
    refine (HM.out _).mono ?_
    rintro e w1 ⟨rfl, hb1⟩
    have hx := (hb1.block w.heap.size (by simp; omega)).trans ((Below.heap_alloc _ _ w.heap.size (by simp)).trans (heap_alloc_new _ _))
    have hy : w1.heap[w.heap.size + 1]? = some (.cells #[.int .i64 0, .int .i64 0, .string ⟨#[]⟩] 26 (0, 0)) := (hb1.block (w.heap.size + 1) (by simp)).trans (by
      rw [show w.heap.size + 1 = (w.alloc (Obj.cells #[.int .i64 k, .int .i64 n, .string t] 26)).heap.size by simp]; exact heap_alloc_new _ _)
    have hs : Below w.heap.size w w1 := (((Below.refl _ _).alloc (Nat.le_refl w.heap.size) _).alloc (by simp) _).trans (hb1.mono (by simp; omega))
    clear hx
    have hl1 : w.heap.size + 1 < w1.heap.size := Nat.lt_of_lt_of_le (by simp) hb1.size
    clear hb1
    go_wp2_with (fail)
    refine (rerr_any 4 _).mono ?_
    rintro e w2 ⟨rfl, hb2⟩
    have hy2 := (hb2.block (w.heap.size + 1) hl1).trans hy
    obtain ⟨y0, y1, y2⟩ := val_cells hy2
    obtain ⟨f0, f1, f2⟩ := val_frozen hy2
    replace hs := hs.trans (hb2.mono hs.size)
    clear hy hb2 hy2
    go_wp2
    refine bodyPost_ret (v := (.agg #[.int .i64 4, .int .i64 4, .string ⟨#[]⟩])) ?_ rfl ⟨rfl, ((hs.setCell (p := ⟨w.heap.size + 1, 0, none⟩) (by simp) _).setCell (p := ⟨w.heap.size + 1, 1, none⟩) (by simp) _).setCell (p := ⟨w.heap.size + 1, 2, none⟩) (by simp) _⟩
    simp [results, Tryd.results53, go_sem, y0, y1, y2]

theorem word_any (n : Int) (w : World) : Calls Tryd.prog 30 #[.int .i64 n] w fun e w' => e = .returned (.string (Val.word n)) ∧ w = w' := by
  unfold Val.word
  cases h : (n == 1) with
  | true =>
    go_enter Tryd.func30, Tryd.ntmps30
    go_wp2
    go_ret
    exact ⟨rfl, rfl⟩
  | false =>
    go_enter Tryd.func30, Tryd.ntmps30
    go_wp2
    go_ret
    exact ⟨rfl, rfl⟩
end Go.Proofs.YtdbjmjeiaajdiaaDoor
