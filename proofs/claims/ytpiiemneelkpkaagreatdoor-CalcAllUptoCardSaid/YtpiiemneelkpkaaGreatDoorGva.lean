import Derived.Test.YtpiiemneelkpkaaGreatDoorGrd
namespace Go.Proofs.YtpiiemneelkpkaaGreatDoor
open Go.RowKit
set_option linter.unusedVariables false
theorem val_cells {w : World} {B T : Nat} {k n : Int} {t : ByteArray} (h : w.heap[B]? = some (.cells #[.int .i64 k, .int .i64 n, .string t] T (0, 0))) :
  w.cell? ⟨B, 0, none⟩ = some (.int .i64 k) ∧ w.cell? ⟨B, 1, none⟩ = some (.int .i64 n) ∧ w.cell? ⟨B, 2, none⟩ = some (.string t) :=
 ⟨Lib.cell_of_heap h 0, Lib.cell_of_heap h 1, Lib.cell_of_heap h 2⟩
theorem val_frozen {w : World} {B T : Nat} {k n : Int} {t : ByteArray} (h : w.heap[B]? = some (.cells #[.int .i64 k, .int .i64 n, .string t] T (0, 0))) :
  w.frozen? ⟨B, 0, none⟩ = false ∧ w.frozen? ⟨B, 1, none⟩ = false ∧ w.frozen? ⟨B, 2, none⟩ = false :=
 ⟨Lib.frozen_of_heap h 0, Lib.frozen_of_heap h 1, Lib.frozen_of_heap h 2⟩
theorem val_set {w : World} {B T : Nat} {k n k' n' : Int} {t t' : ByteArray} (h : w.heap[B]? = some (.cells #[.int .i64 k, .int .i64 n, .string t] T (0, 0))) :
  (((w.setCell ⟨B, 0, none⟩ (.int .i64 k')).setCell ⟨B, 1, none⟩ (.int .i64 n')).setCell ⟨B, 2, none⟩ (.string t')).heap[B]? = some (.cells #[.int .i64 k', .int .i64 n', .string t'] T (0, 0)) := by
 have h1 := heap_setCell_same w B 0 _ T (.int .i64 k') h
 have h2 := heap_setCell_same _ B 1 _ T (.int .i64 n') h1
 exact heap_setCell_same _ B 2 _ T (.string t') h2
theorem alloc_below {w w1 : World} {o : Obj} (hb : Below (w.alloc o).heap.size (w.alloc o) w1) : Below w.heap.size w w1 := ((Below.refl _ _).alloc (Nat.le_refl _) _).trans (hb.mono (by simp))
abbrev vv (v : Val.V) : Value := .agg #[.int .i64 v.k, .int .i64 v.n, .string v.t]
theorem vmay_0n (n : Int) (t : ByteArray) (w : World) (h : (n == 0) = false) : Ret 19 #[.agg #[.int .i64 0, .int .i64 n, .string t]] w (.bool false) := by
 go_enter Tryz.func19, Tryz.ntmps19
 go_wp2
 go_ret
 exact ⟨rfl, (Below.refl _ _).alloc (Nat.le_refl _) _⟩
theorem vmay_0e (n : Int) (t : ByteArray) (w : World) (h : (n == 0) = true) (e1 : t.toList = []) (e2 : t.toList.isEmpty = true) : Ret 19 #[.agg #[.int .i64 0, .int .i64 n, .string t]] w (.bool true) := by
 go_enter Tryz.func19, Tryz.ntmps19
 go_wp2
 go_ret
 exact ⟨rfl, (Below.refl _ _).alloc (Nat.le_refl _) _⟩
theorem vmay_0f (n : Int) (t : ByteArray) (w : World) (h : (n == 0) = true) (e1 : ¬ t.toList = []) (e2 : t.toList.isEmpty = false) : Ret 19 #[.agg #[.int .i64 0, .int .i64 n, .string t]] w (.bool false) := by
 go_enter Tryz.func19, Tryz.ntmps19
 go_wp2
 go_ret
 exact ⟨rfl, (Below.refl _ _).alloc (Nat.le_refl _) _⟩
theorem vmay_1e (n : Int) (t : ByteArray) (w : World) (e1 : t.toList = []) (e2 : t.toList.isEmpty = true) : Ret 19 #[.agg #[.int .i64 1, .int .i64 n, .string t]] w (.bool true) := by
 go_enter Tryz.func19, Tryz.ntmps19
 go_wp2
 go_ret
 exact ⟨rfl, (Below.refl _ _).alloc (Nat.le_refl _) _⟩
theorem vmay_1f (n : Int) (t : ByteArray) (w : World) (e1 : ¬ t.toList = []) (e2 : t.toList.isEmpty = false) : Ret 19 #[.agg #[.int .i64 1, .int .i64 n, .string t]] w (.bool false) := by
 go_enter Tryz.func19, Tryz.ntmps19
 go_wp2
 go_ret
 exact ⟨rfl, (Below.refl _ _).alloc (Nat.le_refl _) _⟩
theorem vmay_2n (n : Int) (t : ByteArray) (w : World) (h : (n == 0) = false) (h1 : (n == 1) = false) : Ret 19 #[.agg #[.int .i64 2, .int .i64 n, .string t]] w (.bool false) := by
 go_enter Tryz.func19, Tryz.ntmps19
 go_wp2
 go_ret
 exact ⟨rfl, (Below.refl _ _).alloc (Nat.le_refl _) _⟩
theorem vmay_2ae (n : Int) (t : ByteArray) (w : World) (h : (n == 0) = true) (e1 : t.toList = []) (e2 : t.toList.isEmpty = true) : Ret 19 #[.agg #[.int .i64 2, .int .i64 n, .string t]] w (.bool true) := by
 go_enter Tryz.func19, Tryz.ntmps19
 go_wp2
 go_ret
 exact ⟨rfl, (Below.refl _ _).alloc (Nat.le_refl _) _⟩
theorem vmay_2be (n : Int) (t : ByteArray) (w : World) (h : (n == 0) = false) (h1 : (n == 1) = true) (e1 : t.toList = []) (e2 : t.toList.isEmpty = true) : Ret 19 #[.agg #[.int .i64 2, .int .i64 n, .string t]] w (.bool true) := by
 go_enter Tryz.func19, Tryz.ntmps19
 go_wp2
 go_ret
 exact ⟨rfl, (Below.refl _ _).alloc (Nat.le_refl _) _⟩
theorem vmay_2af (n : Int) (t : ByteArray) (w : World) (h : (n == 0) = true) (e1 : ¬ t.toList = []) (e2 : t.toList.isEmpty = false) : Ret 19 #[.agg #[.int .i64 2, .int .i64 n, .string t]] w (.bool false) := by
 go_enter Tryz.func19, Tryz.ntmps19
 go_wp2
 go_ret
 exact ⟨rfl, (Below.refl _ _).alloc (Nat.le_refl _) _⟩
theorem vmay_2bf (n : Int) (t : ByteArray) (w : World) (h : (n == 0) = false) (h1 : (n == 1) = true) (e1 : ¬ t.toList = []) (e2 : t.toList.isEmpty = false) : Ret 19 #[.agg #[.int .i64 2, .int .i64 n, .string t]] w (.bool false) := by
 go_enter Tryz.func19, Tryz.ntmps19
 go_wp2
 go_ret
 exact ⟨rfl, (Below.refl _ _).alloc (Nat.le_refl _) _⟩
theorem vmay_3n (n : Int) (t : ByteArray) (w : World) (h : (n == 0) = false) : Ret 19 #[.agg #[.int .i64 3, .int .i64 n, .string t]] w (.bool false) := by
 go_enter Tryz.func19, Tryz.ntmps19
 go_wp2
 go_ret
 exact ⟨rfl, (Below.refl _ _).alloc (Nat.le_refl _) _⟩
theorem vmay_3e (n : Int) (t : ByteArray) (w : World) (h : (n == 0) = true) (e1 : decide ((t.size : Int) ≤ 32767) = true) : Ret 19 #[.agg #[.int .i64 3, .int .i64 n, .string t]] w (.bool true) := by
 go_enter Tryz.func19, Tryz.ntmps19
 go_wp2
 go_ret
 exact ⟨rfl, (Below.refl _ _).alloc (Nat.le_refl _) _⟩
theorem vmay_3f (n : Int) (t : ByteArray) (w : World) (h : (n == 0) = true) (e1 : decide ((t.size : Int) ≤ 32767) = false) : Ret 19 #[.agg #[.int .i64 3, .int .i64 n, .string t]] w (.bool false) := by
 go_enter Tryz.func19, Tryz.ntmps19
 go_wp2
 go_ret
 exact ⟨rfl, (Below.refl _ _).alloc (Nat.le_refl _) _⟩
theorem vmay_4l (n : Int) (t : ByteArray) (w : World) (h : decide (1 ≤ n) = false) : Ret 19 #[.agg #[.int .i64 4, .int .i64 n, .string t]] w (.bool false) := by
 go_enter Tryz.func19, Tryz.ntmps19
 go_wp2
 go_ret
 exact ⟨rfl, (Below.refl _ _).alloc (Nat.le_refl _) _⟩
theorem vmay_4g (n : Int) (t : ByteArray) (w : World) (h : decide (1 ≤ n) = true) (h1 : decide (n ≤ 6) = false) : Ret 19 #[.agg #[.int .i64 4, .int .i64 n, .string t]] w (.bool false) := by
 go_enter Tryz.func19, Tryz.ntmps19
 go_wp2
 go_ret
 exact ⟨rfl, (Below.refl _ _).alloc (Nat.le_refl _) _⟩
theorem vmay_4e (n : Int) (t : ByteArray) (w : World) (h : decide (1 ≤ n) = true) (h1 : decide (n ≤ 6) = true) (e1 : t.toList = []) (e2 : t.toList.isEmpty = true) : Ret 19 #[.agg #[.int .i64 4, .int .i64 n, .string t]] w (.bool true) := by
 go_enter Tryz.func19, Tryz.ntmps19
 go_wp2
 go_ret
 exact ⟨rfl, (Below.refl _ _).alloc (Nat.le_refl _) _⟩
theorem vmay_4f (n : Int) (t : ByteArray) (w : World) (h : decide (1 ≤ n) = true) (h1 : decide (n ≤ 6) = true) (e1 : ¬ t.toList = []) (e2 : t.toList.isEmpty = false) : Ret 19 #[.agg #[.int .i64 4, .int .i64 n, .string t]] w (.bool false) := by
 go_enter Tryz.func19, Tryz.ntmps19
 go_wp2
 go_ret
 exact ⟨rfl, (Below.refl _ _).alloc (Nat.le_refl _) _⟩
theorem vmay_o (K : Int) (n : Int) (t : ByteArray) (w : World) (k0 : (K == 0) = false) (k1 : (K == 1) = false) (k2 : (K == 2) = false) (k3 : (K == 3) = false) (k4 : (K == 4) = false) : Ret 19 #[.agg #[.int .i64 K, .int .i64 n, .string t]] w (.bool false) := by
 go_enter Tryz.func19, Tryz.ntmps19
 go_wp2
 go_ret
 exact ⟨rfl, (Below.refl _ _).alloc (Nat.le_refl _) _⟩
theorem vmay_any (v : Val.V) (w : World) : Ret 19 #[vv v] w (.bool (Val.mayB v)) := by
 obtain ⟨k, n, t⟩ := v
 have E : (t.toList = [] ∧ t.toList.isEmpty = true) ∨ (¬ t.toList = [] ∧ t.toList.isEmpty = false) := by
  cases h : t.toList <;> simp
 unfold Val.mayB Val.isE
 show Calls Tryz.prog 19 #[.agg #[.int .i64 k, .int .i64 n, .string t]] w _
 by_cases h0 : k = 0
 ·subst h0
  by_cases hn : n = 0
  ·have t1 : (n == 0) = true := by simpa using hn
   rcases E with ⟨e1, e2⟩ | ⟨e1, e2⟩
   ·simpa [t1, e2] using vmay_0e n t w t1 e1 e2
   ·simpa [t1, e2] using vmay_0f n t w t1 e1 e2
  ·have t1 : (n == 0) = false := by simpa using hn
   simpa [t1] using vmay_0n n t w t1
 by_cases h1 : k = 1
 ·subst h1
  rcases E with ⟨e1, e2⟩ | ⟨e1, e2⟩
  ·simpa [e2] using vmay_1e n t w e1 e2
  ·simpa [e2] using vmay_1f n t w e1 e2
 by_cases h2 : k = 2
 ·subst h2
  by_cases hn : n = 0
  ·have t1 : (n == 0) = true := by simpa using hn
   rcases E with ⟨e1, e2⟩ | ⟨e1, e2⟩
   ·simpa [t1, e2] using vmay_2ae n t w t1 e1 e2
   ·simpa [t1, e2] using vmay_2af n t w t1 e1 e2
  ·have t1 : (n == 0) = false := by simpa using hn
   by_cases hn1 : n = 1
   ·have t2 : (n == 1) = true := by simpa using hn1
    rcases E with ⟨e1, e2⟩ | ⟨e1, e2⟩
    ·simpa [t1, t2, e2] using vmay_2be n t w t1 t2 e1 e2
    ·simpa [t1, t2, e2] using vmay_2bf n t w t1 t2 e1 e2
   ·have t2 : (n == 1) = false := by simpa using hn1
    simpa [t1, t2] using vmay_2n n t w t1 t2
 by_cases h3 : k = 3
 ·subst h3
  by_cases hn : n = 0
  ·have t1 : (n == 0) = true := by simpa using hn
   by_cases ht : t.size ≤ 32767
   ·have t2 : decide (t.size ≤ 32767) = true := decide_eq_true ht
    simpa [t1, t2, ht] using vmay_3e n t w t1 (decide_eq_true (by omega))
   ·have t2 : decide (t.size ≤ 32767) = false := decide_eq_false ht
    simpa [t1, t2, ht] using vmay_3f n t w t1 (decide_eq_false (by omega))
  ·have t1 : (n == 0) = false := by simpa using hn
   simpa [t1] using vmay_3n n t w t1
 by_cases h4 : k = 4
 ·subst h4
  by_cases hn : 1 ≤ n
  ·have t1 : decide (1 ≤ n) = true := decide_eq_true hn
   by_cases hn6 : n ≤ 6
   ·have t2 : decide (n ≤ 6) = true := decide_eq_true hn6
    rcases E with ⟨e1, e2⟩ | ⟨e1, e2⟩
    ·simpa [t1, t2, e2, hn, hn6] using vmay_4e n t w t1 t2 e1 e2
    ·simpa [t1, t2, e2, hn, hn6] using vmay_4f n t w t1 t2 e1 e2
   ·have t2 : decide (n ≤ 6) = false := decide_eq_false hn6
    simpa [t1, t2, hn, hn6] using vmay_4g n t w t1 t2
  ·have t1 : decide (1 ≤ n) = false := decide_eq_false hn
   simpa [t1, hn] using vmay_4l n t w t1
 have k0 : (k == 0) = false := by simpa using h0
 have k1 : (k == 1) = false := by simpa using h1
 have k2 : (k == 2) = false := by simpa using h2
 have k3 : (k == 3) = false := by simpa using h3
 have k4 : (k == 4) = false := by simpa using h4
 simpa [k0, k1, k2, k3, k4] using vmay_o k n t w k0 k1 k2 k3 k4
theorem rmay_0n (n : Int) (t : ByteArray) (w : World) (h : (n == 0) = false) : Ret 49 #[.agg #[.int .i64 0, .int .i64 n, .string t]] w (.bool false) := by
 go_enter Tryz.func49, Tryz.ntmps49
 go_wp2
 go_ret
 exact ⟨rfl, (Below.refl _ _).alloc (Nat.le_refl _) _⟩
theorem rmay_0e (n : Int) (t : ByteArray) (w : World) (h : (n == 0) = true) (e1 : t.toList = []) (e2 : t.toList.isEmpty = true) : Ret 49 #[.agg #[.int .i64 0, .int .i64 n, .string t]] w (.bool true) := by
 go_enter Tryz.func49, Tryz.ntmps49
 go_wp2
 go_ret
 exact ⟨rfl, (Below.refl _ _).alloc (Nat.le_refl _) _⟩
theorem rmay_0f (n : Int) (t : ByteArray) (w : World) (h : (n == 0) = true) (e1 : ¬ t.toList = []) (e2 : t.toList.isEmpty = false) : Ret 49 #[.agg #[.int .i64 0, .int .i64 n, .string t]] w (.bool false) := by
 go_enter Tryz.func49, Tryz.ntmps49
 go_wp2
 go_ret
 exact ⟨rfl, (Below.refl _ _).alloc (Nat.le_refl _) _⟩
theorem rmay_1e (n : Int) (t : ByteArray) (w : World) (e1 : t.toList = []) (e2 : t.toList.isEmpty = true) : Ret 49 #[.agg #[.int .i64 1, .int .i64 n, .string t]] w (.bool true) := by
 go_enter Tryz.func49, Tryz.ntmps49
 go_wp2
 go_ret
 exact ⟨rfl, (Below.refl _ _).alloc (Nat.le_refl _) _⟩
theorem rmay_1f (n : Int) (t : ByteArray) (w : World) (e1 : ¬ t.toList = []) (e2 : t.toList.isEmpty = false) : Ret 49 #[.agg #[.int .i64 1, .int .i64 n, .string t]] w (.bool false) := by
 go_enter Tryz.func49, Tryz.ntmps49
 go_wp2
 go_ret
 exact ⟨rfl, (Below.refl _ _).alloc (Nat.le_refl _) _⟩
theorem rmay_2n (n : Int) (t : ByteArray) (w : World) (h : (n == 0) = false) (h1 : (n == 1) = false) : Ret 49 #[.agg #[.int .i64 2, .int .i64 n, .string t]] w (.bool false) := by
 go_enter Tryz.func49, Tryz.ntmps49
 go_wp2
 go_ret
 exact ⟨rfl, (Below.refl _ _).alloc (Nat.le_refl _) _⟩
theorem rmay_2ae (n : Int) (t : ByteArray) (w : World) (h : (n == 0) = true) (e1 : t.toList = []) (e2 : t.toList.isEmpty = true) : Ret 49 #[.agg #[.int .i64 2, .int .i64 n, .string t]] w (.bool true) := by
 go_enter Tryz.func49, Tryz.ntmps49
 go_wp2
 go_ret
 exact ⟨rfl, (Below.refl _ _).alloc (Nat.le_refl _) _⟩
theorem rmay_2be (n : Int) (t : ByteArray) (w : World) (h : (n == 0) = false) (h1 : (n == 1) = true) (e1 : t.toList = []) (e2 : t.toList.isEmpty = true) : Ret 49 #[.agg #[.int .i64 2, .int .i64 n, .string t]] w (.bool true) := by
 go_enter Tryz.func49, Tryz.ntmps49
 go_wp2
 go_ret
 exact ⟨rfl, (Below.refl _ _).alloc (Nat.le_refl _) _⟩
theorem rmay_2af (n : Int) (t : ByteArray) (w : World) (h : (n == 0) = true) (e1 : ¬ t.toList = []) (e2 : t.toList.isEmpty = false) : Ret 49 #[.agg #[.int .i64 2, .int .i64 n, .string t]] w (.bool false) := by
 go_enter Tryz.func49, Tryz.ntmps49
 go_wp2
 go_ret
 exact ⟨rfl, (Below.refl _ _).alloc (Nat.le_refl _) _⟩
theorem rmay_2bf (n : Int) (t : ByteArray) (w : World) (h : (n == 0) = false) (h1 : (n == 1) = true) (e1 : ¬ t.toList = []) (e2 : t.toList.isEmpty = false) : Ret 49 #[.agg #[.int .i64 2, .int .i64 n, .string t]] w (.bool false) := by
 go_enter Tryz.func49, Tryz.ntmps49
 go_wp2
 go_ret
 exact ⟨rfl, (Below.refl _ _).alloc (Nat.le_refl _) _⟩
theorem rmay_3n (n : Int) (t : ByteArray) (w : World) (h : (n == 0) = false) : Ret 49 #[.agg #[.int .i64 3, .int .i64 n, .string t]] w (.bool false) := by
 go_enter Tryz.func49, Tryz.ntmps49
 go_wp2
 go_ret
 exact ⟨rfl, (Below.refl _ _).alloc (Nat.le_refl _) _⟩
theorem rmay_3e (n : Int) (t : ByteArray) (w : World) (h : (n == 0) = true) (e1 : decide ((t.size : Int) ≤ 32767) = true) : Ret 49 #[.agg #[.int .i64 3, .int .i64 n, .string t]] w (.bool true) := by
 go_enter Tryz.func49, Tryz.ntmps49
 go_wp2
 go_ret
 exact ⟨rfl, (Below.refl _ _).alloc (Nat.le_refl _) _⟩
theorem rmay_3f (n : Int) (t : ByteArray) (w : World) (h : (n == 0) = true) (e1 : decide ((t.size : Int) ≤ 32767) = false) : Ret 49 #[.agg #[.int .i64 3, .int .i64 n, .string t]] w (.bool false) := by
 go_enter Tryz.func49, Tryz.ntmps49
 go_wp2
 go_ret
 exact ⟨rfl, (Below.refl _ _).alloc (Nat.le_refl _) _⟩
theorem rmay_4l (n : Int) (t : ByteArray) (w : World) (h : decide (1 ≤ n) = false) : Ret 49 #[.agg #[.int .i64 4, .int .i64 n, .string t]] w (.bool false) := by
 go_enter Tryz.func49, Tryz.ntmps49
 go_wp2
 go_ret
 exact ⟨rfl, (Below.refl _ _).alloc (Nat.le_refl _) _⟩
theorem rmay_4g (n : Int) (t : ByteArray) (w : World) (h : decide (1 ≤ n) = true) (h1 : decide (n ≤ 6) = false) : Ret 49 #[.agg #[.int .i64 4, .int .i64 n, .string t]] w (.bool false) := by
 go_enter Tryz.func49, Tryz.ntmps49
 go_wp2
 go_ret
 exact ⟨rfl, (Below.refl _ _).alloc (Nat.le_refl _) _⟩
theorem rmay_4e (n : Int) (t : ByteArray) (w : World) (h : decide (1 ≤ n) = true) (h1 : decide (n ≤ 6) = true) (e1 : t.toList = []) (e2 : t.toList.isEmpty = true) : Ret 49 #[.agg #[.int .i64 4, .int .i64 n, .string t]] w (.bool true) := by
 go_enter Tryz.func49, Tryz.ntmps49
 go_wp2
 go_ret
 exact ⟨rfl, (Below.refl _ _).alloc (Nat.le_refl _) _⟩
theorem rmay_4f (n : Int) (t : ByteArray) (w : World) (h : decide (1 ≤ n) = true) (h1 : decide (n ≤ 6) = true) (e1 : ¬ t.toList = []) (e2 : t.toList.isEmpty = false) : Ret 49 #[.agg #[.int .i64 4, .int .i64 n, .string t]] w (.bool false) := by
 go_enter Tryz.func49, Tryz.ntmps49
 go_wp2
 go_ret
 exact ⟨rfl, (Below.refl _ _).alloc (Nat.le_refl _) _⟩
theorem rmay_o (K : Int) (n : Int) (t : ByteArray) (w : World) (k0 : (K == 0) = false) (k1 : (K == 1) = false) (k2 : (K == 2) = false) (k3 : (K == 3) = false) (k4 : (K == 4) = false) : Ret 49 #[.agg #[.int .i64 K, .int .i64 n, .string t]] w (.bool false) := by
 go_enter Tryz.func49, Tryz.ntmps49
 go_wp2
 go_ret
 exact ⟨rfl, (Below.refl _ _).alloc (Nat.le_refl _) _⟩
theorem rmay_any (v : Val.V) (w : World) : Ret 49 #[vv v] w (.bool (Val.mayB v)) := by
 obtain ⟨k, n, t⟩ := v
 have E : (t.toList = [] ∧ t.toList.isEmpty = true) ∨ (¬ t.toList = [] ∧ t.toList.isEmpty = false) := by
  cases h : t.toList <;> simp
 unfold Val.mayB Val.isE
 show Calls Tryz.prog 49 #[.agg #[.int .i64 k, .int .i64 n, .string t]] w _
 by_cases h0 : k = 0
 ·subst h0
  by_cases hn : n = 0
  ·have t1 : (n == 0) = true := by simpa using hn
   rcases E with ⟨e1, e2⟩ | ⟨e1, e2⟩
   ·simpa [t1, e2] using rmay_0e n t w t1 e1 e2
   ·simpa [t1, e2] using rmay_0f n t w t1 e1 e2
  ·have t1 : (n == 0) = false := by simpa using hn
   simpa [t1] using rmay_0n n t w t1
 by_cases h1 : k = 1
 ·subst h1
  rcases E with ⟨e1, e2⟩ | ⟨e1, e2⟩
  ·simpa [e2] using rmay_1e n t w e1 e2
  ·simpa [e2] using rmay_1f n t w e1 e2
 by_cases h2 : k = 2
 ·subst h2
  by_cases hn : n = 0
  ·have t1 : (n == 0) = true := by simpa using hn
   rcases E with ⟨e1, e2⟩ | ⟨e1, e2⟩
   ·simpa [t1, e2] using rmay_2ae n t w t1 e1 e2
   ·simpa [t1, e2] using rmay_2af n t w t1 e1 e2
  ·have t1 : (n == 0) = false := by simpa using hn
   by_cases hn1 : n = 1
   ·have t2 : (n == 1) = true := by simpa using hn1
    rcases E with ⟨e1, e2⟩ | ⟨e1, e2⟩
    ·simpa [t1, t2, e2] using rmay_2be n t w t1 t2 e1 e2
    ·simpa [t1, t2, e2] using rmay_2bf n t w t1 t2 e1 e2
   ·have t2 : (n == 1) = false := by simpa using hn1
    simpa [t1, t2] using rmay_2n n t w t1 t2
 by_cases h3 : k = 3
 ·subst h3
  by_cases hn : n = 0
  ·have t1 : (n == 0) = true := by simpa using hn
   by_cases ht : t.size ≤ 32767
   ·have t2 : decide (t.size ≤ 32767) = true := decide_eq_true ht
    simpa [t1, t2, ht] using rmay_3e n t w t1 (decide_eq_true (by omega))
   ·have t2 : decide (t.size ≤ 32767) = false := decide_eq_false ht
    simpa [t1, t2, ht] using rmay_3f n t w t1 (decide_eq_false (by omega))
  ·have t1 : (n == 0) = false := by simpa using hn
   simpa [t1] using rmay_3n n t w t1
 by_cases h4 : k = 4
 ·subst h4
  by_cases hn : 1 ≤ n
  ·have t1 : decide (1 ≤ n) = true := decide_eq_true hn
   by_cases hn6 : n ≤ 6
   ·have t2 : decide (n ≤ 6) = true := decide_eq_true hn6
    rcases E with ⟨e1, e2⟩ | ⟨e1, e2⟩
    ·simpa [t1, t2, e2, hn, hn6] using rmay_4e n t w t1 t2 e1 e2
    ·simpa [t1, t2, e2, hn, hn6] using rmay_4f n t w t1 t2 e1 e2
   ·have t2 : decide (n ≤ 6) = false := decide_eq_false hn6
    simpa [t1, t2, hn, hn6] using rmay_4g n t w t1 t2
  ·have t1 : decide (1 ≤ n) = false := decide_eq_false hn
   simpa [t1, hn] using rmay_4l n t w t1
 have k0 : (k == 0) = false := by simpa using h0
 have k1 : (k == 1) = false := by simpa using h1
 have k2 : (k == 2) = false := by simpa using h2
 have k3 : (k == 3) = false := by simpa using h3
 have k4 : (k == 4) = false := by simpa using h4
 simpa [k0, k1, k2, k3, k4] using rmay_o k n t w k0 k1 k2 k3 k4
theorem fault_any (e : Int) (w : World) : Calls Tryz.prog 98 #[.int .i64 e] w fun e' w' => e' = .returned (.agg #[.int .i64 4, .int .i64 e, .string ⟨#[]⟩]) ∧ Below w.heap.size w w' := by
 go_enter Tryz.func98, Tryz.ntmps98
 go_wp2
 exact bodyPost_ret (v := .agg #[.int .i64 4, .int .i64 e, .string ⟨#[]⟩]) (by simp [results, Tryz.results98, go_sem]) rfl ⟨rfl, (Below.refl _ _).alloc (Nat.le_refl _) _⟩
set_option maxHeartbeats 400000 in
theorem vgood_any (v : Val.V) (w : World) : Ret 67 #[vv v] w (vv (Val.good v)) := by
 have HM := Lib.hid (fun w => vmay_any v w)
 unfold Val.good
 cases hm : Val.mayB v with
 | true =>
  rw [hm] at HM
  clear hm
  obtain ⟨k, n, t⟩ := v
  show Ret 67 #[.agg #[.int .i64 k, .int .i64 n, .string t]] w (.agg #[.int .i64 k, .int .i64 n, .string t])
  replace HM : Hid (∀ w, Ret 19 #[.agg #[.int .i64 k, .int .i64 n, .string t]] w (.bool true)) := HM
  go_enter Tryz.func67, Tryz.ntmps67
  go_wp2_with (fail)
  refine (HM.out _).mono ?_
  rintro e w1 ⟨rfl, hb1⟩
  have hx := (hb1.block w.heap.size (by simp; omega)).trans ((Below.heap_alloc _ _ w.heap.size (by simp)).trans (heap_alloc_new _ _))
  have hy : w1.heap[w.heap.size + 1]? = some (.cells #[.int .i64 0, .int .i64 0, .string ⟨#[]⟩] 26 (0, 0)) := (hb1.block (w.heap.size + 1) (by simp)).trans (by
   rw [show w.heap.size + 1 = (w.alloc (Obj.cells #[.int .i64 k, .int .i64 n, .string t] 26)).heap.size by simp]; exact heap_alloc_new _ _)
  have hs : Below w.heap.size w w1 := (((Below.refl _ _).alloc (Nat.le_refl w.heap.size) _).alloc (by simp) _).trans (hb1.mono (by simp; omega))
  obtain ⟨x0, x1, x2⟩ := val_cells hx
  obtain ⟨y0, y1, y2⟩ := val_cells hy
  obtain ⟨f0, f1, f2⟩ := val_frozen hy
  clear hx hy hb1
  go_wp2
  refine bodyPost_ret (v := (.agg #[.int .i64 k, .int .i64 n, .string t])) ?_ rfl ⟨rfl, set3 hs (by simp)⟩
  simp [results, Tryz.results67, go_sem, y0, y1, y2]
 | false =>
  rw [hm] at HM
  clear hm
  obtain ⟨k, n, t⟩ := v
  show Ret 67 #[.agg #[.int .i64 k, .int .i64 n, .string t]] w (.agg #[.int .i64 4, .int .i64 4, .string ⟨#[]⟩])
  replace HM : Hid (∀ w, Ret 19 #[.agg #[.int .i64 k, .int .i64 n, .string t]] w (.bool false)) := HM
  go_enter Tryz.func67, Tryz.ntmps67
  go_wp2_with (fail)
  refine (HM.out _).mono ?_
  rintro e w1 ⟨rfl, hb1⟩
  have hx := (hb1.block w.heap.size (by simp; omega)).trans ((Below.heap_alloc _ _ w.heap.size (by simp)).trans (heap_alloc_new _ _))
  have hy : w1.heap[w.heap.size + 1]? = some (.cells #[.int .i64 0, .int .i64 0, .string ⟨#[]⟩] 26 (0, 0)) := (hb1.block (w.heap.size + 1) (by simp)).trans (by
   rw [show w.heap.size + 1 = (w.alloc (Obj.cells #[.int .i64 k, .int .i64 n, .string t] 26)).heap.size by simp]; exact heap_alloc_new _ _)
  have hs : Below w.heap.size w w1 := (((Below.refl _ _).alloc (Nat.le_refl w.heap.size) _).alloc (by simp) _).trans (hb1.mono (by simp; omega))
  clear hx
  have hl1 : w.heap.size + 1 < w1.heap.size := Nat.lt_of_lt_of_le (by simp) hb1.size
  clear hb1
  go_wp2_with (fail)
  refine (fault_any 4 _).mono ?_
  rintro e w2 ⟨rfl, hb2⟩
  have hy2 := (hb2.block (w.heap.size + 1) hl1).trans hy
  obtain ⟨y0, y1, y2⟩ := val_cells hy2
  obtain ⟨f0, f1, f2⟩ := val_frozen hy2
  replace hs := hs.trans (hb2.mono hs.size)
  clear hy hb2 hy2
  go_wp2
  refine bodyPost_ret (v := (.agg #[.int .i64 4, .int .i64 4, .string ⟨#[]⟩])) ?_ rfl ⟨rfl, set3 hs (by simp)⟩
  simp [results, Tryz.results67, go_sem, y0, y1, y2]
theorem rerr_any (e : Int) (w : World) : Calls Tryz.prog 87 #[.int .i64 e] w fun e' w' => e' = .returned (.agg #[.int .i64 4, .int .i64 e, .string ⟨#[]⟩]) ∧ Below w.heap.size w w' := by
 go_enter Tryz.func87, Tryz.ntmps87
 go_wp2
 exact bodyPost_ret (v := .agg #[.int .i64 4, .int .i64 e, .string ⟨#[]⟩]) (by simp [results, Tryz.results87, go_sem]) rfl ⟨rfl, (Below.refl _ _).alloc (Nat.le_refl _) _⟩
set_option maxHeartbeats 400000 in
theorem fit_any (v : Val.V) (w : World) : Ret 88 #[vv v] w (vv (Val.good v)) := by
 have HM := Lib.hid (fun w => rmay_any v w)
 unfold Val.good
 cases hm : Val.mayB v with
 | true =>
  rw [hm] at HM
  clear hm
  obtain ⟨k, n, t⟩ := v
  show Ret 88 #[.agg #[.int .i64 k, .int .i64 n, .string t]] w (.agg #[.int .i64 k, .int .i64 n, .string t])
  replace HM : Hid (∀ w, Ret 49 #[.agg #[.int .i64 k, .int .i64 n, .string t]] w (.bool true)) := HM
  go_enter Tryz.func88, Tryz.ntmps88
  go_wp2_with (fail)
  refine (HM.out _).mono ?_
  rintro e w1 ⟨rfl, hb1⟩
  have hx := (hb1.block w.heap.size (by simp; omega)).trans ((Below.heap_alloc _ _ w.heap.size (by simp)).trans (heap_alloc_new _ _))
  have hy : w1.heap[w.heap.size + 1]? = some (.cells #[.int .i64 0, .int .i64 0, .string ⟨#[]⟩] 26 (0, 0)) := (hb1.block (w.heap.size + 1) (by simp)).trans (by
   rw [show w.heap.size + 1 = (w.alloc (Obj.cells #[.int .i64 k, .int .i64 n, .string t] 26)).heap.size by simp]; exact heap_alloc_new _ _)
  have hs : Below w.heap.size w w1 := (((Below.refl _ _).alloc (Nat.le_refl w.heap.size) _).alloc (by simp) _).trans (hb1.mono (by simp; omega))
  obtain ⟨x0, x1, x2⟩ := val_cells hx
  obtain ⟨y0, y1, y2⟩ := val_cells hy
  obtain ⟨f0, f1, f2⟩ := val_frozen hy
  clear hx hy hb1
  go_wp2
  refine bodyPost_ret (v := (.agg #[.int .i64 k, .int .i64 n, .string t])) ?_ rfl ⟨rfl, set3 hs (by simp)⟩
  simp [results, Tryz.results88, go_sem, y0, y1, y2]
 | false =>
  rw [hm] at HM
  clear hm
  obtain ⟨k, n, t⟩ := v
  show Ret 88 #[.agg #[.int .i64 k, .int .i64 n, .string t]] w (.agg #[.int .i64 4, .int .i64 4, .string ⟨#[]⟩])
  replace HM : Hid (∀ w, Ret 49 #[.agg #[.int .i64 k, .int .i64 n, .string t]] w (.bool false)) := HM
  go_enter Tryz.func88, Tryz.ntmps88
  go_wp2_with (fail)
  refine (HM.out _).mono ?_
  rintro e w1 ⟨rfl, hb1⟩
  have hx := (hb1.block w.heap.size (by simp; omega)).trans ((Below.heap_alloc _ _ w.heap.size (by simp)).trans (heap_alloc_new _ _))
  have hy : w1.heap[w.heap.size + 1]? = some (.cells #[.int .i64 0, .int .i64 0, .string ⟨#[]⟩] 26 (0, 0)) := (hb1.block (w.heap.size + 1) (by simp)).trans (by
   rw [show w.heap.size + 1 = (w.alloc (Obj.cells #[.int .i64 k, .int .i64 n, .string t] 26)).heap.size by simp]; exact heap_alloc_new _ _)
  have hs : Below w.heap.size w w1 := (((Below.refl _ _).alloc (Nat.le_refl w.heap.size) _).alloc (by simp) _).trans (hb1.mono (by simp; omega))
  clear hx
  have hl1 : w.heap.size + 1 < w1.heap.size := Nat.lt_of_lt_of_le (by simp) hb1.size
  clear hb1
  go_wp2_with (fail)
  refine (rerr_any 4 _).mono ?_
  rintro e w2 ⟨rfl, hb2⟩
  have hy2 := (hb2.block (w.heap.size + 1) hl1).trans hy
  obtain ⟨y0, y1, y2⟩ := val_cells hy2
  obtain ⟨f0, f1, f2⟩ := val_frozen hy2
  replace hs := hs.trans (hb2.mono hs.size)
  clear hy hb2 hy2
  go_wp2
  refine bodyPost_ret (v := (.agg #[.int .i64 4, .int .i64 4, .string ⟨#[]⟩])) ?_ rfl ⟨rfl, set3 hs (by simp)⟩
  simp [results, Tryz.results88, go_sem, y0, y1, y2]
theorem word_any (n : Int) (w : World) : Calls Tryz.prog 69 #[.int .i64 n] w fun e w' => e = .returned (.string (Val.word n)) ∧ w = w' := by
 unfold Val.word
 cases h : (n == 1) with
 | true =>
  go_enter Tryz.func69, Tryz.ntmps69
  go_wp2
  go_ret
  exact ⟨rfl, rfl⟩
 | false =>
  go_enter Tryz.func69, Tryz.ntmps69
  go_wp2
  go_ret
  exact ⟨rfl, rfl⟩
end Go.Proofs.YtpiiemneelkpkaaGreatDoor
namespace Go.Proofs.YtpiiemneelkpkaaGreatDoor
open Go.RowKit
set_option linter.unusedVariables false
theorem below_drewN' (B : Nat) (w : World) (n : Nat) : Below B w (w.drewN n) := ⟨rfl, rfl, rfl, Nat.le_refl _, fun _ _ => rfl⟩
structure VB (v : Val.V) : Prop where
 n0 : -9223372036854775808 ≤ v.n
 n1 : v.n ≤ 9223372036854775807
 sz : v.t.size ≤ 140737488351232
theorem VB.good {v : Val.V} (h : VB v) : VB (Val.good v) := by
 unfold Val.good
 cases Val.mayB v
 ·exact (show VB (Val.err 4) from ⟨by decide, by decide, by decide⟩)
 ·exact h
theorem truth_e (k n gn : Int) (t gt : ByteArray) (w : World) (HG0 : ∀ w, Ret 67 #[.agg #[.int .i64 k, .int .i64 n, .string t]] w (.agg #[.int .i64 4, .int .i64 gn, .string gt])) : Ret 46 #[.agg #[.int .i64 k, .int .i64 n, .string t]] w (.tuple #[.bool false, .int .i64 gn]) := by
 have HG := Lib.hid HG0
 clear HG0
 go_enter Tryz.func46, Tryz.ntmps46
 go_wp2_with (fail)
 refine (HG.out _).mono ?_
 rintro e w1 ⟨rfl, hb1⟩
 have hx := (hb1.block w.heap.size (by simp)).trans (heap_alloc_new _ _)
 have hs : Below w.heap.size w w1 := alloc_below hb1
 clear hb1
 have hx2 := fun k' n' t' => val_set (k' := k') (n' := n') (t' := t') hx
 obtain ⟨f0, f1, f2⟩ := val_frozen hx
 obtain ⟨x0, x1, x2⟩ := val_cells hx
 have hs2 : ∀ k' n' t', Below w.heap.size w (((w1.setCell ⟨w.heap.size, 0, none⟩ (.int .i64 k')).setCell ⟨w.heap.size, 1, none⟩ (.int .i64 n')).setCell ⟨w.heap.size, 2, none⟩ (.string t')) := fun k' n' t' => set3 hs (by simp)
 clear hx hs
 go_wp2
 have hx3 := hx2 4 gn gt
 have hs3 := hs2 4 gn gt
 clear hx2 hs2 f0 f1 f2 x0 x1 x2
 generalize (((w1.setCell ⟨w.heap.size, 0, none⟩ (.int .i64 4)).setCell ⟨w.heap.size, 1, none⟩ (.int .i64 gn)).setCell ⟨w.heap.size, 2, none⟩ (.string gt)) = w2 at hx3 hs3 ⊢
 obtain ⟨y0, y1, y2⟩ := val_cells hx3
 clear hx3
 go_quiet (fail)
 go_wp2
 go_ret2
 exact ⟨rfl, hs3.trans (below_drewN' _ _ _)⟩
theorem truth_tT (k n gn : Int) (t gt : ByteArray) (w : World) (HG0 : ∀ w, Ret 67 #[.agg #[.int .i64 k, .int .i64 n, .string t]] w (.agg #[.int .i64 3, .int .i64 gn, .string gt])) (tt : (gt.toList == [84, 82, 85, 69]) = true) : Ret 46 #[.agg #[.int .i64 k, .int .i64 n, .string t]] w (.tuple #[.bool true, .int .i64 0]) := by
 have HG := Lib.hid HG0
 clear HG0
 go_enter Tryz.func46, Tryz.ntmps46
 go_wp2_with (fail)
 refine (HG.out _).mono ?_
 rintro e w1 ⟨rfl, hb1⟩
 have hx := (hb1.block w.heap.size (by simp)).trans (heap_alloc_new _ _)
 have hs : Below w.heap.size w w1 := alloc_below hb1
 clear hb1
 have hx2 := fun k' n' t' => val_set (k' := k') (n' := n') (t' := t') hx
 obtain ⟨f0, f1, f2⟩ := val_frozen hx
 obtain ⟨x0, x1, x2⟩ := val_cells hx
 have hs2 : ∀ k' n' t', Below w.heap.size w (((w1.setCell ⟨w.heap.size, 0, none⟩ (.int .i64 k')).setCell ⟨w.heap.size, 1, none⟩ (.int .i64 n')).setCell ⟨w.heap.size, 2, none⟩ (.string t')) := fun k' n' t' => set3 hs (by simp)
 clear hx hs
 go_wp2
 go_ret2
 exact ⟨rfl, hs2 _ _ _⟩
theorem truth_tF (k n gn : Int) (t gt : ByteArray) (w : World) (HG0 : ∀ w, Ret 67 #[.agg #[.int .i64 k, .int .i64 n, .string t]] w (.agg #[.int .i64 3, .int .i64 gn, .string gt])) (tt : (gt.toList == [84, 82, 85, 69]) = false) (tf : (gt.toList == [70, 65, 76, 83, 69]) = true) : Ret 46 #[.agg #[.int .i64 k, .int .i64 n, .string t]] w (.tuple #[.bool false, .int .i64 0]) := by
 have HG := Lib.hid HG0
 clear HG0
 go_enter Tryz.func46, Tryz.ntmps46
 go_wp2_with (fail)
 refine (HG.out _).mono ?_
 rintro e w1 ⟨rfl, hb1⟩
 have hx := (hb1.block w.heap.size (by simp)).trans (heap_alloc_new _ _)
 have hs : Below w.heap.size w w1 := alloc_below hb1
 clear hb1
 have hx2 := fun k' n' t' => val_set (k' := k') (n' := n') (t' := t') hx
 obtain ⟨f0, f1, f2⟩ := val_frozen hx
 obtain ⟨x0, x1, x2⟩ := val_cells hx
 have hs2 : ∀ k' n' t', Below w.heap.size w (((w1.setCell ⟨w.heap.size, 0, none⟩ (.int .i64 k')).setCell ⟨w.heap.size, 1, none⟩ (.int .i64 n')).setCell ⟨w.heap.size, 2, none⟩ (.string t')) := fun k' n' t' => set3 hs (by simp)
 clear hx hs
 go_wp2
 go_ret2
 exact ⟨rfl, hs2 _ _ _⟩
theorem truth_tN (k n gn : Int) (t gt : ByteArray) (w : World) (HG0 : ∀ w, Ret 67 #[.agg #[.int .i64 k, .int .i64 n, .string t]] w (.agg #[.int .i64 3, .int .i64 gn, .string gt])) (tt : (gt.toList == [84, 82, 85, 69]) = false) (tf : (gt.toList == [70, 65, 76, 83, 69]) = false) : Ret 46 #[.agg #[.int .i64 k, .int .i64 n, .string t]] w (.tuple #[.bool false, .int .i64 4]) := by
 have HG := Lib.hid HG0
 clear HG0
 go_enter Tryz.func46, Tryz.ntmps46
 go_wp2_with (fail)
 refine (HG.out _).mono ?_
 rintro e w1 ⟨rfl, hb1⟩
 have hx := (hb1.block w.heap.size (by simp)).trans (heap_alloc_new _ _)
 have hs : Below w.heap.size w w1 := alloc_below hb1
 clear hb1
 have hx2 := fun k' n' t' => val_set (k' := k') (n' := n') (t' := t') hx
 obtain ⟨f0, f1, f2⟩ := val_frozen hx
 obtain ⟨x0, x1, x2⟩ := val_cells hx
 have hs2 : ∀ k' n' t', Below w.heap.size w (((w1.setCell ⟨w.heap.size, 0, none⟩ (.int .i64 k')).setCell ⟨w.heap.size, 1, none⟩ (.int .i64 n')).setCell ⟨w.heap.size, 2, none⟩ (.string t')) := fun k' n' t' => set3 hs (by simp)
 clear hx hs
 go_wp2
 go_ret2
 exact ⟨rfl, hs2 _ _ _⟩
theorem truth_o (gk : Int) (k n gn : Int) (t gt : ByteArray) (w : World) (HG0 : ∀ w, Ret 67 #[.agg #[.int .i64 k, .int .i64 n, .string t]] w (.agg #[.int .i64 gk, .int .i64 gn, .string gt])) (g3 : (gk == 3) = false) (m3 : (gk != 3) = true) (g4 : (gk == 4) = false) (m4 : (gk != 4) = true) : Ret 46 #[.agg #[.int .i64 k, .int .i64 n, .string t]] w (.tuple #[.bool (gn != 0), .int .i64 0]) := by
 have HG := Lib.hid HG0
 clear HG0
 go_enter Tryz.func46, Tryz.ntmps46
 go_wp2_with (fail)
 refine (HG.out _).mono ?_
 rintro e w1 ⟨rfl, hb1⟩
 have hx := (hb1.block w.heap.size (by simp)).trans (heap_alloc_new _ _)
 have hs : Below w.heap.size w w1 := alloc_below hb1
 clear hb1
 have hx2 := fun k' n' t' => val_set (k' := k') (n' := n') (t' := t') hx
 obtain ⟨f0, f1, f2⟩ := val_frozen hx
 obtain ⟨x0, x1, x2⟩ := val_cells hx
 have hs2 : ∀ k' n' t', Below w.heap.size w (((w1.setCell ⟨w.heap.size, 0, none⟩ (.int .i64 k')).setCell ⟨w.heap.size, 1, none⟩ (.int .i64 n')).setCell ⟨w.heap.size, 2, none⟩ (.string t')) := fun k' n' t' => set3 hs (by simp)
 clear hx hs
 go_wp2
 go_ret2
 exact ⟨rfl, hs2 _ _ _⟩
theorem truth_any (v : Val.V) (w : World) : Ret 46 #[vv v] w (.tuple #[.bool (Val.truth v).1, .int .i64 (Val.truth v).2]) := by
 have HG := fun w => vgood_any v w
 unfold Val.truth
 generalize Val.good v = g at HG ⊢
 obtain ⟨gk, gn, gt⟩ := g
 obtain ⟨k, n, t⟩ := v
 unfold Val.truthG Val.isT Val.isF
 simp only
 by_cases h4 : gk = 4
 ·subst h4
  exact truth_e k n gn t gt w HG
 rw [show (gk == 4) = false by simpa using h4]
 by_cases h3 : gk = 3
 ·subst h3
  cases tt : (gt.toList == [84, 82, 85, 69]) with
  | true => exact truth_tT k n gn t gt w HG tt
  | false =>
   cases tf : (gt.toList == [70, 65, 76, 83, 69]) with
   | true => exact truth_tF k n gn t gt w HG tt tf
   | false => exact truth_tN k n gn t gt w HG tt tf
 rw [show (gk == 3) = false by simpa using h3]
 exact truth_o gk k n gn t gt w HG (by simpa using h3) (by simpa using h3) (by simpa using h4) (by simpa using h4)
theorem number_e (k n gn : Int) (t gt : ByteArray) (w : World) (HG0 : ∀ w, Ret 67 #[.agg #[.int .i64 k, .int .i64 n, .string t]] w (.agg #[.int .i64 4, .int .i64 gn, .string gt])) : Ret 35 #[.agg #[.int .i64 k, .int .i64 n, .string t]] w (.tuple #[.int .i64 0, .int .i64 gn]) := by
 have HG := Lib.hid HG0
 clear HG0
 go_enter Tryz.func35, Tryz.ntmps35
 go_wp2_with (fail)
 refine (HG.out _).mono ?_
 rintro e w1 ⟨rfl, hb1⟩
 have hx := (hb1.block w.heap.size (by simp)).trans (heap_alloc_new _ _)
 have hs : Below w.heap.size w w1 := alloc_below hb1
 clear hb1
 have hx2 := fun k' n' t' => val_set (k' := k') (n' := n') (t' := t') hx
 obtain ⟨f0, f1, f2⟩ := val_frozen hx
 obtain ⟨x0, x1, x2⟩ := val_cells hx
 have hs2 : ∀ k' n' t', Below w.heap.size w (((w1.setCell ⟨w.heap.size, 0, none⟩ (.int .i64 k')).setCell ⟨w.heap.size, 1, none⟩ (.int .i64 n')).setCell ⟨w.heap.size, 2, none⟩ (.string t')) := fun k' n' t' => set3 hs (by simp)
 clear hx hs
 go_wp2
 have hx3 := hx2 4 gn gt
 have hs3 := hs2 4 gn gt
 clear hx2 hs2 f0 f1 f2 x0 x1 x2
 generalize (((w1.setCell ⟨w.heap.size, 0, none⟩ (.int .i64 4)).setCell ⟨w.heap.size, 1, none⟩ (.int .i64 gn)).setCell ⟨w.heap.size, 2, none⟩ (.string gt)) = w2 at hx3 hs3 ⊢
 obtain ⟨y0, y1, y2⟩ := val_cells hx3
 clear hx3
 go_quiet (fail)
 go_wp2
 go_ret2
 exact ⟨rfl, hs3.trans (below_drewN' _ _ _)⟩
theorem number_tN (k n gn : Int) (t gt : ByteArray) (w : World) (HG0 : ∀ w, Ret 67 #[.agg #[.int .i64 k, .int .i64 n, .string t]] w (.agg #[.int .i64 3, .int .i64 gn, .string gt])) (x y : Int) (HR : ∀ w', Below w.heap.size w w' → Calls Tryz.prog 77 #[.string gt] w' fun e w'' => e = .returned (.tuple #[.int .i64 x, .int .i64 y]) ∧ Below w'.heap.size w' w'') (ty : (y != 0) = true) : Ret 35 #[.agg #[.int .i64 k, .int .i64 n, .string t]] w (.tuple #[.int .i64 0, .int .i64 4]) := by
 have HG := Lib.hid HG0
 clear HG0
 go_enter Tryz.func35, Tryz.ntmps35
 go_wp2_with (fail)
 refine (HG.out _).mono ?_
 rintro e w1 ⟨rfl, hb1⟩
 have hx := (hb1.block w.heap.size (by simp)).trans (heap_alloc_new _ _)
 have hs : Below w.heap.size w w1 := alloc_below hb1
 clear hb1
 have hx2 := fun k' n' t' => val_set (k' := k') (n' := n') (t' := t') hx
 obtain ⟨f0, f1, f2⟩ := val_frozen hx
 obtain ⟨x0, x1, x2⟩ := val_cells hx
 have hs2 : ∀ k' n' t', Below w.heap.size w (((w1.setCell ⟨w.heap.size, 0, none⟩ (.int .i64 k')).setCell ⟨w.heap.size, 1, none⟩ (.int .i64 n')).setCell ⟨w.heap.size, 2, none⟩ (.string t')) := fun k' n' t' => set3 hs (by simp)
 clear hx hs
 have HC := Lib.hid HR
 clear HR
 go_wp2_with (fail)
 refine (HC.out _ (hs2 _ _ _)).mono ?_
 rintro e w2 ⟨rfl, hb2⟩
 have hs3 := (hs2 _ _ _).trans (hb2.mono (hs2 _ _ _).size)
 clear hb2 hs2 hx2
 go_wp2
 go_ret2
 exact ⟨rfl, hs3⟩
theorem number_tO (k n gn : Int) (t gt : ByteArray) (w : World) (HG0 : ∀ w, Ret 67 #[.agg #[.int .i64 k, .int .i64 n, .string t]] w (.agg #[.int .i64 3, .int .i64 gn, .string gt])) (x y : Int) (HR : ∀ w', Below w.heap.size w w' → Calls Tryz.prog 77 #[.string gt] w' fun e w'' => e = .returned (.tuple #[.int .i64 x, .int .i64 y]) ∧ Below w'.heap.size w' w'') (ty : (y != 0) = false) : Ret 35 #[.agg #[.int .i64 k, .int .i64 n, .string t]] w (.tuple #[.int .i64 x, .int .i64 0]) := by
 have HG := Lib.hid HG0
 clear HG0
 go_enter Tryz.func35, Tryz.ntmps35
 go_wp2_with (fail)
 refine (HG.out _).mono ?_
 rintro e w1 ⟨rfl, hb1⟩
 have hx := (hb1.block w.heap.size (by simp)).trans (heap_alloc_new _ _)
 have hs : Below w.heap.size w w1 := alloc_below hb1
 clear hb1
 have hx2 := fun k' n' t' => val_set (k' := k') (n' := n') (t' := t') hx
 obtain ⟨f0, f1, f2⟩ := val_frozen hx
 obtain ⟨x0, x1, x2⟩ := val_cells hx
 have hs2 : ∀ k' n' t', Below w.heap.size w (((w1.setCell ⟨w.heap.size, 0, none⟩ (.int .i64 k')).setCell ⟨w.heap.size, 1, none⟩ (.int .i64 n')).setCell ⟨w.heap.size, 2, none⟩ (.string t')) := fun k' n' t' => set3 hs (by simp)
 clear hx hs
 have HC := Lib.hid HR
 clear HR
 go_wp2_with (fail)
 refine (HC.out _ (hs2 _ _ _)).mono ?_
 rintro e w2 ⟨rfl, hb2⟩
 have hs3 := (hs2 _ _ _).trans (hb2.mono (hs2 _ _ _).size)
 clear hb2 hs2 hx2
 go_wp2
 go_ret2
 exact ⟨rfl, hs3⟩
theorem number_o (gk : Int) (k n gn : Int) (t gt : ByteArray) (w : World) (HG0 : ∀ w, Ret 67 #[.agg #[.int .i64 k, .int .i64 n, .string t]] w (.agg #[.int .i64 gk, .int .i64 gn, .string gt])) (g3 : (gk == 3) = false) (m3 : (gk != 3) = true) (g4 : (gk == 4) = false) (m4 : (gk != 4) = true) : Ret 35 #[.agg #[.int .i64 k, .int .i64 n, .string t]] w (.tuple #[.int .i64 gn, .int .i64 0]) := by
 have HG := Lib.hid HG0
 clear HG0
 go_enter Tryz.func35, Tryz.ntmps35
 go_wp2_with (fail)
 refine (HG.out _).mono ?_
 rintro e w1 ⟨rfl, hb1⟩
 have hx := (hb1.block w.heap.size (by simp)).trans (heap_alloc_new _ _)
 have hs : Below w.heap.size w w1 := alloc_below hb1
 clear hb1
 have hx2 := fun k' n' t' => val_set (k' := k') (n' := n') (t' := t') hx
 obtain ⟨f0, f1, f2⟩ := val_frozen hx
 obtain ⟨x0, x1, x2⟩ := val_cells hx
 have hs2 : ∀ k' n' t', Below w.heap.size w (((w1.setCell ⟨w.heap.size, 0, none⟩ (.int .i64 k')).setCell ⟨w.heap.size, 1, none⟩ (.int .i64 n')).setCell ⟨w.heap.size, 2, none⟩ (.string t')) := fun k' n' t' => set3 hs (by simp)
 clear hx hs
 go_wp2
 go_ret2
 exact ⟨rfl, hs2 _ _ _⟩
theorem number_any (v : Val.V) (w : World) (hv : VB v) (hN : NumW w) : Ret 35 #[vv v] w (.tuple #[.int .i64 (Val.number v).1, .int .i64 (Val.number v).2]) := by
 have HG := fun w => vgood_any v w
 have HB := hv.good
 unfold Val.number
 generalize Val.good v = g at HG HB ⊢
 obtain ⟨gk, gn, gt⟩ := g
 obtain ⟨k, n, t⟩ := v
 unfold Val.numG
 simp only
 by_cases h3 : gk = 3
 ·subst h3
  rcases hxy : Dec.readS gt.data.toList with ⟨x, y⟩
  have HR : ∀ w', Below w.heap.size w w' → Calls Tryz.prog 77 #[.string gt] w' fun e w'' => e = .returned (.tuple #[.int .i64 x, .int .i64 y]) ∧ Below w'.heap.size w' w'' := fun w' hb => read_any gt x y w' HB.sz (hN.below hb) hxy
  by_cases h0 : y = 0
  ·subst h0
   exact number_tO k n gn t gt w HG x 0 HR rfl
  ·have ty : (y == 0) = false := by simpa using h0
   simp only [ty]
   exact number_tN k n gn t gt w HG x y HR (by simpa using h0)
 rw [show (gk == 3) = false by simpa using h3]
 by_cases h4 : gk = 4
 ·subst h4
  exact number_e k n gn t gt w HG
 rw [show (gk == 4) = false by simpa using h4]
 exact number_o gk k n gn t gt w HG (by simpa using h3) (by simpa using h3) (by simpa using h4) (by simpa using h4)
theorem astext_e (k n gn : Int) (t gt : ByteArray) (w : World) (HG0 : ∀ w, Ret 67 #[.agg #[.int .i64 k, .int .i64 n, .string t]] w (.agg #[.int .i64 4, .int .i64 gn, .string gt])) : Ret 30 #[.agg #[.int .i64 k, .int .i64 n, .string t]] w (.tuple #[.string ⟨#[]⟩, .int .i64 gn]) := by
 have HG := Lib.hid HG0
 clear HG0
 go_enter Tryz.func30, Tryz.ntmps30
 go_wp2_with (fail)
 refine (HG.out _).mono ?_
 rintro e w1 ⟨rfl, hb1⟩
 have hx := (hb1.block w.heap.size (by simp)).trans (heap_alloc_new _ _)
 have hs : Below w.heap.size w w1 := alloc_below hb1
 clear hb1
 have hx2 := fun k' n' t' => val_set (k' := k') (n' := n') (t' := t') hx
 obtain ⟨f0, f1, f2⟩ := val_frozen hx
 obtain ⟨x0, x1, x2⟩ := val_cells hx
 have hs2 : ∀ k' n' t', Below w.heap.size w (((w1.setCell ⟨w.heap.size, 0, none⟩ (.int .i64 k')).setCell ⟨w.heap.size, 1, none⟩ (.int .i64 n')).setCell ⟨w.heap.size, 2, none⟩ (.string t')) := fun k' n' t' => set3 hs (by simp)
 clear hx hs
 go_wp2
 have hx3 := hx2 4 gn gt
 have hs3 := hs2 4 gn gt
 clear hx2 hs2 f0 f1 f2 x0 x1 x2
 generalize (((w1.setCell ⟨w.heap.size, 0, none⟩ (.int .i64 4)).setCell ⟨w.heap.size, 1, none⟩ (.int .i64 gn)).setCell ⟨w.heap.size, 2, none⟩ (.string gt)) = w2 at hx3 hs3 ⊢
 obtain ⟨y0, y1, y2⟩ := val_cells hx3
 clear hx3
 go_quiet (fail)
 go_wp2
 go_ret2
 exact ⟨rfl, hs3.trans (below_drewN' _ _ _)⟩
theorem astext_i (k n gn : Int) (t gt : ByteArray) (w : World) (HG0 : ∀ w, Ret 67 #[.agg #[.int .i64 k, .int .i64 n, .string t]] w (.agg #[.int .i64 1, .int .i64 gn, .string gt])) (HR : ∀ w', Below w.heap.size w w' → Calls Tryz.prog 68 #[.int .i64 gn] w' fun e w'' => e = .returned (.string ⟨(Lib.itoa gn).toArray⟩) ∧ Below w'.heap.size w' w'') : Ret 30 #[.agg #[.int .i64 k, .int .i64 n, .string t]] w (.tuple #[.string ⟨(Lib.itoa gn).toArray⟩, .int .i64 0]) := by
 have HG := Lib.hid HG0
 clear HG0
 go_enter Tryz.func30, Tryz.ntmps30
 go_wp2_with (fail)
 refine (HG.out _).mono ?_
 rintro e w1 ⟨rfl, hb1⟩
 have hx := (hb1.block w.heap.size (by simp)).trans (heap_alloc_new _ _)
 have hs : Below w.heap.size w w1 := alloc_below hb1
 clear hb1
 have hx2 := fun k' n' t' => val_set (k' := k') (n' := n') (t' := t') hx
 obtain ⟨f0, f1, f2⟩ := val_frozen hx
 obtain ⟨x0, x1, x2⟩ := val_cells hx
 have hs2 : ∀ k' n' t', Below w.heap.size w (((w1.setCell ⟨w.heap.size, 0, none⟩ (.int .i64 k')).setCell ⟨w.heap.size, 1, none⟩ (.int .i64 n')).setCell ⟨w.heap.size, 2, none⟩ (.string t')) := fun k' n' t' => set3 hs (by simp)
 clear hx hs
 have HC := Lib.hid HR
 clear HR
 go_wp2_with (fail)
 refine (HC.out _ (hs2 _ _ _)).mono ?_
 rintro e w2 ⟨rfl, hb2⟩
 have hs3 := (hs2 _ _ _).trans (hb2.mono (hs2 _ _ _).size)
 clear hb2 hs2 hx2
 go_wp2
 go_ret2
 exact ⟨rfl, hs3⟩
theorem astext_b (k n gn : Int) (t gt : ByteArray) (w : World) (HG0 : ∀ w, Ret 67 #[.agg #[.int .i64 k, .int .i64 n, .string t]] w (.agg #[.int .i64 2, .int .i64 gn, .string gt])) (HW : ∀ w', Below w.heap.size w w' → Calls Tryz.prog 69 #[.int .i64 gn] w' fun e w'' => e = .returned (.string (Val.word gn)) ∧ Below w'.heap.size w' w'') : Ret 30 #[.agg #[.int .i64 k, .int .i64 n, .string t]] w (.tuple #[.string (Val.word gn), .int .i64 0]) := by
 have HG := Lib.hid HG0
 clear HG0
 go_enter Tryz.func30, Tryz.ntmps30
 go_wp2_with (fail)
 refine (HG.out _).mono ?_
 rintro e w1 ⟨rfl, hb1⟩
 have hx := (hb1.block w.heap.size (by simp)).trans (heap_alloc_new _ _)
 have hs : Below w.heap.size w w1 := alloc_below hb1
 clear hb1
 have hx2 := fun k' n' t' => val_set (k' := k') (n' := n') (t' := t') hx
 obtain ⟨f0, f1, f2⟩ := val_frozen hx
 obtain ⟨x0, x1, x2⟩ := val_cells hx
 have hs2 : ∀ k' n' t', Below w.heap.size w (((w1.setCell ⟨w.heap.size, 0, none⟩ (.int .i64 k')).setCell ⟨w.heap.size, 1, none⟩ (.int .i64 n')).setCell ⟨w.heap.size, 2, none⟩ (.string t')) := fun k' n' t' => set3 hs (by simp)
 clear hx hs
 have HC := Lib.hid HW
 clear HW
 go_wp2_with (fail)
 refine (HC.out _ (hs2 _ _ _)).mono ?_
 rintro e w2 ⟨rfl, hb2⟩
 have hs3 := (hs2 _ _ _).trans (hb2.mono (hs2 _ _ _).size)
 clear hb2 hs2 hx2
 go_wp2
 go_ret2
 exact ⟨rfl, hs3⟩
theorem astext_o (gk : Int) (k n gn : Int) (t gt : ByteArray) (w : World) (HG0 : ∀ w, Ret 67 #[.agg #[.int .i64 k, .int .i64 n, .string t]] w (.agg #[.int .i64 gk, .int .i64 gn, .string gt])) (g1 : (gk == 1) = false) (m1 : (gk != 1) = true) (g2 : (gk == 2) = false) (m2 : (gk != 2) = true) (g4 : (gk == 4) = false) (m4 : (gk != 4) = true) : Ret 30 #[.agg #[.int .i64 k, .int .i64 n, .string t]] w (.tuple #[.string gt, .int .i64 0]) := by
 have HG := Lib.hid HG0
 clear HG0
 go_enter Tryz.func30, Tryz.ntmps30
 go_wp2_with (fail)
 refine (HG.out _).mono ?_
 rintro e w1 ⟨rfl, hb1⟩
 have hx := (hb1.block w.heap.size (by simp)).trans (heap_alloc_new _ _)
 have hs : Below w.heap.size w w1 := alloc_below hb1
 clear hb1
 have hx2 := fun k' n' t' => val_set (k' := k') (n' := n') (t' := t') hx
 obtain ⟨f0, f1, f2⟩ := val_frozen hx
 obtain ⟨x0, x1, x2⟩ := val_cells hx
 have hs2 : ∀ k' n' t', Below w.heap.size w (((w1.setCell ⟨w.heap.size, 0, none⟩ (.int .i64 k')).setCell ⟨w.heap.size, 1, none⟩ (.int .i64 n')).setCell ⟨w.heap.size, 2, none⟩ (.string t')) := fun k' n' t' => set3 hs (by simp)
 clear hx hs
 go_wp2
 go_ret2
 exact ⟨rfl, hs2 _ _ _⟩
theorem astext_any (v : Val.V) (w : World) (hv : VB v) (hN : NumW w) : Ret 30 #[vv v] w (.tuple #[.string (Val.asText v).1, .int .i64 (Val.asText v).2]) := by
 have HG := fun w => vgood_any v w
 have HB := hv.good
 unfold Val.asText
 generalize Val.good v = g at HG HB ⊢
 obtain ⟨gk, gn, gt⟩ := g
 obtain ⟨k, n, t⟩ := v
 unfold Val.textG
 simp only
 by_cases h1 : gk = 1
 ·subst h1
  exact astext_i k n gn t gt w HG (fun w' hb => text_any gn w' HB.n0 HB.n1 (hN.below hb))
 rw [show (gk == 1) = false by simpa using h1]
 by_cases h2 : gk = 2
 ·subst h2
  exact astext_b k n gn t gt w HG (fun w' _ => (word_any gn w').mono fun e w2 h => ⟨h.1, h.2 ▸ Below.refl _ _⟩)
 rw [show (gk == 2) = false by simpa using h2]
 by_cases h4 : gk = 4
 ·subst h4
  exact astext_e k n gn t gt w HG
 rw [show (gk == 4) = false by simpa using h4]
 exact astext_o gk k n gn t gt w HG (by simpa using h1) (by simpa using h1) (by simpa using h2) (by simpa using h2) (by simpa using h4) (by simpa using h4)
theorem rtruth_e (k n gn : Int) (t gt : ByteArray) (w : World) (HG0 : ∀ w, Ret 88 #[.agg #[.int .i64 k, .int .i64 n, .string t]] w (.agg #[.int .i64 4, .int .i64 gn, .string gt])) : Ret 150 #[.agg #[.int .i64 k, .int .i64 n, .string t]] w (.tuple #[.bool false, .int .i64 gn]) := by
 have HG := Lib.hid HG0
 clear HG0
 go_enter Tryz.func150, Tryz.ntmps150
 go_wp2_with (fail)
 refine (HG.out _).mono ?_
 rintro e w1 ⟨rfl, hb1⟩
 have hx := (hb1.block w.heap.size (by simp)).trans (heap_alloc_new _ _)
 have hs : Below w.heap.size w w1 := alloc_below hb1
 clear hb1
 have hx2 := fun k' n' t' => val_set (k' := k') (n' := n') (t' := t') hx
 obtain ⟨f0, f1, f2⟩ := val_frozen hx
 obtain ⟨x0, x1, x2⟩ := val_cells hx
 have hs2 : ∀ k' n' t', Below w.heap.size w (((w1.setCell ⟨w.heap.size, 0, none⟩ (.int .i64 k')).setCell ⟨w.heap.size, 1, none⟩ (.int .i64 n')).setCell ⟨w.heap.size, 2, none⟩ (.string t')) := fun k' n' t' => set3 hs (by simp)
 clear hx hs
 go_wp2
 have hx3 := hx2 4 gn gt
 have hs3 := hs2 4 gn gt
 clear hx2 hs2 f0 f1 f2 x0 x1 x2
 generalize (((w1.setCell ⟨w.heap.size, 0, none⟩ (.int .i64 4)).setCell ⟨w.heap.size, 1, none⟩ (.int .i64 gn)).setCell ⟨w.heap.size, 2, none⟩ (.string gt)) = w2 at hx3 hs3 ⊢
 obtain ⟨y0, y1, y2⟩ := val_cells hx3
 clear hx3
 go_quiet (fail)
 go_wp2
 go_ret2
 exact ⟨rfl, hs3.trans (below_drewN' _ _ _)⟩
theorem rtruth_tT (k n gn : Int) (t gt : ByteArray) (w : World) (HG0 : ∀ w, Ret 88 #[.agg #[.int .i64 k, .int .i64 n, .string t]] w (.agg #[.int .i64 3, .int .i64 gn, .string gt])) (tt : (gt.toList == [84, 82, 85, 69]) = true) : Ret 150 #[.agg #[.int .i64 k, .int .i64 n, .string t]] w (.tuple #[.bool true, .int .i64 0]) := by
 have HG := Lib.hid HG0
 clear HG0
 go_enter Tryz.func150, Tryz.ntmps150
 go_wp2_with (fail)
 refine (HG.out _).mono ?_
 rintro e w1 ⟨rfl, hb1⟩
 have hx := (hb1.block w.heap.size (by simp)).trans (heap_alloc_new _ _)
 have hs : Below w.heap.size w w1 := alloc_below hb1
 clear hb1
 have hx2 := fun k' n' t' => val_set (k' := k') (n' := n') (t' := t') hx
 obtain ⟨f0, f1, f2⟩ := val_frozen hx
 obtain ⟨x0, x1, x2⟩ := val_cells hx
 have hs2 : ∀ k' n' t', Below w.heap.size w (((w1.setCell ⟨w.heap.size, 0, none⟩ (.int .i64 k')).setCell ⟨w.heap.size, 1, none⟩ (.int .i64 n')).setCell ⟨w.heap.size, 2, none⟩ (.string t')) := fun k' n' t' => set3 hs (by simp)
 clear hx hs
 go_wp2
 go_ret2
 exact ⟨rfl, hs2 _ _ _⟩
theorem rtruth_tF (k n gn : Int) (t gt : ByteArray) (w : World) (HG0 : ∀ w, Ret 88 #[.agg #[.int .i64 k, .int .i64 n, .string t]] w (.agg #[.int .i64 3, .int .i64 gn, .string gt])) (tt : (gt.toList == [84, 82, 85, 69]) = false) (tf : (gt.toList == [70, 65, 76, 83, 69]) = true) : Ret 150 #[.agg #[.int .i64 k, .int .i64 n, .string t]] w (.tuple #[.bool false, .int .i64 0]) := by
 have HG := Lib.hid HG0
 clear HG0
 go_enter Tryz.func150, Tryz.ntmps150
 go_wp2_with (fail)
 refine (HG.out _).mono ?_
 rintro e w1 ⟨rfl, hb1⟩
 have hx := (hb1.block w.heap.size (by simp)).trans (heap_alloc_new _ _)
 have hs : Below w.heap.size w w1 := alloc_below hb1
 clear hb1
 have hx2 := fun k' n' t' => val_set (k' := k') (n' := n') (t' := t') hx
 obtain ⟨f0, f1, f2⟩ := val_frozen hx
 obtain ⟨x0, x1, x2⟩ := val_cells hx
 have hs2 : ∀ k' n' t', Below w.heap.size w (((w1.setCell ⟨w.heap.size, 0, none⟩ (.int .i64 k')).setCell ⟨w.heap.size, 1, none⟩ (.int .i64 n')).setCell ⟨w.heap.size, 2, none⟩ (.string t')) := fun k' n' t' => set3 hs (by simp)
 clear hx hs
 go_wp2
 go_ret2
 exact ⟨rfl, hs2 _ _ _⟩
theorem rtruth_tN (k n gn : Int) (t gt : ByteArray) (w : World) (HG0 : ∀ w, Ret 88 #[.agg #[.int .i64 k, .int .i64 n, .string t]] w (.agg #[.int .i64 3, .int .i64 gn, .string gt])) (tt : (gt.toList == [84, 82, 85, 69]) = false) (tf : (gt.toList == [70, 65, 76, 83, 69]) = false) : Ret 150 #[.agg #[.int .i64 k, .int .i64 n, .string t]] w (.tuple #[.bool false, .int .i64 4]) := by
 have HG := Lib.hid HG0
 clear HG0
 go_enter Tryz.func150, Tryz.ntmps150
 go_wp2_with (fail)
 refine (HG.out _).mono ?_
 rintro e w1 ⟨rfl, hb1⟩
 have hx := (hb1.block w.heap.size (by simp)).trans (heap_alloc_new _ _)
 have hs : Below w.heap.size w w1 := alloc_below hb1
 clear hb1
 have hx2 := fun k' n' t' => val_set (k' := k') (n' := n') (t' := t') hx
 obtain ⟨f0, f1, f2⟩ := val_frozen hx
 obtain ⟨x0, x1, x2⟩ := val_cells hx
 have hs2 : ∀ k' n' t', Below w.heap.size w (((w1.setCell ⟨w.heap.size, 0, none⟩ (.int .i64 k')).setCell ⟨w.heap.size, 1, none⟩ (.int .i64 n')).setCell ⟨w.heap.size, 2, none⟩ (.string t')) := fun k' n' t' => set3 hs (by simp)
 clear hx hs
 go_wp2
 go_ret2
 exact ⟨rfl, hs2 _ _ _⟩
theorem rtruth_o (gk : Int) (k n gn : Int) (t gt : ByteArray) (w : World) (HG0 : ∀ w, Ret 88 #[.agg #[.int .i64 k, .int .i64 n, .string t]] w (.agg #[.int .i64 gk, .int .i64 gn, .string gt])) (g3 : (gk == 3) = false) (m3 : (gk != 3) = true) (g4 : (gk == 4) = false) (m4 : (gk != 4) = true) : Ret 150 #[.agg #[.int .i64 k, .int .i64 n, .string t]] w (.tuple #[.bool (gn != 0), .int .i64 0]) := by
 have HG := Lib.hid HG0
 clear HG0
 go_enter Tryz.func150, Tryz.ntmps150
 go_wp2_with (fail)
 refine (HG.out _).mono ?_
 rintro e w1 ⟨rfl, hb1⟩
 have hx := (hb1.block w.heap.size (by simp)).trans (heap_alloc_new _ _)
 have hs : Below w.heap.size w w1 := alloc_below hb1
 clear hb1
 have hx2 := fun k' n' t' => val_set (k' := k') (n' := n') (t' := t') hx
 obtain ⟨f0, f1, f2⟩ := val_frozen hx
 obtain ⟨x0, x1, x2⟩ := val_cells hx
 have hs2 : ∀ k' n' t', Below w.heap.size w (((w1.setCell ⟨w.heap.size, 0, none⟩ (.int .i64 k')).setCell ⟨w.heap.size, 1, none⟩ (.int .i64 n')).setCell ⟨w.heap.size, 2, none⟩ (.string t')) := fun k' n' t' => set3 hs (by simp)
 clear hx hs
 go_wp2
 go_ret2
 exact ⟨rfl, hs2 _ _ _⟩
theorem rtruth_any (v : Val.V) (w : World) : Ret 150 #[vv v] w (.tuple #[.bool (Val.truth v).1, .int .i64 (Val.truth v).2]) := by
 have HG := fun w => fit_any v w
 unfold Val.truth
 generalize Val.good v = g at HG ⊢
 obtain ⟨gk, gn, gt⟩ := g
 obtain ⟨k, n, t⟩ := v
 unfold Val.truthG Val.isT Val.isF
 simp only
 by_cases h4 : gk = 4
 ·subst h4
  exact rtruth_e k n gn t gt w HG
 rw [show (gk == 4) = false by simpa using h4]
 by_cases h3 : gk = 3
 ·subst h3
  cases tt : (gt.toList == [84, 82, 85, 69]) with
  | true => exact rtruth_tT k n gn t gt w HG tt
  | false =>
   cases tf : (gt.toList == [70, 65, 76, 83, 69]) with
   | true => exact rtruth_tF k n gn t gt w HG tt tf
   | false => exact rtruth_tN k n gn t gt w HG tt tf
 rw [show (gk == 3) = false by simpa using h3]
 exact rtruth_o gk k n gn t gt w HG (by simpa using h3) (by simpa using h3) (by simpa using h4) (by simpa using h4)
theorem rnumber_e (k n gn : Int) (t gt : ByteArray) (w : World) (HG0 : ∀ w, Ret 88 #[.agg #[.int .i64 k, .int .i64 n, .string t]] w (.agg #[.int .i64 4, .int .i64 gn, .string gt])) : Ret 54 #[.agg #[.int .i64 k, .int .i64 n, .string t]] w (.tuple #[.int .i64 0, .int .i64 gn]) := by
 have HG := Lib.hid HG0
 clear HG0
 go_enter Tryz.func54, Tryz.ntmps54
 go_wp2_with (fail)
 refine (HG.out _).mono ?_
 rintro e w1 ⟨rfl, hb1⟩
 have hx := (hb1.block w.heap.size (by simp)).trans (heap_alloc_new _ _)
 have hs : Below w.heap.size w w1 := alloc_below hb1
 clear hb1
 have hx2 := fun k' n' t' => val_set (k' := k') (n' := n') (t' := t') hx
 obtain ⟨f0, f1, f2⟩ := val_frozen hx
 obtain ⟨x0, x1, x2⟩ := val_cells hx
 have hs2 : ∀ k' n' t', Below w.heap.size w (((w1.setCell ⟨w.heap.size, 0, none⟩ (.int .i64 k')).setCell ⟨w.heap.size, 1, none⟩ (.int .i64 n')).setCell ⟨w.heap.size, 2, none⟩ (.string t')) := fun k' n' t' => set3 hs (by simp)
 clear hx hs
 go_wp2
 have hx3 := hx2 4 gn gt
 have hs3 := hs2 4 gn gt
 clear hx2 hs2 f0 f1 f2 x0 x1 x2
 generalize (((w1.setCell ⟨w.heap.size, 0, none⟩ (.int .i64 4)).setCell ⟨w.heap.size, 1, none⟩ (.int .i64 gn)).setCell ⟨w.heap.size, 2, none⟩ (.string gt)) = w2 at hx3 hs3 ⊢
 obtain ⟨y0, y1, y2⟩ := val_cells hx3
 clear hx3
 go_quiet (fail)
 go_wp2
 go_ret2
 exact ⟨rfl, hs3.trans (below_drewN' _ _ _)⟩
theorem rnumber_tN (k n gn : Int) (t gt : ByteArray) (w : World) (HG0 : ∀ w, Ret 88 #[.agg #[.int .i64 k, .int .i64 n, .string t]] w (.agg #[.int .i64 3, .int .i64 gn, .string gt])) (x y : Int) (HR : ∀ w', Below w.heap.size w w' → Calls Tryz.prog 89 #[.string gt] w' fun e w'' => e = .returned (.tuple #[.int .i64 x, .int .i64 y]) ∧ Below w'.heap.size w' w'') (ty : (y != 0) = true) : Ret 54 #[.agg #[.int .i64 k, .int .i64 n, .string t]] w (.tuple #[.int .i64 0, .int .i64 4]) := by
 have HG := Lib.hid HG0
 clear HG0
 go_enter Tryz.func54, Tryz.ntmps54
 go_wp2_with (fail)
 refine (HG.out _).mono ?_
 rintro e w1 ⟨rfl, hb1⟩
 have hx := (hb1.block w.heap.size (by simp)).trans (heap_alloc_new _ _)
 have hs : Below w.heap.size w w1 := alloc_below hb1
 clear hb1
 have hx2 := fun k' n' t' => val_set (k' := k') (n' := n') (t' := t') hx
 obtain ⟨f0, f1, f2⟩ := val_frozen hx
 obtain ⟨x0, x1, x2⟩ := val_cells hx
 have hs2 : ∀ k' n' t', Below w.heap.size w (((w1.setCell ⟨w.heap.size, 0, none⟩ (.int .i64 k')).setCell ⟨w.heap.size, 1, none⟩ (.int .i64 n')).setCell ⟨w.heap.size, 2, none⟩ (.string t')) := fun k' n' t' => set3 hs (by simp)
 clear hx hs
 have HC := Lib.hid HR
 clear HR
 go_wp2_with (fail)
 refine (HC.out _ (hs2 _ _ _)).mono ?_
 rintro e w2 ⟨rfl, hb2⟩
 have hs3 := (hs2 _ _ _).trans (hb2.mono (hs2 _ _ _).size)
 clear hb2 hs2 hx2
 go_wp2
 go_ret2
 exact ⟨rfl, hs3⟩
theorem rnumber_tO (k n gn : Int) (t gt : ByteArray) (w : World) (HG0 : ∀ w, Ret 88 #[.agg #[.int .i64 k, .int .i64 n, .string t]] w (.agg #[.int .i64 3, .int .i64 gn, .string gt])) (x y : Int) (HR : ∀ w', Below w.heap.size w w' → Calls Tryz.prog 89 #[.string gt] w' fun e w'' => e = .returned (.tuple #[.int .i64 x, .int .i64 y]) ∧ Below w'.heap.size w' w'') (ty : (y != 0) = false) : Ret 54 #[.agg #[.int .i64 k, .int .i64 n, .string t]] w (.tuple #[.int .i64 x, .int .i64 0]) := by
 have HG := Lib.hid HG0
 clear HG0
 go_enter Tryz.func54, Tryz.ntmps54
 go_wp2_with (fail)
 refine (HG.out _).mono ?_
 rintro e w1 ⟨rfl, hb1⟩
 have hx := (hb1.block w.heap.size (by simp)).trans (heap_alloc_new _ _)
 have hs : Below w.heap.size w w1 := alloc_below hb1
 clear hb1
 have hx2 := fun k' n' t' => val_set (k' := k') (n' := n') (t' := t') hx
 obtain ⟨f0, f1, f2⟩ := val_frozen hx
 obtain ⟨x0, x1, x2⟩ := val_cells hx
 have hs2 : ∀ k' n' t', Below w.heap.size w (((w1.setCell ⟨w.heap.size, 0, none⟩ (.int .i64 k')).setCell ⟨w.heap.size, 1, none⟩ (.int .i64 n')).setCell ⟨w.heap.size, 2, none⟩ (.string t')) := fun k' n' t' => set3 hs (by simp)
 clear hx hs
 have HC := Lib.hid HR
 clear HR
 go_wp2_with (fail)
 refine (HC.out _ (hs2 _ _ _)).mono ?_
 rintro e w2 ⟨rfl, hb2⟩
 have hs3 := (hs2 _ _ _).trans (hb2.mono (hs2 _ _ _).size)
 clear hb2 hs2 hx2
 go_wp2
 go_ret2
 exact ⟨rfl, hs3⟩
theorem rnumber_o (gk : Int) (k n gn : Int) (t gt : ByteArray) (w : World) (HG0 : ∀ w, Ret 88 #[.agg #[.int .i64 k, .int .i64 n, .string t]] w (.agg #[.int .i64 gk, .int .i64 gn, .string gt])) (g3 : (gk == 3) = false) (m3 : (gk != 3) = true) (g4 : (gk == 4) = false) (m4 : (gk != 4) = true) : Ret 54 #[.agg #[.int .i64 k, .int .i64 n, .string t]] w (.tuple #[.int .i64 gn, .int .i64 0]) := by
 have HG := Lib.hid HG0
 clear HG0
 go_enter Tryz.func54, Tryz.ntmps54
 go_wp2_with (fail)
 refine (HG.out _).mono ?_
 rintro e w1 ⟨rfl, hb1⟩
 have hx := (hb1.block w.heap.size (by simp)).trans (heap_alloc_new _ _)
 have hs : Below w.heap.size w w1 := alloc_below hb1
 clear hb1
 have hx2 := fun k' n' t' => val_set (k' := k') (n' := n') (t' := t') hx
 obtain ⟨f0, f1, f2⟩ := val_frozen hx
 obtain ⟨x0, x1, x2⟩ := val_cells hx
 have hs2 : ∀ k' n' t', Below w.heap.size w (((w1.setCell ⟨w.heap.size, 0, none⟩ (.int .i64 k')).setCell ⟨w.heap.size, 1, none⟩ (.int .i64 n')).setCell ⟨w.heap.size, 2, none⟩ (.string t')) := fun k' n' t' => set3 hs (by simp)
 clear hx hs
 go_wp2
 go_ret2
 exact ⟨rfl, hs2 _ _ _⟩
theorem rnumber_any (v : Val.V) (w : World) (hv : VB v) : Ret 54 #[vv v] w (.tuple #[.int .i64 (Val.number v).1, .int .i64 (Val.number v).2]) := by
 have HG := fun w => fit_any v w
 have HB := hv.good
 unfold Val.number
 generalize Val.good v = g at HG HB ⊢
 obtain ⟨gk, gn, gt⟩ := g
 obtain ⟨k, n, t⟩ := v
 unfold Val.numG
 simp only
 by_cases h3 : gk = 3
 ·subst h3
  rcases hxy : Dec.readS gt.data.toList with ⟨x, y⟩
  have HR : ∀ w', Below w.heap.size w w' → Calls Tryz.prog 89 #[.string gt] w' fun e w'' => e = .returned (.tuple #[.int .i64 x, .int .i64 y]) ∧ Below w'.heap.size w' w'' := fun w' hb => rread_any gt x y w' HB.sz hxy
  by_cases h0 : y = 0
  ·subst h0
   exact rnumber_tO k n gn t gt w HG x 0 HR rfl
  ·have ty : (y == 0) = false := by simpa using h0
   simp only [ty]
   exact rnumber_tN k n gn t gt w HG x y HR (by simpa using h0)
 rw [show (gk == 3) = false by simpa using h3]
 by_cases h4 : gk = 4
 ·subst h4
  exact rnumber_e k n gn t gt w HG
 rw [show (gk == 4) = false by simpa using h4]
 exact rnumber_o gk k n gn t gt w HG (by simpa using h3) (by simpa using h3) (by simpa using h4) (by simpa using h4)
theorem rastext_e (k n gn : Int) (t gt : ByteArray) (w : World) (HG0 : ∀ w, Ret 88 #[.agg #[.int .i64 k, .int .i64 n, .string t]] w (.agg #[.int .i64 4, .int .i64 gn, .string gt])) : Ret 57 #[.agg #[.int .i64 k, .int .i64 n, .string t]] w (.tuple #[.string ⟨#[]⟩, .int .i64 gn]) := by
 have HG := Lib.hid HG0
 clear HG0
 go_enter Tryz.func57, Tryz.ntmps57
 go_wp2_with (fail)
 refine (HG.out _).mono ?_
 rintro e w1 ⟨rfl, hb1⟩
 have hx := (hb1.block w.heap.size (by simp)).trans (heap_alloc_new _ _)
 have hs : Below w.heap.size w w1 := alloc_below hb1
 clear hb1
 have hx2 := fun k' n' t' => val_set (k' := k') (n' := n') (t' := t') hx
 obtain ⟨f0, f1, f2⟩ := val_frozen hx
 obtain ⟨x0, x1, x2⟩ := val_cells hx
 have hs2 : ∀ k' n' t', Below w.heap.size w (((w1.setCell ⟨w.heap.size, 0, none⟩ (.int .i64 k')).setCell ⟨w.heap.size, 1, none⟩ (.int .i64 n')).setCell ⟨w.heap.size, 2, none⟩ (.string t')) := fun k' n' t' => set3 hs (by simp)
 clear hx hs
 go_wp2
 have hx3 := hx2 4 gn gt
 have hs3 := hs2 4 gn gt
 clear hx2 hs2 f0 f1 f2 x0 x1 x2
 generalize (((w1.setCell ⟨w.heap.size, 0, none⟩ (.int .i64 4)).setCell ⟨w.heap.size, 1, none⟩ (.int .i64 gn)).setCell ⟨w.heap.size, 2, none⟩ (.string gt)) = w2 at hx3 hs3 ⊢
 obtain ⟨y0, y1, y2⟩ := val_cells hx3
 clear hx3
 go_quiet (fail)
 go_wp2
 go_ret2
 exact ⟨rfl, hs3.trans (below_drewN' _ _ _)⟩
theorem rastext_i (k n gn : Int) (t gt : ByteArray) (w : World) (HG0 : ∀ w, Ret 88 #[.agg #[.int .i64 k, .int .i64 n, .string t]] w (.agg #[.int .i64 1, .int .i64 gn, .string gt])) (HR : ∀ w', Below w.heap.size w w' → Calls Tryz.prog 91 #[.int .i64 gn] w' fun e w'' => e = .returned (.string ⟨(Lib.itoa gn).toArray⟩) ∧ Below w'.heap.size w' w'') : Ret 57 #[.agg #[.int .i64 k, .int .i64 n, .string t]] w (.tuple #[.string ⟨(Lib.itoa gn).toArray⟩, .int .i64 0]) := by
 have HG := Lib.hid HG0
 clear HG0
 go_enter Tryz.func57, Tryz.ntmps57
 go_wp2_with (fail)
 refine (HG.out _).mono ?_
 rintro e w1 ⟨rfl, hb1⟩
 have hx := (hb1.block w.heap.size (by simp)).trans (heap_alloc_new _ _)
 have hs : Below w.heap.size w w1 := alloc_below hb1
 clear hb1
 have hx2 := fun k' n' t' => val_set (k' := k') (n' := n') (t' := t') hx
 obtain ⟨f0, f1, f2⟩ := val_frozen hx
 obtain ⟨x0, x1, x2⟩ := val_cells hx
 have hs2 : ∀ k' n' t', Below w.heap.size w (((w1.setCell ⟨w.heap.size, 0, none⟩ (.int .i64 k')).setCell ⟨w.heap.size, 1, none⟩ (.int .i64 n')).setCell ⟨w.heap.size, 2, none⟩ (.string t')) := fun k' n' t' => set3 hs (by simp)
 clear hx hs
 have HC := Lib.hid HR
 clear HR
 go_wp2_with (fail)
 refine (HC.out _ (hs2 _ _ _)).mono ?_
 rintro e w2 ⟨rfl, hb2⟩
 have hs3 := (hs2 _ _ _).trans (hb2.mono (hs2 _ _ _).size)
 clear hb2 hs2 hx2
 go_wp2
 go_ret2
 exact ⟨rfl, hs3⟩
theorem rastext_bT (k n gn : Int) (t gt : ByteArray) (w : World) (HG0 : ∀ w, Ret 88 #[.agg #[.int .i64 k, .int .i64 n, .string t]] w (.agg #[.int .i64 2, .int .i64 gn, .string gt])) (h1 : (gn == 1) = true) : Ret 57 #[.agg #[.int .i64 k, .int .i64 n, .string t]] w (.tuple #[.string ⟨#[84, 82, 85, 69]⟩, .int .i64 0]) := by
 have HG := Lib.hid HG0
 clear HG0
 go_enter Tryz.func57, Tryz.ntmps57
 go_wp2_with (fail)
 refine (HG.out _).mono ?_
 rintro e w1 ⟨rfl, hb1⟩
 have hx := (hb1.block w.heap.size (by simp)).trans (heap_alloc_new _ _)
 have hs : Below w.heap.size w w1 := alloc_below hb1
 clear hb1
 have hx2 := fun k' n' t' => val_set (k' := k') (n' := n') (t' := t') hx
 obtain ⟨f0, f1, f2⟩ := val_frozen hx
 obtain ⟨x0, x1, x2⟩ := val_cells hx
 have hs2 : ∀ k' n' t', Below w.heap.size w (((w1.setCell ⟨w.heap.size, 0, none⟩ (.int .i64 k')).setCell ⟨w.heap.size, 1, none⟩ (.int .i64 n')).setCell ⟨w.heap.size, 2, none⟩ (.string t')) := fun k' n' t' => set3 hs (by simp)
 clear hx hs
 go_wp2
 go_ret2
 exact ⟨rfl, hs2 _ _ _⟩
theorem rastext_bF (k n gn : Int) (t gt : ByteArray) (w : World) (HG0 : ∀ w, Ret 88 #[.agg #[.int .i64 k, .int .i64 n, .string t]] w (.agg #[.int .i64 2, .int .i64 gn, .string gt])) (h1 : (gn == 1) = false) : Ret 57 #[.agg #[.int .i64 k, .int .i64 n, .string t]] w (.tuple #[.string ⟨#[70, 65, 76, 83, 69]⟩, .int .i64 0]) := by
 have HG := Lib.hid HG0
 clear HG0
 go_enter Tryz.func57, Tryz.ntmps57
 go_wp2_with (fail)
 refine (HG.out _).mono ?_
 rintro e w1 ⟨rfl, hb1⟩
 have hx := (hb1.block w.heap.size (by simp)).trans (heap_alloc_new _ _)
 have hs : Below w.heap.size w w1 := alloc_below hb1
 clear hb1
 have hx2 := fun k' n' t' => val_set (k' := k') (n' := n') (t' := t') hx
 obtain ⟨f0, f1, f2⟩ := val_frozen hx
 obtain ⟨x0, x1, x2⟩ := val_cells hx
 have hs2 : ∀ k' n' t', Below w.heap.size w (((w1.setCell ⟨w.heap.size, 0, none⟩ (.int .i64 k')).setCell ⟨w.heap.size, 1, none⟩ (.int .i64 n')).setCell ⟨w.heap.size, 2, none⟩ (.string t')) := fun k' n' t' => set3 hs (by simp)
 clear hx hs
 go_wp2
 go_ret2
 exact ⟨rfl, hs2 _ _ _⟩
theorem rastext_o (gk : Int) (k n gn : Int) (t gt : ByteArray) (w : World) (HG0 : ∀ w, Ret 88 #[.agg #[.int .i64 k, .int .i64 n, .string t]] w (.agg #[.int .i64 gk, .int .i64 gn, .string gt])) (g1 : (gk == 1) = false) (m1 : (gk != 1) = true) (g2 : (gk == 2) = false) (m2 : (gk != 2) = true) (g4 : (gk == 4) = false) (m4 : (gk != 4) = true) : Ret 57 #[.agg #[.int .i64 k, .int .i64 n, .string t]] w (.tuple #[.string gt, .int .i64 0]) := by
 have HG := Lib.hid HG0
 clear HG0
 go_enter Tryz.func57, Tryz.ntmps57
 go_wp2_with (fail)
 refine (HG.out _).mono ?_
 rintro e w1 ⟨rfl, hb1⟩
 have hx := (hb1.block w.heap.size (by simp)).trans (heap_alloc_new _ _)
 have hs : Below w.heap.size w w1 := alloc_below hb1
 clear hb1
 have hx2 := fun k' n' t' => val_set (k' := k') (n' := n') (t' := t') hx
 obtain ⟨f0, f1, f2⟩ := val_frozen hx
 obtain ⟨x0, x1, x2⟩ := val_cells hx
 have hs2 : ∀ k' n' t', Below w.heap.size w (((w1.setCell ⟨w.heap.size, 0, none⟩ (.int .i64 k')).setCell ⟨w.heap.size, 1, none⟩ (.int .i64 n')).setCell ⟨w.heap.size, 2, none⟩ (.string t')) := fun k' n' t' => set3 hs (by simp)
 clear hx hs
 go_wp2
 go_ret2
 exact ⟨rfl, hs2 _ _ _⟩
theorem rastext_any (v : Val.V) (w : World) (hv : VB v) : Ret 57 #[vv v] w (.tuple #[.string (Val.asText v).1, .int .i64 (Val.asText v).2]) := by
 have HG := fun w => fit_any v w
 have HB := hv.good
 unfold Val.asText
 generalize Val.good v = g at HG HB ⊢
 obtain ⟨gk, gn, gt⟩ := g
 obtain ⟨k, n, t⟩ := v
 unfold Val.textG
 simp only
 by_cases h1 : gk = 1
 ·subst h1
  exact rastext_i k n gn t gt w HG (fun w' hb => rtext_any gn w' HB.n0 HB.n1)
 rw [show (gk == 1) = false by simpa using h1]
 by_cases h2 : gk = 2
 ·subst h2
  unfold Val.word
  cases h1 : (gn == 1) with
  | true => exact rastext_bT k n gn t gt w HG h1
  | false => exact rastext_bF k n gn t gt w HG h1
 rw [show (gk == 2) = false by simpa using h2]
 by_cases h4 : gk = 4
 ·subst h4
  exact rastext_e k n gn t gt w HG
 rw [show (gk == 4) = false by simpa using h4]
 exact rastext_o gk k n gn t gt w HG (by simpa using h1) (by simpa using h1) (by simpa using h2) (by simpa using h2) (by simpa using h4) (by simpa using h4)
end Go.Proofs.YtpiiemneelkpkaaGreatDoor
namespace Go.Proofs.YtpiiemneelkpkaaGreatDoor
open Go.RowKit
set_option linter.unusedVariables false
def Val.asV (v b : Val.V) : Val.V := ⟨cond (v.k == 0 && b.k != 4) b.k v.k, v.n, v.t⟩
def Val.placeOf (k : Int) : Int := cond (k == 1) 1 <| cond (k == 3) 2 <| cond (k == 2) 3 <| cond (k == 4) 4 0
def Val.cmpI (a b : Int) : Int := cond (decide (a < b)) (-1) (cond (decide (b < a)) 1 0)
def Val.orI (x y z : Int) : Int := cond (x != 0) x (cond (y != 0) y z)
theorem as_z (bk n m : Int) (t s : ByteArray) (w : World) (h : (bk != 4) = true) : Ret 71 #[.agg #[.int .i64 0, .int .i64 n, .string t], .agg #[.int .i64 bk, .int .i64 m, .string s]] w (.agg #[.int .i64 bk, .int .i64 n, .string t]) := by
 go_enter Tryz.func71, Tryz.ntmps71
 go_wp2
 exact bodyPost_ret (v := .agg #[.int .i64 bk, .int .i64 n, .string t]) (by simp [results, Tryz.results71, go_sem]) rfl ⟨rfl, (((Below.refl _ _).alloc (Nat.le_refl _) _).alloc (by simp) _).alloc (by simp; omega) _⟩
theorem as_e (bk n m : Int) (t s : ByteArray) (w : World) (h : (bk != 4) = false) : Ret 71 #[.agg #[.int .i64 0, .int .i64 n, .string t], .agg #[.int .i64 bk, .int .i64 m, .string s]] w (.agg #[.int .i64 0, .int .i64 n, .string t]) := by
 go_enter Tryz.func71, Tryz.ntmps71
 go_wp2
 exact bodyPost_ret (v := .agg #[.int .i64 0, .int .i64 n, .string t]) (by simp [results, Tryz.results71, go_sem]) rfl ⟨rfl, (((Below.refl _ _).alloc (Nat.le_refl _) _).alloc (by simp) _).alloc (by simp; omega) _⟩
theorem as_o (k bk n m : Int) (t s : ByteArray) (w : World) (h : (k == 0) = false) : Ret 71 #[.agg #[.int .i64 k, .int .i64 n, .string t], .agg #[.int .i64 bk, .int .i64 m, .string s]] w (.agg #[.int .i64 k, .int .i64 n, .string t]) := by
 go_enter Tryz.func71, Tryz.ntmps71
 go_wp2
 exact bodyPost_ret (v := .agg #[.int .i64 k, .int .i64 n, .string t]) (by simp [results, Tryz.results71, go_sem]) rfl ⟨rfl, (((Below.refl _ _).alloc (Nat.le_refl _) _).alloc (by simp) _).alloc (by simp; omega) _⟩
theorem as_any (v b : Val.V) (w : World) : Ret 71 #[vv v, vv b] w (vv (Val.asV v b)) := by
 obtain ⟨k, n, t⟩ := v
 obtain ⟨bk, m, s⟩ := b
 unfold Val.asV
 show Ret 71 #[.agg #[.int .i64 k, .int .i64 n, .string t], .agg #[.int .i64 bk, .int .i64 m, .string s]] w (.agg #[.int .i64 (cond (k == 0 && bk != 4) bk k), .int .i64 n, .string t])
 by_cases h : k = 0
 ·subst h
  cases h4 : (bk != 4) with
  | true => exact as_z bk n m t s w h4
  | false => exact as_e bk n m t s w h4
 ·have h0 : (k == 0) = false := by simpa using h
  rw [h0]
  exact as_o k bk n m t s w h0
theorem place_any (k : Int) (w : World) : Calls Tryz.prog 74 #[.int .i64 k] w fun e w' => e = .returned (.int .i64 (Val.placeOf k)) ∧ w = w' := by
 unfold Val.placeOf
 cases h1 : (k == 1) with
 | true =>
  go_enter Tryz.func74, Tryz.ntmps74
  go_wp2
  go_ret
  exact ⟨rfl, rfl⟩
 | false =>
  cases h3 : (k == 3) with
  | true =>
   go_enter Tryz.func74, Tryz.ntmps74
   go_wp2
   go_ret
   exact ⟨rfl, rfl⟩
  | false =>
   cases h2 : (k == 2) with
   | true =>
    go_enter Tryz.func74, Tryz.ntmps74
    go_wp2
    go_ret
    exact ⟨rfl, rfl⟩
   | false =>
    cases h4 : (k == 4) with
    | true =>
     go_enter Tryz.func74, Tryz.ntmps74
     go_wp2
     go_ret
     exact ⟨rfl, rfl⟩
    | false =>
     go_enter Tryz.func74, Tryz.ntmps74
     go_wp2
     go_ret
     exact ⟨rfl, rfl⟩
theorem class_0 (n : Int) (t : ByteArray) (w : World) : Ret 92 #[.agg #[.int .i64 0, .int .i64 n, .string t]] w (.int .i64 0) := by
 go_enter Tryz.func92, Tryz.ntmps92
 go_wp2
 go_ret
 exact ⟨rfl, ((Below.refl _ _).alloc (Nat.le_refl _) _).alloc (by simp) _⟩
theorem class_1 (n : Int) (t : ByteArray) (w : World) : Ret 92 #[.agg #[.int .i64 1, .int .i64 n, .string t]] w (.int .i64 1) := by
 go_enter Tryz.func92, Tryz.ntmps92
 go_wp2
 go_ret
 exact ⟨rfl, ((Below.refl _ _).alloc (Nat.le_refl _) _).alloc (by simp) _⟩
theorem class_2 (n : Int) (t : ByteArray) (w : World) : Ret 92 #[.agg #[.int .i64 2, .int .i64 n, .string t]] w (.int .i64 3) := by
 go_enter Tryz.func92, Tryz.ntmps92
 go_wp2
 go_ret
 exact ⟨rfl, ((Below.refl _ _).alloc (Nat.le_refl _) _).alloc (by simp) _⟩
theorem class_3 (n : Int) (t : ByteArray) (w : World) : Ret 92 #[.agg #[.int .i64 3, .int .i64 n, .string t]] w (.int .i64 2) := by
 go_enter Tryz.func92, Tryz.ntmps92
 go_wp2
 go_ret
 exact ⟨rfl, ((Below.refl _ _).alloc (Nat.le_refl _) _).alloc (by simp) _⟩
theorem class_4 (n : Int) (t : ByteArray) (w : World) : Ret 92 #[.agg #[.int .i64 4, .int .i64 n, .string t]] w (.int .i64 4) := by
 go_enter Tryz.func92, Tryz.ntmps92
 go_wp2
 go_ret
 exact ⟨rfl, ((Below.refl _ _).alloc (Nat.le_refl _) _).alloc (by simp) _⟩
theorem class_any (v : Val.V) (w : World) (h : v.k = 0 ∨ v.k = 1 ∨ v.k = 2 ∨ v.k = 3 ∨ v.k = 4) : Ret 92 #[vv v] w (.int .i64 (Val.placeOf v.k)) := by
 obtain ⟨k, n, t⟩ := v
 simp only at h
 rcases h with rfl | rfl | rfl | rfl | rfl
 ·exact class_0 n t w
 ·exact class_1 n t w
 ·exact class_2 n t w
 ·exact class_3 n t w
 ·exact class_4 n t w
theorem isnan_int (a : Int) (w : World) : Calls Tryz.prog 100 #[.int .i64 a] w fun e w' => e = .returned (.bool false) ∧ w = w' := by
 have h : (a != a) = false := by simp
 go_enter Tryz.func100, Tryz.ntmps100
 go_wp2
 go_ret
 exact ⟨rfl, rfl⟩
theorem cmp_int (a b : Int) (w : World) : Calls Tryz.prog 73 #[.int .i64 a, .int .i64 b] w fun e w' => e = .returned (.int .i64 (Val.cmpI a b)) ∧ w = w' := by
 have H1 := Lib.hid (fun w => isnan_int a w)
 have H2 := Lib.hid (fun w => isnan_int b w)
 unfold Val.cmpI
 cases h1 : decide (a < b) with
 | true =>
  go_enter Tryz.func73, Tryz.ntmps73
  go_wp2_with (fail)
  refine (H1.out _).mono ?_
  rintro e w1 ⟨rfl, rfl⟩
  go_wp2_with (fail)
  refine (H2.out _).mono ?_
  rintro e w1 ⟨rfl, rfl⟩
  go_wp2
  go_ret
  exact ⟨rfl, rfl⟩
 | false =>
  cases h2 : decide (b < a) with
  | true =>
   go_enter Tryz.func73, Tryz.ntmps73
   go_wp2_with (fail)
   refine (H1.out _).mono ?_
   rintro e w1 ⟨rfl, rfl⟩
   go_wp2_with (fail)
   refine (H2.out _).mono ?_
   rintro e w1 ⟨rfl, rfl⟩
   go_wp2
   go_ret
   exact ⟨rfl, rfl⟩
  | false =>
   go_enter Tryz.func73, Tryz.ntmps73
   go_wp2_with (fail)
   refine (H1.out _).mono ?_
   rintro e w1 ⟨rfl, rfl⟩
   go_wp2_with (fail)
   refine (H2.out _).mono ?_
   rintro e w1 ⟨rfl, rfl⟩
   go_wp2
   go_ret
   exact ⟨rfl, rfl⟩
theorem isnan_int64 (a : Int) (w : World) : Calls Tryz.prog 101 #[.int .i64 a] w fun e w' => e = .returned (.bool false) ∧ w = w' := by
 have h : (a != a) = false := by simp
 go_enter Tryz.func101, Tryz.ntmps101
 go_wp2
 go_ret
 exact ⟨rfl, rfl⟩
theorem cmp_int64 (a b : Int) (w : World) : Calls Tryz.prog 75 #[.int .i64 a, .int .i64 b] w fun e w' => e = .returned (.int .i64 (Val.cmpI a b)) ∧ w = w' := by
 have H1 := Lib.hid (fun w => isnan_int64 a w)
 have H2 := Lib.hid (fun w => isnan_int64 b w)
 unfold Val.cmpI
 cases h1 : decide (a < b) with
 | true =>
  go_enter Tryz.func75, Tryz.ntmps75
  go_wp2_with (fail)
  refine (H1.out _).mono ?_
  rintro e w1 ⟨rfl, rfl⟩
  go_wp2_with (fail)
  refine (H2.out _).mono ?_
  rintro e w1 ⟨rfl, rfl⟩
  go_wp2
  go_ret
  exact ⟨rfl, rfl⟩
 | false =>
  cases h2 : decide (b < a) with
  | true =>
   go_enter Tryz.func75, Tryz.ntmps75
   go_wp2_with (fail)
   refine (H1.out _).mono ?_
   rintro e w1 ⟨rfl, rfl⟩
   go_wp2_with (fail)
   refine (H2.out _).mono ?_
   rintro e w1 ⟨rfl, rfl⟩
   go_wp2
   go_ret
   exact ⟨rfl, rfl⟩
  | false =>
   go_enter Tryz.func75, Tryz.ntmps75
   go_wp2_with (fail)
   refine (H1.out _).mono ?_
   rintro e w1 ⟨rfl, rfl⟩
   go_wp2_with (fail)
   refine (H2.out _).mono ?_
   rintro e w1 ⟨rfl, rfl⟩
   go_wp2
   go_ret
   exact ⟨rfl, rfl⟩
theorem or3_any (B : Nat) (x y z : Int) (w : World) (c0 : w.cell? ⟨B, 0, none⟩ = some (.int .i64 x)) (c1 : w.cell? ⟨B, 1, none⟩ = some (.int .i64 y)) (c2 : w.cell? ⟨B, 2, none⟩ = some (.int .i64 z)) :
  Calls Tryz.prog 72 #[.slice (some ⟨B, 0, none⟩) 3 3] w fun e w' => e = .returned (.int .i64 (Val.orI x y z)) ∧ w = w' := by
 unfold Val.orI
 go_enter Tryz.func72, Tryz.ntmps72
 go_wp2
 go_loop [8] (fun i => ∃ j : Nat, i = .int .i64 (j : Int) ∧ (j = 0 ∨ (j = 1 ∧ x = 0) ∨ (j = 2 ∧ x = 0 ∧ y = 0) ∨ (j = 3 ∧ x = 0 ∧ y = 0 ∧ z = 0))) (fun i => 3 - (intOf i).toNat)
 case atStart => exact ⟨0, rfl, .inl rfl⟩
 case round =>
  obtain ⟨j, rfl, hj⟩ := hrel
  rcases hj with rfl | ⟨rfl, rfl⟩ | ⟨rfl, rfl, rfl⟩ | ⟨rfl, rfl, rfl, rfl⟩
  ·cases h : (x != 0) with
   | true =>
    go_wp2
    go_ret
    exact ⟨rfl, rfl⟩
   | false =>
    obtain rfl : x = 0 := by simpa using h
    go_wp2
    go_round
    case rel => exact ⟨1, rfl, .inr (.inl (by simp))⟩
    case measure => simp [intOf]
  ·cases h : (y != 0) with
   | true =>
    go_wp2
    go_ret
    exact ⟨rfl, rfl⟩
   | false =>
    obtain rfl : y = 0 := by simpa using h
    go_wp2
    go_round
    case rel => exact ⟨2, rfl, .inr (.inr (.inl (by simp)))⟩
    case measure => simp [intOf]
  ·cases h : (z != 0) with
   | true =>
    go_wp2
    go_ret
    exact ⟨rfl, rfl⟩
   | false =>
    obtain rfl : z = 0 := by simpa using h
    go_wp2
    go_round
    case rel => exact ⟨3, rfl, .inr (.inr (.inr (by simp)))⟩
    case measure => simp [intOf]
  ·go_wp2
   go_ret
   exact ⟨rfl, rfl⟩
end Go.Proofs.YtpiiemneelkpkaaGreatDoor
namespace Go.Proofs.YtpiiemneelkpkaaGreatDoor
open Go.RowKit
set_option linter.unusedVariables false
theorem rint_any (n : Int) (w : World) : Ret 90 #[.int .i64 n] w (.agg #[.int .i64 1, .int .i64 n, .string ⟨#[]⟩]) := by
 go_enter Tryz.func90, Tryz.ntmps90
 go_wp2
 exact bodyPost_ret (v := .agg #[.int .i64 1, .int .i64 n, .string ⟨#[]⟩]) (by simp [results, Tryz.results90, go_sem]) rfl ⟨rfl, (Below.refl _ _).alloc (Nat.le_refl _) _⟩
theorem rbool_true (w : World) : Ret 50 #[.bool true] w (.agg #[.int .i64 2, .int .i64 1, .string ⟨#[]⟩]) := by
 go_enter Tryz.func50, Tryz.ntmps50
 go_wp2
 exact bodyPost_ret (v := .agg #[.int .i64 2, .int .i64 1, .string ⟨#[]⟩]) (by simp [results, Tryz.results50, go_sem]) rfl ⟨rfl, (Below.refl _ _).alloc (Nat.le_refl _) _⟩
theorem rbool_false (w : World) : Ret 50 #[.bool false] w (.agg #[.int .i64 2, .int .i64 0, .string ⟨#[]⟩]) := by
 go_enter Tryz.func50, Tryz.ntmps50
 go_wp2
 exact bodyPost_ret (v := .agg #[.int .i64 2, .int .i64 0, .string ⟨#[]⟩]) (by simp [results, Tryz.results50, go_sem]) rfl ⟨rfl, (Below.refl _ _).alloc (Nat.le_refl _) _⟩
theorem rtextv_ok (t : ByteArray) (w : World) (h : decide ((32767 : Int) < (t.size : Int)) = false) : Ret 58 #[.string t] w (.agg #[.int .i64 3, .int .i64 0, .string t]) := by
 go_enter Tryz.func58, Tryz.ntmps58
 go_wp2
 exact bodyPost_ret (v := .agg #[.int .i64 3, .int .i64 0, .string t]) (by simp [results, Tryz.results58, go_sem]) rfl ⟨rfl, (Below.refl _ _).alloc (Nat.le_refl _) _⟩
theorem rtextv_far (t : ByteArray) (w : World) (h : decide ((32767 : Int) < (t.size : Int)) = true) : Ret 58 #[.string t] w (.agg #[.int .i64 4, .int .i64 4, .string ⟨#[]⟩]) := by
 have HE := Lib.hid (fun w => rerr_any 4 w)
 go_enter Tryz.func58, Tryz.ntmps58
 go_wp2_with (fail)
 refine (HE.out _).mono ?_
 rintro e w1 ⟨rfl, hb1⟩
 have hx := (hb1.block w.heap.size (by simp)).trans (heap_alloc_new _ _)
 have hs : Below w.heap.size w w1 := alloc_below hb1
 clear hb1
 obtain ⟨x0, x1, x2⟩ := val_cells hx
 obtain ⟨f0, f1, f2⟩ := val_frozen hx
 clear hx
 go_wp2
 exact bodyPost_ret (v := .agg #[.int .i64 4, .int .i64 4, .string ⟨#[]⟩]) (by simp [results, Tryz.results58, go_sem, x0, x1, x2]) rfl ⟨rfl, set3 hs (by simp)⟩
end Go.Proofs.YtpiiemneelkpkaaGreatDoor
