/- Contracts of quadrilleref1's of, fits, told, sum, product, gcd: signs and magnitudes. -/
import Derived.Test.YtdbjmjeiaajdiaaDoorRefP
import Derived.Test.YtdbjmjeiaajdiaaDoorProg
import Derived.WalkKit
import Derived.WalkSpells
import Derived.WalkLawsBesides
import Derived.Lib.Hide
import Derived.Below
namespace Go.Proofs.YtdbjmjeiaajdiaaDoor
open Go.RowKit
set_option linter.unusedVariables false

/-- A number of the reference. -/
def numV (neg over : Bool) (m : Nat) : Value := .agg #[.bool neg, .bool over, .int .u64 (m : Int)]
theorem of_any (n : Int) (m : Nat) (b : Bool) (w : World) (h1 : -9223372036854775808 ≤ n) (h2 : n ≤ 9223372036854775807) (hm : n.natAbs = m) (hb : decide (n < 0) = b) :
    Calls Tryd.prog 96 #[.int .i64 n] w fun e w' => e = .returned (.agg #[.bool b, .bool false, .int .u64 (m : Int)]) ∧ Below w.heap.size w w' := by
  by_cases h : n < 0
  · obtain rfl : b = true := by rw [← hb]; exact decide_eq_true h
    have e1 : IntKind.i64.wrap (n + 1) = n + 1 := by rw [IntKind.wrap_i64]; omega
    have e2 : IntKind.i64.wrap (-(n + 1)) = -(n + 1) := by rw [IntKind.wrap_i64]; omega
    have e3 : IntKind.u64.wrap (-(n + 1)) = -(n + 1) := by simp [IntKind.wrap, IntKind.bits, IntKind.signed]; omega
    have e4 : IntKind.u64.wrap (-(n + 1) + 1) = (m : Int) := by simp [IntKind.wrap, IntKind.bits, IntKind.signed]; omega
    clear hm hb
    go_enter Tryd.func96, Tryd.ntmps96
    go_wp2
    exact bodyPost_ret (v := .agg #[.bool true, .bool false, .int .u64 (m : Int)]) (by simp [results, Tryd.results96, go_sem]) rfl ⟨rfl, (Below.refl _ _).alloc (Nat.le_refl _) _⟩
  · obtain rfl : b = false := by rw [← hb]; exact decide_eq_false h
    obtain rfl : n = (m : Int) := by omega
    clear hm hb h
    go_enter Tryd.func96, Tryd.ntmps96
    go_wp2
    exact bodyPost_ret (v := .agg #[.bool false, .bool false, .int .u64 (m : Int)]) (by simp [results, Tryd.results96, go_sem]) rfl ⟨rfl, (Below.refl _ _).alloc (Nat.le_refl _) _⟩
theorem fits_over (neg : Bool) (m : Nat) (w : World) : Calls Tryd.prog 114 #[.agg #[.bool neg, .bool true, .int .u64 (m : Int)]] w fun e w' => e = .returned (.tuple #[.int .i64 0, .bool false]) ∧ Below w.heap.size w w' := by
  go_enter Tryd.func114, Tryd.ntmps114
  go_wp2
  go_ret2
  exact ⟨rfl, (Below.refl _ _).alloc (Nat.le_refl _) _⟩
theorem fits_great (neg : Bool) (m : Nat) (w : World) (t1 : decide (9223372036854775808 < (m : Int)) = true) : Calls Tryd.prog 114 #[.agg #[.bool neg, .bool false, .int .u64 (m : Int)]] w fun e w' => e = .returned (.tuple #[.int .i64 0, .bool false]) ∧ Below w.heap.size w w' := by
  go_enter Tryd.func114, Tryd.ntmps114
  go_wp2
  go_ret2
  exact ⟨rfl, (Below.refl _ _).alloc (Nat.le_refl _) _⟩
theorem fits_edge (m : Nat) (w : World) (t1 : decide (9223372036854775808 < (m : Int)) = false) (t2 : ((m : Int) == 9223372036854775808) = true) : Calls Tryd.prog 114 #[.agg #[.bool false, .bool false, .int .u64 (m : Int)]] w fun e w' => e = .returned (.tuple #[.int .i64 0, .bool false]) ∧ Below w.heap.size w w' := by
  go_enter Tryd.func114, Tryd.ntmps114
  go_wp2
  go_ret2
  exact ⟨rfl, (Below.refl _ _).alloc (Nat.le_refl _) _⟩
theorem fits_least (m : Nat) (w : World) (t1 : decide (9223372036854775808 < (m : Int)) = false) (t2 : ((m : Int) == 9223372036854775808) = true) : Calls Tryd.prog 114 #[.agg #[.bool true, .bool false, .int .u64 (m : Int)]] w fun e w' => e = .returned (.tuple #[.int .i64 (-9223372036854775808), .bool true]) ∧ Below w.heap.size w w' := by
  go_enter Tryd.func114, Tryd.ntmps114
  go_wp2
  go_ret2
  exact ⟨rfl, (Below.refl _ _).alloc (Nat.le_refl _) _⟩
theorem fits_neg (m : Nat) (w : World) (h : m ≤ 9223372036854775807) (t1 : decide (9223372036854775808 < (m : Int)) = false) (t2 : ((m : Int) == 9223372036854775808) = false) : Calls Tryd.prog 114 #[.agg #[.bool true, .bool false, .int .u64 (m : Int)]] w fun e w' => e = .returned (.tuple #[.int .i64 (-(m : Int)), .bool true]) ∧ Below w.heap.size w w' := by
  have e1 : IntKind.i64.wrap (m : Int) = (m : Int) := by rw [IntKind.wrap_i64]; omega
  have e2 : IntKind.i64.wrap (-(m : Int)) = -(m : Int) := by rw [IntKind.wrap_i64]; omega
  go_enter Tryd.func114, Tryd.ntmps114
  go_wp2
  go_ret2
  exact ⟨rfl, (Below.refl _ _).alloc (Nat.le_refl _) _⟩
theorem fits_pos (m : Nat) (w : World) (h : m ≤ 9223372036854775807) (t1 : decide (9223372036854775808 < (m : Int)) = false) (t2 : ((m : Int) == 9223372036854775808) = false) : Calls Tryd.prog 114 #[.agg #[.bool false, .bool false, .int .u64 (m : Int)]] w fun e w' => e = .returned (.tuple #[.int .i64 (m : Int), .bool true]) ∧ Below w.heap.size w w' := by
  have e1 : IntKind.i64.wrap (m : Int) = (m : Int) := by rw [IntKind.wrap_i64]; omega
  go_enter Tryd.func114, Tryd.ntmps114
  go_wp2
  go_ret2
  exact ⟨rfl, (Below.refl _ _).alloc (Nat.le_refl _) _⟩
/-- What fits tells: the number and true, where it is one of 64 bits and the mark is not set; else 0 and false. -/
theorem fits_any' (neg over : Bool) (m : Nat) (v : Int) (b : Bool) (w : World) (hv : Ref.rV neg over m = v) (hb : Ref.rB neg over m = b) :
    Calls Tryd.prog 114 #[.agg #[.bool neg, .bool over, .int .u64 (m : Int)]] w fun e w' => e = .returned (.tuple #[.int .i64 v, .bool b]) ∧ Below w.heap.size w w' := by
  subst hv hb
  unfold Ref.rV Ref.rB
  cases over with
  | true => exact fits_over neg m w
  | false =>
    simp only [cond_false, Bool.not_false, Bool.true_and]
    have E : ∀ v, PowG.Fits v → Ref.fitV v = v ∧ Ref.fitB v = true := fun v h => by unfold Ref.fitV Ref.fitB; rw [if_pos h, decide_eq_true h]; exact ⟨rfl, rfl⟩
    have E' : ∀ v, ¬ PowG.Fits v → Ref.fitV v = 0 ∧ Ref.fitB v = false := fun v h => by unfold Ref.fitV Ref.fitB; rw [if_neg h, decide_eq_false h]; exact ⟨rfl, rfl⟩
    rcases Nat.lt_trichotomy m 9223372036854775808 with h | h | h
    · have t1 : decide (9223372036854775808 < (m : Int)) = false := decide_eq_false (by omega)
      have t2 : ((m : Int) == 9223372036854775808) = false := by rw [beq_eq_false_iff_ne]; omega
      cases neg with
      | true =>
        have e : Ref.val true m = -(m : Int) := rfl
        rw [e, (E _ (by unfold PowG.Fits; omega)).1, (E _ (by unfold PowG.Fits; omega)).2]
        exact fits_neg m w (by omega) t1 t2
      | false =>
        have e : Ref.val false m = (m : Int) := rfl
        rw [e, (E _ (by unfold PowG.Fits; omega)).1, (E _ (by unfold PowG.Fits; omega)).2]
        exact fits_pos m w (by omega) t1 t2
    · have t1 : decide (9223372036854775808 < (m : Int)) = false := decide_eq_false (by omega)
      have t2 : ((m : Int) == 9223372036854775808) = true := by rw [beq_iff_eq]; omega
      cases neg with
      | true =>
        have e : Ref.val true m = -9223372036854775808 := by unfold Ref.val; simp only [cond_true]; omega
        rw [e, (E _ (by unfold PowG.Fits; omega)).1, (E _ (by unfold PowG.Fits; omega)).2]
        exact fits_least m w t1 t2
      | false =>
        have e : Ref.val false m = (m : Int) := rfl
        rw [e, (E' _ (by unfold PowG.Fits; omega)).1, (E' _ (by unfold PowG.Fits; omega)).2]
        exact fits_edge m w t1 t2
    · have t1 : decide (9223372036854775808 < (m : Int)) = true := decide_eq_true (by omega)
      have hn : ¬ PowG.Fits (Ref.val neg m) := by unfold PowG.Fits Ref.val; cases neg <;> simp <;> omega
      rw [(E' _ hn).1, (E' _ hn).2]
      exact fits_great neg m w t1
theorem told_any (neg over : Bool) (m : Nat) (v : Int) (b : Bool) (w : World) (hv : Ref.rV neg over m = v) (hb : Ref.rB neg over m = b) :
    Calls Tryd.prog 95 #[.agg #[.bool neg, .bool over, .int .u64 (m : Int)]] w fun e w' => e = .returned (.tuple #[.int .i64 v, .int .i64 (cond b 0 13)]) ∧ Below w.heap.size w w' := by
  have H := Lib.hid (fun w => fits_any' neg over m v b w hv hb)
  have hv0 : b = false → v = 0 := by
    intro e
    subst e
    rw [← hv]
    unfold Ref.rB at hb
    unfold Ref.rV
    cases over with
    | true => rfl
    | false =>
      simp only [Bool.not_false, Bool.true_and] at hb
      unfold Ref.fitB at hb
      simp only [cond_false]
      unfold Ref.fitV
      rw [if_neg (of_decide_eq_false hb)]
  clear hv hb
  cases b with
  | true =>
    clear hv0
    simp only [cond_true]
    go_enter Tryd.func95, Tryd.ntmps95
    go_wp2_with (fail)
    refine (H.out _).mono ?_
    rintro e w1 ⟨rfl, hb1⟩
    go_wp2
    go_ret2
    exact ⟨rfl, ((Below.refl _ _).alloc (Nat.le_refl _) _).trans (hb1.mono (by simp))⟩
  | false =>
    obtain rfl := hv0 rfl
    simp only [cond_false]
    go_enter Tryd.func95, Tryd.ntmps95
    go_wp2_with (fail)
    refine (H.out _).mono ?_
    rintro e w1 ⟨rfl, hb1⟩
    go_wp2
    go_ret2
    exact ⟨rfl, ((Below.refl _ _).alloc (Nat.le_refl _) _).trans (hb1.mono (by simp))⟩
end Go.Proofs.YtdbjmjeiaajdiaaDoor
