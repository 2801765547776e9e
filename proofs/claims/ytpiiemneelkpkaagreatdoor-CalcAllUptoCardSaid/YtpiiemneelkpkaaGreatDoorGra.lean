import Derived.Test.YtpiiemneelkpkaaGreatDoorGpl
import Derived.WalkSpells
import Derived.WalkLawsBesides
import Derived.Lib.Hide
import Derived.StillTailTactics
import Derived.Deep.RegionHeld3
import Derived.Test.YtpiiemneelkpkaaGreatDoorBox
set_option maxRecDepth 100000
namespace Go.Proofs.YtpiiemneelkpkaaGreatDoor
open Go.RowKit
set_option linter.unusedVariables false
theorem of_any (n : Int) (m : Nat) (b : Bool) (w : World) (h1 : -9223372036854775808 ≤ n) (h2 : n ≤ 9223372036854775807) (hm : n.natAbs = m) (hb : decide (n < 0) = b) :
  Ret 95 #[.int .i64 n] w (.agg #[.bool b, .bool false, .int .u64 (m : Int)]) := by
 by_cases h : n < 0
 ·obtain rfl : b = true := by rw [← hb]; exact decide_eq_true h
  have e1 : IntKind.i64.wrap (n + 1) = n + 1 := by rw [IntKind.wrap_i64]; omega
  have e2 : IntKind.i64.wrap (-(n + 1)) = -(n + 1) := by rw [IntKind.wrap_i64]; omega
  have e3 : IntKind.u64.wrap (-(n + 1)) = -(n + 1) := by simp [IntKind.wrap, IntKind.bits, IntKind.signed]; omega
  have e4 : IntKind.u64.wrap (-(n + 1) + 1) = (m : Int) := by simp [IntKind.wrap, IntKind.bits, IntKind.signed]; omega
  clear hm hb
  go_enter Tryz.func95, Tryz.ntmps95
  go_wp2
  exact bodyPost_ret (v := .agg #[.bool true, .bool false, .int .u64 (m : Int)]) (by simp [results, Tryz.results95, go_sem]) rfl ⟨rfl, (Below.refl _ _).alloc (Nat.le_refl _) _⟩
 ·obtain rfl : b = false := by rw [← hb]; exact decide_eq_false h
  obtain rfl : n = (m : Int) := by omega
  clear hm hb h
  go_enter Tryz.func95, Tryz.ntmps95
  go_wp2
  exact bodyPost_ret (v := .agg #[.bool false, .bool false, .int .u64 (m : Int)]) (by simp [results, Tryz.results95, go_sem]) rfl ⟨rfl, (Below.refl _ _).alloc (Nat.le_refl _) _⟩
theorem fits_over (neg : Bool) (m : Nat) (w : World) : Ret 93 #[.agg #[.bool neg, .bool true, .int .u64 (m : Int)]] w (.tuple #[.int .i64 0, .bool false]) := by
 go_enter Tryz.func93, Tryz.ntmps93
 go_wp2
 go_ret2
 exact ⟨rfl, (Below.refl _ _).alloc (Nat.le_refl _) _⟩
theorem fits_great (neg : Bool) (m : Nat) (w : World) (t1 : decide (9223372036854775808 < (m : Int)) = true) : Ret 93 #[.agg #[.bool neg, .bool false, .int .u64 (m : Int)]] w (.tuple #[.int .i64 0, .bool false]) := by
 go_enter Tryz.func93, Tryz.ntmps93
 go_wp2
 go_ret2
 exact ⟨rfl, (Below.refl _ _).alloc (Nat.le_refl _) _⟩
theorem fits_edge (m : Nat) (w : World) (t1 : decide (9223372036854775808 < (m : Int)) = false) (t2 : ((m : Int) == 9223372036854775808) = true) : Ret 93 #[.agg #[.bool false, .bool false, .int .u64 (m : Int)]] w (.tuple #[.int .i64 0, .bool false]) := by
 go_enter Tryz.func93, Tryz.ntmps93
 go_wp2
 go_ret2
 exact ⟨rfl, (Below.refl _ _).alloc (Nat.le_refl _) _⟩
theorem fits_least (m : Nat) (w : World) (t1 : decide (9223372036854775808 < (m : Int)) = false) (t2 : ((m : Int) == 9223372036854775808) = true) : Ret 93 #[.agg #[.bool true, .bool false, .int .u64 (m : Int)]] w (.tuple #[.int .i64 (-9223372036854775808), .bool true]) := by
 go_enter Tryz.func93, Tryz.ntmps93
 go_wp2
 go_ret2
 exact ⟨rfl, (Below.refl _ _).alloc (Nat.le_refl _) _⟩
theorem fits_neg (m : Nat) (w : World) (h : m ≤ 9223372036854775807) (t1 : decide (9223372036854775808 < (m : Int)) = false) (t2 : ((m : Int) == 9223372036854775808) = false) : Ret 93 #[.agg #[.bool true, .bool false, .int .u64 (m : Int)]] w (.tuple #[.int .i64 (-(m : Int)), .bool true]) := by
 have e1 : IntKind.i64.wrap (m : Int) = (m : Int) := by rw [IntKind.wrap_i64]; omega
 have e2 : IntKind.i64.wrap (-(m : Int)) = -(m : Int) := by rw [IntKind.wrap_i64]; omega
 go_enter Tryz.func93, Tryz.ntmps93
 go_wp2
 go_ret2
 exact ⟨rfl, (Below.refl _ _).alloc (Nat.le_refl _) _⟩
theorem fits_pos (m : Nat) (w : World) (h : m ≤ 9223372036854775807) (t1 : decide (9223372036854775808 < (m : Int)) = false) (t2 : ((m : Int) == 9223372036854775808) = false) : Ret 93 #[.agg #[.bool false, .bool false, .int .u64 (m : Int)]] w (.tuple #[.int .i64 (m : Int), .bool true]) := by
 have e1 : IntKind.i64.wrap (m : Int) = (m : Int) := by rw [IntKind.wrap_i64]; omega
 go_enter Tryz.func93, Tryz.ntmps93
 go_wp2
 go_ret2
 exact ⟨rfl, (Below.refl _ _).alloc (Nat.le_refl _) _⟩
theorem fits_any' (neg over : Bool) (m : Nat) (v : Int) (b : Bool) (w : World) (hv : Ref.rV neg over m = v) (hb : Ref.rB neg over m = b) :
  Ret 93 #[.agg #[.bool neg, .bool over, .int .u64 (m : Int)]] w (.tuple #[.int .i64 v, .bool b]) := by
 subst hv hb
 unfold Ref.rV Ref.rB
 cases over with
 | true => exact fits_over neg m w
 | false =>
  simp only [cond_false, Bool.not_false, Bool.true_and]
  have E : ∀ v, PowG.Fits v → Ref.fitV v = v ∧ Ref.fitB v = true := fun v h => by unfold Ref.fitV Ref.fitB; rw [if_pos h, decide_eq_true h]; exact ⟨rfl, rfl⟩
  have E' : ∀ v, ¬ PowG.Fits v → Ref.fitV v = 0 ∧ Ref.fitB v = false := fun v h => by unfold Ref.fitV Ref.fitB; rw [if_neg h, decide_eq_false h]; exact ⟨rfl, rfl⟩
  rcases Nat.lt_trichotomy m 9223372036854775808 with h | h | h
  ·have t1 : decide (9223372036854775808 < (m : Int)) = false := decide_eq_false (by omega)
   have t2 : ((m : Int) == 9223372036854775808) = false := by rw [beq_eq_false_iff_ne]; omega
   cases neg with
   | true =>
    have e : Ref.val true m = -(m : Int) := rfl
    rw [e, (E _ (by unfold PowG.Fits; omega)).1, (E _ (by unfold PowG.Fits; omega)).2]
    exact fits_neg m w (by omega) t1 t2
   | false =>
    have e : Ref.val false m = (m : Int) := rfl
    rw [e, (E _ (by unfold PowG.Fits; omega)).1, (E _ (by unfold PowG.Fits; omega)).2]
    exact fits_pos m w (by omega) t1 t2
  ·have t1 : decide (9223372036854775808 < (m : Int)) = false := decide_eq_false (by omega)
   have t2 : ((m : Int) == 9223372036854775808) = true := by rw [beq_iff_eq]; omega
   cases neg with
   | true =>
    have e : Ref.val true m = -9223372036854775808 := by unfold Ref.val; simp only [cond_true]; omega
    rw [e, (E _ (by unfold PowG.Fits; omega)).1, (E _ (by unfold PowG.Fits; omega)).2]
    exact fits_least m w t1 t2
   | false =>
    have e : Ref.val false m = (m : Int) := rfl
    rw [e, (E' _ (by unfold PowG.Fits; omega)).1, (E' _ (by unfold PowG.Fits; omega)).2]
    exact fits_edge m w t1 t2
  ·have t1 : decide (9223372036854775808 < (m : Int)) = true := decide_eq_true (by omega)
   have hn : ¬ PowG.Fits (Ref.val neg m) := by unfold PowG.Fits Ref.val; cases neg <;> simp <;> omega
   rw [(E' _ hn).1, (E' _ hn).2]
   exact fits_great neg m w t1
theorem told_any (neg over : Bool) (m : Nat) (v : Int) (b : Bool) (w : World) (hv : Ref.rV neg over m = v) (hb : Ref.rB neg over m = b) :
  Ret 97 #[.agg #[.bool neg, .bool over, .int .u64 (m : Int)]] w (.tuple #[.int .i64 v, .int .i64 (cond b 0 13)]) := by
 have H := Lib.hid (fun w => fits_any' neg over m v b w hv hb)
 have hv0 : b = false → v = 0 := by
  intro e
  subst e
  rw [← hv]
  unfold Ref.rB at hb
  unfold Ref.rV
  cases over with
  | true => rfl
  | false =>
   simp only [Bool.not_false, Bool.true_and] at hb
   unfold Ref.fitB at hb
   simp only [cond_false]
   unfold Ref.fitV
   rw [if_neg (of_decide_eq_false hb)]
 clear hv hb
 cases b with
 | true =>
  clear hv0
  simp only [cond_true]
  go_enter Tryz.func97, Tryz.ntmps97
  go_wp2_with (fail)
  refine (H.out _).mono ?_
  rintro e w1 ⟨rfl, hb1⟩
  go_wp2
  go_ret2
  exact ⟨rfl, ((Below.refl _ _).alloc (Nat.le_refl _) _).trans (hb1.mono (by simp))⟩
 | false =>
  obtain rfl := hv0 rfl
  simp only [cond_false]
  go_enter Tryz.func97, Tryz.ntmps97
  go_wp2_with (fail)
  refine (H.out _).mono ?_
  rintro e w1 ⟨rfl, hb1⟩
  go_wp2
  go_ret2
  exact ⟨rfl, ((Below.refl _ _).alloc (Nat.le_refl _) _).trans (hb1.mono (by simp))⟩
end Go.Proofs.YtpiiemneelkpkaaGreatDoor
namespace Go.Proofs.YtpiiemneelkpkaaGreatDoor
open Go.RowKit
set_option linter.unusedVariables false
theorem sum_tt0 (o1 o2 : Bool) (m1 m2 m : Nat) (w : World) (t1 : decide (m < m1) = false) (e1 : IntKind.u64.wrap ((m1 : Int) + (m2 : Int)) = (m : Int)) : Ret 94 #[.agg #[.bool true, .bool o1, .int .u64 (m1 : Int)], .agg #[.bool true, .bool o2, .int .u64 (m2 : Int)]] w (.agg #[.bool true, .bool false, .int .u64 (m : Int)]) := by
 go_enter Tryz.func94, Tryz.ntmps94
 go_wp2
 exact bodyPost_ret (v := .agg #[.bool true, .bool false, .int .u64 (m : Int)]) (by simp [results, Tryz.results94, go_sem]) rfl ⟨rfl, ((((Below.refl _ _).alloc (Nat.le_refl _) _).alloc (by simp) _).alloc (by simp; omega) _)⟩
theorem sum_tt1 (o1 o2 : Bool) (m1 m2 m : Nat) (w : World) (t1 : decide (m < m1) = true) (e1 : IntKind.u64.wrap ((m1 : Int) + (m2 : Int)) = (m : Int)) : Ret 94 #[.agg #[.bool true, .bool o1, .int .u64 (m1 : Int)], .agg #[.bool true, .bool o2, .int .u64 (m2 : Int)]] w (.agg #[.bool true, .bool true, .int .u64 (m : Int)]) := by
 go_enter Tryz.func94, Tryz.ntmps94
 go_wp2
 exact bodyPost_ret (v := .agg #[.bool true, .bool true, .int .u64 (m : Int)]) (by simp [results, Tryz.results94, go_sem]) rfl ⟨rfl, ((((Below.refl _ _).alloc (Nat.le_refl _) _).alloc (by simp) _).alloc (by simp; omega) _)⟩
theorem sum_tf0 (o1 o2 : Bool) (m1 m2 m : Nat) (w : World) (t1 : decide (m2 ≤ m1) = true) (e1 : IntKind.u64.wrap ((m1 : Int) - (m2 : Int)) = (m : Int)) : Ret 94 #[.agg #[.bool true, .bool o1, .int .u64 (m1 : Int)], .agg #[.bool false, .bool o2, .int .u64 (m2 : Int)]] w (.agg #[.bool true, .bool false, .int .u64 (m : Int)]) := by
 go_enter Tryz.func94, Tryz.ntmps94
 go_wp2
 exact bodyPost_ret (v := .agg #[.bool true, .bool false, .int .u64 (m : Int)]) (by simp [results, Tryz.results94, go_sem]) rfl ⟨rfl, ((((Below.refl _ _).alloc (Nat.le_refl _) _).alloc (by simp) _).alloc (by simp; omega) _)⟩
theorem sum_tf1 (o1 o2 : Bool) (m1 m2 m : Nat) (w : World) (t1 : decide (m2 ≤ m1) = false) (e1 : IntKind.u64.wrap ((m2 : Int) - (m1 : Int)) = (m : Int)) : Ret 94 #[.agg #[.bool true, .bool o1, .int .u64 (m1 : Int)], .agg #[.bool false, .bool o2, .int .u64 (m2 : Int)]] w (.agg #[.bool false, .bool false, .int .u64 (m : Int)]) := by
 go_enter Tryz.func94, Tryz.ntmps94
 go_wp2
 exact bodyPost_ret (v := .agg #[.bool false, .bool false, .int .u64 (m : Int)]) (by simp [results, Tryz.results94, go_sem]) rfl ⟨rfl, ((((Below.refl _ _).alloc (Nat.le_refl _) _).alloc (by simp) _).alloc (by simp; omega) _)⟩
theorem sum_ft0 (o1 o2 : Bool) (m1 m2 m : Nat) (w : World) (t1 : decide (m2 ≤ m1) = true) (e1 : IntKind.u64.wrap ((m1 : Int) - (m2 : Int)) = (m : Int)) : Ret 94 #[.agg #[.bool false, .bool o1, .int .u64 (m1 : Int)], .agg #[.bool true, .bool o2, .int .u64 (m2 : Int)]] w (.agg #[.bool false, .bool false, .int .u64 (m : Int)]) := by
 go_enter Tryz.func94, Tryz.ntmps94
 go_wp2
 exact bodyPost_ret (v := .agg #[.bool false, .bool false, .int .u64 (m : Int)]) (by simp [results, Tryz.results94, go_sem]) rfl ⟨rfl, ((((Below.refl _ _).alloc (Nat.le_refl _) _).alloc (by simp) _).alloc (by simp; omega) _)⟩
theorem sum_ft1 (o1 o2 : Bool) (m1 m2 m : Nat) (w : World) (t1 : decide (m2 ≤ m1) = false) (e1 : IntKind.u64.wrap ((m2 : Int) - (m1 : Int)) = (m : Int)) : Ret 94 #[.agg #[.bool false, .bool o1, .int .u64 (m1 : Int)], .agg #[.bool true, .bool o2, .int .u64 (m2 : Int)]] w (.agg #[.bool true, .bool false, .int .u64 (m : Int)]) := by
 go_enter Tryz.func94, Tryz.ntmps94
 go_wp2
 exact bodyPost_ret (v := .agg #[.bool true, .bool false, .int .u64 (m : Int)]) (by simp [results, Tryz.results94, go_sem]) rfl ⟨rfl, ((((Below.refl _ _).alloc (Nat.le_refl _) _).alloc (by simp) _).alloc (by simp; omega) _)⟩
theorem sum_ff0 (o1 o2 : Bool) (m1 m2 m : Nat) (w : World) (t1 : decide (m < m1) = false) (e1 : IntKind.u64.wrap ((m1 : Int) + (m2 : Int)) = (m : Int)) : Ret 94 #[.agg #[.bool false, .bool o1, .int .u64 (m1 : Int)], .agg #[.bool false, .bool o2, .int .u64 (m2 : Int)]] w (.agg #[.bool false, .bool false, .int .u64 (m : Int)]) := by
 go_enter Tryz.func94, Tryz.ntmps94
 go_wp2
 exact bodyPost_ret (v := .agg #[.bool false, .bool false, .int .u64 (m : Int)]) (by simp [results, Tryz.results94, go_sem]) rfl ⟨rfl, ((((Below.refl _ _).alloc (Nat.le_refl _) _).alloc (by simp) _).alloc (by simp; omega) _)⟩
theorem sum_ff1 (o1 o2 : Bool) (m1 m2 m : Nat) (w : World) (t1 : decide (m < m1) = true) (e1 : IntKind.u64.wrap ((m1 : Int) + (m2 : Int)) = (m : Int)) : Ret 94 #[.agg #[.bool false, .bool o1, .int .u64 (m1 : Int)], .agg #[.bool false, .bool o2, .int .u64 (m2 : Int)]] w (.agg #[.bool false, .bool true, .int .u64 (m : Int)]) := by
 go_enter Tryz.func94, Tryz.ntmps94
 go_wp2
 exact bodyPost_ret (v := .agg #[.bool false, .bool true, .int .u64 (m : Int)]) (by simp [results, Tryz.results94, go_sem]) rfl ⟨rfl, ((((Below.refl _ _).alloc (Nat.le_refl _) _).alloc (by simp) _).alloc (by simp; omega) _)⟩
theorem sum_any (n1 o1 n2 o2 n o : Bool) (m1 m2 m : Nat) (w : World) (h1 : m1 < 18446744073709551616) (h2 : m2 < 18446744073709551616) (hn : Ref.sumN n1 m1 n2 m2 = n) (ho : Ref.sumO n1 m1 n2 m2 = o) (hm : Ref.sumM n1 m1 n2 m2 = m) :
  Ret 94 #[.agg #[.bool n1, .bool o1, .int .u64 (m1 : Int)], .agg #[.bool n2, .bool o2, .int .u64 (m2 : Int)]] w (.agg #[.bool n, .bool o, .int .u64 (m : Int)]) := by
 have W1 : m = (m1 + m2) % 18446744073709551616 → IntKind.u64.wrap ((m1 : Int) + (m2 : Int)) = (m : Int) := fun e => by simp [IntKind.wrap, IntKind.bits, IntKind.signed]; omega
 have W2 : ∀ a b : Nat, a < 18446744073709551616 → b ≤ a → m = a - b → IntKind.u64.wrap ((a : Int) - (b : Int)) = (m : Int) := fun a b _ _ e => by simp [IntKind.wrap, IntKind.bits, IntKind.signed]; omega
 unfold Ref.sumN at hn
 unfold Ref.sumO at ho
 unfold Ref.sumM at hm
 by_cases hs : n1 = n2
 ·subst hs
  simp only [beq_self_eq_true, cond_true, Bool.true_and] at hn ho hm
  subst hn
  have e1 := W1 hm.symm
  by_cases hov : 18446744073709551616 ≤ m1 + m2
  ·have t1 : decide (m < m1) = true := decide_eq_true (by omega)
   obtain rfl : o = true := by rw [← ho]; exact decide_eq_true hov
   cases n1
   ·exact sum_ff1 o1 o2 m1 m2 m w t1 e1
   ·exact sum_tt1 o1 o2 m1 m2 m w t1 e1
  ·have t1 : decide (m < m1) = false := decide_eq_false (by omega)
   obtain rfl : o = false := by rw [← ho]; exact decide_eq_false hov
   cases n1
   ·exact sum_ff0 o1 o2 m1 m2 m w t1 e1
   ·exact sum_tt0 o1 o2 m1 m2 m w t1 e1
 ·have hb : (n1 == n2) = false := by simpa using hs
  rw [hb] at hn ho hm
  simp only [cond_false, Bool.false_and] at hn ho hm
  subst ho
  by_cases hle : m2 ≤ m1
  ·rw [decide_eq_true hle] at hn hm
   simp only [cond_true] at hn hm
   subst hn
   have t1 : decide (m2 ≤ m1) = true := decide_eq_true (by omega)
   have e1 := W2 m1 m2 h1 hle hm.symm
   cases n1 <;> cases n2
   ·exact absurd rfl hs
   ·exact sum_ft0 o1 o2 m1 m2 m w t1 e1
   ·exact sum_tf0 o1 o2 m1 m2 m w t1 e1
   ·exact absurd rfl hs
  ·rw [decide_eq_false hle] at hn hm
   simp only [cond_false] at hn hm
   subst hn
   have t1 : decide (m2 ≤ m1) = false := decide_eq_false (by omega)
   have e1 := W2 m2 m1 h2 (by omega) hm.symm
   cases n1 <;> cases n2
   ·exact absurd rfl hs
   ·exact sum_ft1 o1 o2 m1 m2 m w t1 e1
   ·exact sum_tf1 o1 o2 m1 m2 m w t1 e1
   ·exact absurd rfl hs
theorem prod_zero (n1 n2 n : Bool) (m2 : Nat) (w : World) (tn : (!(n1 == n2)) = n) : Ret 96 #[.agg #[.bool n1, .bool false, .int .u64 0], .agg #[.bool n2, .bool false, .int .u64 (m2 : Int)]] w (.agg #[.bool n, .bool false, .int .u64 0]) := by
 go_enter Tryz.func96, Tryz.ntmps96
 go_wp2
 have hx : ((((w.alloc (.cells #[.bool n1, .bool false, .int .u64 0] 109)).alloc (.cells #[.bool n2, .bool false, .int .u64 (m2 : Int)] 109)).alloc (.cells #[.bool false, .bool false, .int .u64 0] 109))).heap[w.heap.size]? = some (.cells #[.bool n1, .bool false, .int .u64 0] 109 (0, 0)) := by
  rw [Below.heap_alloc _ _ _ (by simp; omega), Below.heap_alloc _ _ _ (by simp), heap_alloc_new]
 have hy : ((((w.alloc (.cells #[.bool n1, .bool false, .int .u64 0] 109)).alloc (.cells #[.bool n2, .bool false, .int .u64 (m2 : Int)] 109)).alloc (.cells #[.bool false, .bool false, .int .u64 0] 109))).heap[w.heap.size + 1]? = some (.cells #[.bool n2, .bool false, .int .u64 (m2 : Int)] 109 (0, 0)) := by
  rw [Below.heap_alloc _ _ _ (by simp), show w.heap.size + 1 = (w.alloc (.cells #[.bool n1, .bool false, .int .u64 0] 109)).heap.size by simp, heap_alloc_new]
 have hz : ((((w.alloc (.cells #[.bool n1, .bool false, .int .u64 0] 109)).alloc (.cells #[.bool n2, .bool false, .int .u64 (m2 : Int)] 109)).alloc (.cells #[.bool false, .bool false, .int .u64 0] 109))).heap[w.heap.size + 1 + 1]? = some (.cells #[.bool false, .bool false, .int .u64 0] 109 (0, 0)) := by
  rw [show w.heap.size + 1 + 1 = ((w.alloc (.cells #[.bool n1, .bool false, .int .u64 0] 109)).alloc (.cells #[.bool n2, .bool false, .int .u64 (m2 : Int)] 109)).heap.size by simp, heap_alloc_new]
 have hb : Below w.heap.size w ((((w.alloc (.cells #[.bool n1, .bool false, .int .u64 0] 109)).alloc (.cells #[.bool n2, .bool false, .int .u64 (m2 : Int)] 109)).alloc (.cells #[.bool false, .bool false, .int .u64 0] 109))) := (((Below.refl _ _).alloc (Nat.le_refl _) _).alloc (by simp) _).alloc (by simp; omega) _
 have x0 := ch hx 0
 have x1 := ch hx 1
 have x2 := ch hx 2
 have z0 := ch hz 0
 have z1 := ch hz 1
 have z2 := ch hz 2
 have f0 := Lib.frozen_of_heap hz 0
 have f1 := Lib.frozen_of_heap hz 1
 have f2 := Lib.frozen_of_heap hz 2
 have y0 := ch hy 0
 have y1 := ch hy 1
 have y2 := ch hy 2
 generalize (((w.alloc (.cells #[.bool n1, .bool false, .int .u64 0] 109)).alloc (.cells #[.bool n2, .bool false, .int .u64 (m2 : Int)] 109)).alloc (.cells #[.bool false, .bool false, .int .u64 0] 109)) = W2 at *
 clear hx hy hz
 simp only [List.getElem?_toArray, List.getElem?_cons_zero, List.getElem?_cons_succ] at x0 x1 x2 y0 y1 y2 z0 z1 z2
 refine wp_region_still_tail 27 (by kernel_rfl) (by kernel_rfl) ?_
 simp only [List.take_succ_cons, List.take_zero, List.drop_succ_cons, List.drop_zero]
 iterate 27 ((with_reducible refine wpStill_step (fun K hK => ?_)); go_simp; (with_reducible refine hK _ ?_); clear hK K)
 with_reducible refine wpStill_nil ?_
 change wpList _ _ _ _ _ W2.drew
 go_wp2
 refine bodyPost_ret (v := .agg #[.bool n, .bool false, .int .u64 0]) ?_ rfl ⟨rfl, (((hb.setCell (p := ⟨w.heap.size + 1 + 1, 0, none⟩) (by simp; omega) _).setCell (p := ⟨w.heap.size + 1 + 1, 1, none⟩) (by simp; omega) _).setCell (p := ⟨w.heap.size + 1 + 1, 2, none⟩) (by simp; omega) _).drew⟩
 simp [results, Tryz.results96, go_sem, z0, z1, z2]
theorem prod_fit (n1 n2 n : Bool) (m1 m2 m q : Nat) (w : World) (tn : (!(n1 == n2)) = n) (e1 : IntKind.u64.wrap ((m1 : Int) * (m2 : Int)) = (m : Int)) (e2 : (m : Int).tdiv (m1 : Int) = (q : Int)) (hq : q ≤ 18446744073709551615) (t0 : ((m1 : Int) != 0) = true) (t1 : ¬ (m1 : Int) = 0) (t3 : ¬ m1 = 0) (t4 : (m1 == 0) = false) (t2 : ((q : Int) != (m2 : Int)) = false) : Ret 96 #[.agg #[.bool n1, .bool false, .int .u64 (m1 : Int)], .agg #[.bool n2, .bool false, .int .u64 (m2 : Int)]] w (.agg #[.bool n, .bool false, .int .u64 (m : Int)]) := by
 have e3 : IntKind.u64.wrap (q : Int) = (q : Int) := by simp [IntKind.wrap, IntKind.bits, IntKind.signed]; omega
 go_enter Tryz.func96, Tryz.ntmps96
 go_wp2
 have hx : ((((w.alloc (.cells #[.bool n1, .bool false, .int .u64 (m1 : Int)] 109)).alloc (.cells #[.bool n2, .bool false, .int .u64 (m2 : Int)] 109)).alloc (.cells #[.bool false, .bool false, .int .u64 0] 109))).heap[w.heap.size]? = some (.cells #[.bool n1, .bool false, .int .u64 (m1 : Int)] 109 (0, 0)) := by
  rw [Below.heap_alloc _ _ _ (by simp; omega), Below.heap_alloc _ _ _ (by simp), heap_alloc_new]
 have hy : ((((w.alloc (.cells #[.bool n1, .bool false, .int .u64 (m1 : Int)] 109)).alloc (.cells #[.bool n2, .bool false, .int .u64 (m2 : Int)] 109)).alloc (.cells #[.bool false, .bool false, .int .u64 0] 109))).heap[w.heap.size + 1]? = some (.cells #[.bool n2, .bool false, .int .u64 (m2 : Int)] 109 (0, 0)) := by
  rw [Below.heap_alloc _ _ _ (by simp), show w.heap.size + 1 = (w.alloc (.cells #[.bool n1, .bool false, .int .u64 (m1 : Int)] 109)).heap.size by simp, heap_alloc_new]
 have hz : ((((w.alloc (.cells #[.bool n1, .bool false, .int .u64 (m1 : Int)] 109)).alloc (.cells #[.bool n2, .bool false, .int .u64 (m2 : Int)] 109)).alloc (.cells #[.bool false, .bool false, .int .u64 0] 109))).heap[w.heap.size + 1 + 1]? = some (.cells #[.bool false, .bool false, .int .u64 0] 109 (0, 0)) := by
  rw [show w.heap.size + 1 + 1 = ((w.alloc (.cells #[.bool n1, .bool false, .int .u64 (m1 : Int)] 109)).alloc (.cells #[.bool n2, .bool false, .int .u64 (m2 : Int)] 109)).heap.size by simp, heap_alloc_new]
 have hb : Below w.heap.size w ((((w.alloc (.cells #[.bool n1, .bool false, .int .u64 (m1 : Int)] 109)).alloc (.cells #[.bool n2, .bool false, .int .u64 (m2 : Int)] 109)).alloc (.cells #[.bool false, .bool false, .int .u64 0] 109))) := (((Below.refl _ _).alloc (Nat.le_refl _) _).alloc (by simp) _).alloc (by simp; omega) _
 have x0 := ch hx 0
 have x1 := ch hx 1
 have x2 := ch hx 2
 have z0 := ch hz 0
 have z1 := ch hz 1
 have z2 := ch hz 2
 have f0 := Lib.frozen_of_heap hz 0
 have f1 := Lib.frozen_of_heap hz 1
 have f2 := Lib.frozen_of_heap hz 2
 have y0 := ch hy 0
 have y1 := ch hy 1
 have y2 := ch hy 2
 generalize (((w.alloc (.cells #[.bool n1, .bool false, .int .u64 (m1 : Int)] 109)).alloc (.cells #[.bool n2, .bool false, .int .u64 (m2 : Int)] 109)).alloc (.cells #[.bool false, .bool false, .int .u64 0] 109)) = W2 at *
 clear hx hy hz
 simp only [List.getElem?_toArray, List.getElem?_cons_zero, List.getElem?_cons_succ] at x0 x1 x2 y0 y1 y2 z0 z1 z2
 go_still_tail 27, (by kernel_rfl)
 change wpList _ _ _ _ _ W2.drew
 go_wp2
 refine bodyPost_ret (v := .agg #[.bool n, .bool false, .int .u64 (m : Int)]) ?_ rfl ⟨rfl, (((hb.setCell (p := ⟨w.heap.size + 1 + 1, 0, none⟩) (by simp; omega) _).setCell (p := ⟨w.heap.size + 1 + 1, 1, none⟩) (by simp; omega) _).setCell (p := ⟨w.heap.size + 1 + 1, 2, none⟩) (by simp; omega) _).drew⟩
 simp [results, Tryz.results96, go_sem, z0, z1, z2]
theorem prod_over (n1 n2 n : Bool) (m1 m2 m q : Nat) (w : World) (tn : (!(n1 == n2)) = n) (e1 : IntKind.u64.wrap ((m1 : Int) * (m2 : Int)) = (m : Int)) (e2 : (m : Int).tdiv (m1 : Int) = (q : Int)) (hq : q ≤ 18446744073709551615) (t0 : ((m1 : Int) != 0) = true) (t1 : ¬ (m1 : Int) = 0) (t3 : ¬ m1 = 0) (t4 : (m1 == 0) = false) (t2 : ((q : Int) != (m2 : Int)) = true) : Ret 96 #[.agg #[.bool n1, .bool false, .int .u64 (m1 : Int)], .agg #[.bool n2, .bool false, .int .u64 (m2 : Int)]] w (.agg #[.bool n, .bool true, .int .u64 (m : Int)]) := by
 have e3 : IntKind.u64.wrap (q : Int) = (q : Int) := by simp [IntKind.wrap, IntKind.bits, IntKind.signed]; omega
 go_enter Tryz.func96, Tryz.ntmps96
 go_wp2
 have hx : ((((w.alloc (.cells #[.bool n1, .bool false, .int .u64 (m1 : Int)] 109)).alloc (.cells #[.bool n2, .bool false, .int .u64 (m2 : Int)] 109)).alloc (.cells #[.bool false, .bool false, .int .u64 0] 109))).heap[w.heap.size]? = some (.cells #[.bool n1, .bool false, .int .u64 (m1 : Int)] 109 (0, 0)) := by
  rw [Below.heap_alloc _ _ _ (by simp; omega), Below.heap_alloc _ _ _ (by simp), heap_alloc_new]
 have hy : ((((w.alloc (.cells #[.bool n1, .bool false, .int .u64 (m1 : Int)] 109)).alloc (.cells #[.bool n2, .bool false, .int .u64 (m2 : Int)] 109)).alloc (.cells #[.bool false, .bool false, .int .u64 0] 109))).heap[w.heap.size + 1]? = some (.cells #[.bool n2, .bool false, .int .u64 (m2 : Int)] 109 (0, 0)) := by
  rw [Below.heap_alloc _ _ _ (by simp), show w.heap.size + 1 = (w.alloc (.cells #[.bool n1, .bool false, .int .u64 (m1 : Int)] 109)).heap.size by simp, heap_alloc_new]
 have hz : ((((w.alloc (.cells #[.bool n1, .bool false, .int .u64 (m1 : Int)] 109)).alloc (.cells #[.bool n2, .bool false, .int .u64 (m2 : Int)] 109)).alloc (.cells #[.bool false, .bool false, .int .u64 0] 109))).heap[w.heap.size + 1 + 1]? = some (.cells #[.bool false, .bool false, .int .u64 0] 109 (0, 0)) := by
  rw [show w.heap.size + 1 + 1 = ((w.alloc (.cells #[.bool n1, .bool false, .int .u64 (m1 : Int)] 109)).alloc (.cells #[.bool n2, .bool false, .int .u64 (m2 : Int)] 109)).heap.size by simp, heap_alloc_new]
 have hb : Below w.heap.size w ((((w.alloc (.cells #[.bool n1, .bool false, .int .u64 (m1 : Int)] 109)).alloc (.cells #[.bool n2, .bool false, .int .u64 (m2 : Int)] 109)).alloc (.cells #[.bool false, .bool false, .int .u64 0] 109))) := (((Below.refl _ _).alloc (Nat.le_refl _) _).alloc (by simp) _).alloc (by simp; omega) _
 have x0 := ch hx 0
 have x1 := ch hx 1
 have x2 := ch hx 2
 have z0 := ch hz 0
 have z1 := ch hz 1
 have z2 := ch hz 2
 have f0 := Lib.frozen_of_heap hz 0
 have f1 := Lib.frozen_of_heap hz 1
 have f2 := Lib.frozen_of_heap hz 2
 have y0 := ch hy 0
 have y1 := ch hy 1
 have y2 := ch hy 2
 generalize (((w.alloc (.cells #[.bool n1, .bool false, .int .u64 (m1 : Int)] 109)).alloc (.cells #[.bool n2, .bool false, .int .u64 (m2 : Int)] 109)).alloc (.cells #[.bool false, .bool false, .int .u64 0] 109)) = W2 at *
 clear hx hy hz
 simp only [List.getElem?_toArray, List.getElem?_cons_zero, List.getElem?_cons_succ] at x0 x1 x2 y0 y1 y2 z0 z1 z2
 go_still_tail 27, (by kernel_rfl)
 change wpList _ _ _ _ _ W2.drew
 go_wp2
 refine bodyPost_ret (v := .agg #[.bool n, .bool true, .int .u64 (m : Int)]) ?_ rfl ⟨rfl, (((hb.setCell (p := ⟨w.heap.size + 1 + 1, 0, none⟩) (by simp; omega) _).setCell (p := ⟨w.heap.size + 1 + 1, 1, none⟩) (by simp; omega) _).setCell (p := ⟨w.heap.size + 1 + 1, 2, none⟩) (by simp; omega) _).drew⟩
 simp [results, Tryz.results96, go_sem, z0, z1, z2]
theorem prod_any (n1 n2 n o : Bool) (m1 m2 m : Nat) (w : World) (h1 : m1 < 18446744073709551616) (h2 : m2 < 18446744073709551616) (hn : (n1 != n2) = n) (ho : Ref.prodO m1 m2 = o) (hm : Ref.prodM m1 m2 = m) :
  Ret 96 #[.agg #[.bool n1, .bool false, .int .u64 (m1 : Int)], .agg #[.bool n2, .bool false, .int .u64 (m2 : Int)]] w (.agg #[.bool n, .bool o, .int .u64 (m : Int)]) := by
 have tn : (!(n1 == n2)) = n := hn
 have hml : m < 18446744073709551616 := by rw [← hm]; exact Ref.prodM_lt _ _
 have e1 : IntKind.u64.wrap ((m1 : Int) * (m2 : Int)) = (m : Int) := by
  rw [← hm]
  unfold Ref.prodM
  rw [← Int.natCast_mul]
  simp [IntKind.wrap, IntKind.bits, IntKind.signed]
 have e2 : (m : Int).tdiv (m1 : Int) = ((m / m1 : Nat) : Int) := by rw [Int.tdiv_eq_ediv_of_nonneg (by omega)]; rfl
 have hq : m / m1 ≤ 18446744073709551615 := by have := Nat.div_le_self m m1; omega
 by_cases h0 : m1 = 0
 ·obtain rfl : o = false := by rw [← ho, h0]; unfold Ref.prodO; simp
  subst h0
  obtain rfl : m = 0 := by rw [← hm]; unfold Ref.prodM; simp
  exact prod_zero n1 n2 n m2 w tn
 ·have ht := Ref.prod_tell m1 m2 h0 h2
  rw [hm] at ht
  have t0 : ((m1 : Int) != 0) = true := by rw [bne_iff_ne]; omega
  have t1 : ¬ (m1 : Int) = 0 := by omega
  have t4 : (m1 == 0) = false := by simpa using h0
  by_cases hov : 18446744073709551616 ≤ m1 * m2
  ·obtain rfl : o = true := by rw [← ho]; exact decide_eq_true hov
   have hne : m / m1 ≠ m2 := fun e => ht.1 e hov
   exact prod_over n1 n2 n m1 m2 m _ w tn e1 e2 hq t0 t1 h0 t4 (by rw [bne_iff_ne]; omega)
  ·obtain rfl : o = false := by rw [← ho]; exact decide_eq_false hov
   exact prod_fit n1 n2 n m1 m2 m _ w tn e1 e2 hq t0 t1 h0 t4 (by rw [ht.2 hov]; simp)
set_option maxHeartbeats 400000 in
theorem rgcd_any (a b g : Nat) (w : World) (ha : a ≤ 18446744073709551615) (hb : b ≤ 18446744073709551615) (hg : Nat.gcd a b = g) :
  Calls Tryz.prog 191 #[.int .u64 (a : Int), .int .u64 (b : Int)] w fun e w' => e = .returned (.int .u64 (g : Int)) ∧ w = w' := by
 have HG := Lib.hid hg
 clear hg
 go_enter Tryz.func191, Tryz.ntmps191
 go_wp2
 go_loop [0, 1] (fun u v => ∃ x y : Nat, u = .int .u64 (x : Int) ∧ v = .int .u64 (y : Int) ∧ x ≤ 18446744073709551615 ∧ y ≤ 18446744073709551615 ∧ Hid (Nat.gcd x y = g)) (fun _ v => (intOf v).toNat)
 case atStart => exact ⟨a, b, rfl, rfl, ha, hb, HG⟩
 case round =>
  obtain ⟨x, y, rfl, rfl, hx, hy, HG2⟩ := hrel
  by_cases h0 : y = 0
  ·subst h0
   go_wp2
   go_ret
   exact ⟨by rw [← HG2.out]; simp, rfl⟩
  ·have t1 : decide ((0 : Int) < (y : Int)) = true := decide_eq_true (by omega)
   have t2 : ¬ (y : Int) = 0 := by omega
   have hlt : x % y < y := Nat.mod_lt _ (by omega)
   have hm : (x : Int).tmod (y : Int) = ((x % y : Nat) : Int) := by rw [Int.tmod_eq_emod_of_nonneg (by omega)]; omega
   go_wp2
   go_round
   case rel => exact ⟨y, x % y, rfl, rfl, hy, by omega, by rw [← PowG.gcd_step]; exact HG2⟩
   case measure => simp [intOf]; omega
end Go.Proofs.YtpiiemneelkpkaaGreatDoor
namespace Go.Proofs.YtpiiemneelkpkaaGreatDoor
open Go.RowKit
set_option linter.unusedVariables false
theorem abs_lt (a : Int) (h1 : -9223372036854775808 ≤ a) (h2 : a ≤ 9223372036854775807) : a.natAbs < 18446744073709551616 := by omega
theorem radd_any (a b v : Int) (t : Bool) (w : World) (ha1 : -9223372036854775808 ≤ a) (ha2 : a ≤ 9223372036854775807) (hb1 : -9223372036854775808 ≤ b) (hb2 : b ≤ 9223372036854775807) (hv : Ref.fitV (a + b) = v) (ht : Ref.fitB (a + b) = t) :
  Ret 61 #[.int .i64 a, .int .i64 b] w (.tuple #[.int .i64 v, .bool t]) := by
 have F := Ref.sum_fits (decide (a < 0)) a.natAbs (decide (b < 0)) b.natAbs (a + b) (abs_lt a ha1 ha2) (abs_lt b hb1 hb2) (by rw [Ref.val_neg, Ref.val_neg])
 rw [hv, ht] at F
 have H1 := Lib.hid (fun w => of_any a a.natAbs (decide (a < 0)) w ha1 ha2 rfl rfl)
 have H2 := Lib.hid (fun w => of_any b b.natAbs (decide (b < 0)) w hb1 hb2 rfl rfl)
 have H3 := Lib.hid (fun w => sum_any (decide (a < 0)) false (decide (b < 0)) false _ _ a.natAbs b.natAbs _ w (abs_lt a ha1 ha2) (abs_lt b hb1 hb2) rfl rfl rfl)
 have H4 := Lib.hid (fun w => fits_any' _ _ _ v t w F.1 F.2)
 generalize Ref.sumN (decide (a < 0)) a.natAbs (decide (b < 0)) b.natAbs = n at *
 generalize Ref.sumO (decide (a < 0)) a.natAbs (decide (b < 0)) b.natAbs = o at *
 generalize Ref.sumM (decide (a < 0)) a.natAbs (decide (b < 0)) b.natAbs = m at *
 generalize decide (a < 0) = na at *
 generalize decide (b < 0) = nb at *
 generalize a.natAbs = ma at *
 generalize b.natAbs = mb at *
 clear F hv ht
 go_enter Tryz.func61, Tryz.ntmps61
 go_wp2_with (fail)
 refine (H1.out _).mono ?_
 rintro e w1 ⟨rfl, hb1⟩
 go_wp2_with (fail)
 refine (H2.out _).mono ?_
 rintro e w2 ⟨rfl, hb2⟩
 replace hb2 := hb1.trans (hb2.mono hb1.size)
 clear hb1
 go_wp2_with (fail)
 refine (H3.out _).mono ?_
 rintro e w3 ⟨rfl, hb3⟩
 replace hb3 := hb2.trans (hb3.mono hb2.size)
 clear hb2
 go_wp2_with (fail)
 refine (H4.out _).mono ?_
 rintro e w4 ⟨rfl, hb4⟩
 replace hb4 := hb3.trans (hb4.mono hb3.size)
 clear hb3
 go_wp2
 go_ret2
 exact ⟨rfl, hb4⟩
theorem rmul_any (a b v : Int) (t : Bool) (w : World) (ha1 : -9223372036854775808 ≤ a) (ha2 : a ≤ 9223372036854775807) (hb1 : -9223372036854775808 ≤ b) (hb2 : b ≤ 9223372036854775807) (hv : Ref.fitV (a * b) = v) (ht : Ref.fitB (a * b) = t) :
  Ret 63 #[.int .i64 a, .int .i64 b] w (.tuple #[.int .i64 v, .bool t]) := by
 have F := Ref.prod_fits (decide (a < 0)) a.natAbs (decide (b < 0)) b.natAbs (a * b) (by rw [Ref.val_neg, Ref.val_neg])
 rw [hv, ht] at F
 have H1 := Lib.hid (fun w => of_any a a.natAbs (decide (a < 0)) w ha1 ha2 rfl rfl)
 have H2 := Lib.hid (fun w => of_any b b.natAbs (decide (b < 0)) w hb1 hb2 rfl rfl)
 have H3 := Lib.hid (fun w => prod_any (decide (a < 0)) (decide (b < 0)) _ _ a.natAbs b.natAbs _ w (abs_lt a ha1 ha2) (abs_lt b hb1 hb2) rfl rfl rfl)
 have H4 := Lib.hid (fun w => fits_any' _ _ _ v t w F.1 F.2)
 generalize (decide (a < 0) != decide (b < 0)) = n at *
 generalize Ref.prodO a.natAbs b.natAbs = o at *
 generalize Ref.prodM a.natAbs b.natAbs = m at *
 generalize decide (a < 0) = na at *
 generalize decide (b < 0) = nb at *
 generalize a.natAbs = ma at *
 generalize b.natAbs = mb at *
 clear F hv ht
 go_enter Tryz.func63, Tryz.ntmps63
 go_wp2_with (fail)
 refine (H1.out _).mono ?_
 rintro e w1 ⟨rfl, hb1⟩
 go_wp2_with (fail)
 refine (H2.out _).mono ?_
 rintro e w2 ⟨rfl, hb2⟩
 replace hb2 := hb1.trans (hb2.mono hb1.size)
 clear hb1
 go_wp2_with (fail)
 refine (H3.out _).mono ?_
 rintro e w3 ⟨rfl, hb3⟩
 replace hb3 := hb2.trans (hb3.mono hb2.size)
 clear hb2
 go_wp2_with (fail)
 refine (H4.out _).mono ?_
 rintro e w4 ⟨rfl, hb4⟩
 replace hb4 := hb3.trans (hb4.mono hb3.size)
 clear hb3
 go_wp2
 go_ret2
 exact ⟨rfl, hb4⟩
theorem val_not (n : Bool) (m : Nat) : Ref.val (!n) m = -Ref.val n m := by unfold Ref.val; cases n <;> simp
theorem num_cells {w : World} {B T : Nat} {n o : Bool} {m : Nat} (h : w.heap[B]? = some (.cells #[.bool n, .bool o, .int .u64 (m : Int)] T (0, 0))) :
  w.cell? ⟨B, 0, none⟩ = some (.bool n) ∧ w.cell? ⟨B, 1, none⟩ = some (.bool o) ∧ w.cell? ⟨B, 2, none⟩ = some (.int .u64 (m : Int)) :=
 ⟨Lib.cell_of_heap h 0, Lib.cell_of_heap h 1, Lib.cell_of_heap h 2⟩
set_option maxHeartbeats 1000000 in
theorem rsub_any (a b v : Int) (t : Bool) (w : World) (ha1 : -9223372036854775808 ≤ a) (ha2 : a ≤ 9223372036854775807) (hb1 : -9223372036854775808 ≤ b) (hb2 : b ≤ 9223372036854775807) (hv : Ref.fitV (a - b) = v) (ht : Ref.fitB (a - b) = t) :
  Ret 62 #[.int .i64 a, .int .i64 b] w (.tuple #[.int .i64 v, .bool t]) := by
 have F := Ref.sum_fits (decide (a < 0)) a.natAbs (!decide (b < 0)) b.natAbs (a - b) (abs_lt a ha1 ha2) (abs_lt b hb1 hb2) (by rw [val_not, Ref.val_neg, Ref.val_neg]; omega)
 rw [hv, ht] at F
 have H1 := Lib.hid (fun w => of_any a a.natAbs (decide (a < 0)) w ha1 ha2 rfl rfl)
 have H2 := Lib.hid (fun w => of_any b b.natAbs (decide (b < 0)) w hb1 hb2 rfl rfl)
 have H3 := Lib.hid (fun w => sum_any (decide (a < 0)) false (!decide (b < 0)) false _ _ a.natAbs b.natAbs _ w (abs_lt a ha1 ha2) (abs_lt b hb1 hb2) rfl rfl rfl)
 have H4 := Lib.hid (fun w => fits_any' _ _ _ v t w F.1 F.2)
 generalize Ref.sumN (decide (a < 0)) a.natAbs (!decide (b < 0)) b.natAbs = n at *
 generalize Ref.sumO (decide (a < 0)) a.natAbs (!decide (b < 0)) b.natAbs = o at *
 generalize Ref.sumM (decide (a < 0)) a.natAbs (!decide (b < 0)) b.natAbs = m at *
 generalize decide (a < 0) = na at *
 generalize decide (b < 0) = nb at *
 generalize a.natAbs = ma at *
 generalize b.natAbs = mb at *
 clear F hv ht
 go_enter Tryz.func62, Tryz.ntmps62
 go_wp2_with (fail)
 refine (H2.out _).mono ?_
 rintro e w1 ⟨rfl, hb1⟩
 go_wp2_with (fail)
 have hx : (w1.alloc (Obj.cells #[.bool (!nb), .bool false, .int .u64 (mb : Int)] 109)).heap[w1.heap.size]? = some (.cells #[.bool (!nb), .bool false, .int .u64 (mb : Int)] 109 (0, 0)) := heap_alloc_new _ _
 have hb0 : Below w.heap.size w (w1.alloc (Obj.cells #[.bool (!nb), .bool false, .int .u64 (mb : Int)] 109)) := hb1.alloc hb1.size _
 obtain ⟨x0, x1, x2⟩ := num_cells hx
 have hlt : w1.heap.size < (w1.alloc (Obj.cells #[.bool (!nb), .bool false, .int .u64 (mb : Int)] 109)).heap.size := by simp
 generalize w1.alloc (Obj.cells #[.bool (!nb), .bool false, .int .u64 (mb : Int)] 109) = W0 at *
 clear hx
 go_region_with (first
  | (go_at_call 95; refine (H1.out _).mono ?_; rintro e w2 ⟨rfl, hb2⟩; have c0 : w2.cell? ⟨w1.heap.size, 0, none⟩ = some (.bool (!nb)) := (hb2.cell (p := ⟨w1.heap.size, 0, none⟩) hlt).trans x0; have c1 : w2.cell? ⟨w1.heap.size, 1, none⟩ = some (.bool false) := (hb2.cell (p := ⟨w1.heap.size, 1, none⟩) hlt).trans x1; have c2 : w2.cell? ⟨w1.heap.size, 2, none⟩ = some (.int .u64 (mb : Int)) := (hb2.cell (p := ⟨w1.heap.size, 2, none⟩) hlt).trans x2; replace hb2 := hb0.drew.trans (hb2.mono hb0.size))
  | (go_at_call 94; refine (H3.out _).mono ?_; rintro e w3 ⟨rfl, hb3⟩; replace hb3 := hb2.trans (hb3.mono hb2.size))
  | (go_at_call 93; refine (H4.out _).mono ?_; rintro e w4 ⟨rfl, hb4⟩; replace hb4 := hb3.trans (hb4.mono hb3.size)))
 all_goals
  go_wp2
  go_ret2
  exact ⟨rfl, hb4⟩
theorem rquo_zero (a : Int) (w : World) : Ret 65 #[.int .i64 a, .int .i64 0] w (.tuple #[.int .i64 0, .int .i64 14]) := by
 go_enter Tryz.func65, Tryz.ntmps65
 go_wp2
 go_ret2
 exact ⟨rfl, Below.refl _ _⟩
set_option maxHeartbeats 1000000 in
theorem rquo_any (a b v : Int) (t : Bool) (w : World) (ha1 : -9223372036854775808 ≤ a) (ha2 : a ≤ 9223372036854775807) (hb1 : -9223372036854775808 ≤ b) (hb2 : b ≤ 9223372036854775807) (hb : b ≠ 0) (hv : Ref.fitV (a.tdiv b) = v) (ht : Ref.fitB (a.tdiv b) = t) :
  Ret 65 #[.int .i64 a, .int .i64 b] w (.tuple #[.int .i64 v, .int .i64 (cond t 0 13)]) := by
 have F1 : Ref.rV (decide (a < 0) != decide (b < 0)) false (a.natAbs / b.natAbs) = v := by unfold Ref.rV; rw [Ref.val_quo]; exact hv
 have F2 : Ref.rB (decide (a < 0) != decide (b < 0)) false (a.natAbs / b.natAbs) = t := by unfold Ref.rB; rw [Ref.val_quo]; exact ht
 have H1 := Lib.hid (fun w => of_any a a.natAbs (decide (a < 0)) w ha1 ha2 rfl rfl)
 have H2 := Lib.hid (fun w => of_any b b.natAbs (decide (b < 0)) w hb1 hb2 rfl rfl)
 have H4 := Lib.hid (fun w => told_any _ _ _ v t w F1 F2)
 have hma := abs_lt a ha1 ha2
 have hmb0 : b.natAbs ≠ 0 := by omega
 have t0 : (b == 0) = false := by simpa using hb
 have hqa := Nat.div_le_self a.natAbs b.natAbs
 have e2 : (a.natAbs : Int).tdiv (b.natAbs : Int) = ((a.natAbs / b.natAbs : Nat) : Int) := by rw [Int.tdiv_eq_ediv_of_nonneg (by omega)]; rfl
 have tn0 : (!(decide (a < 0) == decide (b < 0))) = (decide (a < 0) != decide (b < 0)) := rfl
 generalize (decide (a < 0) != decide (b < 0)) = n at *
 clear F1 F2 hv ht
 generalize decide (a < 0) = na at *
 generalize decide (b < 0) = nb at *
 generalize a.natAbs = ma at *
 generalize b.natAbs = mb at *
 generalize ma / mb = q at *
 have t1 : ¬ (mb : Int) = 0 := by omega
 have t4 : (mb == 0) = false := by simpa using hmb0
 have e3 : IntKind.u64.wrap (q : Int) = (q : Int) := by simp [IntKind.wrap, IntKind.bits, IntKind.signed]; omega
 go_enter Tryz.func65, Tryz.ntmps65
 go_wp2_with (fail)
 refine (H1.out _).mono ?_
 rintro e w1 ⟨rfl, hb1⟩
 go_wp2_with (fail)
 refine (H2.out _).mono ?_
 rintro e w2 ⟨rfl, hb2⟩
 replace hb2 := hb1.trans (hb2.mono hb1.size)
 clear hb1
 go_wp2_with (fail)
 have hx : ((w2.alloc (Obj.cells #[.bool na, .bool false, .int .u64 (ma : Int)] 109)).alloc (Obj.cells #[.bool nb, .bool false, .int .u64 (mb : Int)] 109)).heap[w2.heap.size]? = some (.cells #[.bool na, .bool false, .int .u64 (ma : Int)] 109 (0, 0)) := by
  rw [Below.heap_alloc _ _ _ (by simp), heap_alloc_new]
 have hy : ((w2.alloc (Obj.cells #[.bool na, .bool false, .int .u64 (ma : Int)] 109)).alloc (Obj.cells #[.bool nb, .bool false, .int .u64 (mb : Int)] 109)).heap[w2.heap.size + 1]? = some (.cells #[.bool nb, .bool false, .int .u64 (mb : Int)] 109 (0, 0)) := by
  rw [show w2.heap.size + 1 = (w2.alloc (Obj.cells #[.bool na, .bool false, .int .u64 (ma : Int)] 109)).heap.size by simp, heap_alloc_new]
 have hb0 : Below w.heap.size w ((w2.alloc (Obj.cells #[.bool na, .bool false, .int .u64 (ma : Int)] 109)).alloc (Obj.cells #[.bool nb, .bool false, .int .u64 (mb : Int)] 109)) := (hb2.alloc hb2.size _).alloc (by have := hb2.size; simp; omega) _
 have hlt : w2.heap.size + 1 < ((w2.alloc (Obj.cells #[.bool na, .bool false, .int .u64 (ma : Int)] 109)).alloc (Obj.cells #[.bool nb, .bool false, .int .u64 (mb : Int)] 109)).heap.size := by simp
 obtain ⟨x0, x1, x2⟩ := num_cells hx
 obtain ⟨y0, y1, y2⟩ := num_cells hy
 generalize ((w2.alloc (Obj.cells #[.bool na, .bool false, .int .u64 (ma : Int)] 109)).alloc (Obj.cells #[.bool nb, .bool false, .int .u64 (mb : Int)] 109)) = W0 at *
 clear hx hy hb2
 go_region_held3 (fun w' => w'.cell? ⟨w2.heap.size, 0, none⟩ = some (.bool na) ∧ w'.cell? ⟨w2.heap.size, 2, none⟩ = some (.int .u64 (ma : Int)) ∧ w'.cell? ⟨w2.heap.size + 1, 0, none⟩ = some (.bool nb) ∧ w'.cell? ⟨w2.heap.size + 1, 2, none⟩ = some (.int .u64 (mb : Int)))
  (first | go_keep | exact ⟨(hb4.cell (p := ⟨w2.heap.size, 0, none⟩) (by show w2.heap.size < W0.heap.size; omega)).trans x0, (hb4.cell (p := ⟨w2.heap.size, 2, none⟩) (by show w2.heap.size < W0.heap.size; omega)).trans x2, (hb4.cell (p := ⟨w2.heap.size + 1, 0, none⟩) hlt).trans y0, (hb4.cell (p := ⟨w2.heap.size + 1, 2, none⟩) hlt).trans y2⟩)
  ((go_at_call 97; refine (H4.out _).mono ?_; rintro e w4 ⟨rfl, hb4⟩))
 go_wp2
 go_ret2
 exact ⟨rfl, hb0.drew.trans (hb4.mono hb0.size)⟩
theorem rmod_zero (a : Int) (w : World) : Ret 152 #[.int .i64 a, .int .i64 0] w (.tuple #[.int .i64 0, .int .i64 14]) := by
 go_enter Tryz.func152, Tryz.ntmps152
 go_wp2
 go_ret2
 exact ⟨rfl, Below.refl _ _⟩
set_option maxHeartbeats 1000000 in
theorem rmod_same (a b v : Int) (na nb : Bool) (ma mb r : Nat) (w : World) (ha1 : -9223372036854775808 ≤ a) (ha2 : a ≤ 9223372036854775807) (hb1 : -9223372036854775808 ≤ b) (hb2 : b ≤ 9223372036854775807) (hna : decide (a < 0) = na) (hnb : decide (b < 0) = nb) (hma : a.natAbs = ma) (hmb : b.natAbs = mb) (t0 : (b == 0) = false) (t1 : ¬ (mb : Int) = 0) (t3 : ¬ mb = 0) (t4 : (mb == 0) = false) (e2 : (ma : Int).tmod (mb : Int) = (r : Int)) (hr : r < 18446744073709551616) (t5 : ((r : Int) != 0) = false) (hT : ∀ w, Ret 97 #[.agg #[.bool na, .bool false, .int .u64 (r : Int)]] w (.tuple #[.int .i64 v, .int .i64 0])) :
  Ret 152 #[.int .i64 a, .int .i64 b] w (.tuple #[.int .i64 v, .int .i64 0]) := by
 have H1 := Lib.hid (fun w => of_any a ma na w ha1 ha2 hma hna)
 have H2 := Lib.hid (fun w => of_any b mb nb w hb1 hb2 hmb hnb)
 have e3 : IntKind.u64.wrap (r : Int) = (r : Int) := by simp [IntKind.wrap, IntKind.bits, IntKind.signed]; omega
 clear hna hnb hma hmb
 go_enter Tryz.func152, Tryz.ntmps152
 go_wp2_with (fail)
 refine (H1.out _).mono ?_
 rintro e w1 ⟨rfl, hb1⟩
 go_wp2_with (fail)
 refine (H2.out _).mono ?_
 rintro e w2 ⟨rfl, hb2⟩
 replace hb2 := hb1.trans (hb2.mono hb1.size)
 clear hb1
 go_wp2_with (fail)
 have hx : ((w2.alloc (Obj.cells #[.bool na, .bool false, .int .u64 (ma : Int)] 109)).alloc (Obj.cells #[.bool nb, .bool false, .int .u64 (mb : Int)] 109)).heap[w2.heap.size]? = some (.cells #[.bool na, .bool false, .int .u64 (ma : Int)] 109 (0, 0)) := by
  rw [Below.heap_alloc _ _ _ (by simp), heap_alloc_new]
 have hy : ((w2.alloc (Obj.cells #[.bool na, .bool false, .int .u64 (ma : Int)] 109)).alloc (Obj.cells #[.bool nb, .bool false, .int .u64 (mb : Int)] 109)).heap[w2.heap.size + 1]? = some (.cells #[.bool nb, .bool false, .int .u64 (mb : Int)] 109 (0, 0)) := by
  rw [show w2.heap.size + 1 = (w2.alloc (Obj.cells #[.bool na, .bool false, .int .u64 (ma : Int)] 109)).heap.size by simp, heap_alloc_new]
 have hb0 : Below w.heap.size w ((w2.alloc (Obj.cells #[.bool na, .bool false, .int .u64 (ma : Int)] 109)).alloc (Obj.cells #[.bool nb, .bool false, .int .u64 (mb : Int)] 109)) := (hb2.alloc hb2.size _).alloc (by have := hb2.size; simp; omega) _
 have hlt : w2.heap.size + 1 < ((w2.alloc (Obj.cells #[.bool na, .bool false, .int .u64 (ma : Int)] 109)).alloc (Obj.cells #[.bool nb, .bool false, .int .u64 (mb : Int)] 109)).heap.size := by simp
 obtain ⟨x0, x1, x2⟩ := num_cells hx
 obtain ⟨y0, y1, y2⟩ := num_cells hy
 generalize ((w2.alloc (Obj.cells #[.bool na, .bool false, .int .u64 (ma : Int)] 109)).alloc (Obj.cells #[.bool nb, .bool false, .int .u64 (mb : Int)] 109)) = W0 at *
 clear hx hy hb2
 go_region_held3 (fun w' => w'.cell? ⟨w2.heap.size, 0, none⟩ = some (.bool na) ∧ w'.cell? ⟨w2.heap.size, 2, none⟩ = some (.int .u64 (ma : Int)) ∧ w'.cell? ⟨w2.heap.size + 1, 2, none⟩ = some (.int .u64 (mb : Int)))
  (first | go_keep | (go_simp; done))
  (fail)
 have HT := Lib.hid hT
 clear hT
 go_wp2_with (fail)
 refine (HT.out _).mono ?_
 rintro e w4 ⟨rfl, hb4⟩
 go_wp2
 go_ret2
 refine ⟨rfl, Below.trans (hb0.alloc hb0.size _).drew (hb4.mono ?_)⟩
 have := hb0.size
 simp; omega
set_option maxHeartbeats 1000000 in
theorem rmod_near (a b v : Int) (na : Bool) (ma mb r : Nat) (w : World) (ha1 : -9223372036854775808 ≤ a) (ha2 : a ≤ 9223372036854775807) (hb1 : -9223372036854775808 ≤ b) (hb2 : b ≤ 9223372036854775807) (hna : decide (a < 0) = na) (hnb : decide (b < 0) = na) (hma : a.natAbs = ma) (hmb : b.natAbs = mb) (t0 : (b == 0) = false) (t1 : ¬ (mb : Int) = 0) (t3 : ¬ mb = 0) (t4 : (mb == 0) = false) (e2 : (ma : Int).tmod (mb : Int) = (r : Int)) (hr : r < 18446744073709551616) (t5 : ((r : Int) != 0) = true) (hT : ∀ w, Ret 97 #[.agg #[.bool na, .bool false, .int .u64 (r : Int)]] w (.tuple #[.int .i64 v, .int .i64 0])) :
  Ret 152 #[.int .i64 a, .int .i64 b] w (.tuple #[.int .i64 v, .int .i64 0]) := by
 have H1 := Lib.hid (fun w => of_any a ma na w ha1 ha2 hma hna)
 have H2 := Lib.hid (fun w => of_any b mb na w hb1 hb2 hmb hnb)
 have e3 : IntKind.u64.wrap (r : Int) = (r : Int) := by simp [IntKind.wrap, IntKind.bits, IntKind.signed]; omega
 clear hna hnb hma hmb
 go_enter Tryz.func152, Tryz.ntmps152
 go_wp2_with (fail)
 refine (H1.out _).mono ?_
 rintro e w1 ⟨rfl, hb1⟩
 go_wp2_with (fail)
 refine (H2.out _).mono ?_
 rintro e w2 ⟨rfl, hb2⟩
 replace hb2 := hb1.trans (hb2.mono hb1.size)
 clear hb1
 go_wp2_with (fail)
 have hx : ((w2.alloc (Obj.cells #[.bool na, .bool false, .int .u64 (ma : Int)] 109)).alloc (Obj.cells #[.bool na, .bool false, .int .u64 (mb : Int)] 109)).heap[w2.heap.size]? = some (.cells #[.bool na, .bool false, .int .u64 (ma : Int)] 109 (0, 0)) := by
  rw [Below.heap_alloc _ _ _ (by simp), heap_alloc_new]
 have hy : ((w2.alloc (Obj.cells #[.bool na, .bool false, .int .u64 (ma : Int)] 109)).alloc (Obj.cells #[.bool na, .bool false, .int .u64 (mb : Int)] 109)).heap[w2.heap.size + 1]? = some (.cells #[.bool na, .bool false, .int .u64 (mb : Int)] 109 (0, 0)) := by
  rw [show w2.heap.size + 1 = (w2.alloc (Obj.cells #[.bool na, .bool false, .int .u64 (ma : Int)] 109)).heap.size by simp, heap_alloc_new]
 have hb0 : Below w.heap.size w ((w2.alloc (Obj.cells #[.bool na, .bool false, .int .u64 (ma : Int)] 109)).alloc (Obj.cells #[.bool na, .bool false, .int .u64 (mb : Int)] 109)) := (hb2.alloc hb2.size _).alloc (by have := hb2.size; simp; omega) _
 have hlt : w2.heap.size + 1 < ((w2.alloc (Obj.cells #[.bool na, .bool false, .int .u64 (ma : Int)] 109)).alloc (Obj.cells #[.bool na, .bool false, .int .u64 (mb : Int)] 109)).heap.size := by simp
 obtain ⟨x0, x1, x2⟩ := num_cells hx
 obtain ⟨y0, y1, y2⟩ := num_cells hy
 generalize ((w2.alloc (Obj.cells #[.bool na, .bool false, .int .u64 (ma : Int)] 109)).alloc (Obj.cells #[.bool na, .bool false, .int .u64 (mb : Int)] 109)) = W0 at *
 clear hx hy hb2
 go_region_held3 (fun w' => w'.cell? ⟨w2.heap.size, 0, none⟩ = some (.bool na) ∧ w'.cell? ⟨w2.heap.size, 2, none⟩ = some (.int .u64 (ma : Int)) ∧ w'.cell? ⟨w2.heap.size + 1, 2, none⟩ = some (.int .u64 (mb : Int)))
  (first | go_keep | (go_simp; done))
  (fail)
 have HT := Lib.hid hT
 clear hT
 go_wp2_with (fail)
 refine (HT.out _).mono ?_
 rintro e w4 ⟨rfl, hb4⟩
 go_wp2
 go_ret2
 refine ⟨rfl, Below.trans (hb0.alloc hb0.size _).drew (hb4.mono ?_)⟩
 have := hb0.size
 simp; omega
set_option maxHeartbeats 1000000 in
theorem rmod_far_t (a b v : Int) (n o : Bool) (ma mb r m : Nat) (w : World) (ha1 : -9223372036854775808 ≤ a) (ha2 : a ≤ 9223372036854775807) (hb1 : -9223372036854775808 ≤ b) (hb2 : b ≤ 9223372036854775807) (hna : decide (a < 0) = true) (hnb : decide (b < 0) = false) (hma : a.natAbs = ma) (hmb : b.natAbs = mb) (t0 : (b == 0) = false) (t1 : ¬ (mb : Int) = 0) (t3 : ¬ mb = 0) (t4 : (mb == 0) = false) (e2 : (ma : Int).tmod (mb : Int) = (r : Int)) (hr : r < 18446744073709551616) (t5 : ((r : Int) != 0) = true) (hS : ∀ w, Ret 94 #[.agg #[.bool true, .bool false, .int .u64 (r : Int)], .agg #[.bool false, .bool false, .int .u64 (mb : Int)]] w (.agg #[.bool n, .bool o, .int .u64 (m : Int)])) (hT : ∀ w, Ret 97 #[.agg #[.bool n, .bool o, .int .u64 (m : Int)]] w (.tuple #[.int .i64 v, .int .i64 0])) :
  Ret 152 #[.int .i64 a, .int .i64 b] w (.tuple #[.int .i64 v, .int .i64 0]) := by
 have H1 := Lib.hid (fun w => of_any a ma true w ha1 ha2 hma hna)
 have H2 := Lib.hid (fun w => of_any b mb false w hb1 hb2 hmb hnb)
 have e3 : IntKind.u64.wrap (r : Int) = (r : Int) := by simp [IntKind.wrap, IntKind.bits, IntKind.signed]; omega
 clear hna hnb hma hmb
 have HT := Lib.hid hT
 have HS := Lib.hid hS
 clear hT hS
 go_enter Tryz.func152, Tryz.ntmps152
 go_wp2_with (fail)
 refine (H1.out _).mono ?_
 rintro e w1 ⟨rfl, hb1⟩
 go_wp2_with (fail)
 refine (H2.out _).mono ?_
 rintro e w2 ⟨rfl, hb2⟩
 replace hb2 := hb1.trans (hb2.mono hb1.size)
 clear hb1
 go_wp2_with (fail)
 have hx : ((w2.alloc (Obj.cells #[.bool true, .bool false, .int .u64 (ma : Int)] 109)).alloc (Obj.cells #[.bool false, .bool false, .int .u64 (mb : Int)] 109)).heap[w2.heap.size]? = some (.cells #[.bool true, .bool false, .int .u64 (ma : Int)] 109 (0, 0)) := by
  rw [Below.heap_alloc _ _ _ (by simp), heap_alloc_new]
 have hy : ((w2.alloc (Obj.cells #[.bool true, .bool false, .int .u64 (ma : Int)] 109)).alloc (Obj.cells #[.bool false, .bool false, .int .u64 (mb : Int)] 109)).heap[w2.heap.size + 1]? = some (.cells #[.bool false, .bool false, .int .u64 (mb : Int)] 109 (0, 0)) := by
  rw [show w2.heap.size + 1 = (w2.alloc (Obj.cells #[.bool true, .bool false, .int .u64 (ma : Int)] 109)).heap.size by simp, heap_alloc_new]
 have hb0 : Below w.heap.size w ((w2.alloc (Obj.cells #[.bool true, .bool false, .int .u64 (ma : Int)] 109)).alloc (Obj.cells #[.bool false, .bool false, .int .u64 (mb : Int)] 109)) := (hb2.alloc hb2.size _).alloc (by have := hb2.size; simp; omega) _
 have hlt : w2.heap.size + 1 < ((w2.alloc (Obj.cells #[.bool true, .bool false, .int .u64 (ma : Int)] 109)).alloc (Obj.cells #[.bool false, .bool false, .int .u64 (mb : Int)] 109)).heap.size := by simp
 obtain ⟨x0, x1, x2⟩ := num_cells hx
 obtain ⟨y0, y1, y2⟩ := num_cells hy
 generalize ((w2.alloc (Obj.cells #[.bool true, .bool false, .int .u64 (ma : Int)] 109)).alloc (Obj.cells #[.bool false, .bool false, .int .u64 (mb : Int)] 109)) = W0 at *
 clear hx hy hb2
 go_region_held3 (fun w' => w'.cell? ⟨w2.heap.size, 0, none⟩ = some (.bool true) ∧ w'.cell? ⟨w2.heap.size, 2, none⟩ = some (.int .u64 (ma : Int)) ∧ w'.cell? ⟨w2.heap.size + 1, 2, none⟩ = some (.int .u64 (mb : Int)))
  (first | go_keep | (go_simp; done))
  (fail)
 have hb5 : Below w.heap.size w (W0.alloc (Obj.cells #[.bool true, .bool false, .int .u64 (r : Int)] 109)).drew := (hb0.alloc hb0.size _).drew
 have hz : (W0.alloc (Obj.cells #[.bool true, .bool false, .int .u64 (r : Int)] 109)).drew.heap[W0.heap.size]? = some (.cells #[.bool true, .bool false, .int .u64 (r : Int)] 109 (0, 0)) := heap_alloc_new _ _
 have hY : ∀ j, (W0.alloc (Obj.cells #[.bool true, .bool false, .int .u64 (r : Int)] 109)).drew.cell? ⟨w2.heap.size + 1, j, none⟩ = W0.cell? ⟨w2.heap.size + 1, j, none⟩ := fun j => by go_simp
 have hl5 : W0.heap.size < (W0.alloc (Obj.cells #[.bool true, .bool false, .int .u64 (r : Int)] 109)).drew.heap.size := by simp
 obtain ⟨z0, z1, z2⟩ := num_cells hz
 replace y0 := (hY 0).trans y0
 replace y1 := (hY 1).trans y1
 replace y2 := (hY 2).trans y2
 have hz0 := hb0.size
 generalize (W0.alloc (Obj.cells #[.bool true, .bool false, .int .u64 (r : Int)] 109)).drew = W5 at *
 clear hY hb0 x0 x1 x2
 go_wp2_with (fail)
 refine (HS.out _).mono ?_
 rintro e w3 ⟨rfl, hb3⟩
 have hk := (hb3.block W0.heap.size hl5).trans hz
 obtain ⟨z3, z4, z5⟩ := num_cells hk
 have f3 := Lib.frozen_of_heap hk 0
 have f4 := Lib.frozen_of_heap hk 1
 have f5 := Lib.frozen_of_heap hk 2
 have hb6 := hb5.trans (hb3.mono hb5.size)
 clear hk hz hb3 z0 z1 z2
 go_wp2_with (fail)
 refine (HT.out _).mono ?_
 rintro e w4 ⟨rfl, hb4⟩
 go_wp2
 go_ret2
 refine ⟨rfl, Below.trans (((hb6.setCell (p := ⟨W0.heap.size, 0, none⟩) (by simp; omega) _).setCell (p := ⟨W0.heap.size, 1, none⟩) (by simp; omega) _).setCell (p := ⟨W0.heap.size, 2, none⟩) (by simp; omega) _) (hb4.mono ?_)⟩
 have := hb6.size
 simp; omega
set_option maxHeartbeats 1000000 in
theorem rmod_far_f (a b v : Int) (n o : Bool) (ma mb r m : Nat) (w : World) (ha1 : -9223372036854775808 ≤ a) (ha2 : a ≤ 9223372036854775807) (hb1 : -9223372036854775808 ≤ b) (hb2 : b ≤ 9223372036854775807) (hna : decide (a < 0) = false) (hnb : decide (b < 0) = true) (hma : a.natAbs = ma) (hmb : b.natAbs = mb) (t0 : (b == 0) = false) (t1 : ¬ (mb : Int) = 0) (t3 : ¬ mb = 0) (t4 : (mb == 0) = false) (e2 : (ma : Int).tmod (mb : Int) = (r : Int)) (hr : r < 18446744073709551616) (t5 : ((r : Int) != 0) = true) (hS : ∀ w, Ret 94 #[.agg #[.bool false, .bool false, .int .u64 (r : Int)], .agg #[.bool true, .bool false, .int .u64 (mb : Int)]] w (.agg #[.bool n, .bool o, .int .u64 (m : Int)])) (hT : ∀ w, Ret 97 #[.agg #[.bool n, .bool o, .int .u64 (m : Int)]] w (.tuple #[.int .i64 v, .int .i64 0])) :
  Ret 152 #[.int .i64 a, .int .i64 b] w (.tuple #[.int .i64 v, .int .i64 0]) := by
 have H1 := Lib.hid (fun w => of_any a ma false w ha1 ha2 hma hna)
 have H2 := Lib.hid (fun w => of_any b mb true w hb1 hb2 hmb hnb)
 have e3 : IntKind.u64.wrap (r : Int) = (r : Int) := by simp [IntKind.wrap, IntKind.bits, IntKind.signed]; omega
 clear hna hnb hma hmb
 have HT := Lib.hid hT
 have HS := Lib.hid hS
 clear hT hS
 go_enter Tryz.func152, Tryz.ntmps152
 go_wp2_with (fail)
 refine (H1.out _).mono ?_
 rintro e w1 ⟨rfl, hb1⟩
 go_wp2_with (fail)
 refine (H2.out _).mono ?_
 rintro e w2 ⟨rfl, hb2⟩
 replace hb2 := hb1.trans (hb2.mono hb1.size)
 clear hb1
 go_wp2_with (fail)
 have hx : ((w2.alloc (Obj.cells #[.bool false, .bool false, .int .u64 (ma : Int)] 109)).alloc (Obj.cells #[.bool true, .bool false, .int .u64 (mb : Int)] 109)).heap[w2.heap.size]? = some (.cells #[.bool false, .bool false, .int .u64 (ma : Int)] 109 (0, 0)) := by
  rw [Below.heap_alloc _ _ _ (by simp), heap_alloc_new]
 have hy : ((w2.alloc (Obj.cells #[.bool false, .bool false, .int .u64 (ma : Int)] 109)).alloc (Obj.cells #[.bool true, .bool false, .int .u64 (mb : Int)] 109)).heap[w2.heap.size + 1]? = some (.cells #[.bool true, .bool false, .int .u64 (mb : Int)] 109 (0, 0)) := by
  rw [show w2.heap.size + 1 = (w2.alloc (Obj.cells #[.bool false, .bool false, .int .u64 (ma : Int)] 109)).heap.size by simp, heap_alloc_new]
 have hb0 : Below w.heap.size w ((w2.alloc (Obj.cells #[.bool false, .bool false, .int .u64 (ma : Int)] 109)).alloc (Obj.cells #[.bool true, .bool false, .int .u64 (mb : Int)] 109)) := (hb2.alloc hb2.size _).alloc (by have := hb2.size; simp; omega) _
 have hlt : w2.heap.size + 1 < ((w2.alloc (Obj.cells #[.bool false, .bool false, .int .u64 (ma : Int)] 109)).alloc (Obj.cells #[.bool true, .bool false, .int .u64 (mb : Int)] 109)).heap.size := by simp
 obtain ⟨x0, x1, x2⟩ := num_cells hx
 obtain ⟨y0, y1, y2⟩ := num_cells hy
 generalize ((w2.alloc (Obj.cells #[.bool false, .bool false, .int .u64 (ma : Int)] 109)).alloc (Obj.cells #[.bool true, .bool false, .int .u64 (mb : Int)] 109)) = W0 at *
 clear hx hy hb2
 go_region_held3 (fun w' => w'.cell? ⟨w2.heap.size, 0, none⟩ = some (.bool false) ∧ w'.cell? ⟨w2.heap.size, 2, none⟩ = some (.int .u64 (ma : Int)) ∧ w'.cell? ⟨w2.heap.size + 1, 2, none⟩ = some (.int .u64 (mb : Int)))
  (first | go_keep | (go_simp; done))
  (fail)
 have hb5 : Below w.heap.size w (W0.alloc (Obj.cells #[.bool false, .bool false, .int .u64 (r : Int)] 109)).drew := (hb0.alloc hb0.size _).drew
 have hz : (W0.alloc (Obj.cells #[.bool false, .bool false, .int .u64 (r : Int)] 109)).drew.heap[W0.heap.size]? = some (.cells #[.bool false, .bool false, .int .u64 (r : Int)] 109 (0, 0)) := heap_alloc_new _ _
 have hY : ∀ j, (W0.alloc (Obj.cells #[.bool false, .bool false, .int .u64 (r : Int)] 109)).drew.cell? ⟨w2.heap.size + 1, j, none⟩ = W0.cell? ⟨w2.heap.size + 1, j, none⟩ := fun j => by go_simp
 have hl5 : W0.heap.size < (W0.alloc (Obj.cells #[.bool false, .bool false, .int .u64 (r : Int)] 109)).drew.heap.size := by simp
 obtain ⟨z0, z1, z2⟩ := num_cells hz
 replace y0 := (hY 0).trans y0
 replace y1 := (hY 1).trans y1
 replace y2 := (hY 2).trans y2
 have hz0 := hb0.size
 generalize (W0.alloc (Obj.cells #[.bool false, .bool false, .int .u64 (r : Int)] 109)).drew = W5 at *
 clear hY hb0 x0 x1 x2
 go_wp2_with (fail)
 refine (HS.out _).mono ?_
 rintro e w3 ⟨rfl, hb3⟩
 have hk := (hb3.block W0.heap.size hl5).trans hz
 obtain ⟨z3, z4, z5⟩ := num_cells hk
 have f3 := Lib.frozen_of_heap hk 0
 have f4 := Lib.frozen_of_heap hk 1
 have f5 := Lib.frozen_of_heap hk 2
 have hb6 := hb5.trans (hb3.mono hb5.size)
 clear hk hz hb3 z0 z1 z2
 go_wp2_with (fail)
 refine (HT.out _).mono ?_
 rintro e w4 ⟨rfl, hb4⟩
 go_wp2
 go_ret2
 refine ⟨rfl, Below.trans (((hb6.setCell (p := ⟨W0.heap.size, 0, none⟩) (by simp; omega) _).setCell (p := ⟨W0.heap.size, 1, none⟩) (by simp; omega) _).setCell (p := ⟨W0.heap.size, 2, none⟩) (by simp; omega) _) (hb4.mono ?_)⟩
 have := hb6.size
 simp; omega
theorem fit_of {v : Int} (h : PowG.Fits v) : Ref.fitV v = v ∧ Ref.fitB v = true := by unfold Ref.fitV Ref.fitB; rw [if_pos h, decide_eq_true h]; exact ⟨rfl, rfl⟩
theorem fit_not {v : Int} (h : ¬ PowG.Fits v) : Ref.fitV v = 0 ∧ Ref.fitB v = false := by unfold Ref.fitV Ref.fitB; rw [if_neg h, decide_eq_false h]; exact ⟨rfl, rfl⟩
theorem rmod_any (a b v : Int) (w : World) (ha1 : -9223372036854775808 ≤ a) (ha2 : a ≤ 9223372036854775807) (hb1 : -9223372036854775808 ≤ b) (hb2 : b ≤ 9223372036854775807) (hb : b ≠ 0) (hv : Div.modV a b = v) :
  Ret 152 #[.int .i64 a, .int .i64 b] w (.tuple #[.int .i64 v, .int .i64 0]) := by
 have hr : a.natAbs % b.natAbs < b.natAbs := Nat.mod_lt _ (by omega)
 have e2 : (a.natAbs : Int).tmod (b.natAbs : Int) = ((a.natAbs % b.natAbs : Nat) : Int) := by rw [Int.tmod_eq_emod_of_nonneg (by omega)]; omega
 have t0 : (b == 0) = false := by simpa using hb
 have hf : PowG.Fits v := by
  have := Div.modV_range a b hb
  rw [hv] at this
  unfold PowG.Fits
  rcases Int.lt_or_gt_of_ne hb with h | h
  ·have := this.2 h; omega
  ·have := this.1 h; omega
 have hz := Ref.tmod_zero a b
 have hval := Ref.val_mod a b
 have hbm : b.natAbs < 18446744073709551616 := abs_lt b hb1 hb2
 have hT : ∀ (n o : Bool) (m : Nat), Ref.rV n o m = Ref.fitV v → Ref.rB n o m = Ref.fitB v → ∀ w, Ret 97 #[.agg #[.bool n, .bool o, .int .u64 (m : Int)]] w (.tuple #[.int .i64 v, .int .i64 0]) := fun n o m h1 h2 w => by
  have := told_any n o m v true w (h1.trans (fit_of hf).1) (h2.trans (fit_of hf).2)
  exact this
 have hlow : Ref.val (decide (a < 0)) (a.natAbs % b.natAbs) = v → ∀ w, Ret 97 #[.agg #[.bool (decide (a < 0)), .bool false, .int .u64 ((a.natAbs % b.natAbs : Nat) : Int)]] w (.tuple #[.int .i64 v, .int .i64 0]) := fun h => hT _ _ _ (by unfold Ref.rV; rw [h]; rfl) (by unfold Ref.rB; rw [h]; rfl)
 by_cases h0 : a.natAbs % b.natAbs = 0
 ·have hv0 : Ref.val (decide (a < 0)) (a.natAbs % b.natAbs) = v := by
   rw [hval, ← hv]; unfold Div.modV; rw [if_neg (fun h => h.1 (hz.1 h0))]
  exact rmod_same a b v _ _ _ _ _ w ha1 ha2 hb1 hb2 rfl rfl rfl rfl t0 (by omega) (by omega) (by simp; omega) e2 (by omega) (by rw [h0]; rfl) (hlow hv0)
 ·have htm : a.tmod b ≠ 0 := fun h => h0 (hz.2 h)
  have hneg := Ref.tmod_neg a b htm
  have t5 : (((a.natAbs % b.natAbs : Nat) : Int) != 0) = true := by rw [bne_iff_ne]; omega
  by_cases hs : decide (a < 0) = decide (b < 0)
  ·have hv0 : Ref.val (decide (a < 0)) (a.natAbs % b.natAbs) = v := by
    rw [hval, ← hv]; unfold Div.modV; rw [if_neg (by rw [hneg, hs]; simp)]
   exact rmod_near a b v _ _ _ _ w ha1 ha2 hb1 hb2 rfl hs.symm rfl rfl t0 (by omega) (by omega) (by simp; omega) e2 (by omega) t5 (hlow hv0)
  ·have hv0 : a.tmod b + b = v := by
    rw [← hv]; unfold Div.modV; rw [if_pos ⟨htm, by rw [hneg]; simpa using hs⟩]
   have F := Ref.sum_fits (decide (a < 0)) (a.natAbs % b.natAbs) (decide (b < 0)) b.natAbs v (by omega) hbm (by rw [hval, Ref.val_neg]; exact hv0)
   have hS := fun w => sum_any (decide (a < 0)) false (decide (b < 0)) false _ _ (a.natAbs % b.natAbs) b.natAbs _ w (by omega) hbm rfl rfl rfl
   have hTT := hT _ _ _ F.1 F.2
   by_cases hna : a < 0
   ·have hnb : ¬ b < 0 := fun h => hs (by rw [decide_eq_true hna, decide_eq_true h])
    rw [decide_eq_true hna, decide_eq_false hnb] at hS hTT
    exact rmod_far_t a b v _ _ _ _ _ _ w ha1 ha2 hb1 hb2 (decide_eq_true hna) (decide_eq_false hnb) rfl rfl t0 (by omega) (by omega) (by simp; omega) e2 (by omega) t5 hS hTT
   ·have hnb : b < 0 := by
     by_cases h : b < 0
     ·exact h
     ·exact absurd (by rw [decide_eq_false hna, decide_eq_false h]) hs
    rw [decide_eq_false hna, decide_eq_true hnb] at hS hTT
    exact rmod_far_f a b v _ _ _ _ _ _ w ha1 ha2 hb1 hb2 (decide_eq_false hna) (decide_eq_true hnb) rfl rfl t0 (by omega) (by omega) (by simp; omega) e2 (by omega) t5 hS hTT
theorem field2 (n o : Bool) (m : Int) (w : World) : (Instr.field 109 (.agg #[.bool n, .bool o, .int .u64 m]) 2).run Tryz.prog w = .ok (.int .u64 m) w := by kernel_rfl
theorem rV_pos (m : Nat) : Ref.rV false false m = Ref.fitV (m : Int) := rfl
theorem rB_pos (m : Nat) : Ref.rB false false m = Ref.fitB (m : Int) := by unfold Ref.rB; rfl
theorem rgcd2_any (a b v : Int) (t : Bool) (w : World) (ha1 : -9223372036854775808 ≤ a) (ha2 : a ≤ 9223372036854775807) (hb1 : -9223372036854775808 ≤ b) (hb2 : b ≤ 9223372036854775807) (hv : Ref.fitV ((Nat.gcd a.natAbs b.natAbs : Nat) : Int) = v) (ht : Ref.fitB ((Nat.gcd a.natAbs b.natAbs : Nat) : Int) = t) :
  Ret 153 #[.int .i64 a, .int .i64 b] w (.tuple #[.int .i64 v, .int .i64 (cond t 0 13)]) := by
 have H1 := Lib.hid (fun w => of_any a a.natAbs (decide (a < 0)) w ha1 ha2 rfl rfl)
 have H2 := Lib.hid (fun w => of_any b b.natAbs (decide (b < 0)) w hb1 hb2 rfl rfl)
 have H3 := Lib.hid (fun w => rgcd_any a.natAbs b.natAbs _ w (by have := abs_lt a ha1 ha2; omega) (by have := abs_lt b hb1 hb2; omega) rfl)
 have H4 := Lib.hid (fun w => told_any false false _ v t w ((rV_pos _).trans hv) ((rB_pos _).trans ht))
 generalize Nat.gcd a.natAbs b.natAbs = g at *
 generalize decide (a < 0) = na at *
 generalize decide (b < 0) = nb at *
 generalize a.natAbs = ma at *
 generalize b.natAbs = mb at *
 clear hv ht
 have hfl := field2
 go_enter Tryz.func153, Tryz.ntmps153
 go_wp2_with (fail)
 refine (H1.out _).mono ?_
 rintro e w1 ⟨rfl, hb1⟩
 go_wp2_with (fail)
 refine (H2.out _).mono ?_
 rintro e w2 ⟨rfl, hb2⟩
 replace hb2 := hb1.trans (hb2.mono hb1.size)
 clear hb1
 go_wp2_with (fail)
 refine (H3.out _).mono ?_
 rintro e w' ⟨rfl, rfl⟩
 go_wp2_with (fail)
 refine (H4.out _).mono ?_
 rintro e w4 ⟨rfl, hb4⟩
 replace hb4 := hb2.trans (hb4.mono hb2.size)
 clear hb2
 go_wp2
 go_ret2
 exact ⟨rfl, hb4⟩
theorem rlcm_zero1 (b : Int) (w : World) : Ret 154 #[.int .i64 0, .int .i64 b] w (.tuple #[.int .i64 0, .int .i64 0]) := by
 go_enter Tryz.func154, Tryz.ntmps154
 go_wp2
 go_ret2
 exact ⟨rfl, Below.refl _ _⟩
theorem rlcm_zero2 (a : Int) (w : World) : Ret 154 #[.int .i64 a, .int .i64 0] w (.tuple #[.int .i64 0, .int .i64 0]) := by
 by_cases h : (a == 0) = true
 ·go_enter Tryz.func154, Tryz.ntmps154
  go_wp2
  go_ret2
  exact ⟨rfl, Below.refl _ _⟩
 ·have h' : (a == 0) = false := by simpa using h
  clear h
  go_enter Tryz.func154, Tryz.ntmps154
  go_wp2
  go_ret2
  exact ⟨rfl, Below.refl _ _⟩
theorem rlcm_any (a b v : Int) (t : Bool) (w : World) (ha1 : -9223372036854775808 ≤ a) (ha2 : a ≤ 9223372036854775807) (hb1 : -9223372036854775808 ≤ b) (hb2 : b ≤ 9223372036854775807) (ha0 : a ≠ 0) (hb0 : b ≠ 0) (hv : Ref.fitV ((a.natAbs / Nat.gcd a.natAbs b.natAbs * b.natAbs : Nat) : Int) = v) (ht : Ref.fitB ((a.natAbs / Nat.gcd a.natAbs b.natAbs * b.natAbs : Nat) : Int) = t) :
  Ret 154 #[.int .i64 a, .int .i64 b] w (.tuple #[.int .i64 v, .int .i64 (cond t 0 13)]) := by
 have hq := Nat.div_le_self a.natAbs (Nat.gcd a.natAbs b.natAbs)
 have hma := abs_lt a ha1 ha2
 have hg0 : Nat.gcd a.natAbs b.natAbs ≠ 0 := by
  intro e
  have := (Nat.gcd_eq_zero_iff.1 e).1
  omega
 have F := Ref.prod_fits false (a.natAbs / Nat.gcd a.natAbs b.natAbs) false b.natAbs ((a.natAbs / Nat.gcd a.natAbs b.natAbs * b.natAbs : Nat) : Int) (by show ((_ : Nat) : Int) * ((_ : Nat) : Int) = _; push_cast; rfl)
 rw [hv, ht] at F
 have H1 := Lib.hid (fun w => of_any a a.natAbs (decide (a < 0)) w ha1 ha2 rfl rfl)
 have H2 := Lib.hid (fun w => of_any b b.natAbs (decide (b < 0)) w hb1 hb2 rfl rfl)
 have H3 := Lib.hid (fun w => rgcd_any a.natAbs b.natAbs _ w (by have := abs_lt a ha1 ha2; omega) (by have := abs_lt b hb1 hb2; omega) rfl)
 have H5 := Lib.hid (fun w => prod_any false false _ _ (a.natAbs / Nat.gcd a.natAbs b.natAbs) b.natAbs _ w (by omega) (abs_lt b hb1 hb2) rfl rfl rfl)
 have H4 := Lib.hid (fun w => told_any _ _ _ v t w F.1 F.2)
 have e2 : (a.natAbs : Int).tdiv ((Nat.gcd a.natAbs b.natAbs : Nat) : Int) = ((a.natAbs / Nat.gcd a.natAbs b.natAbs : Nat) : Int) := by rw [Int.tdiv_eq_ediv_of_nonneg (by omega)]; rfl
 have t0 : (a == 0) = false := by simpa using ha0
 have t1 : (b == 0) = false := by simpa using hb0
 generalize Ref.prodO (a.natAbs / Nat.gcd a.natAbs b.natAbs) b.natAbs = o at *
 generalize Ref.prodM (a.natAbs / Nat.gcd a.natAbs b.natAbs) b.natAbs = m at *
 clear hv ht F
 generalize a.natAbs / Nat.gcd a.natAbs b.natAbs = q at *
 generalize Nat.gcd a.natAbs b.natAbs = g at *
 generalize decide (a < 0) = na at *
 generalize decide (b < 0) = nb at *
 generalize a.natAbs = ma at *
 generalize b.natAbs = mb at *
 have t2 : ¬ (g : Int) = 0 := by omega
 have t4 : (g == 0) = false := by simpa using hg0
 have e3 : IntKind.u64.wrap (q : Int) = (q : Int) := by simp [IntKind.wrap, IntKind.bits, IntKind.signed]; omega
 simp only [bne_self_eq_false] at *
 clear ha0 hb0
 have hfl := field2
 go_enter Tryz.func154, Tryz.ntmps154
 go_wp2_with (fail)
 refine (H1.out _).mono ?_
 rintro e w1 ⟨rfl, hb1⟩
 go_wp2_with (fail)
 refine (H2.out _).mono ?_
 rintro e w2 ⟨rfl, hb2⟩
 replace hb2 := hb1.trans (hb2.mono hb1.size)
 clear hb1
 go_wp2_with (fail)
 refine (H3.out _).mono ?_
 rintro e w' ⟨rfl, rfl⟩
 go_wp2_with (fail)
 refine (H5.out _).mono ?_
 rintro e w3 ⟨rfl, hb3⟩
 replace hb3 := hb2.trans (hb3.mono hb2.size)
 clear hb2
 go_wp2_with (fail)
 refine (H4.out _).mono ?_
 rintro e w4 ⟨rfl, hb4⟩
 replace hb4 := hb3.trans (hb4.mono hb3.size)
 clear hb3
 go_wp2
 go_ret2
 exact ⟨rfl, hb4⟩
end Go.Proofs.YtpiiemneelkpkaaGreatDoor
