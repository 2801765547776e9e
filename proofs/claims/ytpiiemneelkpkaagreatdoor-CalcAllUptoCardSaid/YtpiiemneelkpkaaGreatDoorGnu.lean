import Derived.WalkSpells
import Derived.WalkLawsBesides
import Derived.Lib.Hide
import Derived.Test.YtpiiemneelkpkaaGreatDoorGpl
import Derived.Deep.QuietTactic
import Derived.BigQuiet
import Derived.Test.YtpiiemneelkpkaaGreatDoorGsh
import Derived.WalkSmall
import Derived.Lib.IndexBytes
import Derived.Test.YtpiiemneelkpkaaGreatDoorBox
namespace Go.Proofs.YtpiiemneelkpkaaGreatDoor
open Go.RowKit
set_option linter.unusedVariables false
theorem add64_yes (a b : Int) (w : World) (h1 : -9223372036854775808 ≤ a + b) (h2 : a + b ≤ 9223372036854775807) : Calls Tryz.prog 41 #[.int .i64 a, .int .i64 b] w fun e w' => e = .returned (.tuple #[.int .i64 (a + b), .bool true]) ∧ w = w' := by
 go_enter Tryz.func41, Tryz.ntmps41
 go_wp2
 go_ret2
 exact ⟨rfl, rfl⟩
theorem add64_no (a b : Int) (w : World) (ha1 : -9223372036854775808 ≤ a) (ha2 : a ≤ 9223372036854775807) (hb1 : -9223372036854775808 ≤ b) (hb2 : b ≤ 9223372036854775807) (h : a + b < -9223372036854775808 ∨ 9223372036854775807 < a + b) : Calls Tryz.prog 41 #[.int .i64 a, .int .i64 b] w fun e w' => e = .returned (.tuple #[.int .i64 0, .bool false]) ∧ w = w' := by
 obtain ⟨c, hc⟩ : ∃ c, IntKind.i64.wrap (a + b) = c := ⟨_, rfl⟩
 have hc' := hc
 rw [IntKind.wrap_i64] at hc'
 rcases h with h | h
 ·have t1 : decide (a < c) = true := by simp; omega
  have t2 : decide (0 < b) = false := by simp; omega
  have t3 : (b != 0) = true := by rw [bne_iff_ne]; omega
  clear hc' h ha1 ha2 hb1 hb2
  go_enter Tryz.func41, Tryz.ntmps41
  go_wp2
  go_ret2
  exact ⟨rfl, rfl⟩
 ·have t1 : decide (a < c) = false := by simp; omega
  have t2 : decide (0 < b) = true := by simp; omega
  have t3 : (b != 0) = true := by rw [bne_iff_ne]; omega
  clear hc' h ha1 ha2 hb1 hb2
  go_enter Tryz.func41, Tryz.ntmps41
  go_wp2
  go_ret2
  exact ⟨rfl, rfl⟩
theorem sub64_yes (a b : Int) (w : World) (h1 : -9223372036854775808 ≤ a - b) (h2 : a - b ≤ 9223372036854775807) : Calls Tryz.prog 42 #[.int .i64 a, .int .i64 b] w fun e w' => e = .returned (.tuple #[.int .i64 (a - b), .bool true]) ∧ w = w' := by
 go_enter Tryz.func42, Tryz.ntmps42
 go_wp2
 go_ret2
 exact ⟨rfl, rfl⟩
theorem sub64_no (a b : Int) (w : World) (ha1 : -9223372036854775808 ≤ a) (ha2 : a ≤ 9223372036854775807) (hb1 : -9223372036854775808 ≤ b) (hb2 : b ≤ 9223372036854775807) (h : a - b < -9223372036854775808 ∨ 9223372036854775807 < a - b) : Calls Tryz.prog 42 #[.int .i64 a, .int .i64 b] w fun e w' => e = .returned (.tuple #[.int .i64 0, .bool false]) ∧ w = w' := by
 obtain ⟨c, hc⟩ : ∃ c, IntKind.i64.wrap (a - b) = c := ⟨_, rfl⟩
 have hc' := hc
 rw [IntKind.wrap_i64] at hc'
 rcases h with h | h
 ·have t1 : decide (c < a) = false := by simp; omega
  have t2 : decide (0 < b) = true := by simp; omega
  have t3 : (b != 0) = true := by rw [bne_iff_ne]; omega
  clear hc' h ha1 ha2 hb1 hb2
  go_enter Tryz.func42, Tryz.ntmps42
  go_wp2
  go_ret2
  exact ⟨rfl, rfl⟩
 ·have t1 : decide (c < a) = true := by simp; omega
  have t2 : decide (0 < b) = false := by simp; omega
  have t3 : (b != 0) = true := by rw [bne_iff_ne]; omega
  clear hc' h ha1 ha2 hb1 hb2
  go_enter Tryz.func42, Tryz.ntmps42
  go_wp2
  go_ret2
  exact ⟨rfl, rfl⟩
end Go.Proofs.YtpiiemneelkpkaaGreatDoor
namespace Go.Proofs.YtpiiemneelkpkaaGreatDoor
open Go.RowKit
set_option linter.unusedVariables false
theorem mul_tell64 (a b c : Int) (ha : a ≠ 0) (ha1 : -9223372036854775808 ≤ a) (ha2 : a ≤ 9223372036854775807) (hb1 : -9223372036854775808 ≤ b) (hb2 : b ≤ 9223372036854775807) (hc : IntKind.i64.wrap (a * b) = c) (h : a * b < -9223372036854775808 ∨ 9223372036854775807 < a * b) :
  (IntKind.i64.wrap (c.tdiv a) ≠ b) ∨ (a = -1 ∧ b < 0 ∧ c < 0 ∧ IntKind.i64.wrap (c.tdiv a) = b) := by
 rw [IntKind.wrap_i64] at hc
 by_cases h1 : a = -1 ∧ c = -9223372036854775808
 ·obtain ⟨rfl, hc1⟩ := h1
  have hb : b = -9223372036854775808 := by omega
  subst hb hc1
  exact .inr ⟨rfl, by omega, by omega, by decide⟩
 ·left
  have hf := Div.fits64 c a ha (by omega) (by omega) (fun e e2 => h1 ⟨e2, e⟩)
  rw [IntKind.wrap_i64]
  intro e
  have e2 : c.tdiv a = b := by omega
  have hp := (Div.parts c a ha).1
  rw [e2, Int.mul_comm] at hp
  have h4 := (Div.parts c a ha).2.2.2.1
  have h5 := (Div.parts c a ha).2.2.2.2
  generalize a * b = p at *
  generalize c.tmod a = r at *
  rcases Int.lt_or_gt_of_ne ha with ha' | ha'
  ·have := h5 ha'; omega
  ·have := h4 ha'; omega
theorem mul64_walk (a b c q : Int) (w : World) (hw : IntKind.i64.wrap (a * b) = c) (hq : IntKind.i64.wrap (c.tdiv a) = q) (t0 : (a != 0) = true) (t1 : ¬ a = 0) (t2 : (q != b) = false) (h : (a == -1) = false ∨ decide (b < 0) = false ∨ decide (c < 0) = false) :
  Calls Tryz.prog 39 #[.int .i64 a, .int .i64 b] w fun e w' => e = .returned (.tuple #[.int .i64 c, .bool true]) ∧ w = w' := by
 by_cases h1 : (a == -1) = false
 ·clear h
  go_enter Tryz.func39, Tryz.ntmps39
  go_wp2
  go_ret2
  exact ⟨rfl, rfl⟩
 ·have h2 : (a == -1) = true := by simpa using h1
  by_cases h3 : decide (b < 0) = false
  ·clear h h1
   go_enter Tryz.func39, Tryz.ntmps39
   go_wp2
   go_ret2
   exact ⟨rfl, rfl⟩
  ·have h4 : decide (b < 0) = true := by simpa using h3
   have h5 : decide (c < 0) = false := by
    rcases h with h | h | h
    ·exact absurd h h1
    ·exact absurd h h3
    ·exact h
   clear h h1 h3
   go_enter Tryz.func39, Tryz.ntmps39
   go_wp2
   go_ret2
   exact ⟨rfl, rfl⟩
theorem mul64_zero (b : Int) (w : World) : Calls Tryz.prog 39 #[.int .i64 0, .int .i64 b] w fun e w' => e = .returned (.tuple #[.int .i64 0, .bool true]) ∧ w = w' := by
 go_enter Tryz.func39, Tryz.ntmps39
 go_wp2
 go_ret2
 exact ⟨rfl, rfl⟩
theorem mul64_fall1 (a b c q : Int) (w : World) (hw : IntKind.i64.wrap (a * b) = c) (hq : IntKind.i64.wrap (c.tdiv a) = q) (t0 : (a != 0) = true) (t1 : ¬ a = 0) (t2 : (q != b) = true) :
  Calls Tryz.prog 39 #[.int .i64 a, .int .i64 b] w fun e w' => e = .returned (.tuple #[.int .i64 0, .bool false]) ∧ w = w' := by
 go_enter Tryz.func39, Tryz.ntmps39
 go_wp2
 go_ret2
 exact ⟨rfl, rfl⟩
theorem mul64_fall2 (a b c q : Int) (w : World) (hw : IntKind.i64.wrap (a * b) = c) (hq : IntKind.i64.wrap (c.tdiv a) = q) (t0 : (a != 0) = true) (t1 : ¬ a = 0) (t2 : (q != b) = false) (h3 : (a == -1) = true) (h4 : decide (b < 0) = true) (h5 : decide (c < 0) = true) :
  Calls Tryz.prog 39 #[.int .i64 a, .int .i64 b] w fun e w' => e = .returned (.tuple #[.int .i64 0, .bool false]) ∧ w = w' := by
 go_enter Tryz.func39, Tryz.ntmps39
 go_wp2
 go_ret2
 exact ⟨rfl, rfl⟩
theorem mul64_yes (a b p : Int) (w : World) (hb1 : -9223372036854775808 ≤ b) (hb2 : b ≤ 9223372036854775807) (hp : a * b = p) (h1 : -9223372036854775808 ≤ p) (h2 : p ≤ 9223372036854775807) :
  Calls Tryz.prog 39 #[.int .i64 a, .int .i64 b] w fun e w' => e = .returned (.tuple #[.int .i64 p, .bool true]) ∧ w = w' := by
 by_cases ha : a = 0
 ·subst ha
  rw [Int.zero_mul] at hp
  subst hp
  exact mul64_zero b w
 ·have hq : p.tdiv a = b := by rw [← hp, Int.mul_tdiv_cancel_left b ha]
  refine mul64_walk a b p b w (by rw [hp, IntKind.wrap_i64]; omega) (by rw [hq, IntKind.wrap_i64]; omega) (by simpa using ha) ha (by simp) ?_
  by_cases h3 : a = -1
  ·subst h3
   by_cases h4 : b < 0
   ·exact .inr (.inr (by simp; omega))
   ·exact .inr (.inl (by simpa using h4))
  ·exact .inl (by simpa using h3)
theorem mul64_no (a b : Int) (w : World) (ha1 : -9223372036854775808 ≤ a) (ha2 : a ≤ 9223372036854775807) (hb1 : -9223372036854775808 ≤ b) (hb2 : b ≤ 9223372036854775807) (h : a * b < -9223372036854775808 ∨ 9223372036854775807 < a * b) :
  Calls Tryz.prog 39 #[.int .i64 a, .int .i64 b] w fun e w' => e = .returned (.tuple #[.int .i64 0, .bool false]) ∧ w = w' := by
 have ha : a ≠ 0 := by
  rintro rfl
  rw [Int.zero_mul] at h
  omega
 rcases mul_tell64 a b _ ha ha1 ha2 hb1 hb2 rfl h with h1 | ⟨h1, h2, h3, h4⟩
 ·exact mul64_fall1 a b _ _ w rfl rfl (by simpa using ha) ha (by simpa using h1)
 ·exact mul64_fall2 a b _ _ w rfl rfl (by simpa using ha) ha (by simpa using h4) (by simpa using h1) (by simpa using h2) (by simpa using h3)
end Go.Proofs.YtpiiemneelkpkaaGreatDoor
namespace Go.Proofs.YtpiiemneelkpkaaGreatDoor
open Go.RowKit
set_option linter.unusedVariables false
theorem quo_zero (a : Int) (w : World) : Calls Tryz.prog 40 #[.int .i64 a, .int .i64 0] w fun e w' => e = .returned (.tuple #[.int .i64 0, .int .i64 14]) ∧ w = w' := by
 go_enter Tryz.func40, Tryz.ntmps40
 go_wp2
 go_ret2
 exact ⟨rfl, rfl⟩
theorem quo_over (w : World) : Calls Tryz.prog 40 #[.int .i64 (-9223372036854775808), .int .i64 (-1)] w fun e w' => e = .returned (.tuple #[.int .i64 0, .int .i64 13]) ∧ w = w' := by
 go_enter Tryz.func40, Tryz.ntmps40
 go_wp2
 go_ret2
 exact ⟨rfl, rfl⟩
theorem quo_walk1 (a b q : Int) (w : World) (t1 : (b == 0) = false) (t2 : ¬ b = 0) (t3 : (b == -1) = false) (hq : IntKind.i64.wrap (a.tdiv b) = q) :
  Calls Tryz.prog 40 #[.int .i64 a, .int .i64 b] w fun e w' => e = .returned (.tuple #[.int .i64 q, .int .i64 0]) ∧ w = w' := by
 by_cases t4 : (a == -9223372036854775808) = true
 ·go_enter Tryz.func40, Tryz.ntmps40
  go_wp2
  go_ret2
  exact ⟨rfl, rfl⟩
 ·have t5 : (a == -9223372036854775808) = false := by simpa using t4
  clear t4
  go_enter Tryz.func40, Tryz.ntmps40
  go_wp2
  go_ret2
  exact ⟨rfl, rfl⟩
theorem quo_walk2 (a q : Int) (w : World) (t3 : (a == -9223372036854775808) = false) (hq : IntKind.i64.wrap (-a) = q) :
  Calls Tryz.prog 40 #[.int .i64 a, .int .i64 (-1)] w fun e w' => e = .returned (.tuple #[.int .i64 q, .int .i64 0]) ∧ w = w' := by
 go_enter Tryz.func40, Tryz.ntmps40
 go_wp2
 go_ret2
 exact ⟨rfl, rfl⟩
theorem quo_ok (a b q : Int) (w : World) (hb : b ≠ 0) (h : a = -9223372036854775808 → b ≠ -1) (h1 : -9223372036854775808 ≤ a) (h2 : a ≤ 9223372036854775807) (hq : a.tdiv b = q) :
  Calls Tryz.prog 40 #[.int .i64 a, .int .i64 b] w fun e w' => e = .returned (.tuple #[.int .i64 q, .int .i64 0]) ∧ w = w' := by
 have hf := Div.fits64 a b hb h1 h2 h
 have hw : IntKind.i64.wrap (a.tdiv b) = q := by rw [IntKind.wrap_i64]; omega
 by_cases h3 : b = -1
 ·subst h3
  exact quo_walk2 a q w (by simpa using fun e => h e rfl) (by simpa using hw)
 ·exact quo_walk1 a b q w (by simpa using hb) hb (by simpa using h3) hw
theorem mod_zero (a : Int) (w : World) : Calls Tryz.prog 107 #[.int .i64 a, .int .i64 0] w fun e w' => e = .returned (.tuple #[.int .i64 0, .int .i64 14]) ∧ w = w' := by
 go_enter Tryz.func107, Tryz.ntmps107
 go_wp2
 go_ret2
 exact ⟨rfl, rfl⟩
theorem mod_one (a : Int) (w : World) : Calls Tryz.prog 107 #[.int .i64 a, .int .i64 (-1)] w fun e w' => e = .returned (.tuple #[.int .i64 0, .int .i64 0]) ∧ w = w' := by
 go_enter Tryz.func107, Tryz.ntmps107
 go_wp2
 go_ret2
 exact ⟨rfl, rfl⟩
theorem mod_walk (a b r m : Int) (u1 u2 : Bool) (w : World) (t1 : (b == 0) = false) (t2 : ¬ b = 0) (t3 : (b == -1) = false) (hr : a.tmod b = r) (hm : IntKind.i64.wrap (r + b) = m)
  (t4 : decide (r < 0) = u1) (t5 : decide (b < 0) = u2) :
  Calls Tryz.prog 107 #[.int .i64 a, .int .i64 b] w fun e w' => e = .returned (.tuple #[.int .i64 (if (r != 0 && (u1 != u2)) = true then m else r), .int .i64 0]) ∧ w = w' := by
 by_cases t6 : (r != 0) = true
 ·cases u1 <;> cases u2
  all_goals
   simp only [t6]
   go_enter Tryz.func107, Tryz.ntmps107
   go_wp2
   go_ret2
   exact ⟨rfl, rfl⟩
 ·have t7 : (r != 0) = false := by simpa using t6
  simp only [t7]
  clear t6
  go_enter Tryz.func107, Tryz.ntmps107
  go_wp2
  go_ret2
  exact ⟨rfl, rfl⟩
theorem mod_ok (a b m : Int) (w : World) (hb : b ≠ 0) (h1 : -9223372036854775808 ≤ b) (h2 : b ≤ 9223372036854775807) (hm : Div.modV a b = m) :
  Calls Tryz.prog 107 #[.int .i64 a, .int .i64 b] w fun e w' => e = .returned (.tuple #[.int .i64 m, .int .i64 0]) ∧ w = w' := by
 have hr := Div.modV_range a b hb
 rw [hm] at hr
 by_cases h3 : b = -1
 ·subst h3
  obtain rfl : m = 0 := by omega
  exact mod_one a w
 ·refine (mod_walk a b _ _ _ _ w (by simpa using hb) hb (by simpa using h3) rfl rfl rfl rfl).mono ?_
  rintro e w' ⟨rfl, rfl⟩
  refine ⟨?_, rfl⟩
  have : (if (a.tmod b != 0 && (decide (a.tmod b < 0) != decide (b < 0))) = true then IntKind.i64.wrap (a.tmod b + b) else a.tmod b) = m := by
   have hp := Div.parts a b hb
   unfold Div.modV at hm
   rw [← hm]
   by_cases hc : a.tmod b ≠ 0 ∧ (decide (a.tmod b < 0) != decide (b < 0)) = true
   ·rw [if_pos hc, if_pos (by simpa using hc), IntKind.wrap_i64]
    rw [if_pos hc] at hm
    omega
   ·rw [if_neg hc, if_neg (by simpa using hc)]
  rw [this]
end Go.Proofs.YtpiiemneelkpkaaGreatDoor
namespace Go.Proofs.YtpiiemneelkpkaaGreatDoor
open Go.RowKit
set_option linter.unusedVariables false
theorem size_neg (a : Int) (m : Nat) (w : World) (h : a < 0) (h1 : -9223372036854775808 ≤ a) (hm : a.natAbs = m) : Calls Tryz.prog 174 #[.int .i64 a] w fun e w' => e = .returned (.int .u64 (m : Int)) ∧ w = w' := by
 have hw : IntKind.u64.wrap a = a + 18446744073709551616 := by simp [IntKind.wrap, IntKind.bits, IntKind.signed]; omega
 have hw2 : IntKind.u64.wrap (-(IntKind.u64.wrap a)) = (m : Int) := by
  rw [hw]; simp [IntKind.wrap, IntKind.bits, IntKind.signed]; omega
 clear hw
 go_enter Tryz.func174, Tryz.ntmps174
 go_wp2
 go_ret
 exact ⟨rfl, rfl⟩
theorem size_pos (a : Int) (m : Nat) (w : World) (h : 0 ≤ a) (h1 : a ≤ 9223372036854775807) (hm : a.natAbs = m) : Calls Tryz.prog 174 #[.int .i64 a] w fun e w' => e = .returned (.int .u64 (m : Int)) ∧ w = w' := by
 obtain rfl : a = (m : Int) := by omega
 clear hm h
 go_enter Tryz.func174, Tryz.ntmps174
 go_wp2
 go_ret
 exact ⟨rfl, rfl⟩
theorem size_any (a : Int) (m : Nat) (w : World) (h1 : -9223372036854775808 ≤ a) (h2 : a ≤ 9223372036854775807) (hm : a.natAbs = m) : Calls Tryz.prog 174 #[.int .i64 a] w fun e w' => e = .returned (.int .u64 (m : Int)) ∧ w = w' := by
 by_cases h : a < 0
 ·exact size_neg a m w h h1 hm
 ·exact size_pos a m w (by omega) h2 hm
set_option maxHeartbeats 400000 in
theorem gcd_any (a b g : Nat) (w : World) (ha : a ≤ 18446744073709551615) (hb : b ≤ 18446744073709551615) (hg : Nat.gcd a b = g) :
  Calls Tryz.prog 173 #[.int .u64 (a : Int), .int .u64 (b : Int)] w fun e w' => e = .returned (.int .u64 (g : Int)) ∧ ∃ n, w' = w.drewN n := by
 have HG := Lib.hid hg
 clear hg
 go_enter Tryz.func173, Tryz.ntmps173
 go_wp2
 go_loopw [0, 1] (fun u v wr => ∃ x y n : Nat, u = .int .u64 (x : Int) ∧ v = .int .u64 (y : Int) ∧ x ≤ 18446744073709551615 ∧ y ≤ 18446744073709551615 ∧ Hid (Nat.gcd x y = g) ∧ wr = w.drewN n) (fun _ v _ => (intOf v).toNat)
 case atStart => exact ⟨a, b, 0, rfl, rfl, ha, hb, HG, rfl⟩
 case round =>
  obtain ⟨x, y, n, rfl, rfl, hx, hy, HG2, rfl⟩ := hrel
  by_cases h0 : y = 0
  ·subst h0
   go_wp2
   go_ret
   exact ⟨by rw [← HG2.out]; simp, n, rfl⟩
  ·have t1 : ((y : Int) != 0) = true := by rw [bne_iff_ne]; omega
   have t2 : ¬ (y : Int) = 0 := by omega
   have hlt : x % y < y := Nat.mod_lt _ (by omega)
   have hm : (x : Int).tmod (y : Int) = ((x % y : Nat) : Int) := by rw [Int.tmod_eq_emod_of_nonneg (by omega)]; omega
   go_wp2
   go_quiet (fail)
   go_wp2
   go_roundw
   case rel => exact ⟨y, x % y, _, rfl, rfl, hy, by omega, by rw [← PowG.gcd_step]; exact HG2, World.drewN_drewN _ _ _⟩
   case measure => simp [intOf]; omega
theorem Gcd_ok (a b : Int) (g : Nat) (w : World) (ha1 : -9223372036854775808 ≤ a) (ha2 : a ≤ 9223372036854775807) (hb1 : -9223372036854775808 ≤ b) (hb2 : b ≤ 9223372036854775807) (hg : Nat.gcd a.natAbs b.natAbs = g) (h : g ≤ 9223372036854775807) :
  Calls Tryz.prog 108 #[.int .i64 a, .int .i64 b] w fun e w' => e = .returned (.tuple #[.int .i64 (g : Int), .int .i64 0]) ∧ ∃ n, w' = w.drewN n := by
 have HG := Lib.hid hg
 clear hg
 obtain ⟨x, hx⟩ : ∃ x, a.natAbs = x := ⟨_, rfl⟩
 obtain ⟨y, hy⟩ : ∃ y, b.natAbs = y := ⟨_, rfl⟩
 have hx2 : x ≤ 9223372036854775808 := by omega
 have hy2 : y ≤ 9223372036854775808 := by omega
 have sa := fun w => size_any a x w ha1 ha2 hx
 have sb := fun w => size_any b y w hb1 hb2 hy
 have SA := Lib.hid sa
 have SB := Lib.hid sb
 have G := Lib.hid (fun w => gcd_any x y g w (by omega) (by omega) (by rw [← hx, ← hy]; exact HG.out))
 clear hx hy sa sb HG
 go_enter Tryz.func108, Tryz.ntmps108
 go_wp2_with (fail)
 refine (SA.out _).mono ?_
 rintro e w' ⟨rfl, rfl⟩
 go_wp2_with (fail)
 refine (SB.out _).mono ?_
 rintro e w' ⟨rfl, rfl⟩
 go_wp2_with (fail)
 refine (G.out _).mono ?_
 rintro e w' ⟨rfl, n, rfl⟩
 go_wp2
 go_ret2
 exact ⟨rfl, n, rfl⟩
theorem Gcd_over (a b : Int) (g : Nat) (w : World) (ha1 : -9223372036854775808 ≤ a) (ha2 : a ≤ 9223372036854775807) (hb1 : -9223372036854775808 ≤ b) (hb2 : b ≤ 9223372036854775807) (hg : Nat.gcd a.natAbs b.natAbs = g) (h : 9223372036854775807 < g) :
  Calls Tryz.prog 108 #[.int .i64 a, .int .i64 b] w fun e w' => e = .returned (.tuple #[.int .i64 0, .int .i64 13]) ∧ ∃ n, w' = w.drewN n := by
 obtain ⟨x, hx⟩ : ∃ x, a.natAbs = x := ⟨_, rfl⟩
 obtain ⟨y, hy⟩ : ∃ y, b.natAbs = y := ⟨_, rfl⟩
 have hgl := PowG.gcd_le a.natAbs b.natAbs 9223372036854775808 (by omega) (by omega)
 have hg8 : g = 9223372036854775808 := by omega
 have SA := Lib.hid (fun w => size_any a x w ha1 ha2 hx)
 have SB := Lib.hid (fun w => size_any b y w hb1 hb2 hy)
 have G := Lib.hid (fun w => gcd_any x y g w (by omega) (by omega) (by rw [← hx, ← hy]; exact hg))
 clear hx hy hg hgl hg8
 go_enter Tryz.func108, Tryz.ntmps108
 go_wp2_with (fail)
 refine (SA.out _).mono ?_
 rintro e w' ⟨rfl, rfl⟩
 go_wp2_with (fail)
 refine (SB.out _).mono ?_
 rintro e w' ⟨rfl, rfl⟩
 go_wp2_with (fail)
 refine (G.out _).mono ?_
 rintro e w' ⟨rfl, n, rfl⟩
 go_wp2
 go_ret2
 exact ⟨rfl, n, rfl⟩
theorem Lcm_zero1 (a : Int) (w : World) : Calls Tryz.prog 109 #[.int .i64 0, .int .i64 a] w fun e w' => e = .returned (.tuple #[.int .i64 0, .int .i64 0]) ∧ w = w' := by
 go_enter Tryz.func109, Tryz.ntmps109
 go_wp2
 go_ret2
 exact ⟨rfl, rfl⟩
theorem Lcm_zero2 (a : Int) (w : World) : Calls Tryz.prog 109 #[.int .i64 a, .int .i64 0] w fun e w' => e = .returned (.tuple #[.int .i64 0, .int .i64 0]) ∧ w = w' := by
 by_cases h : a = 0
 ·subst h; exact Lcm_zero1 0 w
 ·have h1 : (a == 0) = false := by simpa using h
  clear h
  go_enter Tryz.func109, Tryz.ntmps109
  go_wp2
  go_ret2
  exact ⟨rfl, rfl⟩
set_option maxHeartbeats 400000 in
theorem Lcm_ok (a b : Int) (x y g q p : Nat) (w : World) (ha0 : a ≠ 0) (hb0 : b ≠ 0) (ha1 : -9223372036854775808 ≤ a) (ha2 : a ≤ 9223372036854775807) (hb1 : -9223372036854775808 ≤ b) (hb2 : b ≤ 9223372036854775807)
  (hx : a.natAbs = x) (hy : b.natAbs = y) (hg : Nat.gcd x y = g) (hq : x / g = q) (hlt : q * y = p) (hp : p ≤ 9223372036854775807) :
  Calls Tryz.prog 109 #[.int .i64 a, .int .i64 b] w fun e w' => e = .returned (.tuple #[.int .i64 (p : Int), .int .i64 0]) ∧ ∃ n, w' = w.drewN n := by
 have SA := Lib.hid (fun w => size_any a x w ha1 ha2 hx)
 have SB := Lib.hid (fun w => size_any b y w hb1 hb2 hy)
 have hxl : x ≤ 9223372036854775808 := by omega
 have hyl : y ≤ 9223372036854775808 := by omega
 have hy0 : y ≠ 0 := by omega
 have hx0 : x ≠ 0 := by omega
 have hg0 : g ≠ 0 := by
  intro e; rw [e] at hg
  exact hx0 (Nat.gcd_eq_zero_iff.1 hg).1
 have G := Lib.hid (fun w => gcd_any x y g w (by omega) (by omega) hg)
 have e1 : (x : Int).tdiv (g : Int) = (q : Int) := by rw [Int.tdiv_eq_ediv_of_nonneg (by omega), ← hq]; simp
 have t1 : ¬ (g : Int) = 0 := by omega
 have t2 : ¬ (y : Int) = 0 := by omega
 have h1 : (a == 0) = false := by simpa using ha0
 have h2 : (b == 0) = false := by simpa using hb0
 have hql : q ≤ 9223372036854775808 := by have := Nat.div_le_self x g; omega
 have t3 : decide (9223372036854775807 / (y : Int) < (q : Int)) = false := by
  have e : (9223372036854775807 / y < q) ↔ 9223372036854775807 < q * y := Nat.div_lt_iff_lt_mul (by omega)
  have e2 : (9223372036854775807 / (y : Int) < (q : Int)) ↔ (9223372036854775807 / y < q) := by
   rw [show (9223372036854775807 : Int) / (y : Int) = ((9223372036854775807 / y : Nat) : Int) from by simp]; omega
  simp only [e2, e, hlt, decide_eq_false_iff_not]
  omega
 have t4 : (q : Int) * (y : Int) = (p : Int) := by rw [← hlt]; simp
 clear hx hy hg hq hlt ha0 hb0 ha1 ha2 hb1 hb2 hx0 hy0 hg0
 go_enter Tryz.func109, Tryz.ntmps109
 go_wp2_with (fail)
 refine (SA.out _).mono ?_
 rintro e w' ⟨rfl, rfl⟩
 go_wp2_with (fail)
 refine (SB.out _).mono ?_
 rintro e w' ⟨rfl, rfl⟩
 go_wp2_with (fail)
 refine (G.out _).mono ?_
 rintro e w' ⟨rfl, n, rfl⟩
 go_wp2
 go_ret2
 exact ⟨rfl, n, rfl⟩
set_option maxHeartbeats 400000 in
theorem Lcm_over (a b : Int) (x y g q p : Nat) (w : World) (ha0 : a ≠ 0) (hb0 : b ≠ 0) (ha1 : -9223372036854775808 ≤ a) (ha2 : a ≤ 9223372036854775807) (hb1 : -9223372036854775808 ≤ b) (hb2 : b ≤ 9223372036854775807)
  (hx : a.natAbs = x) (hy : b.natAbs = y) (hg : Nat.gcd x y = g) (hq : x / g = q) (hlt : q * y = p) (hp : 9223372036854775807 < p) :
  Calls Tryz.prog 109 #[.int .i64 a, .int .i64 b] w fun e w' => e = .returned (.tuple #[.int .i64 0, .int .i64 13]) ∧ ∃ n, w' = w.drewN n := by
 have SA := Lib.hid (fun w => size_any a x w ha1 ha2 hx)
 have SB := Lib.hid (fun w => size_any b y w hb1 hb2 hy)
 have hxl : x ≤ 9223372036854775808 := by omega
 have hyl : y ≤ 9223372036854775808 := by omega
 have hy0 : y ≠ 0 := by omega
 have hx0 : x ≠ 0 := by omega
 have hg0 : g ≠ 0 := by
  intro e; rw [e] at hg
  exact hx0 (Nat.gcd_eq_zero_iff.1 hg).1
 have G := Lib.hid (fun w => gcd_any x y g w (by omega) (by omega) hg)
 have e1 : (x : Int).tdiv (g : Int) = (q : Int) := by rw [Int.tdiv_eq_ediv_of_nonneg (by omega), ← hq]; simp
 have t1 : ¬ (g : Int) = 0 := by omega
 have t2 : ¬ (y : Int) = 0 := by omega
 have h1 : (a == 0) = false := by simpa using ha0
 have h2 : (b == 0) = false := by simpa using hb0
 have hql : q ≤ 9223372036854775808 := by have := Nat.div_le_self x g; omega
 have t3 : decide (9223372036854775807 / (y : Int) < (q : Int)) = true := by
  have e : (9223372036854775807 / y < q) ↔ 9223372036854775807 < q * y := Nat.div_lt_iff_lt_mul (by omega)
  have e2 : (9223372036854775807 / (y : Int) < (q : Int)) ↔ (9223372036854775807 / y < q) := by
   rw [show (9223372036854775807 : Int) / (y : Int) = ((9223372036854775807 / y : Nat) : Int) from by simp]; omega
  simp only [e2, e, hlt, decide_eq_true_eq]
  omega
 have t4 : (q : Int) * (y : Int) = (p : Int) := by rw [← hlt]; simp
 clear hx hy hg hq hlt ha0 hb0 ha1 ha2 hb1 hb2 hx0 hy0 hg0
 go_enter Tryz.func109, Tryz.ntmps109
 go_wp2_with (fail)
 refine (SA.out _).mono ?_
 rintro e w' ⟨rfl, rfl⟩
 go_wp2_with (fail)
 refine (SB.out _).mono ?_
 rintro e w' ⟨rfl, rfl⟩
 go_wp2_with (fail)
 refine (G.out _).mono ?_
 rintro e w' ⟨rfl, n, rfl⟩
 go_wp2
 go_ret2
 exact ⟨rfl, n, rfl⟩
theorem pow_neg (a b : Int) (w : World) (h : b < 0) : Calls Tryz.prog 37 #[.int .i64 a, .int .i64 b] w fun e w' => e = .returned (.tuple #[.int .i64 0, .int .i64 13]) ∧ w = w' := by
 go_enter Tryz.func37, Tryz.ntmps37
 go_wp2
 go_ret2
 exact ⟨rfl, rfl⟩
theorem pow_zero (b : Int) (w : World) (h : 0 < b) : Calls Tryz.prog 37 #[.int .i64 0, .int .i64 b] w fun e w' => e = .returned (.tuple #[.int .i64 0, .int .i64 0]) ∧ w = w' := by
 go_enter Tryz.func37, Tryz.ntmps37
 go_wp2
 go_ret2
 exact ⟨rfl, rfl⟩
theorem pow_one (b : Int) (w : World) (h : 0 ≤ b) : Calls Tryz.prog 37 #[.int .i64 1, .int .i64 b] w fun e w' => e = .returned (.tuple #[.int .i64 1, .int .i64 0]) ∧ w = w' := by
 go_enter Tryz.func37, Tryz.ntmps37
 go_wp2
 go_ret2
 exact ⟨rfl, rfl⟩
theorem pow_none (b r : Int) (w : World) (h : 0 ≤ b) (hb : bits .and .i64 b 1 = r) (h0 : 0 ≤ r) (h1 : r ≤ 1) : Calls Tryz.prog 37 #[.int .i64 (-1), .int .i64 b] w fun e w' => e = .returned (.tuple #[.int .i64 (1 - 2 * r), .int .i64 0]) ∧ w = w' := by
 go_enter Tryz.func37, Tryz.ntmps37
 go_wp2
 go_ret2
 exact ⟨rfl, rfl⟩
theorem powN_fit {a : Int} {k : Nat} (h : PowG.Fits (a ^ k)) : PowG.powN a k = a ^ k ∧ PowG.powE a k = 0 := by
 unfold PowG.powN PowG.powE; rw [if_pos h, if_pos h]; exact ⟨rfl, rfl⟩
theorem powN_not {a : Int} {k : Nat} (h : ¬ PowG.Fits (a ^ k)) : PowG.powN a k = 0 ∧ PowG.powE a k = 13 := by
 unfold PowG.powN PowG.powE; rw [if_neg h, if_neg h]; exact ⟨rfl, rfl⟩
theorem pow_nought (w : World) : Calls Tryz.prog 37 #[.int .i64 0, .int .i64 0] w fun e w' => e = .returned (.tuple #[.int .i64 1, .int .i64 0]) ∧ w = w' := by
 go_enter Tryz.func37, Tryz.ntmps37
 go_wp2
 refine wp_loop_rounds 1 ?_
 rw [rounds_succ]
 go_wp2
 go_ret2
 exact ⟨rfl, rfl⟩
set_option maxHeartbeats 400000 in
theorem pow_great (a x y : Int) (b : Nat) (w : World) (ha1 : -9223372036854775808 ≤ a) (ha2 : a ≤ 9223372036854775807) (hb2 : b ≤ 9223372036854775807) (h0 : a ≠ 0) (h1 : a ≠ 1) (h2 : a ≠ -1)
  (hx : PowG.powN a b = x) (hy : PowG.powE a b = y) :
  Calls Tryz.prog 37 #[.int .i64 a, .int .i64 (b : Int)] w fun e w' => e = .returned (.tuple #[.int .i64 x, .int .i64 y]) ∧ w = w' := by
 have t0 : (a == 0) = false := by simpa using h0
 have t1 : (a == 1) = false := by simpa using h1
 have t2 : (a == -1) = false := by simpa using h2
 have HX := Lib.hid hx
 have HY := Lib.hid hy
 clear h1 h2 h0 hx hy
 go_enter Tryz.func37, Tryz.ntmps37
 go_wp2
 go_loop [1, 6] (fun v u => ∃ (k j : Nat) (p : Int), v = .int .i64 (j : Int) ∧ k + j ≤ b ∧ Hid (b = k + j) ∧ u = .int .i64 p ∧ -9223372036854775808 ≤ p ∧ p ≤ 9223372036854775807 ∧ Hid (a ^ k = p)) (fun v _ => (intOf v).toNat)
 case atStart => exact ⟨0, b, 1, rfl, by omega, Lib.hid (by omega), rfl, by omega, by omega, Lib.hid (by simp)⟩
 case round =>
  obtain ⟨k, j, p, rfl, hkj, HJ, rfl, hp1, hp2, HP⟩ := hrel
  by_cases hj : j = 0
  ·subst hj
   have HE : Hid (x = p ∧ y = 0) := by
    have e : b = k := by have := HJ.out; omega
    have hf : PowG.Fits (a ^ b) := by rw [e, HP.out]; exact ⟨hp1, hp2⟩
    rw [← HX.out, ← HY.out, (powN_fit hf).1, (powN_fit hf).2, e, HP.out]
    exact ⟨rfl, rfl⟩
   go_wp2
   go_ret2
   rw [HE.out.1, HE.out.2]
   exact ⟨rfl, rfl⟩
  ·obtain ⟨i, hi⟩ : ∃ i, j = i + 1 := ⟨j - 1, by omega⟩
   subst hi
   by_cases hf : -9223372036854775808 ≤ p * a ∧ p * a ≤ 9223372036854775807
   ·obtain ⟨q, hq⟩ : ∃ q, p * a = q := ⟨_, rfl⟩
    have M := Lib.hid (fun w => mul64_yes p a q w ha1 ha2 hq (by omega) (by omega))
    have HQ : Hid (a ^ (k + 1) = q ∧ -9223372036854775808 ≤ q ∧ q ≤ 9223372036854775807) := ⟨by rw [Int.pow_succ, HP.out, hq], by omega, by omega⟩
    clear hf hq
    go_wp2_with (fail)
    refine (M.out _).mono ?_
    rintro e w' ⟨rfl, rfl⟩
    go_wp2
    go_round
    case rel => exact ⟨k + 1, i, q, by go_num, by omega, Lib.hid (by have := HJ.out; omega), rfl, HQ.out.2.1, HQ.out.2.2, Lib.hid HQ.out.1⟩
    case measure => simp [intOf]
   ·have M := Lib.hid (fun w => mul64_no p a w hp1 hp2 ha1 ha2 (by omega))
    have HE : Hid (x = 0 ∧ y = 13) := by
     have hn : ¬ PowG.Fits (a ^ (k + 1)) := by rw [Int.pow_succ, HP.out]; exact hf
     have hn2 := PowG.pow_over' a (k + 1) i hn
     have e : b = k + 1 + i := by have := HJ.out; omega
     rw [← e] at hn2
     rw [← HX.out, ← HY.out, (powN_not hn2).1, (powN_not hn2).2]
     exact ⟨rfl, rfl⟩
    clear hf
    go_wp2_with (fail)
    refine (M.out _).mono ?_
    rintro e w' ⟨rfl, rfl⟩
    go_wp2
    go_ret2
    rw [HE.out.1, HE.out.2]
    exact ⟨rfl, rfl⟩
theorem and_one (b : Nat) (hb : b ≤ 9223372036854775807) : bits .and .i64 (b : Int) 1 = ((b % 2 : Nat) : Int) := by
 show IntKind.i64.wrap ((BitVec.ofInt 64 (b : Int) &&& BitVec.ofInt 64 1).toNat : Int) = _
 have e : (BitVec.ofInt 64 (b : Int) &&& BitVec.ofInt 64 1).toNat = b % 2 := by
  rw [BitVec.toNat_and, BitVec.ofInt_natCast, BitVec.toNat_ofNat, Nat.mod_eq_of_lt (by omega)]
  have : (BitVec.ofInt 64 1).toNat = 1 := by decide
  rw [this, Nat.and_one_is_mod]
 rw [e, IntKind.wrap_i64]
 omega
theorem pow_any (a x y : Int) (b : Nat) (w : World) (ha1 : -9223372036854775808 ≤ a) (ha2 : a ≤ 9223372036854775807) (hb2 : b ≤ 9223372036854775807)
  (hx : PowG.powN a b = x) (hy : PowG.powE a b = y) :
  Calls Tryz.prog 37 #[.int .i64 a, .int .i64 (b : Int)] w fun e w' => e = .returned (.tuple #[.int .i64 x, .int .i64 y]) ∧ w = w' := by
 by_cases h0 : a = 0
 ·subst h0
  by_cases hb : b = 0
  ·subst hb
   have hf : PowG.Fits ((0 : Int) ^ 0) := by decide
   rw [(powN_fit hf).1] at hx
   rw [(powN_fit hf).2] at hy
   subst hx hy
   exact pow_nought w
  ·have e : (0 : Int) ^ b = 0 := PowG.zero_pow b (by omega)
   have hf : PowG.Fits ((0 : Int) ^ b) := by rw [e]; decide
   rw [(powN_fit hf).1, e] at hx
   rw [(powN_fit hf).2] at hy
   subst hx hy
   exact pow_zero b w (by omega)
 ·by_cases h1 : a = 1
  ·subst h1
   have e := PowG.one_pow b
   have hf : PowG.Fits ((1 : Int) ^ b) := by rw [e]; decide
   rw [(powN_fit hf).1, e] at hx
   rw [(powN_fit hf).2] at hy
   subst hx hy
   exact pow_one b w (by omega)
  ·by_cases h2 : a = -1
   ·subst h2
    have e := PowG.negone_pow b
    have hf : PowG.Fits ((-1 : Int) ^ b) := by rw [e]; unfold PowG.Fits; omega
    rw [(powN_fit hf).1, e] at hx
    rw [(powN_fit hf).2] at hy
    subst hx hy
    exact pow_none b _ w (by omega) (and_one b hb2) (by omega) (by omega)
   ·exact pow_great a x y b w ha1 ha2 hb2 h0 h1 h2 hx hy
end Go.Proofs.YtpiiemneelkpkaaGreatDoor
namespace Go.Proofs.YtpiiemneelkpkaaGreatDoor
open Go.RowKit
set_option linter.unusedVariables false
theorem gTen : Tryz.prog.globalNamed "internal/strconv.uint64pow10" = some 1 := by kernel_rfl
structure NumW (w : World) : Prop where
 tab : Lib.TabIs Tryz.prog w "internal/strconv.uint64pow10" .u64 Lib.pow10Tab
 rng : ∃ te pe, w.cell? ⟨3, 0, none⟩ = some (.iface te pe)
 low : 1 < w.heap.size
theorem NumW.below {w w' : World} (h : NumW w) (hb : Below w.heap.size w w') : NumW w' := by
 obtain ⟨ht, ⟨te, pe, hc⟩, hl⟩ := h
 have hl2 := World.block_lt_of_cell? w _ hc
 exact ⟨var?_below hb gTen hl ht, ⟨te, pe, (hb.cell hl2).trans hc⟩, Nat.lt_of_lt_of_le hl hb.size⟩
theorem below_grown (w : World) (k : Nat) (os : Array Obj) : Below w.heap.size w (Sort.grow (w.drewN k) os) :=
 ⟨rfl, rfl, rfl, by simp [Sort.grow, World.drewN], fun i hi => by
  show (w.heap ++ os)[i]? = _
  rw [Array.getElem?_append_left hi]⟩
theorem text_any (n : Int) (w : World) (h0 : -9223372036854775808 ≤ n) (h1 : n ≤ 9223372036854775807) (hN : NumW w) :
  Ret 68 #[.int .i64 n] w (.string ⟨(Lib.itoa n).toArray⟩) := by
 have HF := Lib.hid (Tryz.strconv_FormatInt_10 n h0 h1 w hN.tab)
 go_enter Tryz.func68, Tryz.ntmps68
 go_wp2_with (fail)
 refine HF.out.mono ?_
 rintro e w' ⟨rfl, k, os, rfl⟩
 have hb := below_grown w k os
 generalize Sort.grow (w.drewN k) os = w1 at *
 go_wp2
 go_ret
 exact ⟨rfl, hb⟩
theorem get_list (s : ByteArray) (k : Nat) (h : k < s.size) : s.data.toList[k]'(by simpa using h) = s[k] := rfl
theorem read_empty (w : World) (s : ByteArray) (e0 : s.toList = []) : Ret 77 #[.string s] w (.tuple #[.int .i64 0, .int .i64 12]) := by
 go_enter Tryz.func77, Tryz.ntmps77
 go_wp2
 go_ret2
 exact ⟨rfl, Below.refl _ _⟩
theorem read_m_none (s d : ByteArray) (w : World) (e0 : s.toList.isEmpty = false) (e1 : ¬ s.toList = []) (hz : 0 < s.size) (h45 : (((s[0]'hz).toNat : Int) == 45) = true) (hd : s.extract 1 s.size = d) (hsz : s.size - 1 = d.size) (f0 : d.toList = []) :
  Ret 77 #[.string s] w (.tuple #[.int .i64 0, .int .i64 12]) := by
 go_enter Tryz.func77, Tryz.ntmps77
 go_wp2
 go_ret2
 exact ⟨rfl, Below.refl _ _⟩
theorem read_m_idle (s d : ByteArray) (w : World) (e0 : s.toList.isEmpty = false) (e1 : ¬ s.toList = []) (hz : 0 < s.size) (h45 : (((s[0]'hz).toNat : Int) == 45) = true) (hd : s.extract 1 s.size = d) (hsz : s.size - 1 = d.size) (f0 : d.toList.isEmpty = false) (f1 : ¬ d.toList = []) (hdz : 0 < d.size) (h48 : (((d[0]'hdz).toNat : Int) == 48) = true) (hs0 : (s.toList == [48]) = false) :
  Ret 77 #[.string s] w (.tuple #[.int .i64 0, .int .i64 12]) := by
 go_enter Tryz.func77, Tryz.ntmps77
 go_wp2
 go_ret2
 exact ⟨rfl, Below.refl _ _⟩
set_option maxHeartbeats 400000 in
theorem read_m_bad (s d : ByteArray) (w : World) (e0 : s.toList.isEmpty = false) (e1 : ¬ s.toList = []) (hz : 0 < s.size) (h45 : (((s[0]'hz).toNat : Int) == 45) = true) (hd : s.extract 1 s.size = d) (hsz : s.size - 1 = d.size) (f0 : d.toList.isEmpty = false) (f1 : ¬ d.toList = []) (hdz : 0 < d.size) (h48 : (((d[0]'hdz).toNat : Int) == 48) = false ∨ ((((d[0]'hdz).toNat : Int) == 48) = true ∧ (s.toList == [48]) = true)) (hb : ∃ j, ∃ h : j < d.size, ¬ (48 ≤ (d[j]'h).toNat ∧ (d[j]'h).toNat ≤ 57)) (hmax : d.size ≤ 140737488351232) :
  Ret 77 #[.string s] w (.tuple #[.int .i64 0, .int .i64 12]) := by
 have HB := Lib.hid hb
 clear hb
 rcases h48 with h48 | ⟨h48, hs0⟩
 all_goals
  go_enter Tryz.func77, Tryz.ntmps77
  go_wp2
  go_loop [31] (fun i => ∃ k : Nat, k ≤ d.size ∧ i = .int .i64 (k : Int) ∧ Hid (∀ j (h : j < d.size), j < k → 48 ≤ (d[j]'h).toNat ∧ (d[j]'h).toNat ≤ 57)) (fun i => d.size - (intOf i).toNat)
  case atStart => exact ⟨0, by omega, rfl, fun _ _ h => absurd h (by omega)⟩
  case round =>
   obtain ⟨k, hk, rfl, HD⟩ := hrel
   by_cases hlt : k < d.size
   ·by_cases hg : 48 ≤ (d[k]'hlt).toNat ∧ (d[k]'hlt).toNat ≤ 57
    ·have t1 : decide (((d[k]'hlt).toNat : Int) < 48) = false := by simp; omega
     have t2 : decide ((57 : Int) < ((d[k]'hlt).toNat : Int)) = false := by simp; omega
     have HD2 : Hid (∀ j (h : j < d.size), j < k + 1 → 48 ≤ (d[j]'h).toNat ∧ (d[j]'h).toNat ≤ 57) := fun j h hj => by
      by_cases e : j = k
      ·subst e; exact hg
      ·exact HD.out j h (by omega)
     clear hg
     go_wp2
     go_round
     case rel => exact ⟨k + 1, by omega, by go_num, HD2⟩
     case measure => simp [intOf]; omega
    ·have t3 : (decide (((d[k]'hlt).toNat : Int) < 48) = true) ∨ (decide (((d[k]'hlt).toNat : Int) < 48) = false ∧ decide ((57 : Int) < ((d[k]'hlt).toNat : Int)) = true) := by simp; omega
     clear hg
     rcases t3 with t1 | ⟨t1, t2⟩
     all_goals
      go_wp2
      go_ret2
      exact ⟨rfl, Below.refl _ _⟩
   ·obtain rfl : d.size = k := by omega
    obtain ⟨j, hj, hn⟩ := HB.out
    exact absurd (HD.out j hj hj) hn
set_option maxHeartbeats 400000 in
theorem read_m_ok (s d : ByteArray) (w : World) (e0 : s.toList.isEmpty = false) (e1 : ¬ s.toList = []) (hz : 0 < s.size) (h45 : (((s[0]'hz).toNat : Int) == 45) = true) (hd : s.extract 1 s.size = d) (hsz : s.size - 1 = d.size) (f0 : d.toList.isEmpty = false) (f1 : ¬ d.toList = []) (hdz : 0 < d.size) (h48 : (((d[0]'hdz).toNat : Int) == 48) = false ∨ ((((d[0]'hdz).toNat : Int) == 48) = true ∧ (s.toList == [48]) = true)) (ha : ∀ j (h : j < d.size), 48 ≤ (d[j]'h).toNat ∧ (d[j]'h).toNat ≤ 57) (hmax : d.size ≤ 140737488351232) (x : Int) (hp : ∀ w, Ret 103 #[.string s, .int .i64 10, .int .i64 64] w (.tuple #[.int .i64 x, .nilIface])) :
  Ret 77 #[.string s] w (.tuple #[.int .i64 x, .int .i64 0]) := by
 have HA := Lib.hid ha
 have HP := Lib.hid hp
 clear ha hp
 rcases h48 with h48 | ⟨h48, hs0⟩
 all_goals
  go_enter Tryz.func77, Tryz.ntmps77
  go_wp2
  go_loop [31] (fun i => ∃ k : Nat, k ≤ d.size ∧ i = .int .i64 (k : Int) ∧ Hid (∀ j (h : j < d.size), j < k → 48 ≤ (d[j]'h).toNat ∧ (d[j]'h).toNat ≤ 57)) (fun i => d.size - (intOf i).toNat)
  case atStart => exact ⟨0, by omega, rfl, fun _ _ h => absurd h (by omega)⟩
  case round =>
   obtain ⟨k, hk, rfl, HD⟩ := hrel
   by_cases hlt : k < d.size
   ·by_cases hg : 48 ≤ (d[k]'hlt).toNat ∧ (d[k]'hlt).toNat ≤ 57
    ·have t1 : decide (((d[k]'hlt).toNat : Int) < 48) = false := by simp; omega
     have t2 : decide ((57 : Int) < ((d[k]'hlt).toNat : Int)) = false := by simp; omega
     have HD2 : Hid (∀ j (h : j < d.size), j < k + 1 → 48 ≤ (d[j]'h).toNat ∧ (d[j]'h).toNat ≤ 57) := fun j h hj => by
      by_cases e : j = k
      ·subst e; exact hg
      ·exact HD.out j h (by omega)
     clear hg
     go_wp2
     go_round
     case rel => exact ⟨k + 1, by omega, by go_num, HD2⟩
     case measure => simp [intOf]; omega
    ·exact absurd (HA.out k hlt) hg
   ·obtain rfl : d.size = k := by omega
    go_wp2_with (fail)
    refine (HP.out w).mono ?_
    rintro e w' ⟨rfl, hb⟩
    go_wp2
    go_ret2
    exact ⟨rfl, hb⟩
set_option maxHeartbeats 400000 in
theorem read_m_range (s d : ByteArray) (w : World) (e0 : s.toList.isEmpty = false) (e1 : ¬ s.toList = []) (hz : 0 < s.size) (h45 : (((s[0]'hz).toNat : Int) == 45) = true) (hd : s.extract 1 s.size = d) (hsz : s.size - 1 = d.size) (f0 : d.toList.isEmpty = false) (f1 : ¬ d.toList = []) (hdz : 0 < d.size) (h48 : (((d[0]'hdz).toNat : Int) == 48) = false ∨ ((((d[0]'hdz).toNat : Int) == 48) = true ∧ (s.toList == [48]) = true)) (ha : ∀ j (h : j < d.size), 48 ≤ (d[j]'h).toNat ∧ (d[j]'h).toNat ≤ 57) (hmax : d.size ≤ 140737488351232) (hp : Calls Tryz.prog 103 #[.string s, .int .i64 10, .int .i64 64] w fun e w' => ∃ (x : Int) (t : TypeId) (N : Nat), e = .returned (.tuple #[.int .i64 x, .iface t (.pointer (some ⟨N, 0, none⟩))]) ∧ Below w.heap.size w w') :
  Ret 77 #[.string s] w (.tuple #[.int .i64 0, .int .i64 13]) := by
 have HA := Lib.hid ha
 have HP := Lib.hid hp
 clear ha hp
 rcases h48 with h48 | ⟨h48, hs0⟩
 all_goals
  go_enter Tryz.func77, Tryz.ntmps77
  go_wp2
  go_loop [31] (fun i => ∃ k : Nat, k ≤ d.size ∧ i = .int .i64 (k : Int) ∧ Hid (∀ j (h : j < d.size), j < k → 48 ≤ (d[j]'h).toNat ∧ (d[j]'h).toNat ≤ 57)) (fun i => d.size - (intOf i).toNat)
  case atStart => exact ⟨0, by omega, rfl, fun _ _ h => absurd h (by omega)⟩
  case round =>
   obtain ⟨k, hk, rfl, HD⟩ := hrel
   by_cases hlt : k < d.size
   ·by_cases hg : 48 ≤ (d[k]'hlt).toNat ∧ (d[k]'hlt).toNat ≤ 57
    ·have t1 : decide (((d[k]'hlt).toNat : Int) < 48) = false := by simp; omega
     have t2 : decide ((57 : Int) < ((d[k]'hlt).toNat : Int)) = false := by simp; omega
     have HD2 : Hid (∀ j (h : j < d.size), j < k + 1 → 48 ≤ (d[j]'h).toNat ∧ (d[j]'h).toNat ≤ 57) := fun j h hj => by
      by_cases e : j = k
      ·subst e; exact hg
      ·exact HD.out j h (by omega)
     clear hg
     go_wp2
     go_round
     case rel => exact ⟨k + 1, by omega, by go_num, HD2⟩
     case measure => simp [intOf]; omega
    ·exact absurd (HA.out k hlt) hg
   ·obtain rfl : d.size = k := by omega
    go_wp2_with (fail)
    refine (HP.out).mono ?_
    rintro e w' ⟨x, t, N, rfl, hb⟩
    go_wp2
    go_ret2
    exact ⟨rfl, hb⟩
theorem read_p_idle (d : ByteArray) (w : World) (e0 : d.toList.isEmpty = false) (e1 : ¬ d.toList = []) (hz : 0 < d.size) (h45 : (((d[0]'hz).toNat : Int) == 45) = false) (h48 : (((d[0]'hz).toNat : Int) == 48) = true) (hs0 : (d.toList == [48]) = false) :
  Ret 77 #[.string d] w (.tuple #[.int .i64 0, .int .i64 12]) := by
 go_enter Tryz.func77, Tryz.ntmps77
 go_wp2
 go_ret2
 exact ⟨rfl, Below.refl _ _⟩
set_option maxHeartbeats 400000 in
theorem read_p_bad (d : ByteArray) (w : World) (e0 : d.toList.isEmpty = false) (e1 : ¬ d.toList = []) (hz : 0 < d.size) (h45 : (((d[0]'hz).toNat : Int) == 45) = false) (h48 : (((d[0]'hz).toNat : Int) == 48) = false ∨ ((((d[0]'hz).toNat : Int) == 48) = true ∧ (d.toList == [48]) = true)) (hb : ∃ j, ∃ h : j < d.size, ¬ (48 ≤ (d[j]'h).toNat ∧ (d[j]'h).toNat ≤ 57)) (hmax : d.size ≤ 140737488351232) :
  Ret 77 #[.string d] w (.tuple #[.int .i64 0, .int .i64 12]) := by
 have HB := Lib.hid hb
 clear hb
 rcases h48 with h48 | ⟨h48, hs0⟩
 all_goals
  go_enter Tryz.func77, Tryz.ntmps77
  go_wp2
  go_loop [31] (fun i => ∃ k : Nat, k ≤ d.size ∧ i = .int .i64 (k : Int) ∧ Hid (∀ j (h : j < d.size), j < k → 48 ≤ (d[j]'h).toNat ∧ (d[j]'h).toNat ≤ 57)) (fun i => d.size - (intOf i).toNat)
  case atStart => exact ⟨0, by omega, rfl, fun _ _ h => absurd h (by omega)⟩
  case round =>
   obtain ⟨k, hk, rfl, HD⟩ := hrel
   by_cases hlt : k < d.size
   ·by_cases hg : 48 ≤ (d[k]'hlt).toNat ∧ (d[k]'hlt).toNat ≤ 57
    ·have t1 : decide (((d[k]'hlt).toNat : Int) < 48) = false := by simp; omega
     have t2 : decide ((57 : Int) < ((d[k]'hlt).toNat : Int)) = false := by simp; omega
     have HD2 : Hid (∀ j (h : j < d.size), j < k + 1 → 48 ≤ (d[j]'h).toNat ∧ (d[j]'h).toNat ≤ 57) := fun j h hj => by
      by_cases e : j = k
      ·subst e; exact hg
      ·exact HD.out j h (by omega)
     clear hg
     go_wp2
     go_round
     case rel => exact ⟨k + 1, by omega, by go_num, HD2⟩
     case measure => simp [intOf]; omega
    ·have t3 : (decide (((d[k]'hlt).toNat : Int) < 48) = true) ∨ (decide (((d[k]'hlt).toNat : Int) < 48) = false ∧ decide ((57 : Int) < ((d[k]'hlt).toNat : Int)) = true) := by simp; omega
     clear hg
     rcases t3 with t1 | ⟨t1, t2⟩
     all_goals
      go_wp2
      go_ret2
      exact ⟨rfl, Below.refl _ _⟩
   ·obtain rfl : d.size = k := by omega
    obtain ⟨j, hj, hn⟩ := HB.out
    exact absurd (HD.out j hj hj) hn
set_option maxHeartbeats 400000 in
theorem read_p_ok (d : ByteArray) (w : World) (e0 : d.toList.isEmpty = false) (e1 : ¬ d.toList = []) (hz : 0 < d.size) (h45 : (((d[0]'hz).toNat : Int) == 45) = false) (h48 : (((d[0]'hz).toNat : Int) == 48) = false ∨ ((((d[0]'hz).toNat : Int) == 48) = true ∧ (d.toList == [48]) = true)) (ha : ∀ j (h : j < d.size), 48 ≤ (d[j]'h).toNat ∧ (d[j]'h).toNat ≤ 57) (hmax : d.size ≤ 140737488351232) (x : Int) (hp : ∀ w, Ret 103 #[.string d, .int .i64 10, .int .i64 64] w (.tuple #[.int .i64 x, .nilIface])) :
  Ret 77 #[.string d] w (.tuple #[.int .i64 x, .int .i64 0]) := by
 have HA := Lib.hid ha
 have HP := Lib.hid hp
 clear ha hp
 rcases h48 with h48 | ⟨h48, hs0⟩
 all_goals
  go_enter Tryz.func77, Tryz.ntmps77
  go_wp2
  go_loop [31] (fun i => ∃ k : Nat, k ≤ d.size ∧ i = .int .i64 (k : Int) ∧ Hid (∀ j (h : j < d.size), j < k → 48 ≤ (d[j]'h).toNat ∧ (d[j]'h).toNat ≤ 57)) (fun i => d.size - (intOf i).toNat)
  case atStart => exact ⟨0, by omega, rfl, fun _ _ h => absurd h (by omega)⟩
  case round =>
   obtain ⟨k, hk, rfl, HD⟩ := hrel
   by_cases hlt : k < d.size
   ·by_cases hg : 48 ≤ (d[k]'hlt).toNat ∧ (d[k]'hlt).toNat ≤ 57
    ·have t1 : decide (((d[k]'hlt).toNat : Int) < 48) = false := by simp; omega
     have t2 : decide ((57 : Int) < ((d[k]'hlt).toNat : Int)) = false := by simp; omega
     have HD2 : Hid (∀ j (h : j < d.size), j < k + 1 → 48 ≤ (d[j]'h).toNat ∧ (d[j]'h).toNat ≤ 57) := fun j h hj => by
      by_cases e : j = k
      ·subst e; exact hg
      ·exact HD.out j h (by omega)
     clear hg
     go_wp2
     go_round
     case rel => exact ⟨k + 1, by omega, by go_num, HD2⟩
     case measure => simp [intOf]; omega
    ·exact absurd (HA.out k hlt) hg
   ·obtain rfl : d.size = k := by omega
    go_wp2_with (fail)
    refine (HP.out w).mono ?_
    rintro e w' ⟨rfl, hb⟩
    go_wp2
    go_ret2
    exact ⟨rfl, hb⟩
set_option maxHeartbeats 400000 in
theorem read_p_range (d : ByteArray) (w : World) (e0 : d.toList.isEmpty = false) (e1 : ¬ d.toList = []) (hz : 0 < d.size) (h45 : (((d[0]'hz).toNat : Int) == 45) = false) (h48 : (((d[0]'hz).toNat : Int) == 48) = false ∨ ((((d[0]'hz).toNat : Int) == 48) = true ∧ (d.toList == [48]) = true)) (ha : ∀ j (h : j < d.size), 48 ≤ (d[j]'h).toNat ∧ (d[j]'h).toNat ≤ 57) (hmax : d.size ≤ 140737488351232) (hp : Calls Tryz.prog 103 #[.string d, .int .i64 10, .int .i64 64] w fun e w' => ∃ (x : Int) (t : TypeId) (N : Nat), e = .returned (.tuple #[.int .i64 x, .iface t (.pointer (some ⟨N, 0, none⟩))]) ∧ Below w.heap.size w w') :
  Ret 77 #[.string d] w (.tuple #[.int .i64 0, .int .i64 13]) := by
 have HA := Lib.hid ha
 have HP := Lib.hid hp
 clear ha hp
 rcases h48 with h48 | ⟨h48, hs0⟩
 all_goals
  go_enter Tryz.func77, Tryz.ntmps77
  go_wp2
  go_loop [31] (fun i => ∃ k : Nat, k ≤ d.size ∧ i = .int .i64 (k : Int) ∧ Hid (∀ j (h : j < d.size), j < k → 48 ≤ (d[j]'h).toNat ∧ (d[j]'h).toNat ≤ 57)) (fun i => d.size - (intOf i).toNat)
  case atStart => exact ⟨0, by omega, rfl, fun _ _ h => absurd h (by omega)⟩
  case round =>
   obtain ⟨k, hk, rfl, HD⟩ := hrel
   by_cases hlt : k < d.size
   ·by_cases hg : 48 ≤ (d[k]'hlt).toNat ∧ (d[k]'hlt).toNat ≤ 57
    ·have t1 : decide (((d[k]'hlt).toNat : Int) < 48) = false := by simp; omega
     have t2 : decide ((57 : Int) < ((d[k]'hlt).toNat : Int)) = false := by simp; omega
     have HD2 : Hid (∀ j (h : j < d.size), j < k + 1 → 48 ≤ (d[j]'h).toNat ∧ (d[j]'h).toNat ≤ 57) := fun j h hj => by
      by_cases e : j = k
      ·subst e; exact hg
      ·exact HD.out j h (by omega)
     clear hg
     go_wp2
     go_round
     case rel => exact ⟨k + 1, by omega, by go_num, HD2⟩
     case measure => simp [intOf]; omega
    ·exact absurd (HA.out k hlt) hg
   ·obtain rfl : d.size = k := by omega
    go_wp2_with (fail)
    refine (HP.out).mono ?_
    rintro e w' ⟨x, t, N, rfl, hb⟩
    go_wp2
    go_ret2
    exact ⟨rfl, hb⟩
end Go.Proofs.YtpiiemneelkpkaaGreatDoor
namespace Go.Proofs.YtpiiemneelkpkaaGreatDoor
open Go.RowKit
set_option linter.unusedVariables false
theorem all_dig {d : ByteArray} (h : d.data.toList.all Dec.dig = true) : ∀ j (h : j < d.size), 48 ≤ (d[j]'h).toNat ∧ (d[j]'h).toNat ≤ 57 := by
 intro j hj
 have hm : d[j] ∈ d.data.toList := List.getElem_mem (by simpa using hj)
 exact Dec.dig_iff.1 (List.all_eq_true.1 h _ hm)
theorem not_all_dig {d : ByteArray} (h : d.data.toList.all Dec.dig = false) : ∃ j, ∃ h : j < d.size, ¬ (48 ≤ (d[j]'h).toNat ∧ (d[j]'h).toNat ≤ 57) := by
 obtain ⟨c, hm, hc⟩ := List.all_eq_false.1 h
 obtain ⟨j, hj, e⟩ := List.getElem_of_mem hm
 refine ⟨j, by simpa using hj, fun hd => hc ?_⟩
 have e2 : d[j]'(by simpa using hj) = c := e
 rw [e2] at hd
 exact Dec.dig_iff.2 hd
theorem parse_ok (s : ByteArray) (hs : s.size ≤ 140737488351232) (v : Int) (h : Lib.parseIntB 64 s.data.toList = .ok v) (w : World) :
  Ret 103 #[.string s, .int .i64 10, .int .i64 64] w (.tuple #[.int .i64 v, .nilIface]) :=
 (Tryz.strconv_ParseInt_10_at64_ok s (by omega) v h w).mono fun e w' ⟨he, hw⟩ => ⟨he, by
  rcases hw with rfl | ⟨t, rfl⟩
  ·exact Below.refl _ _
  ·exact Lib.bytesWorld_below _ _ _⟩
theorem parse_range (s : ByteArray) (hs : s.size ≤ 140737488351232) (h : Lib.parseIntB 64 s.data.toList = .range) (w : World) (hN : NumW w) :
  Calls Tryz.prog 103 #[.string s, .int .i64 10, .int .i64 64] w fun e w' => ∃ (x : Int) (t : TypeId) (N : Nat), e = .returned (.tuple #[.int .i64 x, .iface t (.pointer (some ⟨N, 0, none⟩))]) ∧ Below w.heap.size w w' := by
 obtain ⟨te, pe, hc⟩ := hN.rng
 exact (Tryz.strconv_ParseInt_10_at64_range s (by omega) h _ w hc (.inr ⟨te, pe, rfl⟩)).mono fun e w' ⟨N, he, _, _, hb⟩ => ⟨_, _, N, he, hb⟩
theorem read_any (s : ByteArray) (x y : Int) (w : World) (hs : s.size ≤ 140737488351232) (hN : NumW w) (h : Dec.readS s.data.toList = (x, y)) :
    Ret 77 #[.string s] w (.tuple #[.int .i64 x, .int .i64 y]) := by
  have hsz := Lib.size_eq s
  have htl := Lib.toList_data s
  rcases hl : s.data.toList with _ | ⟨c, r⟩
  · rw [hl] at h htl
    obtain ⟨rfl, rfl⟩ : x = 0 ∧ y = 12 := by
      have : Dec.readS [] = (0, 12) := by decide
      rw [this] at h
      simp only [Prod.mk.injEq] at h
      exact ⟨h.1.symm, h.2.symm⟩
    exact read_empty w s htl
  · have e0 : s.toList.isEmpty = false := by rw [htl, hl]; rfl
    have e1 : ¬ s.toList = [] := by rw [htl, hl]; simp
    have hz : 0 < s.size := by rw [hsz, hl]; simp
    have hc : s[0] = c := by
      have := get_list s 0 hz
      rw [← this]
      simp [hl]
    rw [hl] at h
    by_cases h45 : c = 45
    · subst h45
      have t45 : (((s[0]'hz).toNat : Int) == 45) = true := by rw [hc]; decide
      obtain ⟨d, hd⟩ : ∃ d, s.extract 1 s.size = d := ⟨_, rfl⟩
      have hdl : d.data.toList = r := by rw [← hd, Lib.extract_to_end, hl]; rfl
      have hdsz : s.size - 1 = d.size := by rw [Lib.size_eq d, hdl, hsz, hl]; simp
      have hdtl := Lib.toList_data d
      rw [hdl] at hdtl
      rcases r with _ | ⟨b, r'⟩
      · obtain ⟨rfl, rfl⟩ : x = 0 ∧ y = 12 := by
          have : Dec.readS [45] = (0, 12) := by decide
          rw [this] at h
          simp only [Prod.mk.injEq] at h
          exact ⟨h.1.symm, h.2.symm⟩
        exact read_m_none s d w e0 e1 hz t45 hd hdsz hdtl
      · have f0 : d.toList.isEmpty = false := by rw [hdtl]; rfl
        have f1 : ¬ d.toList = [] := by rw [hdtl]; simp
        have hdz : 0 < d.size := by rw [Lib.size_eq d, hdl]; simp
        have hb : d[0] = b := by
          have := get_list d 0 hdz
          rw [← this]
          simp [hdl]
        have hs48 : (s.toList == [48]) = false := by rw [htl, hl]; simp
        by_cases h48 : b = 48
        ·
          have t48 : (((d[0]'hdz).toNat : Int) == 48) = true := by rw [hb, h48]; decide
          obtain ⟨rfl, rfl⟩ : x = 0 ∧ y = 12 := by
            have hf : Dec.isForm (45 :: b :: r') = false := by
              subst h48
              unfold Dec.isForm Dec.body Dec.form
              simp
            unfold Dec.readS at h
            rw [hf] at h
            simp only [Bool.false_eq_true, if_false, Prod.mk.injEq] at h
            exact ⟨h.1.symm, h.2.symm⟩
          exact read_m_idle s d w e0 e1 hz t45 hd hdsz f0 f1 hdz t48 hs48
        · have t48 : (((d[0]'hdz).toNat : Int) == 48) = false := by
            rw [hb, beq_eq_false_iff_ne]
            intro e
            exact h48 (Dec.toNat_inj (by have : (48 : UInt8).toNat = 48 := rfl
                                         omega))
          by_cases hall : (b :: r').all Dec.dig = true
          · have hf : Dec.isForm (45 :: b :: r') = true := Dec.isForm_minus (by unfold Dec.form; rw [hall]; simp [h48]) (by simp [h48])
            unfold Dec.readS at h
            rw [if_pos hf] at h
            rcases Dec.parse_of_form hf with ⟨v, hv⟩ | hv
            · rw [hv] at h
              simp only [Prod.mk.injEq] at h
              obtain ⟨rfl, rfl⟩ := h
              exact read_m_ok s d w e0 e1 hz t45 hd hdsz f0 f1 hdz (.inl t48) (all_dig (by rw [hdl]; exact hall)) (by omega) v (fun w => parse_ok s hs v (by rw [hl]; exact hv) w)
            · rw [hv] at h
              simp only [Prod.mk.injEq] at h
              obtain ⟨rfl, rfl⟩ := h
              exact read_m_range s d w e0 e1 hz t45 hd hdsz f0 f1 hdz (.inl t48) (all_dig (by rw [hdl]; exact hall)) (by omega) (parse_range s hs (by rw [hl]; exact hv) w hN)
          · have hall' : (b :: r').all Dec.dig = false := by simpa using hall
            obtain ⟨rfl, rfl⟩ : x = 0 ∧ y = 12 := by
              have hf : Dec.isForm (45 :: b :: r') = false := by
                unfold Dec.isForm Dec.body Dec.form
                simp only [List.head?_cons, beq_self_eq_true, cond_true, List.tail_cons, hall', Bool.false_and]
              unfold Dec.readS at h
              rw [hf] at h
              simp only [Bool.false_eq_true, if_false, Prod.mk.injEq] at h
              exact ⟨h.1.symm, h.2.symm⟩
            exact read_m_bad s d w e0 e1 hz t45 hd hdsz f0 f1 hdz (.inl t48) (not_all_dig (by rw [hdl]; exact hall')) (by omega)
    · have h45n : c.toNat ≠ 45 := fun e => h45 (Dec.toNat_inj (by have : (45 : UInt8).toNat = 45 := rfl
                                                                  omega))
      have t45 : (((s[0]'hz).toNat : Int) == 45) = false := by rw [hc, beq_eq_false_iff_ne]; omega
      have hbody : Dec.body (c :: r) = c :: r := by
        have : (c == 45) = false := by simpa using h45
        unfold Dec.body
        simp [this]
      have hform : Dec.isForm (c :: r) = Dec.form (c :: r) := by
        have : (c == 45) = false := by simpa using h45
        unfold Dec.isForm
        rw [hbody]
        simp [this]
      by_cases h48 : c = 48 ∧ r ≠ []
      · have t48 : (((s[0]'hz).toNat : Int) == 48) = true := by rw [hc, h48.1]; decide
        have hs48 : (s.toList == [48]) = false := by rw [htl, hl]; simp [h48.2]
        obtain ⟨rfl, rfl⟩ : x = 0 ∧ y = 12 := by
          have hf : Dec.isForm (c :: r) = false := by
            rw [hform, h48.1]
            unfold Dec.form
            simp [h48.2]
          unfold Dec.readS at h
          rw [hf] at h
          simp only [Bool.false_eq_true, if_false, Prod.mk.injEq] at h
          exact ⟨h.1.symm, h.2.symm⟩
        exact read_p_idle s w e0 e1 hz t45 t48 hs48
      · have t48 : (((s[0]'hz).toNat : Int) == 48) = false ∨ ((((s[0]'hz).toNat : Int) == 48) = true ∧ (s.toList == [48]) = true) := by
          by_cases e : c = 48
          · right
            have hr : r = [] := by
              by_cases e2 : r = []
              · exact e2
              · exact absurd ⟨e, e2⟩ h48
            exact ⟨by rw [hc, e]; decide, by rw [htl, hl, e, hr]; decide⟩
          · left
            rw [hc, beq_eq_false_iff_ne]
            intro e2
            exact e (Dec.toNat_inj (by have : (48 : UInt8).toNat = 48 := rfl
                                       omega))
        by_cases hall : (c :: r).all Dec.dig = true
        · have hf : Dec.isForm (c :: r) = true := by
            rw [hform]
            unfold Dec.form
            rw [hall]
            by_cases e : c = 48
            · have hr : r = [] := by
                by_cases e2 : r = []
                · exact e2
                · exact absurd ⟨e, e2⟩ h48
              subst e hr
              rfl
            · simp [e]
          unfold Dec.readS at h
          rw [if_pos hf] at h
          rcases Dec.parse_of_form hf with ⟨v, hv⟩ | hv
          · rw [hv] at h
            simp only [Prod.mk.injEq] at h
            obtain ⟨rfl, rfl⟩ := h
            exact read_p_ok s w e0 e1 hz t45 t48 (all_dig (by rw [hl]; exact hall)) hs v (fun w => parse_ok s hs v (by rw [hl]; exact hv) w)
          · rw [hv] at h
            simp only [Prod.mk.injEq] at h
            obtain ⟨rfl, rfl⟩ := h
            exact read_p_range s w e0 e1 hz t45 t48 (all_dig (by rw [hl]; exact hall)) hs (parse_range s hs (by rw [hl]; exact hv) w hN)
        · have hall' : (c :: r).all Dec.dig = false := by simpa using hall
          obtain ⟨rfl, rfl⟩ : x = 0 ∧ y = 12 := by
            have hf : Dec.isForm (c :: r) = false := by
              rw [hform]
              unfold Dec.form
              rw [hall']
              rfl
            unfold Dec.readS at h
            rw [hf] at h
            simp only [Bool.false_eq_true, if_false, Prod.mk.injEq] at h
            exact ⟨h.1.symm, h.2.symm⟩
          exact read_p_bad s w e0 e1 hz t45 t48 (not_all_dig (by rw [hl]; exact hall')) hs
end Go.Proofs.YtpiiemneelkpkaaGreatDoor
