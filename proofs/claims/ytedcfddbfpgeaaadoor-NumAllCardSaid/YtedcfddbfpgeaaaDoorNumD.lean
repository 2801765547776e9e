/- Contracts of whole.size, whole.gcd, whole.Gcd, whole.Lcm, whole.Pow at whatever numbers of 64 bits; the world stays as it is. -/
import Derived.Test.YtedcfddbfpgeaaaDoorNumB
import Derived.Test.YtedcfddbfpgeaaaDoorPowG
import Derived.Deep.QuietTactic
import Derived.BigQuiet
namespace Go.Proofs.YtedcfddbfpgeaaaDoor
open Go.RowKit
set_option linter.unusedVariables false

theorem size_neg (a : Int) (m : Nat) (w : World) (h : a < 0) (h1 : -9223372036854775808 ≤ a) (hm : a.natAbs = m) : Calls Tryd.prog 66 #[.int .i64 a] w fun e w' => e = .returned (.int .u64 (m : Int)) ∧ w = w' := by
  have hw : IntKind.u64.wrap a = a + 18446744073709551616 := by simp [IntKind.wrap, IntKind.bits, IntKind.signed]; omega
  have hw2 : IntKind.u64.wrap (-(IntKind.u64.wrap a)) = (m : Int) := by
    rw [hw]; simp [IntKind.wrap, IntKind.bits, IntKind.signed]; omega
  clear hw
  go_enter Tryd.func66, Tryd.ntmps66
  go_wp2
  go_ret
  exact ⟨rfl, rfl⟩
theorem size_pos (a : Int) (m : Nat) (w : World) (h : 0 ≤ a) (h1 : a ≤ 9223372036854775807) (hm : a.natAbs = m) : Calls Tryd.prog 66 #[.int .i64 a] w fun e w' => e = .returned (.int .u64 (m : Int)) ∧ w = w' := by
  obtain rfl : a = (m : Int) := by omega
  clear hm h
  go_enter Tryd.func66, Tryd.ntmps66
  go_wp2
  go_ret
  exact ⟨rfl, rfl⟩
theorem size_any (a : Int) (m : Nat) (w : World) (h1 : -9223372036854775808 ≤ a) (h2 : a ≤ 9223372036854775807) (hm : a.natAbs = m) : Calls Tryd.prog 66 #[.int .i64 a] w fun e w' => e = .returned (.int .u64 (m : Int)) ∧ w = w' := by
  by_cases h : a < 0
  · exact size_neg a m w h h1 hm
  · exact size_pos a m w (by omega) h2 hm

set_option maxHeartbeats 400000 in
theorem gcd_any (a b g : Nat) (w : World) (ha : a ≤ 18446744073709551615) (hb : b ≤ 18446744073709551615) (hg : Nat.gcd a b = g) :
    Calls Tryd.prog 65 #[.int .u64 (a : Int), .int .u64 (b : Int)] w fun e w' => e = .returned (.int .u64 (g : Int)) ∧ ∃ n, w' = w.drewN n := by
  have HG := Lib.hid hg
  clear hg
  go_enter Tryd.func65, Tryd.ntmps65
  go_wp2
  go_loopw [0, 1] (fun u v wr => ∃ x y n : Nat, u = .int .u64 (x : Int) ∧ v = .int .u64 (y : Int) ∧ x ≤ 18446744073709551615 ∧ y ≤ 18446744073709551615 ∧ Hid (Nat.gcd x y = g) ∧ wr = w.drewN n) (fun _ v _ => (intOf v).toNat)
  case atStart => exact ⟨a, b, 0, rfl, rfl, ha, hb, HG, rfl⟩
  case round =>
    obtain ⟨x, y, n, rfl, rfl, hx, hy, HG2, rfl⟩ := hrel
    by_cases h0 : y = 0
    · subst h0
      go_wp2
      go_ret
      exact ⟨by rw [← HG2.out]; simp, n, rfl⟩
    · have t1 : ((y : Int) != 0) = true := by rw [bne_iff_ne]; omega
      have t2 : ¬ (y : Int) = 0 := by omega
      have hlt : x % y < y := Nat.mod_lt _ (by omega)
      have hm : (x : Int).tmod (y : Int) = ((x % y : Nat) : Int) := by rw [Int.tmod_eq_emod_of_nonneg (by omega)]; omega
      go_wp2
      go_quiet (fail)
      go_wp2
      go_roundw
      case rel => exact ⟨y, x % y, _, rfl, rfl, hy, by omega, by rw [← PowG.gcd_step]; exact HG2, World.drewN_drewN _ _ _⟩
      case measure => simp [intOf]; omega

theorem Gcd_ok (a b : Int) (g : Nat) (w : World) (ha1 : -9223372036854775808 ≤ a) (ha2 : a ≤ 9223372036854775807) (hb1 : -9223372036854775808 ≤ b) (hb2 : b ≤ 9223372036854775807) (hg : Nat.gcd a.natAbs b.natAbs = g) (h : g ≤ 9223372036854775807) :
    Calls Tryd.prog 48 #[.int .i64 a, .int .i64 b] w fun e w' => e = .returned (.tuple #[.int .i64 (g : Int), .int .i64 0]) ∧ ∃ n, w' = w.drewN n := by
  have HG := Lib.hid hg
  clear hg
  obtain ⟨x, hx⟩ : ∃ x, a.natAbs = x := ⟨_, rfl⟩
  obtain ⟨y, hy⟩ : ∃ y, b.natAbs = y := ⟨_, rfl⟩
  have hx2 : x ≤ 9223372036854775808 := by omega
  have hy2 : y ≤ 9223372036854775808 := by omega
  have sa := fun w => size_any a x w ha1 ha2 hx
  have sb := fun w => size_any b y w hb1 hb2 hy
  have SA := Lib.hid sa
  have SB := Lib.hid sb
  have G := Lib.hid (fun w => gcd_any x y g w (by omega) (by omega) (by rw [← hx, ← hy]; exact HG.out))
  clear hx hy sa sb HG
  go_enter Tryd.func48, Tryd.ntmps48
  go_wp2_with (fail)
  refine (SA.out _).mono ?_
  rintro e w' ⟨rfl, rfl⟩
  go_wp2_with (fail)
  refine (SB.out _).mono ?_
  rintro e w' ⟨rfl, rfl⟩
  go_wp2_with (fail)
  refine (G.out _).mono ?_
  rintro e w' ⟨rfl, n, rfl⟩
  go_wp2
  go_ret2
  exact ⟨rfl, n, rfl⟩
theorem Gcd_over (a b : Int) (g : Nat) (w : World) (ha1 : -9223372036854775808 ≤ a) (ha2 : a ≤ 9223372036854775807) (hb1 : -9223372036854775808 ≤ b) (hb2 : b ≤ 9223372036854775807) (hg : Nat.gcd a.natAbs b.natAbs = g) (h : 9223372036854775807 < g) :
    Calls Tryd.prog 48 #[.int .i64 a, .int .i64 b] w fun e w' => e = .returned (.tuple #[.int .i64 0, .int .i64 13]) ∧ ∃ n, w' = w.drewN n := by
  obtain ⟨x, hx⟩ : ∃ x, a.natAbs = x := ⟨_, rfl⟩
  obtain ⟨y, hy⟩ : ∃ y, b.natAbs = y := ⟨_, rfl⟩
  have hgl := PowG.gcd_le a.natAbs b.natAbs 9223372036854775808 (by omega) (by omega)
  have hg8 : g = 9223372036854775808 := by omega
  have SA := Lib.hid (fun w => size_any a x w ha1 ha2 hx)
  have SB := Lib.hid (fun w => size_any b y w hb1 hb2 hy)
  have G := Lib.hid (fun w => gcd_any x y g w (by omega) (by omega) (by rw [← hx, ← hy]; exact hg))
  clear hx hy hg hgl hg8
  go_enter Tryd.func48, Tryd.ntmps48
  go_wp2_with (fail)
  refine (SA.out _).mono ?_
  rintro e w' ⟨rfl, rfl⟩
  go_wp2_with (fail)
  refine (SB.out _).mono ?_
  rintro e w' ⟨rfl, rfl⟩
  go_wp2_with (fail)
  refine (G.out _).mono ?_
  rintro e w' ⟨rfl, n, rfl⟩
  go_wp2
  go_ret2
  exact ⟨rfl, n, rfl⟩
theorem Lcm_zero1 (a : Int) (w : World) : Calls Tryd.prog 49 #[.int .i64 0, .int .i64 a] w fun e w' => e = .returned (.tuple #[.int .i64 0, .int .i64 0]) ∧ w = w' := by
  go_enter Tryd.func49, Tryd.ntmps49
  go_wp2
  go_ret2
  exact ⟨rfl, rfl⟩
theorem Lcm_zero2 (a : Int) (w : World) : Calls Tryd.prog 49 #[.int .i64 a, .int .i64 0] w fun e w' => e = .returned (.tuple #[.int .i64 0, .int .i64 0]) ∧ w = w' := by
  by_cases h : a = 0
  · subst h; exact Lcm_zero1 0 w
  · have h1 : (a == 0) = false := by simpa using h
    clear h
    go_enter Tryd.func49, Tryd.ntmps49
    go_wp2
    go_ret2
    exact ⟨rfl, rfl⟩

set_option maxHeartbeats 400000 in
theorem Lcm_ok (a b : Int) (x y g q p : Nat) (w : World) (ha0 : a ≠ 0) (hb0 : b ≠ 0) (ha1 : -9223372036854775808 ≤ a) (ha2 : a ≤ 9223372036854775807) (hb1 : -9223372036854775808 ≤ b) (hb2 : b ≤ 9223372036854775807)
    (hx : a.natAbs = x) (hy : b.natAbs = y) (hg : Nat.gcd x y = g) (hq : x / g = q) (hlt : q * y = p) (hp : p ≤ 9223372036854775807) :
    Calls Tryd.prog 49 #[.int .i64 a, .int .i64 b] w fun e w' => e = .returned (.tuple #[.int .i64 (p : Int), .int .i64 0]) ∧ ∃ n, w' = w.drewN n := by
  have SA := Lib.hid (fun w => size_any a x w ha1 ha2 hx)
  have SB := Lib.hid (fun w => size_any b y w hb1 hb2 hy)
  have hxl : x ≤ 9223372036854775808 := by omega
  have hyl : y ≤ 9223372036854775808 := by omega
  have hy0 : y ≠ 0 := by omega
  have hx0 : x ≠ 0 := by omega
  have hg0 : g ≠ 0 := by
    intro e; rw [e] at hg
    exact hx0 (Nat.gcd_eq_zero_iff.1 hg).1
  have G := Lib.hid (fun w => gcd_any x y g w (by omega) (by omega) hg)
  have e1 : (x : Int).tdiv (g : Int) = (q : Int) := by rw [Int.tdiv_eq_ediv_of_nonneg (by omega), ← hq]; simp
  have t1 : ¬ (g : Int) = 0 := by omega
  have t2 : ¬ (y : Int) = 0 := by omega
  have h1 : (a == 0) = false := by simpa using ha0
  have h2 : (b == 0) = false := by simpa using hb0
  have hql : q ≤ 9223372036854775808 := by have := Nat.div_le_self x g; omega
  have t3 : decide (9223372036854775807 / (y : Int) < (q : Int)) = false := by
    have e : (9223372036854775807 / y < q) ↔ 9223372036854775807 < q * y := Nat.div_lt_iff_lt_mul (by omega)
    have e2 : (9223372036854775807 / (y : Int) < (q : Int)) ↔ (9223372036854775807 / y < q) := by
      rw [show (9223372036854775807 : Int) / (y : Int) = ((9223372036854775807 / y : Nat) : Int) from by simp]; omega
    simp only [e2, e, hlt, decide_eq_false_iff_not]
    omega
  have t4 : (q : Int) * (y : Int) = (p : Int) := by rw [← hlt]; simp
  clear hx hy hg hq hlt ha0 hb0 ha1 ha2 hb1 hb2 hx0 hy0 hg0
  go_enter Tryd.func49, Tryd.ntmps49
  go_wp2_with (fail)
  refine (SA.out _).mono ?_
  rintro e w' ⟨rfl, rfl⟩
  go_wp2_with (fail)
  refine (SB.out _).mono ?_
  rintro e w' ⟨rfl, rfl⟩
  go_wp2_with (fail)
  refine (G.out _).mono ?_
  rintro e w' ⟨rfl, n, rfl⟩
  go_wp2
  go_ret2
  exact ⟨rfl, n, rfl⟩

set_option maxHeartbeats 400000 in
theorem Lcm_over (a b : Int) (x y g q p : Nat) (w : World) (ha0 : a ≠ 0) (hb0 : b ≠ 0) (ha1 : -9223372036854775808 ≤ a) (ha2 : a ≤ 9223372036854775807) (hb1 : -9223372036854775808 ≤ b) (hb2 : b ≤ 9223372036854775807)
    (hx : a.natAbs = x) (hy : b.natAbs = y) (hg : Nat.gcd x y = g) (hq : x / g = q) (hlt : q * y = p) (hp : 9223372036854775807 < p) :
    Calls Tryd.prog 49 #[.int .i64 a, .int .i64 b] w fun e w' => e = .returned (.tuple #[.int .i64 0, .int .i64 13]) ∧ ∃ n, w' = w.drewN n := by
  have SA := Lib.hid (fun w => size_any a x w ha1 ha2 hx)
  have SB := Lib.hid (fun w => size_any b y w hb1 hb2 hy)
  have hxl : x ≤ 9223372036854775808 := by omega
  have hyl : y ≤ 9223372036854775808 := by omega
  have hy0 : y ≠ 0 := by omega
  have hx0 : x ≠ 0 := by omega
  have hg0 : g ≠ 0 := by
    intro e; rw [e] at hg
    exact hx0 (Nat.gcd_eq_zero_iff.1 hg).1
  have G := Lib.hid (fun w => gcd_any x y g w (by omega) (by omega) hg)
  have e1 : (x : Int).tdiv (g : Int) = (q : Int) := by rw [Int.tdiv_eq_ediv_of_nonneg (by omega), ← hq]; simp
  have t1 : ¬ (g : Int) = 0 := by omega
  have t2 : ¬ (y : Int) = 0 := by omega
  have h1 : (a == 0) = false := by simpa using ha0
  have h2 : (b == 0) = false := by simpa using hb0
  have hql : q ≤ 9223372036854775808 := by have := Nat.div_le_self x g; omega
  have t3 : decide (9223372036854775807 / (y : Int) < (q : Int)) = true := by
    have e : (9223372036854775807 / y < q) ↔ 9223372036854775807 < q * y := Nat.div_lt_iff_lt_mul (by omega)
    have e2 : (9223372036854775807 / (y : Int) < (q : Int)) ↔ (9223372036854775807 / y < q) := by
      rw [show (9223372036854775807 : Int) / (y : Int) = ((9223372036854775807 / y : Nat) : Int) from by simp]; omega
    simp only [e2, e, hlt, decide_eq_true_eq]
    omega
  have t4 : (q : Int) * (y : Int) = (p : Int) := by rw [← hlt]; simp
  clear hx hy hg hq hlt ha0 hb0 ha1 ha2 hb1 hb2 hx0 hy0 hg0
  go_enter Tryd.func49, Tryd.ntmps49
  go_wp2_with (fail)
  refine (SA.out _).mono ?_
  rintro e w' ⟨rfl, rfl⟩
  go_wp2_with (fail)
  refine (SB.out _).mono ?_
  rintro e w' ⟨rfl, rfl⟩
  go_wp2_with (fail)
  refine (G.out _).mono ?_
  rintro e w' ⟨rfl, n, rfl⟩
  go_wp2
  go_ret2
  exact ⟨rfl, n, rfl⟩

/-! ### Pow -/
theorem pow_neg (a b : Int) (w : World) (h : b < 0) : Calls Tryd.prog 47 #[.int .i64 a, .int .i64 b] w fun e w' => e = .returned (.tuple #[.int .i64 0, .int .i64 13]) ∧ w = w' := by
  go_enter Tryd.func47, Tryd.ntmps47
  go_wp2
  go_ret2
  exact ⟨rfl, rfl⟩
theorem pow_zero (b : Int) (w : World) (h : 0 < b) : Calls Tryd.prog 47 #[.int .i64 0, .int .i64 b] w fun e w' => e = .returned (.tuple #[.int .i64 0, .int .i64 0]) ∧ w = w' := by
  go_enter Tryd.func47, Tryd.ntmps47
  go_wp2
  go_ret2
  exact ⟨rfl, rfl⟩
theorem pow_one (b : Int) (w : World) (h : 0 ≤ b) : Calls Tryd.prog 47 #[.int .i64 1, .int .i64 b] w fun e w' => e = .returned (.tuple #[.int .i64 1, .int .i64 0]) ∧ w = w' := by
  go_enter Tryd.func47, Tryd.ntmps47
  go_wp2
  go_ret2
  exact ⟨rfl, rfl⟩
theorem pow_none (b r : Int) (w : World) (h : 0 ≤ b) (hb : bits .and .i64 b 1 = r) (h0 : 0 ≤ r) (h1 : r ≤ 1) : Calls Tryd.prog 47 #[.int .i64 (-1), .int .i64 b] w fun e w' => e = .returned (.tuple #[.int .i64 (1 - 2 * r), .int .i64 0]) ∧ w = w' := by
  go_enter Tryd.func47, Tryd.ntmps47
  go_wp2
  go_ret2
  exact ⟨rfl, rfl⟩
theorem powN_fit {a : Int} {k : Nat} (h : PowG.Fits (a ^ k)) : PowG.powN a k = a ^ k ∧ PowG.powE a k = 0 := by
  unfold PowG.powN PowG.powE; rw [if_pos h, if_pos h]; exact ⟨rfl, rfl⟩
theorem powN_not {a : Int} {k : Nat} (h : ¬ PowG.Fits (a ^ k)) : PowG.powN a k = 0 ∧ PowG.powE a k = 13 := by
  unfold PowG.powN PowG.powE; rw [if_neg h, if_neg h]; exact ⟨rfl, rfl⟩
/-- Where a loop that multiplies stands: k rounds are over. -/
def PowAt (a p : Int) (b k : Nat) : Prop := k ≤ b ∧ a ^ k = p
theorem pow_nought (w : World) : Calls Tryd.prog 47 #[.int .i64 0, .int .i64 0] w fun e w' => e = .returned (.tuple #[.int .i64 1, .int .i64 0]) ∧ w = w' := by
  go_enter Tryd.func47, Tryd.ntmps47
  go_wp2
  refine wp_loop_rounds 1 ?_
  rw [rounds_succ]
  go_wp2
  go_ret2
  exact ⟨rfl, rfl⟩
set_option maxHeartbeats 400000 in
theorem pow_great (a x y : Int) (b : Nat) (w : World) (ha1 : -9223372036854775808 ≤ a) (ha2 : a ≤ 9223372036854775807) (hb2 : b ≤ 9223372036854775807) (h0 : a ≠ 0) (h1 : a ≠ 1) (h2 : a ≠ -1)
    (hx : PowG.powN a b = x) (hy : PowG.powE a b = y) :
    Calls Tryd.prog 47 #[.int .i64 a, .int .i64 (b : Int)] w fun e w' => e = .returned (.tuple #[.int .i64 x, .int .i64 y]) ∧ w = w' := by
  have t0 : (a == 0) = false := by simpa using h0
  have t1 : (a == 1) = false := by simpa using h1
  have t2 : (a == -1) = false := by simpa using h2
  have HX := Lib.hid hx
  have HY := Lib.hid hy
  clear h1 h2 h0 hx hy
  go_enter Tryd.func47, Tryd.ntmps47
  go_wp2
  go_loop [1, 6] (fun v u => ∃ (k j : Nat) (p : Int), v = .int .i64 (j : Int) ∧ k + j ≤ b ∧ Hid (b = k + j) ∧ u = .int .i64 p ∧ -9223372036854775808 ≤ p ∧ p ≤ 9223372036854775807 ∧ Hid (a ^ k = p)) (fun v _ => (intOf v).toNat)
  case atStart => exact ⟨0, b, 1, rfl, by omega, Lib.hid (by omega), rfl, by omega, by omega, Lib.hid (by simp)⟩
  case round =>
    obtain ⟨k, j, p, rfl, hkj, HJ, rfl, hp1, hp2, HP⟩ := hrel
    by_cases hj : j = 0
    · subst hj
      have HE : Hid (x = p ∧ y = 0) := by
        have e : b = k := by have := HJ.out; omega
        have hf : PowG.Fits (a ^ b) := by rw [e, HP.out]; exact ⟨hp1, hp2⟩
        rw [← HX.out, ← HY.out, (powN_fit hf).1, (powN_fit hf).2, e, HP.out]
        exact ⟨rfl, rfl⟩
      go_wp2
      go_ret2
      rw [HE.out.1, HE.out.2]
      exact ⟨rfl, rfl⟩
    · obtain ⟨i, hi⟩ : ∃ i, j = i + 1 := ⟨j - 1, by omega⟩
      subst hi
      by_cases hf : -9223372036854775808 ≤ p * a ∧ p * a ≤ 9223372036854775807
      · obtain ⟨q, hq⟩ : ∃ q, p * a = q := ⟨_, rfl⟩
        have M := Lib.hid (fun w => mul64_yes p a q w ha1 ha2 hq (by omega) (by omega))
        have HQ : Hid (a ^ (k + 1) = q ∧ -9223372036854775808 ≤ q ∧ q ≤ 9223372036854775807) := ⟨by rw [Int.pow_succ, HP.out, hq], by omega, by omega⟩
        clear hf hq
        go_wp2_with (fail)
        refine (M.out _).mono ?_
        rintro e w' ⟨rfl, rfl⟩
        go_wp2
        go_round
        case rel => exact ⟨k + 1, i, q, by go_num, by omega, Lib.hid (by have := HJ.out; omega), rfl, HQ.out.2.1, HQ.out.2.2, Lib.hid HQ.out.1⟩
        case measure => simp [intOf]
      · have M := Lib.hid (fun w => mul64_no p a w hp1 hp2 ha1 ha2 (by omega))
        have HE : Hid (x = 0 ∧ y = 13) := by
          have hn : ¬ PowG.Fits (a ^ (k + 1)) := by rw [Int.pow_succ, HP.out]; exact hf
          have hn2 := PowG.pow_over' a (k + 1) i hn
          have e : b = k + 1 + i := by have := HJ.out; omega
          rw [← e] at hn2
          rw [← HX.out, ← HY.out, (powN_not hn2).1, (powN_not hn2).2]
          exact ⟨rfl, rfl⟩
        clear hf
        go_wp2_with (fail)
        refine (M.out _).mono ?_
        rintro e w' ⟨rfl, rfl⟩
        go_wp2
        go_ret2
        rw [HE.out.1, HE.out.2]
        exact ⟨rfl, rfl⟩

theorem and_one (b : Nat) (hb : b ≤ 9223372036854775807) : bits .and .i64 (b : Int) 1 = ((b % 2 : Nat) : Int) := by
  show IntKind.i64.wrap ((BitVec.ofInt 64 (b : Int) &&& BitVec.ofInt 64 1).toNat : Int) = _
  have e : (BitVec.ofInt 64 (b : Int) &&& BitVec.ofInt 64 1).toNat = b % 2 := by
    rw [BitVec.toNat_and, BitVec.ofInt_natCast, BitVec.toNat_ofNat, Nat.mod_eq_of_lt (by omega)]
    have : (BitVec.ofInt 64 1).toNat = 1 := by decide
    rw [this, Nat.and_one_is_mod]
  rw [e, IntKind.wrap_i64]
  omega
/-- POW: the power where 64 bits hold it, else ErrOver. -/
theorem pow_any (a x y : Int) (b : Nat) (w : World) (ha1 : -9223372036854775808 ≤ a) (ha2 : a ≤ 9223372036854775807) (hb2 : b ≤ 9223372036854775807)
    (hx : PowG.powN a b = x) (hy : PowG.powE a b = y) :
    Calls Tryd.prog 47 #[.int .i64 a, .int .i64 (b : Int)] w fun e w' => e = .returned (.tuple #[.int .i64 x, .int .i64 y]) ∧ w = w' := by
  by_cases h0 : a = 0
  · subst h0
    by_cases hb : b = 0
    · subst hb
      have hf : PowG.Fits ((0 : Int) ^ 0) := by decide
      rw [(powN_fit hf).1] at hx
      rw [(powN_fit hf).2] at hy
      subst hx hy
      exact pow_nought w
    · have e : (0 : Int) ^ b = 0 := PowG.zero_pow b (by omega)
      have hf : PowG.Fits ((0 : Int) ^ b) := by rw [e]; decide
      rw [(powN_fit hf).1, e] at hx
      rw [(powN_fit hf).2] at hy
      subst hx hy
      exact pow_zero b w (by omega)
  · by_cases h1 : a = 1
    · subst h1
      have e := PowG.one_pow b
      have hf : PowG.Fits ((1 : Int) ^ b) := by rw [e]; decide
      rw [(powN_fit hf).1, e] at hx
      rw [(powN_fit hf).2] at hy
      subst hx hy
      exact pow_one b w (by omega)
    · by_cases h2 : a = -1
      · subst h2
        have e := PowG.negone_pow b
        have hf : PowG.Fits ((-1 : Int) ^ b) := by rw [e]; unfold PowG.Fits; omega
        rw [(powN_fit hf).1, e] at hx
        rw [(powN_fit hf).2] at hy
        subst hx hy
        exact pow_none b _ w (by omega) (and_one b hb2) (by omega) (by omega)
      · exact pow_great a x y b w ha1 ha2 hb2 h0 h1 h2 hx hy
end Go.Proofs.YtedcfddbfpgeaaaDoor
