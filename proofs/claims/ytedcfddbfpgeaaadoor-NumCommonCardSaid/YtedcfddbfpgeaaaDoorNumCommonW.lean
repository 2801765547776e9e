/- quadrillelaw1.NumCommon is true at every two numbers of 64 bits. -/
import Derived.Test.YtedcfddbfpgeaaaDoorNumD
import Derived.Test.YtedcfddbfpgeaaaDoorNumG
import Derived.WalkSmall
import Derived.Deep.QuietTactic
import Derived.BigQuiet
namespace Go.Proofs.YtedcfddbfpgeaaaDoor
open Go.RowKit
set_option linter.unusedVariables false

/-- A call of two numbers that answers so, and draws at most. -/
def Two (f : FuncId) (x y v e : Int) : Prop :=
  ∀ w, Calls Tryd.prog f #[.int .i64 x, .int .i64 y] w fun en w' => en = .returned (.tuple #[.int .i64 v, .int .i64 e]) ∧ ∃ n, w' = w.drewN n
theorem two_of_same {f : FuncId} {x y v e : Int} (h : ∀ w, Calls Tryd.prog f #[.int .i64 x, .int .i64 y] w fun en w' => en = .returned (.tuple #[.int .i64 v, .int .i64 e]) ∧ w = w') : Two f x y v e :=
  fun w => (h w).mono fun _ _ ⟨he, hw⟩ => ⟨he, 0, hw.symm⟩

set_option maxRecDepth 100000 in
set_option maxHeartbeats 1000000 in
theorem common_over (x y l f : Int) (w : World) (hN : NumW w) (hG : Two 48 x y 0 13) (hL : Two 49 x y l f) (hG2 : Two 48 y x 0 13)
    (hx : (x == -9223372036854775808) = true ∨ ((x == -9223372036854775808) = false ∧ (x == 0) = true)) (hy : (y == -9223372036854775808) = true ∨ ((y == -9223372036854775808) = false ∧ (y == 0) = true)) :
    Calls Tryd.prog 13 #[.int .i64 x, .int .i64 y] w fun e w' => e = .returned (.bool true) ∧ Below w.heap.size w w' := by
  have H1 := Lib.hid hG
  have H2 := Lib.hid hL
  have H3 := Lib.hid hG2
  clear hG hL hG2
  rcases hx with hx | ⟨hx, hx2⟩ <;> rcases hy with hy | ⟨hy, hy2⟩
  all_goals
    go_enter Tryd.func13, Tryd.ntmps13
    go_wp2_with (fail)
    refine (begun1 w hN).mono ?_
    rintro e w1 ⟨rfl, hb1⟩
    go_wp2_with (fail)
    refine (H1.out _).mono ?_
    rintro e w' ⟨rfl, n1, rfl⟩
    go_wp2_with (fail)
    refine (H2.out _).mono ?_
    rintro e w' ⟨rfl, n2, rfl⟩
    go_wp2_with (fail)
    refine (H3.out _).mono ?_
    rintro e w' ⟨rfl, n3, rfl⟩
    go_wp2
    go_ret
    exact ⟨rfl, by repeat (first | exact hb1 | apply below_drewN)⟩
set_option maxRecDepth 100000 in
set_option maxHeartbeats 1000000 in
theorem common_none (w : World) (hN : NumW w) (hG : Two 48 0 0 0 0) (hL : Two 49 0 0 0 0) :
    Calls Tryd.prog 13 #[.int .i64 0, .int .i64 0] w fun e w' => e = .returned (.bool true) ∧ Below w.heap.size w w' := by
  have H1 := Lib.hid hG
  have H2 := Lib.hid hL
  clear hG hL
  go_enter Tryd.func13, Tryd.ntmps13
  go_wp2_with (fail)
  refine (begun1 w hN).mono ?_
  rintro e w1 ⟨rfl, hb1⟩
  go_wp2_with (fail)
  refine (H1.out _).mono ?_
  rintro e w' ⟨rfl, n1, rfl⟩
  go_wp2_with (fail)
  refine (H2.out _).mono ?_
  rintro e w' ⟨rfl, n2, rfl⟩
  go_wp2_with (fail)
  refine (H1.out _).mono ?_
  rintro e w' ⟨rfl, n3, rfl⟩
  go_wp2
  go_ret
  exact ⟨rfl, by repeat (first | exact hb1 | apply below_drewN)⟩
set_option maxRecDepth 100000 in
set_option maxHeartbeats 1000000 in
theorem common_half (x y G : Int) (w : World) (hN : NumW w) (hG : Two 48 x y G 0) (hL : Two 49 x y 0 0) (hG2 : Two 48 y x G 0)
    (t1 : (G == 0) = false) (t2 : decide (G < 0) = false) (t3 : ¬ G = 0) (hx : x.tmod G = 0) (hy : y.tmod G = 0) (h : (x == 0) = true ∨ ((x == 0) = false ∧ (y == 0) = true)) :
    Calls Tryd.prog 13 #[.int .i64 x, .int .i64 y] w fun e w' => e = .returned (.bool true) ∧ Below w.heap.size w w' := by
  have H1 := Lib.hid hG
  have H2 := Lib.hid hL
  have H3 := Lib.hid hG2
  clear hG hL hG2
  rcases h with h | ⟨h, h2⟩
  all_goals
    go_enter Tryd.func13, Tryd.ntmps13
    go_wp2_with (fail)
    refine (begun1 w hN).mono ?_
    rintro e w1 ⟨rfl, hb1⟩
    go_wp2_with (fail)
    refine (H1.out _).mono ?_
    rintro e w' ⟨rfl, n1, rfl⟩
    go_wp2_with (fail)
    refine (H2.out _).mono ?_
    rintro e w' ⟨rfl, n2, rfl⟩
    go_wp2_with (fail)
    refine (H3.out _).mono ?_
    rintro e w' ⟨rfl, n3, rfl⟩
    go_wp2
    go_ret
    exact ⟨rfl, by repeat (first | exact hb1 | apply below_drewN)⟩
set_option maxRecDepth 100000 in
set_option maxHeartbeats 2000000 in
theorem common_both (x y G u v p l f : Int) (ok : Bool) (w : World) (hN : NumW w) (hG : Two 48 x y G 0) (hL : Two 49 x y l f) (hG2 : Two 48 y x G 0)
    (t1 : (G == 0) = false) (t2 : decide (G < 0) = false) (t3 : ¬ G = 0) (hx : x.tmod G = 0) (hy : y.tmod G = 0) (t4 : (x == 0) = false) (t5 : (y == 0) = false)
    (hu : IntKind.i64.wrap (x.tdiv G) = u) (hv : IntKind.i64.wrap (y.tdiv G) = v) (hH : Two 48 u v 1 0)
    (hM : ∀ w, Calls Tryd.prog 46 #[.int .i64 u, .int .i64 y] w fun en w' => en = .returned (.tuple #[.int .i64 p, .bool ok]) ∧ w = w')
    (h : (ok = false ∧ f = 13 ∧ l = 0) ∨ (ok = true ∧ (p == -9223372036854775808) = true ∧ f = 13 ∧ l = 0) ∨ (ok = true ∧ (p == -9223372036854775808) = false ∧ f = 0 ∧ ((p == l) = true ∨ ((p == l) = false ∧ IntKind.i64.wrap (-l) = p)) ∧ decide (0 < l) = true)) :
    Calls Tryd.prog 13 #[.int .i64 x, .int .i64 y] w fun e w' => e = .returned (.bool true) ∧ Below w.heap.size w w' := by
  have H1 := Lib.hid hG
  have H2 := Lib.hid hL
  have H3 := Lib.hid hG2
  have H4 := Lib.hid hH
  have H5 := Lib.hid hM
  clear hG hL hG2 hH hM
  rcases h with ⟨rfl, rfl, rfl⟩ | ⟨rfl, t6, rfl, rfl⟩ | ⟨rfl, t6, rfl, t7 | ⟨t7, t8⟩, t9⟩
  all_goals
    go_enter Tryd.func13, Tryd.ntmps13
    go_wp2_with (fail)
    refine (begun1 w hN).mono ?_
    rintro e w1 ⟨rfl, hb1⟩
    go_wp2_with (fail)
    refine (H1.out _).mono ?_
    rintro e w' ⟨rfl, n1, rfl⟩
    go_wp2_with (fail)
    refine (H2.out _).mono ?_
    rintro e w' ⟨rfl, n2, rfl⟩
    go_wp2_with (fail)
    refine (H3.out _).mono ?_
    rintro e w' ⟨rfl, n3, rfl⟩
    have hb4 : Below w.heap.size w (w1.drewN (n1 + n2 + n3)) := by repeat (first | exact hb1 | apply below_drewN)
    go_wp2_with (fail)
    generalize w1.drewN (n1 + n2 + n3) = w4 at hb4 ⊢
    go_quiet ((go_at_call 48; exact Calls.quiet_of (H4.out _)))
    go_wp2_with (fail)
    refine (H5.out _).mono ?_
    rintro e w' ⟨rfl, rfl⟩
    go_wp2
    go_ret
    exact ⟨by simp, by repeat (first | exact hb4 | apply below_drewN)⟩

theorem common_any (x y : Int) (w : World) (hN : NumW w) (x1 : -9223372036854775808 ≤ x) (x2 : x ≤ 9223372036854775807) (y1 : -9223372036854775808 ≤ y) (y2 : y ≤ 9223372036854775807) :
    Calls Tryd.prog 13 #[.int .i64 x, .int .i64 y] w fun e w' => e = .returned (.bool true) ∧ Below w.heap.size w w' := by
  obtain ⟨g, hg⟩ : ∃ g, Nat.gcd x.natAbs y.natAbs = g := ⟨_, rfl⟩
  have hg' : Nat.gcd y.natAbs x.natAbs = g := by rw [Nat.gcd_comm]; exact hg
  by_cases hgm : 9223372036854775807 < g
  · have hgr := PowG.gcd_great x.natAbs y.natAbs (by omega) (by omega) (by omega)
    have hl : ∃ l f, Two 49 x y l f := by
      by_cases hx : x = 0
      · subst hx; exact ⟨0, 0, two_of_same (fun w => Lcm_zero1 y w)⟩
      · by_cases hy : y = 0
        · subst hy; exact ⟨0, 0, two_of_same (fun w => Lcm_zero2 x w)⟩
        · have ha : x.natAbs = 9223372036854775808 := by omega
          have hb : y.natAbs = 9223372036854775808 := by omega
          refine ⟨0, 13, fun w => Lcm_over x y _ _ g 1 9223372036854775808 w hx hy x1 x2 y1 y2 ha hb ?_ ?_ (by omega) (by omega)⟩
          · rw [ha, hb] at hg; exact hg
          · rw [ha, hb, Nat.gcd_self] at hg
            rw [← hg]
    obtain ⟨l, f, hL⟩ := hl
    have ends : ∀ z : Int, (z.natAbs = 9223372036854775808 ∨ z.natAbs = 0) → z ≤ 9223372036854775807 → (z == -9223372036854775808) = true ∨ ((z == -9223372036854775808) = false ∧ (z == 0) = true) := by
      intro z hz hz2
      rcases hz with h | h
      · left; rw [beq_iff_eq]; omega
      · right; exact ⟨by rw [beq_eq_false_iff_ne]; omega, by rw [beq_iff_eq]; omega⟩
    exact common_over x y l f w hN (fun w => Gcd_over x y g w x1 x2 y1 y2 hg hgm) hL (fun w => Gcd_over y x g w y1 y2 x1 x2 hg' hgm) (ends x hgr.1 x2) (ends y hgr.2 y2)
  · have hG : Two 48 x y (g : Int) 0 := fun w => Gcd_ok x y g w x1 x2 y1 y2 hg (by omega)
    have hG2 : Two 48 y x (g : Int) 0 := fun w => Gcd_ok y x g w y1 y2 x1 x2 hg' (by omega)
    by_cases hg0 : g = 0
    · rw [hg0] at hg
      obtain ⟨h1, h2⟩ := Nat.gcd_eq_zero_iff.1 hg
      obtain rfl : x = 0 := by omega
      obtain rfl : y = 0 := by omega
      subst hg0
      exact common_none w hN hG (two_of_same (fun w => Lcm_zero1 0 w))
    · have t1 : ((g : Int) == 0) = false := by rw [beq_eq_false_iff_ne]; omega
      have t2 : decide ((g : Int) < 0) = false := by simp
      have t3 : ¬ (g : Int) = 0 := by omega
      have dx : (g : Int) ∣ x := by rw [← hg]; exact Int.ofNat_dvd_left.2 (Nat.gcd_dvd_left _ _)
      have dy : (g : Int) ∣ y := by rw [← hg]; exact Int.ofNat_dvd_left.2 (Nat.gcd_dvd_right _ _)
      have hx : x.tmod (g : Int) = 0 := Int.tmod_eq_zero_of_dvd dx
      have hy : y.tmod (g : Int) = 0 := Int.tmod_eq_zero_of_dvd dy
      by_cases hx0 : x = 0
      · exact common_half x y g w hN hG (by subst hx0; exact two_of_same (fun w => Lcm_zero1 y w)) hG2 t1 t2 t3 hx hy (.inl (by simpa using hx0))
      · by_cases hy0 : y = 0
        · exact common_half x y g w hN hG (by subst hy0; exact two_of_same (fun w => Lcm_zero2 x w)) hG2 t1 t2 t3 hx hy (.inr ⟨by simpa using hx0, by simpa using hy0⟩)
        · have sx := Div.size x g t3
          have sy := Div.size y g t3
          have ax : (x.tdiv (g : Int)).natAbs = x.natAbs / g := by rw [Int.natAbs_tdiv, Int.natAbs_natCast]; rfl
          have ay : (y.tdiv (g : Int)).natAbs = y.natAbs / g := by rw [Int.natAbs_tdiv, Int.natAbs_natCast]; rfl
          have fx := Div.fits64 x g t3 x1 x2 (by omega)
          have fy := Div.fits64 y g t3 y1 y2 (by omega)
          have hcop : Nat.gcd (x.tdiv (g : Int)).natAbs (y.tdiv (g : Int)).natAbs = 1 := by
            rw [ax, ay, ← hg]
            exact Nat.coprime_div_gcd_div_gcd (by rw [hg]; omega)
          have hH : Two 48 (x.tdiv (g : Int)) (y.tdiv (g : Int)) 1 0 := fun w => Gcd_ok _ _ 1 w fx.1 fx.2 fy.1 fy.2 hcop (by omega)
          obtain ⟨l, hl⟩ : ∃ l, x.natAbs / g * y.natAbs = l := ⟨_, rfl⟩
          have hpl : (x.tdiv (g : Int) * y).natAbs = l := by rw [Int.natAbs_mul, ax, hl]
          have w1 : IntKind.i64.wrap (x.tdiv (g : Int)) = x.tdiv (g : Int) := by rw [IntKind.wrap_i64]; omega
          have w2 : IntKind.i64.wrap (y.tdiv (g : Int)) = y.tdiv (g : Int) := by rw [IntKind.wrap_i64]; omega
          have hq0 : x.natAbs / g ≠ 0 := by
            have : g ≤ x.natAbs := by rw [← hg]; exact Nat.gcd_le_left _ (by omega)
            have := Nat.div_pos this (by omega)
            omega
          have hl0 : l ≠ 0 := by
            rw [← hl]
            exact Nat.mul_ne_zero hq0 (by omega)
          have t4 : (x == 0) = false := by simpa using hx0
          have t5 : (y == 0) = false := by simpa using hy0
          obtain ⟨p, hp⟩ : ∃ p, x.tdiv (g : Int) * y = p := ⟨_, rfl⟩
          rw [hp] at hpl
          by_cases hlm : l ≤ 9223372036854775807
          · have hL : Two 49 x y (l : Int) 0 := fun w => Lcm_ok x y _ _ g _ l w hx0 hy0 x1 x2 y1 y2 rfl rfl hg rfl hl hlm
            refine common_both x y g _ _ p l 0 true w hN hG hL hG2 t1 t2 t3 hx hy t4 t5 w1 w2 hH (fun w => mul64_yes _ _ p w y1 y2 hp (by omega) (by omega)) (.inr (.inr ⟨rfl, by rw [beq_eq_false_iff_ne]; omega, rfl, ?_, by simp; omega⟩))
            by_cases e : p = l
            · exact .inl (by simpa using e)
            · exact .inr ⟨by simpa using e, by rw [IntKind.wrap_i64]; omega⟩
          · have hL : Two 49 x y 0 13 := fun w => Lcm_over x y _ _ g _ l w hx0 hy0 x1 x2 y1 y2 rfl rfl hg rfl hl (by omega)
            by_cases hp2 : p = -9223372036854775808
            · exact common_both x y g _ _ p 0 13 true w hN hG hL hG2 t1 t2 t3 hx hy t4 t5 w1 w2 hH (fun w => mul64_yes _ _ p w y1 y2 hp (by omega) (by omega)) (.inr (.inl ⟨rfl, by simpa using hp2, rfl, rfl⟩))
            · exact common_both x y g _ _ 0 0 13 false w hN hG hL hG2 t1 t2 t3 hx hy t4 t5 w1 w2 hH (fun w => mul64_no _ _ w fx.1 fx.2 y1 y2 (by rw [hp]; omega)) (.inl ⟨rfl, rfl, rfl⟩)
end Go.Proofs.YtedcfddbfpgeaaaDoor
