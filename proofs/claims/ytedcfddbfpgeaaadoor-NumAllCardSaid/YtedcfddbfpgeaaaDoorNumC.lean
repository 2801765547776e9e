/- Contracts of whole.Quo and whole.Mod at whatever numbers of 64 bits; the world stays as it is. -/
import Derived.Test.YtedcfddbfpgeaaaDoorProg
import Derived.WalkKit
import Derived.WalkSpells
import Derived.WalkLawsBesides
import Derived.Lib.Hide
import Derived.Test.YtedcfddbfpgeaaaDoorDiv
namespace Go.Proofs.YtedcfddbfpgeaaaDoor
open Go.RowKit
set_option linter.unusedVariables false

theorem quo_zero (a : Int) (w : World) : Calls Tryd.prog 30 #[.int .i64 a, .int .i64 0] w fun e w' => e = .returned (.tuple #[.int .i64 0, .int .i64 14]) ∧ w = w' := by
  go_enter Tryd.func30, Tryd.ntmps30
  go_wp2
  go_ret2
  exact ⟨rfl, rfl⟩
theorem quo_over (w : World) : Calls Tryd.prog 30 #[.int .i64 (-9223372036854775808), .int .i64 (-1)] w fun e w' => e = .returned (.tuple #[.int .i64 0, .int .i64 13]) ∧ w = w' := by
  go_enter Tryd.func30, Tryd.ntmps30
  go_wp2
  go_ret2
  exact ⟨rfl, rfl⟩
theorem quo_walk1 (a b q : Int) (w : World) (t1 : (b == 0) = false) (t2 : ¬ b = 0) (t3 : (b == -1) = false) (hq : IntKind.i64.wrap (a.tdiv b) = q) :
    Calls Tryd.prog 30 #[.int .i64 a, .int .i64 b] w fun e w' => e = .returned (.tuple #[.int .i64 q, .int .i64 0]) ∧ w = w' := by
  by_cases t4 : (a == -9223372036854775808) = true
  · go_enter Tryd.func30, Tryd.ntmps30
    go_wp2
    go_ret2
    exact ⟨rfl, rfl⟩
  · have t5 : (a == -9223372036854775808) = false := by simpa using t4
    clear t4
    go_enter Tryd.func30, Tryd.ntmps30
    go_wp2
    go_ret2
    exact ⟨rfl, rfl⟩
theorem quo_walk2 (a q : Int) (w : World) (t3 : (a == -9223372036854775808) = false) (hq : IntKind.i64.wrap (-a) = q) :
    Calls Tryd.prog 30 #[.int .i64 a, .int .i64 (-1)] w fun e w' => e = .returned (.tuple #[.int .i64 q, .int .i64 0]) ∧ w = w' := by
  go_enter Tryd.func30, Tryd.ntmps30
  go_wp2
  go_ret2
  exact ⟨rfl, rfl⟩
theorem quo_ok (a b q : Int) (w : World) (hb : b ≠ 0) (h : a = -9223372036854775808 → b ≠ -1) (h1 : -9223372036854775808 ≤ a) (h2 : a ≤ 9223372036854775807) (hq : a.tdiv b = q) :
    Calls Tryd.prog 30 #[.int .i64 a, .int .i64 b] w fun e w' => e = .returned (.tuple #[.int .i64 q, .int .i64 0]) ∧ w = w' := by
  have hf := Div.fits64 a b hb h1 h2 h
  have hw : IntKind.i64.wrap (a.tdiv b) = q := by rw [IntKind.wrap_i64]; omega
  by_cases h3 : b = -1
  · subst h3
    exact quo_walk2 a q w (by simpa using fun e => h e rfl) (by simpa using hw)
  · exact quo_walk1 a b q w (by simpa using hb) hb (by simpa using h3) hw

theorem mod_zero (a : Int) (w : World) : Calls Tryd.prog 31 #[.int .i64 a, .int .i64 0] w fun e w' => e = .returned (.tuple #[.int .i64 0, .int .i64 14]) ∧ w = w' := by
  go_enter Tryd.func31, Tryd.ntmps31
  go_wp2
  go_ret2
  exact ⟨rfl, rfl⟩
theorem mod_one (a : Int) (w : World) : Calls Tryd.prog 31 #[.int .i64 a, .int .i64 (-1)] w fun e w' => e = .returned (.tuple #[.int .i64 0, .int .i64 0]) ∧ w = w' := by
  go_enter Tryd.func31, Tryd.ntmps31
  go_wp2
  go_ret2
  exact ⟨rfl, rfl⟩
theorem mod_walk (a b r m : Int) (u1 u2 : Bool) (w : World) (t1 : (b == 0) = false) (t2 : ¬ b = 0) (t3 : (b == -1) = false) (hr : a.tmod b = r) (hm : IntKind.i64.wrap (r + b) = m)
    (t4 : decide (r < 0) = u1) (t5 : decide (b < 0) = u2) :
    Calls Tryd.prog 31 #[.int .i64 a, .int .i64 b] w fun e w' => e = .returned (.tuple #[.int .i64 (if (r != 0 && (u1 != u2)) = true then m else r), .int .i64 0]) ∧ w = w' := by
  by_cases t6 : (r != 0) = true
  · cases u1 <;> cases u2
    all_goals
      simp only [t6]
      go_enter Tryd.func31, Tryd.ntmps31
      go_wp2
      go_ret2
      exact ⟨rfl, rfl⟩
  · have t7 : (r != 0) = false := by simpa using t6
    simp only [t7]
    clear t6
    go_enter Tryd.func31, Tryd.ntmps31
    go_wp2
    go_ret2
    exact ⟨rfl, rfl⟩
theorem mod_ok (a b m : Int) (w : World) (hb : b ≠ 0) (h1 : -9223372036854775808 ≤ b) (h2 : b ≤ 9223372036854775807) (hm : Div.modV a b = m) :
    Calls Tryd.prog 31 #[.int .i64 a, .int .i64 b] w fun e w' => e = .returned (.tuple #[.int .i64 m, .int .i64 0]) ∧ w = w' := by
  have hr := Div.modV_range a b hb
  rw [hm] at hr
  by_cases h3 : b = -1
  · subst h3
    obtain rfl : m = 0 := by omega
    exact mod_one a w
  · refine (mod_walk a b _ _ _ _ w (by simpa using hb) hb (by simpa using h3) rfl rfl rfl rfl).mono ?_
    rintro e w' ⟨rfl, rfl⟩
    refine ⟨?_, rfl⟩
    have : (if (a.tmod b != 0 && (decide (a.tmod b < 0) != decide (b < 0))) = true then IntKind.i64.wrap (a.tmod b + b) else a.tmod b) = m := by
      have hp := Div.parts a b hb
      unfold Div.modV at hm
      rw [← hm]
      by_cases hc : a.tmod b ≠ 0 ∧ (decide (a.tmod b < 0) != decide (b < 0)) = true
      · rw [if_pos hc, if_pos (by simpa using hc), IntKind.wrap_i64]
        rw [if_pos hc] at hm
        omega
      · rw [if_neg hc, if_neg (by simpa using hc)]
    rw [this]
end Go.Proofs.YtedcfddbfpgeaaaDoor
