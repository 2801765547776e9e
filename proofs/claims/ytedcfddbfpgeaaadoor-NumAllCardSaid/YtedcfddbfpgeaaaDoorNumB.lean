/- Contracts of whole.Mul: at whatever numbers of the kind the product and true where the kind holds it, else 0 and false; the world stays as it is. No condition beside the kind's own range. -/
import Derived.Test.YtedcfddbfpgeaaaDoorProg
import Derived.WalkKit
import Derived.WalkSpells
import Derived.WalkLawsBesides
import Derived.Lib.Hide
import Derived.Test.YtedcfddbfpgeaaaDoorDiv
namespace Go.Proofs.YtedcfddbfpgeaaaDoor
open Go.RowKit
set_option linter.unusedVariables false

theorem mul_cancel {a b c : Int} (ha : a ≠ 0) (h : a * b = a * c) : b = c := Int.eq_of_mul_eq_mul_left ha h


/-- The wrapped product differs from the product: the quotient is another number, or it is the least number by -1. -/
theorem mul_tell64 (a b c : Int) (ha : a ≠ 0) (ha1 : -9223372036854775808 ≤ a) (ha2 : a ≤ 9223372036854775807) (hb1 : -9223372036854775808 ≤ b) (hb2 : b ≤ 9223372036854775807) (hc : IntKind.i64.wrap (a * b) = c) (h : a * b < -9223372036854775808 ∨ 9223372036854775807 < a * b) :
    (IntKind.i64.wrap (c.tdiv a) ≠ b) ∨ (a = -1 ∧ b < 0 ∧ c < 0 ∧ IntKind.i64.wrap (c.tdiv a) = b) := by
  rw [IntKind.wrap_i64] at hc
  by_cases h1 : a = -1 ∧ c = -9223372036854775808
  · obtain ⟨rfl, hc1⟩ := h1
    have hb : b = -9223372036854775808 := by omega
    subst hb hc1
    exact .inr ⟨rfl, by omega, by omega, by decide⟩
  · left
    have hf := Div.fits64 c a ha (by omega) (by omega) (fun e e2 => h1 ⟨e2, e⟩)
    rw [IntKind.wrap_i64]
    intro e
    have e2 : c.tdiv a = b := by omega
    have hp := (Div.parts c a ha).1
    rw [e2, Int.mul_comm] at hp
    have h4 := (Div.parts c a ha).2.2.2.1
    have h5 := (Div.parts c a ha).2.2.2.2
    generalize a * b = p at *
    generalize c.tmod a = r at *
    rcases Int.lt_or_gt_of_ne ha with ha' | ha'
    · have := h5 ha'; omega
    · have := h4 ha'; omega

/-- The wrapped product differs from the product: the quotient is another number, or it is the least number by -1. -/
theorem mul_tell32 (a b c : Int) (ha : a ≠ 0) (ha1 : -2147483648 ≤ a) (ha2 : a ≤ 2147483647) (hb1 : -2147483648 ≤ b) (hb2 : b ≤ 2147483647) (hc : IntKind.i32.wrap (a * b) = c) (h : a * b < -2147483648 ∨ 2147483647 < a * b) :
    (IntKind.i32.wrap (c.tdiv a) ≠ b) ∨ (a = -1 ∧ b < 0 ∧ c < 0 ∧ IntKind.i32.wrap (c.tdiv a) = b) := by
  rw [IntKind.wrap_i32] at hc
  by_cases h1 : a = -1 ∧ c = -2147483648
  · obtain ⟨rfl, hc1⟩ := h1
    have hb : b = -2147483648 := by omega
    subst hb hc1
    exact .inr ⟨rfl, by omega, by omega, by decide⟩
  · left
    have hf := Div.fits32 c a ha (by omega) (by omega) (fun e e2 => h1 ⟨e2, e⟩)
    rw [IntKind.wrap_i32]
    intro e
    have e2 : c.tdiv a = b := by omega
    have hp := (Div.parts c a ha).1
    rw [e2, Int.mul_comm] at hp
    have h4 := (Div.parts c a ha).2.2.2.1
    have h5 := (Div.parts c a ha).2.2.2.2
    generalize a * b = p at *
    generalize c.tmod a = r at *
    rcases Int.lt_or_gt_of_ne ha with ha' | ha'
    · have := h5 ha'; omega
    · have := h4 ha'; omega

theorem mul64_walk (a b c q : Int) (w : World) (hw : IntKind.i64.wrap (a * b) = c) (hq : IntKind.i64.wrap (c.tdiv a) = q) (t0 : (a != 0) = true) (t1 : ¬ a = 0) (t2 : (q != b) = false) (h : (a == -1) = false ∨ decide (b < 0) = false ∨ decide (c < 0) = false) :
    Calls Tryd.prog 46 #[.int .i64 a, .int .i64 b] w fun e w' => e = .returned (.tuple #[.int .i64 c, .bool true]) ∧ w = w' := by
  by_cases h1 : (a == -1) = false
  · clear h
    go_enter Tryd.func46, Tryd.ntmps46
    go_wp2
    go_ret2
    exact ⟨rfl, rfl⟩
  · have h2 : (a == -1) = true := by simpa using h1
    by_cases h3 : decide (b < 0) = false
    · clear h h1
      go_enter Tryd.func46, Tryd.ntmps46
      go_wp2
      go_ret2
      exact ⟨rfl, rfl⟩
    · have h4 : decide (b < 0) = true := by simpa using h3
      have h5 : decide (c < 0) = false := by
        rcases h with h | h | h
        · exact absurd h h1
        · exact absurd h h3
        · exact h
      clear h h1 h3
      go_enter Tryd.func46, Tryd.ntmps46
      go_wp2
      go_ret2
      exact ⟨rfl, rfl⟩
theorem mul64_zero (b : Int) (w : World) : Calls Tryd.prog 46 #[.int .i64 0, .int .i64 b] w fun e w' => e = .returned (.tuple #[.int .i64 0, .bool true]) ∧ w = w' := by
  go_enter Tryd.func46, Tryd.ntmps46
  go_wp2
  go_ret2
  exact ⟨rfl, rfl⟩
theorem mul64_fall1 (a b c q : Int) (w : World) (hw : IntKind.i64.wrap (a * b) = c) (hq : IntKind.i64.wrap (c.tdiv a) = q) (t0 : (a != 0) = true) (t1 : ¬ a = 0) (t2 : (q != b) = true) :
    Calls Tryd.prog 46 #[.int .i64 a, .int .i64 b] w fun e w' => e = .returned (.tuple #[.int .i64 0, .bool false]) ∧ w = w' := by
  go_enter Tryd.func46, Tryd.ntmps46
  go_wp2
  go_ret2
  exact ⟨rfl, rfl⟩
theorem mul64_fall2 (a b c q : Int) (w : World) (hw : IntKind.i64.wrap (a * b) = c) (hq : IntKind.i64.wrap (c.tdiv a) = q) (t0 : (a != 0) = true) (t1 : ¬ a = 0) (t2 : (q != b) = false) (h3 : (a == -1) = true) (h4 : decide (b < 0) = true) (h5 : decide (c < 0) = true) :
    Calls Tryd.prog 46 #[.int .i64 a, .int .i64 b] w fun e w' => e = .returned (.tuple #[.int .i64 0, .bool false]) ∧ w = w' := by
  go_enter Tryd.func46, Tryd.ntmps46
  go_wp2
  go_ret2
  exact ⟨rfl, rfl⟩
theorem mul64_yes (a b p : Int) (w : World) (hb1 : -9223372036854775808 ≤ b) (hb2 : b ≤ 9223372036854775807) (hp : a * b = p) (h1 : -9223372036854775808 ≤ p) (h2 : p ≤ 9223372036854775807) :
    Calls Tryd.prog 46 #[.int .i64 a, .int .i64 b] w fun e w' => e = .returned (.tuple #[.int .i64 p, .bool true]) ∧ w = w' := by
  by_cases ha : a = 0
  · subst ha
    rw [Int.zero_mul] at hp
    subst hp
    exact mul64_zero b w
  · have hq : p.tdiv a = b := by rw [← hp, Int.mul_tdiv_cancel_left b ha]
    refine mul64_walk a b p b w (by rw [hp, IntKind.wrap_i64]; omega) (by rw [hq, IntKind.wrap_i64]; omega) (by simpa using ha) ha (by simp) ?_
    by_cases h3 : a = -1
    · subst h3
      by_cases h4 : b < 0
      · exact .inr (.inr (by simp; omega))
      · exact .inr (.inl (by simpa using h4))
    · exact .inl (by simpa using h3)
theorem mul64_no (a b : Int) (w : World) (ha1 : -9223372036854775808 ≤ a) (ha2 : a ≤ 9223372036854775807) (hb1 : -9223372036854775808 ≤ b) (hb2 : b ≤ 9223372036854775807) (h : a * b < -9223372036854775808 ∨ 9223372036854775807 < a * b) :
    Calls Tryd.prog 46 #[.int .i64 a, .int .i64 b] w fun e w' => e = .returned (.tuple #[.int .i64 0, .bool false]) ∧ w = w' := by
  have ha : a ≠ 0 := by
    rintro rfl
    rw [Int.zero_mul] at h
    omega
  rcases mul_tell64 a b _ ha ha1 ha2 hb1 hb2 rfl h with h1 | ⟨h1, h2, h3, h4⟩
  · exact mul64_fall1 a b _ _ w rfl rfl (by simpa using ha) ha (by simpa using h1)
  · exact mul64_fall2 a b _ _ w rfl rfl (by simpa using ha) ha (by simpa using h4) (by simpa using h1) (by simpa using h2) (by simpa using h3)

theorem mul32_walk (a b c q : Int) (w : World) (hw : IntKind.i32.wrap (a * b) = c) (hq : IntKind.i32.wrap (c.tdiv a) = q) (t0 : (a != 0) = true) (t1 : ¬ a = 0) (t2 : (q != b) = false) (h : (a == -1) = false ∨ decide (b < 0) = false ∨ decide (c < 0) = false) :
    Calls Tryd.prog 36 #[.int .i32 a, .int .i32 b] w fun e w' => e = .returned (.tuple #[.int .i32 c, .bool true]) ∧ w = w' := by
  by_cases h1 : (a == -1) = false
  · clear h
    go_enter Tryd.func36, Tryd.ntmps36
    go_wp2
    go_ret2
    exact ⟨rfl, rfl⟩
  · have h2 : (a == -1) = true := by simpa using h1
    by_cases h3 : decide (b < 0) = false
    · clear h h1
      go_enter Tryd.func36, Tryd.ntmps36
      go_wp2
      go_ret2
      exact ⟨rfl, rfl⟩
    · have h4 : decide (b < 0) = true := by simpa using h3
      have h5 : decide (c < 0) = false := by
        rcases h with h | h | h
        · exact absurd h h1
        · exact absurd h h3
        · exact h
      clear h h1 h3
      go_enter Tryd.func36, Tryd.ntmps36
      go_wp2
      go_ret2
      exact ⟨rfl, rfl⟩
theorem mul32_zero (b : Int) (w : World) : Calls Tryd.prog 36 #[.int .i32 0, .int .i32 b] w fun e w' => e = .returned (.tuple #[.int .i32 0, .bool true]) ∧ w = w' := by
  go_enter Tryd.func36, Tryd.ntmps36
  go_wp2
  go_ret2
  exact ⟨rfl, rfl⟩
theorem mul32_fall1 (a b c q : Int) (w : World) (hw : IntKind.i32.wrap (a * b) = c) (hq : IntKind.i32.wrap (c.tdiv a) = q) (t0 : (a != 0) = true) (t1 : ¬ a = 0) (t2 : (q != b) = true) :
    Calls Tryd.prog 36 #[.int .i32 a, .int .i32 b] w fun e w' => e = .returned (.tuple #[.int .i32 0, .bool false]) ∧ w = w' := by
  go_enter Tryd.func36, Tryd.ntmps36
  go_wp2
  go_ret2
  exact ⟨rfl, rfl⟩
theorem mul32_fall2 (a b c q : Int) (w : World) (hw : IntKind.i32.wrap (a * b) = c) (hq : IntKind.i32.wrap (c.tdiv a) = q) (t0 : (a != 0) = true) (t1 : ¬ a = 0) (t2 : (q != b) = false) (h3 : (a == -1) = true) (h4 : decide (b < 0) = true) (h5 : decide (c < 0) = true) :
    Calls Tryd.prog 36 #[.int .i32 a, .int .i32 b] w fun e w' => e = .returned (.tuple #[.int .i32 0, .bool false]) ∧ w = w' := by
  go_enter Tryd.func36, Tryd.ntmps36
  go_wp2
  go_ret2
  exact ⟨rfl, rfl⟩
theorem mul32_yes (a b p : Int) (w : World) (hb1 : -2147483648 ≤ b) (hb2 : b ≤ 2147483647) (hp : a * b = p) (h1 : -2147483648 ≤ p) (h2 : p ≤ 2147483647) :
    Calls Tryd.prog 36 #[.int .i32 a, .int .i32 b] w fun e w' => e = .returned (.tuple #[.int .i32 p, .bool true]) ∧ w = w' := by
  by_cases ha : a = 0
  · subst ha
    rw [Int.zero_mul] at hp
    subst hp
    exact mul32_zero b w
  · have hq : p.tdiv a = b := by rw [← hp, Int.mul_tdiv_cancel_left b ha]
    refine mul32_walk a b p b w (by rw [hp, IntKind.wrap_i32]; omega) (by rw [hq, IntKind.wrap_i32]; omega) (by simpa using ha) ha (by simp) ?_
    by_cases h3 : a = -1
    · subst h3
      by_cases h4 : b < 0
      · exact .inr (.inr (by simp; omega))
      · exact .inr (.inl (by simpa using h4))
    · exact .inl (by simpa using h3)
theorem mul32_no (a b : Int) (w : World) (ha1 : -2147483648 ≤ a) (ha2 : a ≤ 2147483647) (hb1 : -2147483648 ≤ b) (hb2 : b ≤ 2147483647) (h : a * b < -2147483648 ∨ 2147483647 < a * b) :
    Calls Tryd.prog 36 #[.int .i32 a, .int .i32 b] w fun e w' => e = .returned (.tuple #[.int .i32 0, .bool false]) ∧ w = w' := by
  have ha : a ≠ 0 := by
    rintro rfl
    rw [Int.zero_mul] at h
    omega
  rcases mul_tell32 a b _ ha ha1 ha2 hb1 hb2 rfl h with h1 | ⟨h1, h2, h3, h4⟩
  · exact mul32_fall1 a b _ _ w rfl rfl (by simpa using ha) ha (by simpa using h1)
  · exact mul32_fall2 a b _ _ w rfl rfl (by simpa using ha) ha (by simpa using h4) (by simpa using h1) (by simpa using h2) (by simpa using h3)

theorem mul32T_walk (a b c q : Int) (w : World) (hw : IntKind.i32.wrap (a * b) = c) (hq : IntKind.i32.wrap (c.tdiv a) = q) (t0 : (a != 0) = true) (t1 : ¬ a = 0) (t2 : (q != b) = false) (h : (a == -1) = false ∨ decide (b < 0) = false ∨ decide (c < 0) = false) :
    Calls Tryd.prog 40 #[.int .i32 a, .int .i32 b] w fun e w' => e = .returned (.tuple #[.int .i32 c, .bool true]) ∧ w = w' := by
  by_cases h1 : (a == -1) = false
  · clear h
    go_enter Tryd.func40, Tryd.ntmps40
    go_wp2
    go_ret2
    exact ⟨rfl, rfl⟩
  · have h2 : (a == -1) = true := by simpa using h1
    by_cases h3 : decide (b < 0) = false
    · clear h h1
      go_enter Tryd.func40, Tryd.ntmps40
      go_wp2
      go_ret2
      exact ⟨rfl, rfl⟩
    · have h4 : decide (b < 0) = true := by simpa using h3
      have h5 : decide (c < 0) = false := by
        rcases h with h | h | h
        · exact absurd h h1
        · exact absurd h h3
        · exact h
      clear h h1 h3
      go_enter Tryd.func40, Tryd.ntmps40
      go_wp2
      go_ret2
      exact ⟨rfl, rfl⟩
theorem mul32T_zero (b : Int) (w : World) : Calls Tryd.prog 40 #[.int .i32 0, .int .i32 b] w fun e w' => e = .returned (.tuple #[.int .i32 0, .bool true]) ∧ w = w' := by
  go_enter Tryd.func40, Tryd.ntmps40
  go_wp2
  go_ret2
  exact ⟨rfl, rfl⟩
theorem mul32T_fall1 (a b c q : Int) (w : World) (hw : IntKind.i32.wrap (a * b) = c) (hq : IntKind.i32.wrap (c.tdiv a) = q) (t0 : (a != 0) = true) (t1 : ¬ a = 0) (t2 : (q != b) = true) :
    Calls Tryd.prog 40 #[.int .i32 a, .int .i32 b] w fun e w' => e = .returned (.tuple #[.int .i32 0, .bool false]) ∧ w = w' := by
  go_enter Tryd.func40, Tryd.ntmps40
  go_wp2
  go_ret2
  exact ⟨rfl, rfl⟩
theorem mul32T_fall2 (a b c q : Int) (w : World) (hw : IntKind.i32.wrap (a * b) = c) (hq : IntKind.i32.wrap (c.tdiv a) = q) (t0 : (a != 0) = true) (t1 : ¬ a = 0) (t2 : (q != b) = false) (h3 : (a == -1) = true) (h4 : decide (b < 0) = true) (h5 : decide (c < 0) = true) :
    Calls Tryd.prog 40 #[.int .i32 a, .int .i32 b] w fun e w' => e = .returned (.tuple #[.int .i32 0, .bool false]) ∧ w = w' := by
  go_enter Tryd.func40, Tryd.ntmps40
  go_wp2
  go_ret2
  exact ⟨rfl, rfl⟩
theorem mul32T_yes (a b p : Int) (w : World) (hb1 : -2147483648 ≤ b) (hb2 : b ≤ 2147483647) (hp : a * b = p) (h1 : -2147483648 ≤ p) (h2 : p ≤ 2147483647) :
    Calls Tryd.prog 40 #[.int .i32 a, .int .i32 b] w fun e w' => e = .returned (.tuple #[.int .i32 p, .bool true]) ∧ w = w' := by
  by_cases ha : a = 0
  · subst ha
    rw [Int.zero_mul] at hp
    subst hp
    exact mul32T_zero b w
  · have hq : p.tdiv a = b := by rw [← hp, Int.mul_tdiv_cancel_left b ha]
    refine mul32T_walk a b p b w (by rw [hp, IntKind.wrap_i32]; omega) (by rw [hq, IntKind.wrap_i32]; omega) (by simpa using ha) ha (by simp) ?_
    by_cases h3 : a = -1
    · subst h3
      by_cases h4 : b < 0
      · exact .inr (.inr (by simp; omega))
      · exact .inr (.inl (by simpa using h4))
    · exact .inl (by simpa using h3)
theorem mul32T_no (a b : Int) (w : World) (ha1 : -2147483648 ≤ a) (ha2 : a ≤ 2147483647) (hb1 : -2147483648 ≤ b) (hb2 : b ≤ 2147483647) (h : a * b < -2147483648 ∨ 2147483647 < a * b) :
    Calls Tryd.prog 40 #[.int .i32 a, .int .i32 b] w fun e w' => e = .returned (.tuple #[.int .i32 0, .bool false]) ∧ w = w' := by
  have ha : a ≠ 0 := by
    rintro rfl
    rw [Int.zero_mul] at h
    omega
  rcases mul_tell32 a b _ ha ha1 ha2 hb1 hb2 rfl h with h1 | ⟨h1, h2, h3, h4⟩
  · exact mul32T_fall1 a b _ _ w rfl rfl (by simpa using ha) ha (by simpa using h1)
  · exact mul32T_fall2 a b _ _ w rfl rfl (by simpa using ha) ha (by simpa using h4) (by simpa using h1) (by simpa using h2) (by simpa using h3)

theorem mul64G_walk (a b c q : Int) (w : World) (hw : IntKind.i64.wrap (a * b) = c) (hq : IntKind.i64.wrap (c.tdiv a) = q) (t0 : (a != 0) = true) (t1 : ¬ a = 0) (t2 : (q != b) = false) (h : (a == -1) = false ∨ decide (b < 0) = false ∨ decide (c < 0) = false) :
    Calls Tryd.prog 45 #[.int .i64 a, .int .i64 b] w fun e w' => e = .returned (.tuple #[.int .i64 c, .bool true]) ∧ w = w' := by
  by_cases h1 : (a == -1) = false
  · clear h
    go_enter Tryd.func45, Tryd.ntmps45
    go_wp2
    go_ret2
    exact ⟨rfl, rfl⟩
  · have h2 : (a == -1) = true := by simpa using h1
    by_cases h3 : decide (b < 0) = false
    · clear h h1
      go_enter Tryd.func45, Tryd.ntmps45
      go_wp2
      go_ret2
      exact ⟨rfl, rfl⟩
    · have h4 : decide (b < 0) = true := by simpa using h3
      have h5 : decide (c < 0) = false := by
        rcases h with h | h | h
        · exact absurd h h1
        · exact absurd h h3
        · exact h
      clear h h1 h3
      go_enter Tryd.func45, Tryd.ntmps45
      go_wp2
      go_ret2
      exact ⟨rfl, rfl⟩
theorem mul64G_zero (b : Int) (w : World) : Calls Tryd.prog 45 #[.int .i64 0, .int .i64 b] w fun e w' => e = .returned (.tuple #[.int .i64 0, .bool true]) ∧ w = w' := by
  go_enter Tryd.func45, Tryd.ntmps45
  go_wp2
  go_ret2
  exact ⟨rfl, rfl⟩
theorem mul64G_fall1 (a b c q : Int) (w : World) (hw : IntKind.i64.wrap (a * b) = c) (hq : IntKind.i64.wrap (c.tdiv a) = q) (t0 : (a != 0) = true) (t1 : ¬ a = 0) (t2 : (q != b) = true) :
    Calls Tryd.prog 45 #[.int .i64 a, .int .i64 b] w fun e w' => e = .returned (.tuple #[.int .i64 0, .bool false]) ∧ w = w' := by
  go_enter Tryd.func45, Tryd.ntmps45
  go_wp2
  go_ret2
  exact ⟨rfl, rfl⟩
theorem mul64G_fall2 (a b c q : Int) (w : World) (hw : IntKind.i64.wrap (a * b) = c) (hq : IntKind.i64.wrap (c.tdiv a) = q) (t0 : (a != 0) = true) (t1 : ¬ a = 0) (t2 : (q != b) = false) (h3 : (a == -1) = true) (h4 : decide (b < 0) = true) (h5 : decide (c < 0) = true) :
    Calls Tryd.prog 45 #[.int .i64 a, .int .i64 b] w fun e w' => e = .returned (.tuple #[.int .i64 0, .bool false]) ∧ w = w' := by
  go_enter Tryd.func45, Tryd.ntmps45
  go_wp2
  go_ret2
  exact ⟨rfl, rfl⟩
theorem mul64G_yes (a b p : Int) (w : World) (hb1 : -9223372036854775808 ≤ b) (hb2 : b ≤ 9223372036854775807) (hp : a * b = p) (h1 : -9223372036854775808 ≤ p) (h2 : p ≤ 9223372036854775807) :
    Calls Tryd.prog 45 #[.int .i64 a, .int .i64 b] w fun e w' => e = .returned (.tuple #[.int .i64 p, .bool true]) ∧ w = w' := by
  by_cases ha : a = 0
  · subst ha
    rw [Int.zero_mul] at hp
    subst hp
    exact mul64G_zero b w
  · have hq : p.tdiv a = b := by rw [← hp, Int.mul_tdiv_cancel_left b ha]
    refine mul64G_walk a b p b w (by rw [hp, IntKind.wrap_i64]; omega) (by rw [hq, IntKind.wrap_i64]; omega) (by simpa using ha) ha (by simp) ?_
    by_cases h3 : a = -1
    · subst h3
      by_cases h4 : b < 0
      · exact .inr (.inr (by simp; omega))
      · exact .inr (.inl (by simpa using h4))
    · exact .inl (by simpa using h3)
theorem mul64G_no (a b : Int) (w : World) (ha1 : -9223372036854775808 ≤ a) (ha2 : a ≤ 9223372036854775807) (hb1 : -9223372036854775808 ≤ b) (hb2 : b ≤ 9223372036854775807) (h : a * b < -9223372036854775808 ∨ 9223372036854775807 < a * b) :
    Calls Tryd.prog 45 #[.int .i64 a, .int .i64 b] w fun e w' => e = .returned (.tuple #[.int .i64 0, .bool false]) ∧ w = w' := by
  have ha : a ≠ 0 := by
    rintro rfl
    rw [Int.zero_mul] at h
    omega
  rcases mul_tell64 a b _ ha ha1 ha2 hb1 hb2 rfl h with h1 | ⟨h1, h2, h3, h4⟩
  · exact mul64G_fall1 a b _ _ w rfl rfl (by simpa using ha) ha (by simpa using h1)
  · exact mul64G_fall2 a b _ _ w rfl rfl (by simpa using ha) ha (by simpa using h4) (by simpa using h1) (by simpa using h2) (by simpa using h3)
end Go.Proofs.YtedcfddbfpgeaaaDoor
