/- quadrillelaw1.NumPowers is true at every number of 64 bits and every two of 8. -/
import Derived.Test.YtedcfddbfpgeaaaDoorNumD
import Derived.Test.YtedcfddbfpgeaaaDoorNumG
namespace Go.Proofs.YtedcfddbfpgeaaaDoor
open Go.RowKit
set_option linter.unusedVariables false

theorem powers_zero (x p q r a b : Int) (e f g : Int) (w : World) (hN : NumW w) (a1 : 0 ≤ a) (a2 : a ≤ 255) (b1 : 0 ≤ b) (b2 : b ≤ 255)
    (hA : ∀ w, Calls Tryd.prog 47 #[.int .i64 x, .int .i64 a] w fun en w' => en = .returned (.tuple #[.int .i64 p, .int .i64 e]) ∧ w = w')
    (hB : ∀ w, Calls Tryd.prog 47 #[.int .i64 x, .int .i64 b] w fun en w' => en = .returned (.tuple #[.int .i64 q, .int .i64 f]) ∧ w = w')
    (hC : ∀ w, Calls Tryd.prog 47 #[.int .i64 x, .int .i64 (a + b)] w fun en w' => en = .returned (.tuple #[.int .i64 r, .int .i64 13]) ∧ w = w')
    (t1 : (e != 0) = true ∨ ((e != 0) = false ∧ (f != 0) = true)) :
    Calls Tryd.prog 12 #[.int .i64 x, .int .u8 a, .int .u8 b] w fun e w' => e = .returned (.bool true) ∧ Below w.heap.size w w' := by
  have HA := Lib.hid hA
  have HB := Lib.hid hB
  have HC := Lib.hid hC
  clear hA hB hC
  rcases t1 with t1 | ⟨t1, t2⟩
  all_goals
    go_enter Tryd.func12, Tryd.ntmps12
    go_wp2_with (fail)
    refine (begun1 w hN).mono ?_
    rintro e w1 ⟨rfl, hb1⟩
    go_wp2_with (fail)
    refine (HA.out _).mono ?_
    rintro e w' ⟨rfl, rfl⟩
    go_wp2_with (fail)
    refine (HB.out _).mono ?_
    rintro e w' ⟨rfl, rfl⟩
    go_wp2_with (fail)
    refine (HC.out _).mono ?_
    rintro e w' ⟨rfl, rfl⟩
    go_wp2
    go_ret
    exact ⟨rfl, hb1⟩
theorem powers_both (x p q r g a b : Int) (u : Bool) (w : World) (hN : NumW w) (a1 : 0 ≤ a) (a2 : a ≤ 255) (b1 : 0 ≤ b) (b2 : b ≤ 255)
    (hA : ∀ w, Calls Tryd.prog 47 #[.int .i64 x, .int .i64 a] w fun en w' => en = .returned (.tuple #[.int .i64 p, .int .i64 0]) ∧ w = w')
    (hB : ∀ w, Calls Tryd.prog 47 #[.int .i64 x, .int .i64 b] w fun en w' => en = .returned (.tuple #[.int .i64 q, .int .i64 0]) ∧ w = w')
    (hC : ∀ w, Calls Tryd.prog 47 #[.int .i64 x, .int .i64 (a + b)] w fun en w' => en = .returned (.tuple #[.int .i64 r, .int .i64 g]) ∧ w = w')
    (hM : ∀ w, Calls Tryd.prog 46 #[.int .i64 p, .int .i64 q] w fun en w' => en = .returned (.tuple #[.int .i64 r, .bool u]) ∧ w = w')
    (t1 : (u = true ∧ (g == 0) = true) ∨ (u = false ∧ (g == 0) = false)) :
    Calls Tryd.prog 12 #[.int .i64 x, .int .u8 a, .int .u8 b] w fun e w' => e = .returned (.bool true) ∧ Below w.heap.size w w' := by
  have HA := Lib.hid hA
  have HB := Lib.hid hB
  have HC := Lib.hid hC
  have HM := Lib.hid hM
  clear hA hB hC hM
  rcases t1 with ⟨rfl, t1⟩ | ⟨rfl, t1⟩
  all_goals
    go_enter Tryd.func12, Tryd.ntmps12
    go_wp2_with (fail)
    refine (begun1 w hN).mono ?_
    rintro e w1 ⟨rfl, hb1⟩
    go_wp2_with (fail)
    refine (HA.out _).mono ?_
    rintro e w' ⟨rfl, rfl⟩
    go_wp2_with (fail)
    refine (HB.out _).mono ?_
    rintro e w' ⟨rfl, rfl⟩
    go_wp2_with (fail)
    refine (HC.out _).mono ?_
    rintro e w' ⟨rfl, rfl⟩
    go_wp2_with (fail)
    refine (HM.out _).mono ?_
    rintro e w' ⟨rfl, rfl⟩
    go_wp2
    go_ret
    exact ⟨by simp, hb1⟩

theorem powers_any (x a b : Int) (w : World) (hN : NumW w) (x1 : -9223372036854775808 ≤ x) (x2 : x ≤ 9223372036854775807) (a1 : 0 ≤ a) (a2 : a ≤ 255) (b1 : 0 ≤ b) (b2 : b ≤ 255) :
    Calls Tryd.prog 12 #[.int .i64 x, .int .u8 a, .int .u8 b] w fun e w' => e = .returned (.bool true) ∧ Below w.heap.size w w' := by
  obtain ⟨k, rfl⟩ := Int.eq_ofNat_of_zero_le a1
  obtain ⟨j, rfl⟩ := Int.eq_ofNat_of_zero_le b1
  have hA := fun (y z : Int) (h1 : PowG.powN x k = y) (h2 : PowG.powE x k = z) (w : World) => pow_any x y z k w x1 x2 (by omega) h1 h2
  have hB := fun (y z : Int) (h1 : PowG.powN x j = y) (h2 : PowG.powE x j = z) (w : World) => pow_any x y z j w x1 x2 (by omega) h1 h2
  have hC : ∀ (y z : Int) (h1 : PowG.powN x (k + j) = y) (h2 : PowG.powE x (k + j) = z) (w : World), Calls Tryd.prog 47 #[.int .i64 x, .int .i64 ((k : Int) + (j : Int))] w fun en w' => en = .returned (.tuple #[.int .i64 y, .int .i64 z]) ∧ w = w' := by
    intro y z h1 h2 w
    have := pow_any x y z (k + j) w x1 x2 (by omega) h1 h2
    rwa [Int.natCast_add] at this
  by_cases fk : PowG.Fits (x ^ k)
  · by_cases fj : PowG.Fits (x ^ j)
    · have e1 := powN_fit fk
      have e2 := powN_fit fj
      have hp : x ^ k * x ^ j = x ^ (k + j) := (Int.pow_add x k j).symm
      by_cases fkj : PowG.Fits (x ^ (k + j))
      · have e3 := powN_fit fkj
        exact powers_both x _ _ _ 0 k j true w hN a1 a2 b1 b2 (hA _ _ e1.1 e1.2) (hB _ _ e2.1 e2.2) (hC _ _ e3.1 e3.2) (fun w => mul64_yes _ _ _ w fj.1 fj.2 hp fkj.1 fkj.2) (.inl ⟨rfl, rfl⟩)
      · have e3 := powN_not fkj
        exact powers_both x _ _ _ 13 k j false w hN a1 a2 b1 b2 (hA _ _ e1.1 e1.2) (hB _ _ e2.1 e2.2) (hC _ _ e3.1 e3.2) (fun w => mul64_no _ _ w fk.1 fk.2 fj.1 fj.2 (by rw [hp]; unfold PowG.Fits at fkj; omega)) (.inr ⟨rfl, rfl⟩)
    · have e1 := powN_fit fk
      have e2 := powN_not fj
      have e3 := powN_not (by rw [Nat.add_comm]; exact PowG.pow_over' x j k fj : ¬ PowG.Fits (x ^ (k + j)))
      exact powers_zero x _ _ _ k j _ _ 0 w hN a1 a2 b1 b2 (hA _ _ e1.1 e1.2) (hB _ _ e2.1 e2.2) (hC _ _ e3.1 e3.2) (.inr ⟨rfl, rfl⟩)
  · have e1 := powN_not fk
    have e3 := powN_not (PowG.pow_over' x k j fk)
    exact powers_zero x _ _ _ k j _ _ 0 w hN a1 a2 b1 b2 (hA _ _ e1.1 e1.2) (hB _ _ rfl rfl) (hC _ _ e3.1 e3.2) (.inl rfl)
end Go.Proofs.YtedcfddbfpgeaaaDoor
