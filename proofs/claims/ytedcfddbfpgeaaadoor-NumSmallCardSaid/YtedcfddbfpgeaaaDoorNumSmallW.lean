/- quadrillelaw1.NumSmall is true at every two numbers of 32 bits. -/
import Derived.Test.YtedcfddbfpgeaaaDoorNumB
import Derived.Test.YtedcfddbfpgeaaaDoorNumG
import Derived.Test.YtedcfddbfpgeaaaDoorNumSm0
import Derived.Test.YtedcfddbfpgeaaaDoorNumSm1
import Derived.Test.YtedcfddbfpgeaaaDoorNumSm2
import Derived.Test.YtedcfddbfpgeaaaDoorNumSm3
namespace Go.Proofs.YtedcfddbfpgeaaaDoor
open Go.RowKit
set_option linter.unusedVariables false

theorem fits_yes (n : Int) (w : World) (h1 : -2147483648 ≤ n) (h2 : n ≤ 2147483647) : Calls Tryd.prog 37 #[.int .i64 n] w fun e w' => e = .returned (.bool true) ∧ w = w' := by
  have t1 : decide (-2147483648 ≤ n) = true := by simp; omega
  have t2 : decide (n < 2147483648) = true := by simp; omega
  go_enter Tryd.func37, Tryd.ntmps37
  go_wp2
  go_ret
  exact ⟨rfl, rfl⟩
theorem fits_no (n : Int) (w : World) (h : n < -2147483648 ∨ 2147483647 < n) : Calls Tryd.prog 37 #[.int .i64 n] w fun e w' => e = .returned (.bool false) ∧ w = w' := by
  rcases h with h | h
  · have t1 : decide (-2147483648 ≤ n) = false := by simp; omega
    clear h
    go_enter Tryd.func37, Tryd.ntmps37
    go_wp2
    go_ret
    exact ⟨rfl, rfl⟩
  · have t1 : decide (-2147483648 ≤ n) = true := by simp; omega
    have t2 : decide (n < 2147483648) = false := by simp; omega
    clear h
    go_enter Tryd.func37, Tryd.ntmps37
    go_wp2
    go_ret
    exact ⟨rfl, rfl⟩
/-- What a call of 32 bits answers where 64 bits say s. -/
def Small (f : FuncId) (x y s v : Int) (b : Bool) : Prop :=
  (∀ w, Calls Tryd.prog f #[.int .i32 x, .int .i32 y] w fun e w' => e = .returned (.tuple #[.int .i32 v, .bool b]) ∧ w = w') ∧
  (∀ w, Calls Tryd.prog 37 #[.int .i64 s] w fun e w' => e = .returned (.bool b) ∧ w = w') ∧ ((b = true ∧ v = s) ∨ (b = false ∧ v = 0))
theorem small_of {f : FuncId} {x y s : Int} (hy : (-2147483648 ≤ s ∧ s ≤ 2147483647) → ∀ w, Calls Tryd.prog f #[.int .i32 x, .int .i32 y] w fun e w' => e = .returned (.tuple #[.int .i32 s, .bool true]) ∧ w = w')
    (hn : (s < -2147483648 ∨ 2147483647 < s) → ∀ w, Calls Tryd.prog f #[.int .i32 x, .int .i32 y] w fun e w' => e = .returned (.tuple #[.int .i32 0, .bool false]) ∧ w = w') : ∃ v b, Small f x y s v b := by
  by_cases h : -2147483648 ≤ s ∧ s ≤ 2147483647
  · exact ⟨s, true, hy h, fun w => fits_yes s w h.1 h.2, .inl ⟨rfl, rfl⟩⟩
  · exact ⟨0, false, hn (by omega), fun w => fits_no s w (by omega), .inr ⟨rfl, rfl⟩⟩


theorem small_any (x y : Int) (w : World) (hN : NumW w) (x1 : -2147483648 ≤ x) (x2 : x ≤ 2147483647) (y1 : -2147483648 ≤ y) (y2 : y ≤ 2147483647) :
    Calls Tryd.prog 10 #[.int .i32 x, .int .i32 y] w fun e w' => e = .returned (.bool true) ∧ Below w.heap.size w w' := by
  obtain ⟨p, hp⟩ : ∃ p, x * y = p := ⟨_, rfl⟩
  have hpb : -4611686018427387904 ≤ p ∧ p ≤ 4611686018427387904 := by
    have h1 : (x * y).natAbs = x.natAbs * y.natAbs := Int.natAbs_mul x y
    have h2 : x.natAbs * y.natAbs ≤ 2147483648 * 2147483648 := Nat.mul_le_mul (by omega) (by omega)
    rw [hp] at h1
    omega
  obtain ⟨v1, b1, hA, fA, c1⟩ := small_of (f := 34) (x := x) (y := y) (s := x + y) (fun h w => add32_yes x y w h.1 h.2) (fun h w => add32_no x y w x1 x2 y1 y2 h)
  obtain ⟨v2, b2, hS, fS, c2⟩ := small_of (f := 35) (x := x) (y := y) (s := x - y) (fun h w => sub32_yes x y w h.1 h.2) (fun h w => sub32_no x y w x1 x2 y1 y2 h)
  obtain ⟨v3, b3, hM, fM, c3⟩ := small_of (f := 36) (x := x) (y := y) (s := p) (fun h w => mul32_yes x y p w y1 y2 hp h.1 h.2) (fun h w => mul32_no x y w x1 x2 y1 y2 (by rw [hp]; exact h))
  have ex : IntKind.i64.wrap x = x := by rw [IntKind.wrap_i64]; omega
  have ey : IntKind.i64.wrap y = y := by rw [IntKind.wrap_i64]; omega
  have e1 : IntKind.i64.wrap (x + y) = x + y := by rw [IntKind.wrap_i64]; omega
  have e2 : IntKind.i64.wrap (x - y) = x - y := by rw [IntKind.wrap_i64]; omega
  have e3 : IntKind.i64.wrap (x * y) = p := by rw [hp, IntKind.wrap_i64]; omega
  clear hp
  rcases c1 with ⟨rfl, rfl⟩ | ⟨rfl, rfl⟩ <;> rcases c2 with ⟨rfl, rfl⟩ | ⟨rfl, rfl⟩ <;> rcases c3 with ⟨rfl, rfl⟩ | ⟨rfl, rfl⟩
  · exact small_7 x y _ _ _ w hN ex ey e1 e2 e3 (by rw [IntKind.wrap_i64]; omega) (by rw [IntKind.wrap_i64]; omega) (by rw [IntKind.wrap_i64]; omega) hA hS hM fA fS fM
  · exact small_3 x y _ _ _ w hN ex ey e1 e2 e3 (by rw [IntKind.wrap_i64]; omega) (by rw [IntKind.wrap_i64]; omega) (by rw [IntKind.wrap_i64]; omega) hA hS hM fA fS fM
  · exact small_5 x y _ _ _ w hN ex ey e1 e2 e3 (by rw [IntKind.wrap_i64]; omega) (by rw [IntKind.wrap_i64]; omega) (by rw [IntKind.wrap_i64]; omega) hA hS hM fA fS fM
  · exact small_1 x y _ _ _ w hN ex ey e1 e2 e3 (by rw [IntKind.wrap_i64]; omega) (by rw [IntKind.wrap_i64]; omega) (by rw [IntKind.wrap_i64]; omega) hA hS hM fA fS fM
  · exact small_6 x y _ _ _ w hN ex ey e1 e2 e3 (by rw [IntKind.wrap_i64]; omega) (by rw [IntKind.wrap_i64]; omega) (by rw [IntKind.wrap_i64]; omega) hA hS hM fA fS fM
  · exact small_2 x y _ _ _ w hN ex ey e1 e2 e3 (by rw [IntKind.wrap_i64]; omega) (by rw [IntKind.wrap_i64]; omega) (by rw [IntKind.wrap_i64]; omega) hA hS hM fA fS fM
  · exact small_4 x y _ _ _ w hN ex ey e1 e2 e3 (by rw [IntKind.wrap_i64]; omega) (by rw [IntKind.wrap_i64]; omega) (by rw [IntKind.wrap_i64]; omega) hA hS hM fA fS fM
  · exact small_0 x y _ _ _ w hN ex ey e1 e2 e3 (by rw [IntKind.wrap_i64]; omega) (by rw [IntKind.wrap_i64]; omega) (by rw [IntKind.wrap_i64]; omega) hA hS hM fA fS fM
end Go.Proofs.YtedcfddbfpgeaaaDoor
