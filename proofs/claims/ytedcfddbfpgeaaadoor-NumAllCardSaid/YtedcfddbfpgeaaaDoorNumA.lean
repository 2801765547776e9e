/- Contracts of whole.Add and whole.Sub: at whatever numbers of the kind the sum (the difference) and true where the kind holds it, else 0 and false; the world stays as it is. No condition beside the kind's own range. -/
import Derived.Test.YtedcfddbfpgeaaaDoorProg
import Derived.WalkKit
import Derived.WalkSpells
import Derived.WalkLawsBesides
import Derived.Lib.Hide
namespace Go.Proofs.YtedcfddbfpgeaaaDoor
open Go.RowKit
set_option linter.unusedVariables false

theorem add64_yes (a b : Int) (w : World) (h1 : -9223372036854775808 ≤ a + b) (h2 : a + b ≤ 9223372036854775807) : Calls Tryd.prog 42 #[.int .i64 a, .int .i64 b] w fun e w' => e = .returned (.tuple #[.int .i64 (a + b), .bool true]) ∧ w = w' := by
  go_enter Tryd.func42, Tryd.ntmps42
  go_wp2
  go_ret2
  exact ⟨rfl, rfl⟩
theorem add64_no (a b : Int) (w : World) (ha1 : -9223372036854775808 ≤ a) (ha2 : a ≤ 9223372036854775807) (hb1 : -9223372036854775808 ≤ b) (hb2 : b ≤ 9223372036854775807) (h : a + b < -9223372036854775808 ∨ 9223372036854775807 < a + b) : Calls Tryd.prog 42 #[.int .i64 a, .int .i64 b] w fun e w' => e = .returned (.tuple #[.int .i64 0, .bool false]) ∧ w = w' := by
  obtain ⟨c, hc⟩ : ∃ c, IntKind.i64.wrap (a + b) = c := ⟨_, rfl⟩
  have hc' := hc
  rw [IntKind.wrap_i64] at hc'
  rcases h with h | h
  · have t1 : decide (a < c) = true := by simp; omega
    have t2 : decide (0 < b) = false := by simp; omega
    have t3 : (b != 0) = true := by rw [bne_iff_ne]; omega
    clear hc' h ha1 ha2 hb1 hb2
    go_enter Tryd.func42, Tryd.ntmps42
    go_wp2
    go_ret2
    exact ⟨rfl, rfl⟩
  · have t1 : decide (a < c) = false := by simp; omega
    have t2 : decide (0 < b) = true := by simp; omega
    have t3 : (b != 0) = true := by rw [bne_iff_ne]; omega
    clear hc' h ha1 ha2 hb1 hb2
    go_enter Tryd.func42, Tryd.ntmps42
    go_wp2
    go_ret2
    exact ⟨rfl, rfl⟩
theorem sub64_yes (a b : Int) (w : World) (h1 : -9223372036854775808 ≤ a - b) (h2 : a - b ≤ 9223372036854775807) : Calls Tryd.prog 44 #[.int .i64 a, .int .i64 b] w fun e w' => e = .returned (.tuple #[.int .i64 (a - b), .bool true]) ∧ w = w' := by
  go_enter Tryd.func44, Tryd.ntmps44
  go_wp2
  go_ret2
  exact ⟨rfl, rfl⟩
theorem sub64_no (a b : Int) (w : World) (ha1 : -9223372036854775808 ≤ a) (ha2 : a ≤ 9223372036854775807) (hb1 : -9223372036854775808 ≤ b) (hb2 : b ≤ 9223372036854775807) (h : a - b < -9223372036854775808 ∨ 9223372036854775807 < a - b) : Calls Tryd.prog 44 #[.int .i64 a, .int .i64 b] w fun e w' => e = .returned (.tuple #[.int .i64 0, .bool false]) ∧ w = w' := by
  obtain ⟨c, hc⟩ : ∃ c, IntKind.i64.wrap (a - b) = c := ⟨_, rfl⟩
  have hc' := hc
  rw [IntKind.wrap_i64] at hc'
  rcases h with h | h
  · have t1 : decide (c < a) = false := by simp; omega
    have t2 : decide (0 < b) = true := by simp; omega
    have t3 : (b != 0) = true := by rw [bne_iff_ne]; omega
    clear hc' h ha1 ha2 hb1 hb2
    go_enter Tryd.func44, Tryd.ntmps44
    go_wp2
    go_ret2
    exact ⟨rfl, rfl⟩
  · have t1 : decide (c < a) = true := by simp; omega
    have t2 : decide (0 < b) = false := by simp; omega
    have t3 : (b != 0) = true := by rw [bne_iff_ne]; omega
    clear hc' h ha1 ha2 hb1 hb2
    go_enter Tryd.func44, Tryd.ntmps44
    go_wp2
    go_ret2
    exact ⟨rfl, rfl⟩
theorem add32_yes (a b : Int) (w : World) (h1 : -2147483648 ≤ a + b) (h2 : a + b ≤ 2147483647) : Calls Tryd.prog 34 #[.int .i32 a, .int .i32 b] w fun e w' => e = .returned (.tuple #[.int .i32 (a + b), .bool true]) ∧ w = w' := by
  go_enter Tryd.func34, Tryd.ntmps34
  go_wp2
  go_ret2
  exact ⟨rfl, rfl⟩
theorem add32_no (a b : Int) (w : World) (ha1 : -2147483648 ≤ a) (ha2 : a ≤ 2147483647) (hb1 : -2147483648 ≤ b) (hb2 : b ≤ 2147483647) (h : a + b < -2147483648 ∨ 2147483647 < a + b) : Calls Tryd.prog 34 #[.int .i32 a, .int .i32 b] w fun e w' => e = .returned (.tuple #[.int .i32 0, .bool false]) ∧ w = w' := by
  obtain ⟨c, hc⟩ : ∃ c, IntKind.i32.wrap (a + b) = c := ⟨_, rfl⟩
  have hc' := hc
  rw [IntKind.wrap_i32] at hc'
  rcases h with h | h
  · have t1 : decide (a < c) = true := by simp; omega
    have t2 : decide (0 < b) = false := by simp; omega
    have t3 : (b != 0) = true := by rw [bne_iff_ne]; omega
    clear hc' h ha1 ha2 hb1 hb2
    go_enter Tryd.func34, Tryd.ntmps34
    go_wp2
    go_ret2
    exact ⟨rfl, rfl⟩
  · have t1 : decide (a < c) = false := by simp; omega
    have t2 : decide (0 < b) = true := by simp; omega
    have t3 : (b != 0) = true := by rw [bne_iff_ne]; omega
    clear hc' h ha1 ha2 hb1 hb2
    go_enter Tryd.func34, Tryd.ntmps34
    go_wp2
    go_ret2
    exact ⟨rfl, rfl⟩
theorem sub32_yes (a b : Int) (w : World) (h1 : -2147483648 ≤ a - b) (h2 : a - b ≤ 2147483647) : Calls Tryd.prog 35 #[.int .i32 a, .int .i32 b] w fun e w' => e = .returned (.tuple #[.int .i32 (a - b), .bool true]) ∧ w = w' := by
  go_enter Tryd.func35, Tryd.ntmps35
  go_wp2
  go_ret2
  exact ⟨rfl, rfl⟩
theorem sub32_no (a b : Int) (w : World) (ha1 : -2147483648 ≤ a) (ha2 : a ≤ 2147483647) (hb1 : -2147483648 ≤ b) (hb2 : b ≤ 2147483647) (h : a - b < -2147483648 ∨ 2147483647 < a - b) : Calls Tryd.prog 35 #[.int .i32 a, .int .i32 b] w fun e w' => e = .returned (.tuple #[.int .i32 0, .bool false]) ∧ w = w' := by
  obtain ⟨c, hc⟩ : ∃ c, IntKind.i32.wrap (a - b) = c := ⟨_, rfl⟩
  have hc' := hc
  rw [IntKind.wrap_i32] at hc'
  rcases h with h | h
  · have t1 : decide (c < a) = false := by simp; omega
    have t2 : decide (0 < b) = true := by simp; omega
    have t3 : (b != 0) = true := by rw [bne_iff_ne]; omega
    clear hc' h ha1 ha2 hb1 hb2
    go_enter Tryd.func35, Tryd.ntmps35
    go_wp2
    go_ret2
    exact ⟨rfl, rfl⟩
  · have t1 : decide (c < a) = true := by simp; omega
    have t2 : decide (0 < b) = false := by simp; omega
    have t3 : (b != 0) = true := by rw [bne_iff_ne]; omega
    clear hc' h ha1 ha2 hb1 hb2
    go_enter Tryd.func35, Tryd.ntmps35
    go_wp2
    go_ret2
    exact ⟨rfl, rfl⟩
theorem add32T_yes (a b : Int) (w : World) (h1 : -2147483648 ≤ a + b) (h2 : a + b ≤ 2147483647) : Calls Tryd.prog 38 #[.int .i32 a, .int .i32 b] w fun e w' => e = .returned (.tuple #[.int .i32 (a + b), .bool true]) ∧ w = w' := by
  go_enter Tryd.func38, Tryd.ntmps38
  go_wp2
  go_ret2
  exact ⟨rfl, rfl⟩
theorem add32T_no (a b : Int) (w : World) (ha1 : -2147483648 ≤ a) (ha2 : a ≤ 2147483647) (hb1 : -2147483648 ≤ b) (hb2 : b ≤ 2147483647) (h : a + b < -2147483648 ∨ 2147483647 < a + b) : Calls Tryd.prog 38 #[.int .i32 a, .int .i32 b] w fun e w' => e = .returned (.tuple #[.int .i32 0, .bool false]) ∧ w = w' := by
  obtain ⟨c, hc⟩ : ∃ c, IntKind.i32.wrap (a + b) = c := ⟨_, rfl⟩
  have hc' := hc
  rw [IntKind.wrap_i32] at hc'
  rcases h with h | h
  · have t1 : decide (a < c) = true := by simp; omega
    have t2 : decide (0 < b) = false := by simp; omega
    have t3 : (b != 0) = true := by rw [bne_iff_ne]; omega
    clear hc' h ha1 ha2 hb1 hb2
    go_enter Tryd.func38, Tryd.ntmps38
    go_wp2
    go_ret2
    exact ⟨rfl, rfl⟩
  · have t1 : decide (a < c) = false := by simp; omega
    have t2 : decide (0 < b) = true := by simp; omega
    have t3 : (b != 0) = true := by rw [bne_iff_ne]; omega
    clear hc' h ha1 ha2 hb1 hb2
    go_enter Tryd.func38, Tryd.ntmps38
    go_wp2
    go_ret2
    exact ⟨rfl, rfl⟩
theorem sub32T_yes (a b : Int) (w : World) (h1 : -2147483648 ≤ a - b) (h2 : a - b ≤ 2147483647) : Calls Tryd.prog 39 #[.int .i32 a, .int .i32 b] w fun e w' => e = .returned (.tuple #[.int .i32 (a - b), .bool true]) ∧ w = w' := by
  go_enter Tryd.func39, Tryd.ntmps39
  go_wp2
  go_ret2
  exact ⟨rfl, rfl⟩
theorem sub32T_no (a b : Int) (w : World) (ha1 : -2147483648 ≤ a) (ha2 : a ≤ 2147483647) (hb1 : -2147483648 ≤ b) (hb2 : b ≤ 2147483647) (h : a - b < -2147483648 ∨ 2147483647 < a - b) : Calls Tryd.prog 39 #[.int .i32 a, .int .i32 b] w fun e w' => e = .returned (.tuple #[.int .i32 0, .bool false]) ∧ w = w' := by
  obtain ⟨c, hc⟩ : ∃ c, IntKind.i32.wrap (a - b) = c := ⟨_, rfl⟩
  have hc' := hc
  rw [IntKind.wrap_i32] at hc'
  rcases h with h | h
  · have t1 : decide (c < a) = false := by simp; omega
    have t2 : decide (0 < b) = true := by simp; omega
    have t3 : (b != 0) = true := by rw [bne_iff_ne]; omega
    clear hc' h ha1 ha2 hb1 hb2
    go_enter Tryd.func39, Tryd.ntmps39
    go_wp2
    go_ret2
    exact ⟨rfl, rfl⟩
  · have t1 : decide (c < a) = true := by simp; omega
    have t2 : decide (0 < b) = false := by simp; omega
    have t3 : (b != 0) = true := by rw [bne_iff_ne]; omega
    clear hc' h ha1 ha2 hb1 hb2
    go_enter Tryd.func39, Tryd.ntmps39
    go_wp2
    go_ret2
    exact ⟨rfl, rfl⟩
theorem add64G_yes (a b : Int) (w : World) (h1 : -9223372036854775808 ≤ a + b) (h2 : a + b ≤ 9223372036854775807) : Calls Tryd.prog 41 #[.int .i64 a, .int .i64 b] w fun e w' => e = .returned (.tuple #[.int .i64 (a + b), .bool true]) ∧ w = w' := by
  go_enter Tryd.func41, Tryd.ntmps41
  go_wp2
  go_ret2
  exact ⟨rfl, rfl⟩
theorem add64G_no (a b : Int) (w : World) (ha1 : -9223372036854775808 ≤ a) (ha2 : a ≤ 9223372036854775807) (hb1 : -9223372036854775808 ≤ b) (hb2 : b ≤ 9223372036854775807) (h : a + b < -9223372036854775808 ∨ 9223372036854775807 < a + b) : Calls Tryd.prog 41 #[.int .i64 a, .int .i64 b] w fun e w' => e = .returned (.tuple #[.int .i64 0, .bool false]) ∧ w = w' := by
  obtain ⟨c, hc⟩ : ∃ c, IntKind.i64.wrap (a + b) = c := ⟨_, rfl⟩
  have hc' := hc
  rw [IntKind.wrap_i64] at hc'
  rcases h with h | h
  · have t1 : decide (a < c) = true := by simp; omega
    have t2 : decide (0 < b) = false := by simp; omega
    have t3 : (b != 0) = true := by rw [bne_iff_ne]; omega
    clear hc' h ha1 ha2 hb1 hb2
    go_enter Tryd.func41, Tryd.ntmps41
    go_wp2
    go_ret2
    exact ⟨rfl, rfl⟩
  · have t1 : decide (a < c) = false := by simp; omega
    have t2 : decide (0 < b) = true := by simp; omega
    have t3 : (b != 0) = true := by rw [bne_iff_ne]; omega
    clear hc' h ha1 ha2 hb1 hb2
    go_enter Tryd.func41, Tryd.ntmps41
    go_wp2
    go_ret2
    exact ⟨rfl, rfl⟩
theorem sub64G_yes (a b : Int) (w : World) (h1 : -9223372036854775808 ≤ a - b) (h2 : a - b ≤ 9223372036854775807) : Calls Tryd.prog 43 #[.int .i64 a, .int .i64 b] w fun e w' => e = .returned (.tuple #[.int .i64 (a - b), .bool true]) ∧ w = w' := by
  go_enter Tryd.func43, Tryd.ntmps43
  go_wp2
  go_ret2
  exact ⟨rfl, rfl⟩
theorem sub64G_no (a b : Int) (w : World) (ha1 : -9223372036854775808 ≤ a) (ha2 : a ≤ 9223372036854775807) (hb1 : -9223372036854775808 ≤ b) (hb2 : b ≤ 9223372036854775807) (h : a - b < -9223372036854775808 ∨ 9223372036854775807 < a - b) : Calls Tryd.prog 43 #[.int .i64 a, .int .i64 b] w fun e w' => e = .returned (.tuple #[.int .i64 0, .bool false]) ∧ w = w' := by
  obtain ⟨c, hc⟩ : ∃ c, IntKind.i64.wrap (a - b) = c := ⟨_, rfl⟩
  have hc' := hc
  rw [IntKind.wrap_i64] at hc'
  rcases h with h | h
  · have t1 : decide (c < a) = false := by simp; omega
    have t2 : decide (0 < b) = true := by simp; omega
    have t3 : (b != 0) = true := by rw [bne_iff_ne]; omega
    clear hc' h ha1 ha2 hb1 hb2
    go_enter Tryd.func43, Tryd.ntmps43
    go_wp2
    go_ret2
    exact ⟨rfl, rfl⟩
  · have t1 : decide (c < a) = true := by simp; omega
    have t2 : decide (0 < b) = false := by simp; omega
    have t3 : (b != 0) = true := by rw [bne_iff_ne]; omega
    clear hc' h ha1 ha2 hb1 hb2
    go_enter Tryd.func43, Tryd.ntmps43
    go_wp2
    go_ret2
    exact ⟨rfl, rfl⟩
end Go.Proofs.YtedcfddbfpgeaaaDoor
