/- quadrillelaw1.NumNamed is true at every numbers of 32 and of 64 bits: of types of one's own what is told is what is told of the types beneath them. -/
import Derived.Test.YtedcfddbfpgeaaaDoorNumA
import Derived.Test.YtedcfddbfpgeaaaDoorNumB
import Derived.Test.YtedcfddbfpgeaaaDoorNumG
namespace Go.Proofs.YtedcfddbfpgeaaaDoor
open Go.RowKit
set_option linter.unusedVariables false
/-- Two calls answer the same, whatever the world. -/
def Twins (k : IntKind) (f g : FuncId) (x y v : Int) (b : Bool) : Prop :=
  (∀ w, Calls Tryd.prog f #[.int k x, .int k y] w fun e w' => e = .returned (.tuple #[.int k v, .bool b]) ∧ w = w') ∧
  (∀ w, Calls Tryd.prog g #[.int k x, .int k y] w fun e w' => e = .returned (.tuple #[.int k v, .bool b]) ∧ w = w')
theorem twin_add32 (a b : Int) (ha1 : -2147483648 ≤ a) (ha2 : a ≤ 2147483647) (hb1 : -2147483648 ≤ b) (hb2 : b ≤ 2147483647) : ∃ v u, Twins .i32 38 34 a b v u ∧ -2147483648 ≤ v ∧ v ≤ 2147483647 := by
  by_cases h : -2147483648 ≤ a + b ∧ a + b ≤ 2147483647
  · exact ⟨_, true, ⟨fun w => add32T_yes a b w h.1 h.2, fun w => add32_yes a b w h.1 h.2⟩, h.1, h.2⟩
  · exact ⟨0, false, ⟨fun w => add32T_no a b w ha1 ha2 hb1 hb2 (by omega), fun w => add32_no a b w ha1 ha2 hb1 hb2 (by omega)⟩, by omega, by omega⟩
theorem twin_sub32 (a b : Int) (ha1 : -2147483648 ≤ a) (ha2 : a ≤ 2147483647) (hb1 : -2147483648 ≤ b) (hb2 : b ≤ 2147483647) : ∃ v u, Twins .i32 39 35 a b v u ∧ -2147483648 ≤ v ∧ v ≤ 2147483647 := by
  by_cases h : -2147483648 ≤ a - b ∧ a - b ≤ 2147483647
  · exact ⟨_, true, ⟨fun w => sub32T_yes a b w h.1 h.2, fun w => sub32_yes a b w h.1 h.2⟩, h.1, h.2⟩
  · exact ⟨0, false, ⟨fun w => sub32T_no a b w ha1 ha2 hb1 hb2 (by omega), fun w => sub32_no a b w ha1 ha2 hb1 hb2 (by omega)⟩, by omega, by omega⟩
theorem twin_mul32 (a b : Int) (ha1 : -2147483648 ≤ a) (ha2 : a ≤ 2147483647) (hb1 : -2147483648 ≤ b) (hb2 : b ≤ 2147483647) : ∃ v u, Twins .i32 40 36 a b v u ∧ -2147483648 ≤ v ∧ v ≤ 2147483647 := by
  obtain ⟨p, hp⟩ : ∃ p, a * b = p := ⟨_, rfl⟩
  by_cases h : -2147483648 ≤ p ∧ p ≤ 2147483647
  · exact ⟨p, true, ⟨fun w => mul32T_yes a b p w hb1 hb2 hp h.1 h.2, fun w => mul32_yes a b p w hb1 hb2 hp h.1 h.2⟩, h.1, h.2⟩
  · exact ⟨0, false, ⟨fun w => mul32T_no a b w ha1 ha2 hb1 hb2 (by rw [hp]; omega), fun w => mul32_no a b w ha1 ha2 hb1 hb2 (by rw [hp]; omega)⟩, by omega, by omega⟩
theorem twin_add64 (a b : Int) (ha1 : -9223372036854775808 ≤ a) (ha2 : a ≤ 9223372036854775807) (hb1 : -9223372036854775808 ≤ b) (hb2 : b ≤ 9223372036854775807) : ∃ v u, Twins .i64 41 42 a b v u ∧ -9223372036854775808 ≤ v ∧ v ≤ 9223372036854775807 := by
  by_cases h : -9223372036854775808 ≤ a + b ∧ a + b ≤ 9223372036854775807
  · exact ⟨_, true, ⟨fun w => add64G_yes a b w h.1 h.2, fun w => add64_yes a b w h.1 h.2⟩, h.1, h.2⟩
  · exact ⟨0, false, ⟨fun w => add64G_no a b w ha1 ha2 hb1 hb2 (by omega), fun w => add64_no a b w ha1 ha2 hb1 hb2 (by omega)⟩, by omega, by omega⟩
theorem twin_sub64 (a b : Int) (ha1 : -9223372036854775808 ≤ a) (ha2 : a ≤ 9223372036854775807) (hb1 : -9223372036854775808 ≤ b) (hb2 : b ≤ 9223372036854775807) : ∃ v u, Twins .i64 43 44 a b v u ∧ -9223372036854775808 ≤ v ∧ v ≤ 9223372036854775807 := by
  by_cases h : -9223372036854775808 ≤ a - b ∧ a - b ≤ 9223372036854775807
  · exact ⟨_, true, ⟨fun w => sub64G_yes a b w h.1 h.2, fun w => sub64_yes a b w h.1 h.2⟩, h.1, h.2⟩
  · exact ⟨0, false, ⟨fun w => sub64G_no a b w ha1 ha2 hb1 hb2 (by omega), fun w => sub64_no a b w ha1 ha2 hb1 hb2 (by omega)⟩, by omega, by omega⟩
theorem twin_mul64 (a b : Int) (ha1 : -9223372036854775808 ≤ a) (ha2 : a ≤ 9223372036854775807) (hb1 : -9223372036854775808 ≤ b) (hb2 : b ≤ 9223372036854775807) : ∃ v u, Twins .i64 45 46 a b v u ∧ -9223372036854775808 ≤ v ∧ v ≤ 9223372036854775807 := by
  obtain ⟨p, hp⟩ : ∃ p, a * b = p := ⟨_, rfl⟩
  by_cases h : -9223372036854775808 ≤ p ∧ p ≤ 9223372036854775807
  · exact ⟨p, true, ⟨fun w => mul64G_yes a b p w hb1 hb2 hp h.1 h.2, fun w => mul64_yes a b p w hb1 hb2 hp h.1 h.2⟩, h.1, h.2⟩
  · exact ⟨0, false, ⟨fun w => mul64G_no a b w ha1 ha2 hb1 hb2 (by rw [hp]; omega), fun w => mul64_no a b w ha1 ha2 hb1 hb2 (by rw [hp]; omega)⟩, by omega, by omega⟩
set_option maxRecDepth 100000 in
set_option maxHeartbeats 4000000 in
theorem named_walk (x y a b : Int) (w : World) (hN : NumW w) (x1 : -2147483648 ≤ x) (x2 : x ≤ 2147483647) (y1 : -2147483648 ≤ y) (y2 : y ≤ 2147483647)
    (vAdd32 : Int) (uAdd32 : Bool) (hAdd32 : Twins .i32 38 34 x y vAdd32 uAdd32) (lAdd32 : -2147483648 ≤ vAdd32) (mAdd32 : vAdd32 ≤ 2147483647)
    (vSub32 : Int) (uSub32 : Bool) (hSub32 : Twins .i32 39 35 x y vSub32 uSub32) (lSub32 : -2147483648 ≤ vSub32) (mSub32 : vSub32 ≤ 2147483647)
    (vMul32 : Int) (uMul32 : Bool) (hMul32 : Twins .i32 40 36 x y vMul32 uMul32) (lMul32 : -2147483648 ≤ vMul32) (mMul32 : vMul32 ≤ 2147483647)
    (vAdd64 : Int) (uAdd64 : Bool) (hAdd64 : Twins .i64 41 42 a b vAdd64 uAdd64) (lAdd64 : -9223372036854775808 ≤ vAdd64) (mAdd64 : vAdd64 ≤ 9223372036854775807)
    (vSub64 : Int) (uSub64 : Bool) (hSub64 : Twins .i64 43 44 a b vSub64 uSub64) (lSub64 : -9223372036854775808 ≤ vSub64) (mSub64 : vSub64 ≤ 9223372036854775807)
    (vMul64 : Int) (uMul64 : Bool) (hMul64 : Twins .i64 45 46 a b vMul64 uMul64) (lMul64 : -9223372036854775808 ≤ vMul64) (mMul64 : vMul64 ≤ 9223372036854775807) :
    Calls Tryd.prog 11 #[.int .i32 x, .int .i32 y, .int .i64 a, .int .i64 b] w fun e w' => e = .returned (.bool true) ∧ Below w.heap.size w w' := by
  have HAdd32 := Lib.hid hAdd32
  have HSub32 := Lib.hid hSub32
  have HMul32 := Lib.hid hMul32
  have HAdd64 := Lib.hid hAdd64
  have HSub64 := Lib.hid hSub64
  have HMul64 := Lib.hid hMul64
  clear hAdd32 hSub32 hMul32 hAdd64 hSub64 hMul64
  go_enter Tryd.func11, Tryd.ntmps11
  go_wp2_with (fail)
  refine (begun1 w hN).mono ?_
  rintro e w1 ⟨rfl, hb1⟩
  go_wp2_with (fail)
  refine (HAdd32.out.1 _).mono ?_
  rintro e w' ⟨rfl, rfl⟩
  go_wp2_with (fail)
  refine (HAdd32.out.2 _).mono ?_
  rintro e w' ⟨rfl, rfl⟩
  go_wp2_with (fail)
  refine (HSub32.out.1 _).mono ?_
  rintro e w' ⟨rfl, rfl⟩
  go_wp2_with (fail)
  refine (HSub32.out.2 _).mono ?_
  rintro e w' ⟨rfl, rfl⟩
  go_wp2_with (fail)
  refine (HMul32.out.1 _).mono ?_
  rintro e w' ⟨rfl, rfl⟩
  go_wp2_with (fail)
  refine (HMul32.out.2 _).mono ?_
  rintro e w' ⟨rfl, rfl⟩
  go_wp2_with (fail)
  refine (HAdd64.out.1 _).mono ?_
  rintro e w' ⟨rfl, rfl⟩
  go_wp2_with (fail)
  refine (HAdd64.out.2 _).mono ?_
  rintro e w' ⟨rfl, rfl⟩
  go_wp2_with (fail)
  refine (HSub64.out.1 _).mono ?_
  rintro e w' ⟨rfl, rfl⟩
  go_wp2_with (fail)
  refine (HSub64.out.2 _).mono ?_
  rintro e w' ⟨rfl, rfl⟩
  go_wp2_with (fail)
  refine (HMul64.out.1 _).mono ?_
  rintro e w' ⟨rfl, rfl⟩
  go_wp2_with (fail)
  refine (HMul64.out.2 _).mono ?_
  rintro e w' ⟨rfl, rfl⟩
  go_wp2
  go_ret
  exact ⟨by simp, hb1⟩
theorem named_any (x y a b : Int) (w : World) (hN : NumW w) (x1 : -2147483648 ≤ x) (x2 : x ≤ 2147483647) (y1 : -2147483648 ≤ y) (y2 : y ≤ 2147483647)
    (a1 : -9223372036854775808 ≤ a) (a2 : a ≤ 9223372036854775807) (b1 : -9223372036854775808 ≤ b) (b2 : b ≤ 9223372036854775807) :
    Calls Tryd.prog 11 #[.int .i32 x, .int .i32 y, .int .i64 a, .int .i64 b] w fun e w' => e = .returned (.bool true) ∧ Below w.heap.size w w' := by
  obtain ⟨vAdd32, uAdd32, hAdd32, lAdd32, mAdd32⟩ := twin_add32 x y x1 x2 y1 y2
  obtain ⟨vSub32, uSub32, hSub32, lSub32, mSub32⟩ := twin_sub32 x y x1 x2 y1 y2
  obtain ⟨vMul32, uMul32, hMul32, lMul32, mMul32⟩ := twin_mul32 x y x1 x2 y1 y2
  obtain ⟨vAdd64, uAdd64, hAdd64, lAdd64, mAdd64⟩ := twin_add64 a b a1 a2 b1 b2
  obtain ⟨vSub64, uSub64, hSub64, lSub64, mSub64⟩ := twin_sub64 a b a1 a2 b1 b2
  obtain ⟨vMul64, uMul64, hMul64, lMul64, mMul64⟩ := twin_mul64 a b a1 a2 b1 b2
  exact named_walk x y a b w hN x1 x2 y1 y2 _ _ hAdd32 lAdd32 mAdd32 _ _ hSub32 lSub32 mSub32 _ _ hMul32 lMul32 mMul32 _ _ hAdd64 lAdd64 mAdd64 _ _ hSub64 lSub64 mSub64 _ _ hMul64 lMul64 mMul64
end Go.Proofs.YtedcfddbfpgeaaaDoor
