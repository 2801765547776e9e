/- The walks of quadrillelaw1.NumSmall, part 3: which of the three fit 32 bits is given. -/
import Derived.Test.YtedcfddbfpgeaaaDoorNumB
import Derived.Test.YtedcfddbfpgeaaaDoorNumG
import Derived.BigGuard
import Derived.BigCall
namespace Go.Proofs.YtedcfddbfpgeaaaDoor
open Go.RowKit
set_option linter.unusedVariables false

set_option maxRecDepth 100000 in
set_option maxHeartbeats 2000000 in
theorem small_6 (x y s d p : Int) (w : World) (hN : NumW w) (ex : IntKind.i64.wrap x = x) (ey : IntKind.i64.wrap y = y) (e1 : IntKind.i64.wrap (x + y) = s) (e2 : IntKind.i64.wrap (x - y) = d) (e3 : IntKind.i64.wrap (x * y) = p)
    (es : IntKind.i64.wrap s = s) (ed : IntKind.i64.wrap d = d) (ep : IntKind.i64.wrap p = p)
    (hA : ∀ w, Calls Tryd.prog 34 #[.int .i32 x, .int .i32 y] w fun e w' => e = .returned (.tuple #[.int .i32 0, .bool false]) ∧ w = w')
    (hS : ∀ w, Calls Tryd.prog 35 #[.int .i32 x, .int .i32 y] w fun e w' => e = .returned (.tuple #[.int .i32 d, .bool true]) ∧ w = w')
    (hM : ∀ w, Calls Tryd.prog 36 #[.int .i32 x, .int .i32 y] w fun e w' => e = .returned (.tuple #[.int .i32 p, .bool true]) ∧ w = w')
    (fA : ∀ w, Calls Tryd.prog 37 #[.int .i64 s] w fun e w' => e = .returned (.bool false) ∧ w = w')
    (fS : ∀ w, Calls Tryd.prog 37 #[.int .i64 d] w fun e w' => e = .returned (.bool true) ∧ w = w')
    (fM : ∀ w, Calls Tryd.prog 37 #[.int .i64 p] w fun e w' => e = .returned (.bool true) ∧ w = w') :
    Calls Tryd.prog 10 #[.int .i32 x, .int .i32 y] w fun e w' => e = .returned (.bool true) ∧ Below w.heap.size w w' := by
  have HA := Lib.hid hA
  have HS := Lib.hid hS
  have HM := Lib.hid hM
  have FA := Lib.hid fA
  have FS := Lib.hid fS
  have FM := Lib.hid fM
  clear hA hS hM fA fS fM
  go_enter Tryd.func10, Tryd.ntmps10
  go_wp2_with (fail)
  refine (begun1 w hN).mono ?_
  rintro e w1 ⟨rfl, hb1⟩
  have HB := Lib.hid hb1
  clear hb1 hN
  go_wp2_with (fail)
  refine (HA.out _).mono ?_
  rintro e w' ⟨rfl, rfl⟩
  go_wp2_with (fail)
  refine (HS.out _).mono ?_
  rintro e w' ⟨rfl, rfl⟩
  go_wp2_with (fail)
  refine (HM.out _).mono ?_
  rintro e w' ⟨rfl, rfl⟩
  go_wp2_with (fail)
  simp only [List.append_eq, List.cons_append, List.nil_append] at *
  refine (FA.out _).mono ?_
  rintro e w' ⟨rfl, rfl⟩
  go_wp2_with (fail)
  refine (FS.out _).mono ?_
  rintro e w' ⟨rfl, rfl⟩
  go_wp2_with (fail)
  refine (FM.out _).mono ?_
  rintro e w' ⟨rfl, rfl⟩
  go_wp2
  go_ret
  exact ⟨by simp, HB.out⟩
set_option maxRecDepth 100000 in
set_option maxHeartbeats 2000000 in
theorem small_7 (x y s d p : Int) (w : World) (hN : NumW w) (ex : IntKind.i64.wrap x = x) (ey : IntKind.i64.wrap y = y) (e1 : IntKind.i64.wrap (x + y) = s) (e2 : IntKind.i64.wrap (x - y) = d) (e3 : IntKind.i64.wrap (x * y) = p)
    (es : IntKind.i64.wrap s = s) (ed : IntKind.i64.wrap d = d) (ep : IntKind.i64.wrap p = p)
    (hA : ∀ w, Calls Tryd.prog 34 #[.int .i32 x, .int .i32 y] w fun e w' => e = .returned (.tuple #[.int .i32 s, .bool true]) ∧ w = w')
    (hS : ∀ w, Calls Tryd.prog 35 #[.int .i32 x, .int .i32 y] w fun e w' => e = .returned (.tuple #[.int .i32 d, .bool true]) ∧ w = w')
    (hM : ∀ w, Calls Tryd.prog 36 #[.int .i32 x, .int .i32 y] w fun e w' => e = .returned (.tuple #[.int .i32 p, .bool true]) ∧ w = w')
    (fA : ∀ w, Calls Tryd.prog 37 #[.int .i64 s] w fun e w' => e = .returned (.bool true) ∧ w = w')
    (fS : ∀ w, Calls Tryd.prog 37 #[.int .i64 d] w fun e w' => e = .returned (.bool true) ∧ w = w')
    (fM : ∀ w, Calls Tryd.prog 37 #[.int .i64 p] w fun e w' => e = .returned (.bool true) ∧ w = w') :
    Calls Tryd.prog 10 #[.int .i32 x, .int .i32 y] w fun e w' => e = .returned (.bool true) ∧ Below w.heap.size w w' := by
  have HA := Lib.hid hA
  have HS := Lib.hid hS
  have HM := Lib.hid hM
  have FA := Lib.hid fA
  have FS := Lib.hid fS
  have FM := Lib.hid fM
  clear hA hS hM fA fS fM
  go_enter Tryd.func10, Tryd.ntmps10
  go_wp2_with (fail)
  refine (begun1 w hN).mono ?_
  rintro e w1 ⟨rfl, hb1⟩
  have HB := Lib.hid hb1
  clear hb1 hN
  go_wp2_with (fail)
  refine (HA.out _).mono ?_
  rintro e w' ⟨rfl, rfl⟩
  go_wp2_with (fail)
  refine (HS.out _).mono ?_
  rintro e w' ⟨rfl, rfl⟩
  go_wp2_with (fail)
  refine (HM.out _).mono ?_
  rintro e w' ⟨rfl, rfl⟩
  go_wp2_with (fail)
  simp only [List.append_eq, List.cons_append, List.nil_append] at *
  refine (FA.out _).mono ?_
  rintro e w' ⟨rfl, rfl⟩
  go_wp2_with (fail)
  refine (FS.out _).mono ?_
  rintro e w' ⟨rfl, rfl⟩
  go_wp2_with (fail)
  refine (FM.out _).mono ?_
  rintro e w' ⟨rfl, rfl⟩
  go_wp2
  go_ret
  exact ⟨by simp, HB.out⟩
end Go.Proofs.YtedcfddbfpgeaaaDoor
