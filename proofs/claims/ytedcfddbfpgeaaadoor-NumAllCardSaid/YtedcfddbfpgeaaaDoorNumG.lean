/- What every statement on numbers asks ahead (quadrillelaw1.begun): it answers true, whatever the world that holds the table and the error. -/
import Derived.Test.YtedcfddbfpgeaaaDoorNumA
import Derived.Test.YtedcfddbfpgeaaaDoorNumC
import Derived.Test.YtedcfddbfpgeaaaDoorNumF
namespace Go.Proofs.YtedcfddbfpgeaaaDoor
open Go.RowKit
set_option linter.unusedVariables false
theorem begun1 (w : World) (hN : NumW w) :
    Calls Tryd.prog 29 #[] w fun e w' => e = .returned (.bool true) ∧ Below w.heap.size w w' := by
  have H1 := Lib.hid (fun w => add32_no 2147483647 1 w (by omega) (by omega) (by omega) (by omega) (by omega))
  have H2 := Lib.hid (fun w => add64_yes 2147483647 1 w (by omega) (by omega))
  have H3 := Lib.hid (fun w => quo_ok (-7) 2 (-3) w (by omega) (by omega) (by omega) (by omega) (by decide))
  have H4 := Lib.hid (fun w => mod_ok (-7) 3 2 w (by omega) (by omega) (by omega) (by decide))
  go_enter Tryd.func29, Tryd.ntmps29
  go_wp2_with (fail)
  refine (H1.out _).mono ?_
  rintro e w' ⟨rfl, rfl⟩
  go_wp2_with (fail)
  refine (H2.out _).mono ?_
  rintro e w' ⟨rfl, rfl⟩
  go_wp2_with (fail)
  refine (H3.out _).mono ?_
  rintro e w' ⟨rfl, rfl⟩
  go_wp2_with (fail)
  refine (H4.out _).mono ?_
  rintro e w' ⟨rfl, rfl⟩
  go_wp2_with (fail)
  refine (read_any _ 0 12 _ (by decide) hN (by decide)).mono ?_
  rintro e w1 ⟨rfl, hb1⟩
  go_wp2_with (fail)
  have hN1 := hN.below hb1
  refine (read_any _ (-12) 0 _ (by decide) hN1 (by decide)).mono ?_
  rintro e w2 ⟨rfl, hb2⟩
  go_wp2_with (fail)
  have hN2 := hN1.below hb2
  have e5 : Lib.itoa (-5) = [45, 53] := by
    have e : Lib.decDigits 5 = [53] := by rw [Dec.dec_small (by omega)]; rfl
    unfold Lib.itoa
    rw [if_pos (by omega)]
    show 45 :: Lib.decDigits 5 = _
    rw [e]
  refine (text_any (-5) _ (by omega) (by omega) hN2).mono ?_
  rw [e5]
  rintro e w3 ⟨rfl, hb3⟩
  go_wp2
  go_ret
  exact ⟨rfl, (hb1.trans (hb2.mono hb1.size)).trans (hb3.mono (Nat.le_trans hb1.size hb2.size))⟩
end Go.Proofs.YtedcfddbfpgeaaaDoor
