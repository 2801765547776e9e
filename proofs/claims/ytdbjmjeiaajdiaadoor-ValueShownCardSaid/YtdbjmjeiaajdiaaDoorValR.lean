/- Of values that may be and may not. -/
import Derived.Test.YtdbjmjeiaajdiaaDoorValD
namespace Go.Proofs.YtdbjmjeiaajdiaaDoor
open Go.RowKit
set_option linter.unusedVariables false
theorem Val.good_of {v : Val.V} (h : Val.mayB v = true) : Val.good v = v := by
  unfold Val.good
  rw [h]
  rfl
theorem Val.good_not {v : Val.V} (h : Val.mayB v = false) : Val.good v = Val.err 4 := by
  unfold Val.good
  rw [h]
  rfl
end Go.Proofs.YtdbjmjeiaajdiaaDoor
