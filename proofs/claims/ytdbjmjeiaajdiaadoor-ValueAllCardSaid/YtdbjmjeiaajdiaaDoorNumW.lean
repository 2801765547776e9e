/- What the rows of the statements on numbers list of the library's variables gives the walks: the table of powers of ten, the error of the range (NumW); and a world that meets it. -/
import Derived.Test.YtdbjmjeiaajdiaaDoorFrame
import Derived.Test.YtdbjmjeiaajdiaaDoorNumE
import Derived.Lib.LaidTab
import Derived.Stop.LaidErr
namespace Go.Proofs.YtdbjmjeiaajdiaaDoor
open Go.ChangeShapes Go.WideShapes Go.ChangeAt Go.RowKit

theorem tenType : (Tryd.prog.globals[1]?).map (·.type) = some 147 := by kernel_rfl
theorem tenCells : Tryd.prog.cellsOf 147 = 20 := by kernel_rfl
theorem u64Cells : Tryd.prog.cellsOf 97 = 1 := by kernel_rfl
theorem gRange : Tryd.prog.globalNamed "strconv.ErrRange" = some 3 := by kernel_rfl
theorem rangeType : (Tryd.prog.globals[3]?).map (·.type) = some 81 := by kernel_rfl
theorem cellsErrS : Tryd.prog.cellsOf 170 = 1 := by kernel_rfl
theorem cellsStr : Tryd.prog.cellsOf 9 = 1 := by kernel_rfl
theorem star : "*" ++ "errors.errorString" = "*errors.errorString" := by decide
theorem rowErrS (u : TypeId) (h : Tryd.prog.typeName? 3 u = some "*errors.errorString") : u = 168 :=
  typeName_ptr_named (nm := "errors.errorString") (by rw [star]; kernel_rfl) (by kernel_rfl) (by decide) u (by rw [star]; exact h)
theorem tenData : (Rows.laid_internal_strconv_uint64pow10 : DataW Unit) = Lib.tabData .u64 Lib.pow10Tab := by kernel_rfl

/-- The list that these rows bear. -/
def numLaid : List (String × DataW Unit) := [("math/bits.deBruijn32tab", Rows.laid_math_bits_deBruijn32tab), ("math/bits.deBruijn64tab", Rows.laid_math_bits_deBruijn64tab), ("internal/strconv.uint64pow10", Rows.laid_internal_strconv_uint64pow10), ("strconv.ErrRange", Rows.laid_strconv_ErrRange), ("strconv.ErrSyntax", Rows.laid_strconv_ErrSyntax)]
theorem numW_of_laid {W : World} (h : laidMetH Tryd.prog numLaid W) : NumW W := by
  rw [MakeChecks.laidMetH_plain _ _ _ (by kernel_rfl)] at h
  have h2 := h.tail.tail
  rw [tenData] at h2
  have ht := Lib.tabIs_of_head gTen tenType Tryd.underlying147 Tryd.underlying97 u64Cells tenCells h2
  have h3 := h2.tail
  unfold Rows.laid_strconv_ErrRange at h3
  obtain ⟨a, s, hv, _, _, _⟩ := laid_sentinel h3 gRange rangeType Tryd.underlying81 rowErrS Tryd.underlying168 Tryd.underlying170 rfl rfl Tryd.underlying9 cellsErrS cellsStr
  have hc : W.cell? ⟨3, 0, none⟩ = some (.iface 168 (.pointer (some a))) := by simpa using World.var?_cell gRange hv 0
  refine ⟨ht, ⟨_, _, hc⟩, ?_⟩
  have := ht.cell gTen 0 (by rw [Lib.pow10Tab_length]; omega)
  exact World.block_lt_of_cell? W _ this
end Go.Proofs.YtdbjmjeiaajdiaaDoor
