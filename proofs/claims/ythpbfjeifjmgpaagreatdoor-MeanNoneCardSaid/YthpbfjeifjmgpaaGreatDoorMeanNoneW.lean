/- The walk of quadrillelaw20.MeanNone: without a sheet. -/
import Derived.Test.YthpbfjeifjmgpaaGreatDoorProg
import Derived.WalkKit
import Derived.WalkSpells
import Derived.WalkLawsBesides
namespace Go.Proofs.YthpbfjeifjmgpaaGreatDoor
open Go.RowKit
set_option linter.unusedVariables false
theorem v_nil (r c : Int) (w : World) : Calls Tryz.prog 4 #[.pointer none, .agg #[.int .i64 r, .int .i64 c]] w fun e w' => e = .returned (.tuple #[.agg #[.int .i64 0, .int .i64 0, .string ⟨#[]⟩], .int .i64 1]) ∧ Below w.heap.size w w' := by
  go_enter Tryz.func4, Tryz.ntmps4
  go_wp2
  exact bodyPost_ret (v := .tuple #[.agg #[.int .i64 0, .int .i64 0, .string ⟨#[]⟩], .int .i64 1]) (by simp [results, Tryz.results4, go_sem]) rfl ⟨rfl, ((Below.refl _ _).alloc (Nat.le_refl _) _).alloc (by simp) _⟩
theorem d_nil (r c : Int) (w : World) : Calls Tryz.prog 5 #[.pointer none, .agg #[.int .i64 r, .int .i64 c]] w fun e w' => e = .returned (.tuple #[.slice none 0 0, .bool false, .int .i64 1]) ∧ Below w.heap.size w w' := by
  go_enter Tryz.func5, Tryz.ntmps5
  go_wp2
  go_ret3
  exact ⟨rfl, (Below.refl _ _).alloc (Nat.le_refl _) _⟩
theorem all_nil (w : World) : Calls Tryz.prog 6 #[.pointer none] w fun e w' => e = .returned (.slice none 0 0) ∧ Below w.heap.size w w' := by
  go_enter Tryz.func6, Tryz.ntmps6
  go_wp2
  go_ret
  exact ⟨rfl, (Below.refl _ _).alloc (Nat.le_refl _) _⟩
theorem meanNone_any (w : World) : Calls Tryz.prog 3 #[] w fun e w' => e = .returned (.bool true) ∧ Below w.heap.size w w' := by
  go_enter Tryz.func3, Tryz.ntmps3
  go_wp2_with (fail)
  refine (v_nil _ _ _).mono ?_
  rintro e w1 ⟨rfl, hb1⟩
  go_wp2_with (fail)
  refine (d_nil _ _ _).mono ?_
  rintro e w2 ⟨rfl, hb2⟩
  have hc : w2.cell? ⟨w1.heap.size, 0, none⟩ = some (.int .i64 0) ∧ w2.cell? ⟨w1.heap.size, 1, none⟩ = some (.int .i64 0) ∧ w2.cell? ⟨w1.heap.size, 2, none⟩ = some (.string ⟨#[]⟩) := by
    refine ⟨(hb2.cell (p := ⟨w1.heap.size, 0, none⟩) (by simp)).trans ?_, (hb2.cell (p := ⟨w1.heap.size, 1, none⟩) (by simp)).trans ?_, (hb2.cell (p := ⟨w1.heap.size, 2, none⟩) (by simp)).trans ?_⟩ <;> go_simp
  obtain ⟨c0, c1, c2⟩ := hc
  have hz : w1.heap.size + 1 ≤ w2.heap.size := by have := hb2.size; simpa using this
  have hb3 : Below w.heap.size w w2 := (hb1.alloc hb1.size _).trans (hb2.mono (by have := hb1.size; simp; omega))
  clear hb2
  go_wp2_with (fail)
  refine (all_nil _).mono ?_
  rintro e w3 ⟨rfl, hb4⟩
  have d0 := (hb4.cell (p := ⟨w1.heap.size, 0, none⟩) (by simp; omega)).trans c0
  have d1 := (hb4.cell (p := ⟨w1.heap.size, 1, none⟩) (by simp; omega)).trans c1
  have d2 := (hb4.cell (p := ⟨w1.heap.size, 2, none⟩) (by simp; omega)).trans c2
  have hb5 := hb3.trans (hb4.mono (by have := hb1.size; omega))
  clear hb4 hb3 c0 c1 c2
  go_wp2
  go_ret
  exact ⟨rfl, hb5⟩
end Go.Proofs.YthpbfjeifjmgpaaGreatDoor
