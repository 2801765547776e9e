/- Contracts of quadrilleref1's Add, Sub, Mul, Quo, Mod, Gcd, Lcm, at whatever numbers of 64 bits. -/
import Derived.Test.YtdbjmjeiaajdiaaDoorRefB
namespace Go.Proofs.YtdbjmjeiaajdiaaDoor
open Go.RowKit
set_option linter.unusedVariables false
theorem abs_lt (a : Int) (h1 : -9223372036854775808 ≤ a) (h2 : a ≤ 9223372036854775807) : a.natAbs < 18446744073709551616 := by omega
theorem val_not (n : Bool) (m : Nat) : Ref.val (!n) m = -Ref.val n m := by unfold Ref.val; cases n <;> simp
theorem num_cells {w : World} {B T : Nat} {n o : Bool} {m : Nat} (h : w.heap[B]? = some (.cells #[.bool n, .bool o, .int .u64 (m : Int)] T (0, 0))) :
    w.cell? ⟨B, 0, none⟩ = some (.bool n) ∧ w.cell? ⟨B, 1, none⟩ = some (.bool o) ∧ w.cell? ⟨B, 2, none⟩ = some (.int .u64 (m : Int)) :=
  ⟨Lib.cell_of_heap h 0, Lib.cell_of_heap h 1, Lib.cell_of_heap h 2⟩
theorem fit_of {v : Int} (h : PowG.Fits v) : Ref.fitV v = v ∧ Ref.fitB v = true := by unfold Ref.fitV Ref.fitB; rw [if_pos h, decide_eq_true h]; exact ⟨rfl, rfl⟩
theorem fit_not {v : Int} (h : ¬ PowG.Fits v) : Ref.fitV v = 0 ∧ Ref.fitB v = false := by unfold Ref.fitV Ref.fitB; rw [if_neg h, decide_eq_false h]; exact ⟨rfl, rfl⟩
theorem field2 (n o : Bool) (m : Int) (w : World) : (Instr.field 99 (.agg #[.bool n, .bool o, .int .u64 m]) 2).run Tryd.prog w = .ok (.int .u64 m) w := by kernel_rfl
theorem rV_pos (m : Nat) : Ref.rV false false m = Ref.fitV (m : Int) := rfl
theorem rB_pos (m : Nat) : Ref.rB false false m = Ref.fitB (m : Int) := by unfold Ref.rB; rfl
end Go.Proofs.YtdbjmjeiaajdiaaDoor
