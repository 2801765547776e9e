/- name, errors, Same, the reference's makers of values. -/
import Derived.Test.YtdbjmjeiaajdiaaDoorValB
import Derived.Test.YtdbjmjeiaajdiaaDoorShVal
import Derived.Deep.RegionHeld3
namespace Go.Proofs.YtdbjmjeiaajdiaaDoor
open Go.RowKit
set_option linter.unusedVariables false
def Val.same (v u : Val.V) : Bool := v.k == u.k && v.n == u.n && v.t.toList == u.t.toList
def Val.nameT (n : Int) : ByteArray := cond (n == 1) ⟨#[35, 78, 65, 77, 69, 63]⟩ <| cond (n == 2) ⟨#[35, 78, 85, 77, 33]⟩ <| cond (n == 3) ⟨#[35, 82, 69, 70, 33]⟩ <| cond (n == 4) ⟨#[35, 86, 65, 76, 85, 69, 33]⟩ <| cond (n == 5) ⟨#[35, 68, 73, 86, 47, 48, 33]⟩ <| cond (n == 6) ⟨#[35, 78, 47, 65]⟩ <| cond (n == 7) ⟨#[35, 67, 89, 67, 76, 69, 33]⟩ <| ⟨#[]⟩
theorem same_any (v u : Val.V) (w : World) : Calls Tryd.prog 17 #[vv v, vv u] w fun e w' => e = .returned (.bool (Val.same v u)) ∧ Below w.heap.size w w' := by
  obtain ⟨k, n, t⟩ := v
  obtain ⟨i, m, s⟩ := u
  unfold Val.same
  show Calls Tryd.prog 17 #[.agg #[.int .i64 k, .int .i64 n, .string t], .agg #[.int .i64 i, .int .i64 m, .string s]] w _
  go_enter Tryd.func17, Tryd.ntmps17
  go_wp2
  all_goals
    go_ret
    exact ⟨by simp [*], ((Below.refl _ _).alloc (Nat.le_refl _) _).alloc (by simp) _⟩

theorem rsame_any (v u : Val.V) (w : World) : Calls Tryd.prog 19 #[vv v, vv u] w fun e w' => e = .returned (.bool (Val.same v u)) ∧ Below w.heap.size w w' := by
  obtain ⟨k, n, t⟩ := v
  obtain ⟨i, m, s⟩ := u
  unfold Val.same
  show Calls Tryd.prog 19 #[.agg #[.int .i64 k, .int .i64 n, .string t], .agg #[.int .i64 i, .int .i64 m, .string s]] w _
  go_enter Tryd.func19, Tryd.ntmps19
  go_wp2
  all_goals
    go_ret
    exact ⟨by simp [*], ((Below.refl _ _).alloc (Nat.le_refl _) _).alloc (by simp) _⟩
set_option maxRecDepth 100000 in
theorem name_0 (w : World) : Calls Tryd.prog 27 #[.int .i64 0] w fun e w' => e = .returned (.string ⟨#[]⟩) ∧ w = w' := by
  have hix : (Instr.index 78 (.agg #[.string ⟨#[]⟩, .string ⟨#[35, 78, 65, 77, 69, 63]⟩, .string ⟨#[35, 78, 85, 77, 33]⟩, .string ⟨#[35, 82, 69, 70, 33]⟩, .string ⟨#[35, 86, 65, 76, 85, 69, 33]⟩, .string ⟨#[35, 68, 73, 86, 47, 48, 33]⟩, .string ⟨#[35, 78, 47, 65]⟩, .string ⟨#[35, 67, 89, 67, 76, 69, 33]⟩]) (.int .i64 0)).run Tryd.prog w = .ok (.string ⟨#[]⟩) w := by kernel_rfl
  go_enter Tryd.func27, Tryd.ntmps27
  go_wp2
  go_ret
  exact ⟨rfl, rfl⟩

set_option maxRecDepth 100000 in
theorem name_1 (w : World) : Calls Tryd.prog 27 #[.int .i64 1] w fun e w' => e = .returned (.string ⟨#[35, 78, 65, 77, 69, 63]⟩) ∧ w = w' := by
  have hix : (Instr.index 78 (.agg #[.string ⟨#[]⟩, .string ⟨#[35, 78, 65, 77, 69, 63]⟩, .string ⟨#[35, 78, 85, 77, 33]⟩, .string ⟨#[35, 82, 69, 70, 33]⟩, .string ⟨#[35, 86, 65, 76, 85, 69, 33]⟩, .string ⟨#[35, 68, 73, 86, 47, 48, 33]⟩, .string ⟨#[35, 78, 47, 65]⟩, .string ⟨#[35, 67, 89, 67, 76, 69, 33]⟩]) (.int .i64 1)).run Tryd.prog w = .ok (.string ⟨#[35, 78, 65, 77, 69, 63]⟩) w := by kernel_rfl
  go_enter Tryd.func27, Tryd.ntmps27
  go_wp2
  go_ret
  exact ⟨rfl, rfl⟩

set_option maxRecDepth 100000 in
theorem name_2 (w : World) : Calls Tryd.prog 27 #[.int .i64 2] w fun e w' => e = .returned (.string ⟨#[35, 78, 85, 77, 33]⟩) ∧ w = w' := by
  have hix : (Instr.index 78 (.agg #[.string ⟨#[]⟩, .string ⟨#[35, 78, 65, 77, 69, 63]⟩, .string ⟨#[35, 78, 85, 77, 33]⟩, .string ⟨#[35, 82, 69, 70, 33]⟩, .string ⟨#[35, 86, 65, 76, 85, 69, 33]⟩, .string ⟨#[35, 68, 73, 86, 47, 48, 33]⟩, .string ⟨#[35, 78, 47, 65]⟩, .string ⟨#[35, 67, 89, 67, 76, 69, 33]⟩]) (.int .i64 2)).run Tryd.prog w = .ok (.string ⟨#[35, 78, 85, 77, 33]⟩) w := by kernel_rfl
  go_enter Tryd.func27, Tryd.ntmps27
  go_wp2
  go_ret
  exact ⟨rfl, rfl⟩

set_option maxRecDepth 100000 in
theorem name_3 (w : World) : Calls Tryd.prog 27 #[.int .i64 3] w fun e w' => e = .returned (.string ⟨#[35, 82, 69, 70, 33]⟩) ∧ w = w' := by
  have hix : (Instr.index 78 (.agg #[.string ⟨#[]⟩, .string ⟨#[35, 78, 65, 77, 69, 63]⟩, .string ⟨#[35, 78, 85, 77, 33]⟩, .string ⟨#[35, 82, 69, 70, 33]⟩, .string ⟨#[35, 86, 65, 76, 85, 69, 33]⟩, .string ⟨#[35, 68, 73, 86, 47, 48, 33]⟩, .string ⟨#[35, 78, 47, 65]⟩, .string ⟨#[35, 67, 89, 67, 76, 69, 33]⟩]) (.int .i64 3)).run Tryd.prog w = .ok (.string ⟨#[35, 82, 69, 70, 33]⟩) w := by kernel_rfl
  go_enter Tryd.func27, Tryd.ntmps27
  go_wp2
  go_ret
  exact ⟨rfl, rfl⟩

set_option maxRecDepth 100000 in
theorem name_4 (w : World) : Calls Tryd.prog 27 #[.int .i64 4] w fun e w' => e = .returned (.string ⟨#[35, 86, 65, 76, 85, 69, 33]⟩) ∧ w = w' := by
  have hix : (Instr.index 78 (.agg #[.string ⟨#[]⟩, .string ⟨#[35, 78, 65, 77, 69, 63]⟩, .string ⟨#[35, 78, 85, 77, 33]⟩, .string ⟨#[35, 82, 69, 70, 33]⟩, .string ⟨#[35, 86, 65, 76, 85, 69, 33]⟩, .string ⟨#[35, 68, 73, 86, 47, 48, 33]⟩, .string ⟨#[35, 78, 47, 65]⟩, .string ⟨#[35, 67, 89, 67, 76, 69, 33]⟩]) (.int .i64 4)).run Tryd.prog w = .ok (.string ⟨#[35, 86, 65, 76, 85, 69, 33]⟩) w := by kernel_rfl
  go_enter Tryd.func27, Tryd.ntmps27
  go_wp2
  go_ret
  exact ⟨rfl, rfl⟩

set_option maxRecDepth 100000 in
theorem name_5 (w : World) : Calls Tryd.prog 27 #[.int .i64 5] w fun e w' => e = .returned (.string ⟨#[35, 68, 73, 86, 47, 48, 33]⟩) ∧ w = w' := by
  have hix : (Instr.index 78 (.agg #[.string ⟨#[]⟩, .string ⟨#[35, 78, 65, 77, 69, 63]⟩, .string ⟨#[35, 78, 85, 77, 33]⟩, .string ⟨#[35, 82, 69, 70, 33]⟩, .string ⟨#[35, 86, 65, 76, 85, 69, 33]⟩, .string ⟨#[35, 68, 73, 86, 47, 48, 33]⟩, .string ⟨#[35, 78, 47, 65]⟩, .string ⟨#[35, 67, 89, 67, 76, 69, 33]⟩]) (.int .i64 5)).run Tryd.prog w = .ok (.string ⟨#[35, 68, 73, 86, 47, 48, 33]⟩) w := by kernel_rfl
  go_enter Tryd.func27, Tryd.ntmps27
  go_wp2
  go_ret
  exact ⟨rfl, rfl⟩

set_option maxRecDepth 100000 in
theorem name_6 (w : World) : Calls Tryd.prog 27 #[.int .i64 6] w fun e w' => e = .returned (.string ⟨#[35, 78, 47, 65]⟩) ∧ w = w' := by
  have hix : (Instr.index 78 (.agg #[.string ⟨#[]⟩, .string ⟨#[35, 78, 65, 77, 69, 63]⟩, .string ⟨#[35, 78, 85, 77, 33]⟩, .string ⟨#[35, 82, 69, 70, 33]⟩, .string ⟨#[35, 86, 65, 76, 85, 69, 33]⟩, .string ⟨#[35, 68, 73, 86, 47, 48, 33]⟩, .string ⟨#[35, 78, 47, 65]⟩, .string ⟨#[35, 67, 89, 67, 76, 69, 33]⟩]) (.int .i64 6)).run Tryd.prog w = .ok (.string ⟨#[35, 78, 47, 65]⟩) w := by kernel_rfl
  go_enter Tryd.func27, Tryd.ntmps27
  go_wp2
  go_ret
  exact ⟨rfl, rfl⟩

set_option maxRecDepth 100000 in
theorem name_7 (w : World) : Calls Tryd.prog 27 #[.int .i64 7] w fun e w' => e = .returned (.string ⟨#[35, 67, 89, 67, 76, 69, 33]⟩) ∧ w = w' := by
  have hix : (Instr.index 78 (.agg #[.string ⟨#[]⟩, .string ⟨#[35, 78, 65, 77, 69, 63]⟩, .string ⟨#[35, 78, 85, 77, 33]⟩, .string ⟨#[35, 82, 69, 70, 33]⟩, .string ⟨#[35, 86, 65, 76, 85, 69, 33]⟩, .string ⟨#[35, 68, 73, 86, 47, 48, 33]⟩, .string ⟨#[35, 78, 47, 65]⟩, .string ⟨#[35, 67, 89, 67, 76, 69, 33]⟩]) (.int .i64 7)).run Tryd.prog w = .ok (.string ⟨#[35, 67, 89, 67, 76, 69, 33]⟩) w := by kernel_rfl
  go_enter Tryd.func27, Tryd.ntmps27
  go_wp2
  go_ret
  exact ⟨rfl, rfl⟩

theorem name_any (n : Int) (w : World) (h0 : 0 ≤ n) (h1 : n ≤ 7) : Calls Tryd.prog 27 #[.int .i64 n] w fun e w' => e = .returned (.string (Val.nameT n)) ∧ w = w' := by
  obtain rfl | rfl | rfl | rfl | rfl | rfl | rfl | rfl : n = 0 ∨ n = 1 ∨ n = 2 ∨ n = 3 ∨ n = 4 ∨ n = 5 ∨ n = 6 ∨ n = 7 := by omega
  · exact name_0 w
  · exact name_1 w
  · exact name_2 w
  · exact name_3 w
  · exact name_4 w
  · exact name_5 w
  · exact name_6 w
  · exact name_7 w
theorem errors_any (w : World) : Calls Tryd.prog 58 #[] w fun e w' => e = .returned (.slice (some ⟨w.heap.size, 0, none⟩) 8 8) ∧ Below w.heap.size w w' ∧ w'.heap[w.heap.size]? = some (.cells #[.string ⟨#[]⟩, .string ⟨#[35, 78, 65, 77, 69, 63]⟩, .string ⟨#[35, 78, 85, 77, 33]⟩, .string ⟨#[35, 82, 69, 70, 33]⟩, .string ⟨#[35, 86, 65, 76, 85, 69, 33]⟩, .string ⟨#[35, 68, 73, 86, 47, 48, 33]⟩, .string ⟨#[35, 78, 47, 65]⟩, .string ⟨#[35, 67, 89, 67, 76, 69, 33]⟩] 9 (0, 0)) := by
  go_enter Tryd.func58, Tryd.ntmps58
  go_wp2
  go_ret
  exact ⟨rfl, (Below.refl _ _).alloc (Nat.le_refl _) _, heap_alloc_new _ _⟩
theorem rint_any (n : Int) (w : World) : Calls Tryd.prog 60 #[.int .i64 n] w fun e w' => e = .returned (.agg #[.int .i64 1, .int .i64 n, .string ⟨#[]⟩]) ∧ Below w.heap.size w w' := by
  go_enter Tryd.func60, Tryd.ntmps60
  go_wp2
  exact bodyPost_ret (v := .agg #[.int .i64 1, .int .i64 n, .string ⟨#[]⟩]) (by simp [results, Tryd.results60, go_sem]) rfl ⟨rfl, (Below.refl _ _).alloc (Nat.le_refl _) _⟩

theorem rbool_true (w : World) : Calls Tryd.prog 61 #[.bool true] w fun e w' => e = .returned (.agg #[.int .i64 2, .int .i64 1, .string ⟨#[]⟩]) ∧ Below w.heap.size w w' := by
  go_enter Tryd.func61, Tryd.ntmps61
  go_wp2
  exact bodyPost_ret (v := .agg #[.int .i64 2, .int .i64 1, .string ⟨#[]⟩]) (by simp [results, Tryd.results61, go_sem]) rfl ⟨rfl, (Below.refl _ _).alloc (Nat.le_refl _) _⟩

theorem rbool_false (w : World) : Calls Tryd.prog 61 #[.bool false] w fun e w' => e = .returned (.agg #[.int .i64 2, .int .i64 0, .string ⟨#[]⟩]) ∧ Below w.heap.size w w' := by
  go_enter Tryd.func61, Tryd.ntmps61
  go_wp2
  exact bodyPost_ret (v := .agg #[.int .i64 2, .int .i64 0, .string ⟨#[]⟩]) (by simp [results, Tryd.results61, go_sem]) rfl ⟨rfl, (Below.refl _ _).alloc (Nat.le_refl _) _⟩

theorem rtextv_ok (t : ByteArray) (w : World) (h : decide ((32767 : Int) < (t.size : Int)) = false) : Calls Tryd.prog 59 #[.string t] w fun e w' => e = .returned (.agg #[.int .i64 3, .int .i64 0, .string t]) ∧ Below w.heap.size w w' := by
  go_enter Tryd.func59, Tryd.ntmps59
  go_wp2
  exact bodyPost_ret (v := .agg #[.int .i64 3, .int .i64 0, .string t]) (by simp [results, Tryd.results59, go_sem]) rfl ⟨rfl, (Below.refl _ _).alloc (Nat.le_refl _) _⟩
theorem rtextv_far (t : ByteArray) (w : World) (h : decide ((32767 : Int) < (t.size : Int)) = true) : Calls Tryd.prog 59 #[.string t] w fun e w' => e = .returned (.agg #[.int .i64 4, .int .i64 4, .string ⟨#[]⟩]) ∧ Below w.heap.size w w' := by
  have HE := Lib.hid (fun w => rerr_any 4 w)
  go_enter Tryd.func59, Tryd.ntmps59
  go_wp2_with (fail)
  refine (HE.out _).mono ?_
  rintro e w1 ⟨rfl, hb1⟩
  have hx := (hb1.block w.heap.size (by simp)).trans (heap_alloc_new _ _)
  have hs : Below w.heap.size w w1 := alloc_below hb1
  clear hb1
  obtain ⟨x0, x1, x2⟩ := val_cells hx
  obtain ⟨f0, f1, f2⟩ := val_frozen hx
  clear hx
  go_wp2
  exact bodyPost_ret (v := .agg #[.int .i64 4, .int .i64 4, .string ⟨#[]⟩]) (by simp [results, Tryd.results59, go_sem, x0, x1, x2]) rfl ⟨rfl, ((hs.setCell (p := ⟨w.heap.size, 0, none⟩) (by simp) _).setCell (p := ⟨w.heap.size, 1, none⟩) (by simp) _).setCell (p := ⟨w.heap.size, 2, none⟩) (by simp) _⟩
theorem rtextv_any (t : ByteArray) (w : World) : Calls Tryd.prog 59 #[.string t] w fun e w' => e = .returned (vv (Val.good ⟨3, 0, t⟩)) ∧ Below w.heap.size w w' := by
  have hm : Val.mayB ⟨3, 0, t⟩ = decide (t.size ≤ 32767) := by simp [Val.mayB]
  unfold Val.good
  rw [hm]
  by_cases h : t.size ≤ 32767
  · rw [decide_eq_true h]
    exact rtextv_ok t w (decide_eq_false (by omega))
  · rw [decide_eq_false h]
    exact rtextv_far t w (decide_eq_true (by omega))
end Go.Proofs.YtdbjmjeiaajdiaaDoor
