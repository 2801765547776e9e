/- Contracts of quadrilleref1's sum, product, gcd. -/
import Derived.Test.YtdbjmjeiaajdiaaDoorRefA
import Derived.StillTailTactics
import Derived.Deep.RegionHeld3
namespace Go.Proofs.YtdbjmjeiaajdiaaDoor
open Go.RowKit
set_option linter.unusedVariables false
theorem sum_tt0 (o1 o2 : Bool) (m1 m2 m : Nat) (w : World) (t1 : decide (m < m1) = false) (e1 : IntKind.u64.wrap ((m1 : Int) + (m2 : Int)) = (m : Int)) : Calls Tryd.prog 93 #[.agg #[.bool true, .bool o1, .int .u64 (m1 : Int)], .agg #[.bool true, .bool o2, .int .u64 (m2 : Int)]] w fun e w' => e = .returned (.agg #[.bool true, .bool false, .int .u64 (m : Int)]) ∧ Below w.heap.size w w' := by
  go_enter Tryd.func93, Tryd.ntmps93
  go_wp2
  exact bodyPost_ret (v := .agg #[.bool true, .bool false, .int .u64 (m : Int)]) (by simp [results, Tryd.results93, go_sem]) rfl ⟨rfl, ((((Below.refl _ _).alloc (Nat.le_refl _) _).alloc (by simp) _).alloc (by simp; omega) _)⟩

theorem sum_tt1 (o1 o2 : Bool) (m1 m2 m : Nat) (w : World) (t1 : decide (m < m1) = true) (e1 : IntKind.u64.wrap ((m1 : Int) + (m2 : Int)) = (m : Int)) : Calls Tryd.prog 93 #[.agg #[.bool true, .bool o1, .int .u64 (m1 : Int)], .agg #[.bool true, .bool o2, .int .u64 (m2 : Int)]] w fun e w' => e = .returned (.agg #[.bool true, .bool true, .int .u64 (m : Int)]) ∧ Below w.heap.size w w' := by
  go_enter Tryd.func93, Tryd.ntmps93
  go_wp2
  exact bodyPost_ret (v := .agg #[.bool true, .bool true, .int .u64 (m : Int)]) (by simp [results, Tryd.results93, go_sem]) rfl ⟨rfl, ((((Below.refl _ _).alloc (Nat.le_refl _) _).alloc (by simp) _).alloc (by simp; omega) _)⟩

theorem sum_tf0 (o1 o2 : Bool) (m1 m2 m : Nat) (w : World) (t1 : decide (m2 ≤ m1) = true) (e1 : IntKind.u64.wrap ((m1 : Int) - (m2 : Int)) = (m : Int)) : Calls Tryd.prog 93 #[.agg #[.bool true, .bool o1, .int .u64 (m1 : Int)], .agg #[.bool false, .bool o2, .int .u64 (m2 : Int)]] w fun e w' => e = .returned (.agg #[.bool true, .bool false, .int .u64 (m : Int)]) ∧ Below w.heap.size w w' := by
  go_enter Tryd.func93, Tryd.ntmps93
  go_wp2
  exact bodyPost_ret (v := .agg #[.bool true, .bool false, .int .u64 (m : Int)]) (by simp [results, Tryd.results93, go_sem]) rfl ⟨rfl, ((((Below.refl _ _).alloc (Nat.le_refl _) _).alloc (by simp) _).alloc (by simp; omega) _)⟩

theorem sum_tf1 (o1 o2 : Bool) (m1 m2 m : Nat) (w : World) (t1 : decide (m2 ≤ m1) = false) (e1 : IntKind.u64.wrap ((m2 : Int) - (m1 : Int)) = (m : Int)) : Calls Tryd.prog 93 #[.agg #[.bool true, .bool o1, .int .u64 (m1 : Int)], .agg #[.bool false, .bool o2, .int .u64 (m2 : Int)]] w fun e w' => e = .returned (.agg #[.bool false, .bool false, .int .u64 (m : Int)]) ∧ Below w.heap.size w w' := by
  go_enter Tryd.func93, Tryd.ntmps93
  go_wp2
  exact bodyPost_ret (v := .agg #[.bool false, .bool false, .int .u64 (m : Int)]) (by simp [results, Tryd.results93, go_sem]) rfl ⟨rfl, ((((Below.refl _ _).alloc (Nat.le_refl _) _).alloc (by simp) _).alloc (by simp; omega) _)⟩

theorem sum_ft0 (o1 o2 : Bool) (m1 m2 m : Nat) (w : World) (t1 : decide (m2 ≤ m1) = true) (e1 : IntKind.u64.wrap ((m1 : Int) - (m2 : Int)) = (m : Int)) : Calls Tryd.prog 93 #[.agg #[.bool false, .bool o1, .int .u64 (m1 : Int)], .agg #[.bool true, .bool o2, .int .u64 (m2 : Int)]] w fun e w' => e = .returned (.agg #[.bool false, .bool false, .int .u64 (m : Int)]) ∧ Below w.heap.size w w' := by
  go_enter Tryd.func93, Tryd.ntmps93
  go_wp2
  exact bodyPost_ret (v := .agg #[.bool false, .bool false, .int .u64 (m : Int)]) (by simp [results, Tryd.results93, go_sem]) rfl ⟨rfl, ((((Below.refl _ _).alloc (Nat.le_refl _) _).alloc (by simp) _).alloc (by simp; omega) _)⟩

theorem sum_ft1 (o1 o2 : Bool) (m1 m2 m : Nat) (w : World) (t1 : decide (m2 ≤ m1) = false) (e1 : IntKind.u64.wrap ((m2 : Int) - (m1 : Int)) = (m : Int)) : Calls Tryd.prog 93 #[.agg #[.bool false, .bool o1, .int .u64 (m1 : Int)], .agg #[.bool true, .bool o2, .int .u64 (m2 : Int)]] w fun e w' => e = .returned (.agg #[.bool true, .bool false, .int .u64 (m : Int)]) ∧ Below w.heap.size w w' := by
  go_enter Tryd.func93, Tryd.ntmps93
  go_wp2
  exact bodyPost_ret (v := .agg #[.bool true, .bool false, .int .u64 (m : Int)]) (by simp [results, Tryd.results93, go_sem]) rfl ⟨rfl, ((((Below.refl _ _).alloc (Nat.le_refl _) _).alloc (by simp) _).alloc (by simp; omega) _)⟩

theorem sum_ff0 (o1 o2 : Bool) (m1 m2 m : Nat) (w : World) (t1 : decide (m < m1) = false) (e1 : IntKind.u64.wrap ((m1 : Int) + (m2 : Int)) = (m : Int)) : Calls Tryd.prog 93 #[.agg #[.bool false, .bool o1, .int .u64 (m1 : Int)], .agg #[.bool false, .bool o2, .int .u64 (m2 : Int)]] w fun e w' => e = .returned (.agg #[.bool false, .bool false, .int .u64 (m : Int)]) ∧ Below w.heap.size w w' := by
  go_enter Tryd.func93, Tryd.ntmps93
  go_wp2
  exact bodyPost_ret (v := .agg #[.bool false, .bool false, .int .u64 (m : Int)]) (by simp [results, Tryd.results93, go_sem]) rfl ⟨rfl, ((((Below.refl _ _).alloc (Nat.le_refl _) _).alloc (by simp) _).alloc (by simp; omega) _)⟩

theorem sum_ff1 (o1 o2 : Bool) (m1 m2 m : Nat) (w : World) (t1 : decide (m < m1) = true) (e1 : IntKind.u64.wrap ((m1 : Int) + (m2 : Int)) = (m : Int)) : Calls Tryd.prog 93 #[.agg #[.bool false, .bool o1, .int .u64 (m1 : Int)], .agg #[.bool false, .bool o2, .int .u64 (m2 : Int)]] w fun e w' => e = .returned (.agg #[.bool false, .bool true, .int .u64 (m : Int)]) ∧ Below w.heap.size w w' := by
  go_enter Tryd.func93, Tryd.ntmps93
  go_wp2
  exact bodyPost_ret (v := .agg #[.bool false, .bool true, .int .u64 (m : Int)]) (by simp [results, Tryd.results93, go_sem]) rfl ⟨rfl, ((((Below.refl _ _).alloc (Nat.le_refl _) _).alloc (by simp) _).alloc (by simp; omega) _)⟩

theorem sum_any (n1 o1 n2 o2 n o : Bool) (m1 m2 m : Nat) (w : World) (h1 : m1 < 18446744073709551616) (h2 : m2 < 18446744073709551616) (hn : Ref.sumN n1 m1 n2 m2 = n) (ho : Ref.sumO n1 m1 n2 m2 = o) (hm : Ref.sumM n1 m1 n2 m2 = m) :
    Calls Tryd.prog 93 #[.agg #[.bool n1, .bool o1, .int .u64 (m1 : Int)], .agg #[.bool n2, .bool o2, .int .u64 (m2 : Int)]] w fun e w' => e = .returned (.agg #[.bool n, .bool o, .int .u64 (m : Int)]) ∧ Below w.heap.size w w' := by
  have W1 : m = (m1 + m2) % 18446744073709551616 → IntKind.u64.wrap ((m1 : Int) + (m2 : Int)) = (m : Int) := fun e => by simp [IntKind.wrap, IntKind.bits, IntKind.signed]; omega
  have W2 : ∀ a b : Nat, a < 18446744073709551616 → b ≤ a → m = a - b → IntKind.u64.wrap ((a : Int) - (b : Int)) = (m : Int) := fun a b _ _ e => by simp [IntKind.wrap, IntKind.bits, IntKind.signed]; omega
  unfold Ref.sumN at hn
  unfold Ref.sumO at ho
  unfold Ref.sumM at hm
  by_cases hs : n1 = n2
  · subst hs
    simp only [beq_self_eq_true, cond_true, Bool.true_and] at hn ho hm
    subst hn
    have e1 := W1 hm.symm
    by_cases hov : 18446744073709551616 ≤ m1 + m2
    · have t1 : decide (m < m1) = true := decide_eq_true (by omega)
      obtain rfl : o = true := by rw [← ho]; exact decide_eq_true hov
      cases n1
      · exact sum_ff1 o1 o2 m1 m2 m w t1 e1
      · exact sum_tt1 o1 o2 m1 m2 m w t1 e1
    · have t1 : decide (m < m1) = false := decide_eq_false (by omega)
      obtain rfl : o = false := by rw [← ho]; exact decide_eq_false hov
      cases n1
      · exact sum_ff0 o1 o2 m1 m2 m w t1 e1
      · exact sum_tt0 o1 o2 m1 m2 m w t1 e1
  · have hb : (n1 == n2) = false := by simpa using hs
    rw [hb] at hn ho hm
    simp only [cond_false, Bool.false_and] at hn ho hm
    subst ho
    by_cases hle : m2 ≤ m1
    · rw [decide_eq_true hle] at hn hm
      simp only [cond_true] at hn hm
      subst hn
      have t1 : decide (m2 ≤ m1) = true := decide_eq_true (by omega)
      have e1 := W2 m1 m2 h1 hle hm.symm
      cases n1 <;> cases n2
      · exact absurd rfl hs
      · exact sum_ft0 o1 o2 m1 m2 m w t1 e1
      · exact sum_tf0 o1 o2 m1 m2 m w t1 e1
      · exact absurd rfl hs
    · rw [decide_eq_false hle] at hn hm
      simp only [cond_false] at hn hm
      subst hn
      have t1 : decide (m2 ≤ m1) = false := decide_eq_false (by omega)
      have e1 := W2 m2 m1 h2 (by omega) hm.symm
      cases n1 <;> cases n2
      · exact absurd rfl hs
      · exact sum_ft1 o1 o2 m1 m2 m w t1 e1
      · exact sum_tf1 o1 o2 m1 m2 m w t1 e1
      · exact absurd rfl hs
set_option maxRecDepth 100000 in
theorem prod_zero (n1 n2 n : Bool) (m2 : Nat) (w : World) (tn : (!(n1 == n2)) = n) : Calls Tryd.prog 94 #[.agg #[.bool n1, .bool false, .int .u64 0], .agg #[.bool n2, .bool false, .int .u64 (m2 : Int)]] w fun e w' => e = .returned (.agg #[.bool n, .bool false, .int .u64 0]) ∧ Below w.heap.size w w' := by
  go_enter Tryd.func94, Tryd.ntmps94
  go_wp2
  have hx : ((((w.alloc (.cells #[.bool n1, .bool false, .int .u64 0] 99)).alloc (.cells #[.bool n2, .bool false, .int .u64 (m2 : Int)] 99)).alloc (.cells #[.bool false, .bool false, .int .u64 0] 99))).heap[w.heap.size]? = some (.cells #[.bool n1, .bool false, .int .u64 0] 99 (0, 0)) := by
    rw [Below.heap_alloc _ _ _ (by simp; omega), Below.heap_alloc _ _ _ (by simp), heap_alloc_new]
  have hy : ((((w.alloc (.cells #[.bool n1, .bool false, .int .u64 0] 99)).alloc (.cells #[.bool n2, .bool false, .int .u64 (m2 : Int)] 99)).alloc (.cells #[.bool false, .bool false, .int .u64 0] 99))).heap[w.heap.size + 1]? = some (.cells #[.bool n2, .bool false, .int .u64 (m2 : Int)] 99 (0, 0)) := by
    rw [Below.heap_alloc _ _ _ (by simp), show w.heap.size + 1 = (w.alloc (.cells #[.bool n1, .bool false, .int .u64 0] 99)).heap.size by simp, heap_alloc_new]
  have hz : ((((w.alloc (.cells #[.bool n1, .bool false, .int .u64 0] 99)).alloc (.cells #[.bool n2, .bool false, .int .u64 (m2 : Int)] 99)).alloc (.cells #[.bool false, .bool false, .int .u64 0] 99))).heap[w.heap.size + 1 + 1]? = some (.cells #[.bool false, .bool false, .int .u64 0] 99 (0, 0)) := by
    rw [show w.heap.size + 1 + 1 = ((w.alloc (.cells #[.bool n1, .bool false, .int .u64 0] 99)).alloc (.cells #[.bool n2, .bool false, .int .u64 (m2 : Int)] 99)).heap.size by simp, heap_alloc_new]
  have hb : Below w.heap.size w ((((w.alloc (.cells #[.bool n1, .bool false, .int .u64 0] 99)).alloc (.cells #[.bool n2, .bool false, .int .u64 (m2 : Int)] 99)).alloc (.cells #[.bool false, .bool false, .int .u64 0] 99))) := (((Below.refl _ _).alloc (Nat.le_refl _) _).alloc (by simp) _).alloc (by simp; omega) _
  have x0 := Lib.cell_of_heap hx 0
  have x1 := Lib.cell_of_heap hx 1
  have x2 := Lib.cell_of_heap hx 2
  have z0 := Lib.cell_of_heap hz 0
  have z1 := Lib.cell_of_heap hz 1
  have z2 := Lib.cell_of_heap hz 2
  have f0 := Lib.frozen_of_heap hz 0
  have f1 := Lib.frozen_of_heap hz 1
  have f2 := Lib.frozen_of_heap hz 2
  have y0 := Lib.cell_of_heap hy 0
  have y1 := Lib.cell_of_heap hy 1
  have y2 := Lib.cell_of_heap hy 2
  generalize (((w.alloc (.cells #[.bool n1, .bool false, .int .u64 0] 99)).alloc (.cells #[.bool n2, .bool false, .int .u64 (m2 : Int)] 99)).alloc (.cells #[.bool false, .bool false, .int .u64 0] 99)) = W2 at *
  clear hx hy hz
  simp only [List.getElem?_toArray, List.getElem?_cons_zero, List.getElem?_cons_succ] at x0 x1 x2 y0 y1 y2 z0 z1 z2
  refine wp_region_still_tail 27 (by kernel_rfl) (by kernel_rfl) ?_
  simp only [List.take_succ_cons, List.take_zero, List.drop_succ_cons, List.drop_zero]
  iterate 27 ((with_reducible refine wpStill_step (fun K hK => ?_)); go_simp; (with_reducible refine hK _ ?_); clear hK K)
  with_reducible refine wpStill_nil ?_
  change wpList _ _ _ _ _ W2.drew
  go_wp2
  refine bodyPost_ret (v := .agg #[.bool n, .bool false, .int .u64 0]) ?_ rfl ⟨rfl, (((hb.setCell (p := ⟨w.heap.size + 1 + 1, 0, none⟩) (by simp; omega) _).setCell (p := ⟨w.heap.size + 1 + 1, 1, none⟩) (by simp; omega) _).setCell (p := ⟨w.heap.size + 1 + 1, 2, none⟩) (by simp; omega) _).drew⟩
  simp [results, Tryd.results94, go_sem, z0, z1, z2]

set_option maxRecDepth 100000 in
theorem prod_fit (n1 n2 n : Bool) (m1 m2 m q : Nat) (w : World) (tn : (!(n1 == n2)) = n) (e1 : IntKind.u64.wrap ((m1 : Int) * (m2 : Int)) = (m : Int)) (e2 : (m : Int).tdiv (m1 : Int) = (q : Int)) (hq : q ≤ 18446744073709551615) (t0 : ((m1 : Int) != 0) = true) (t1 : ¬ (m1 : Int) = 0) (t3 : ¬ m1 = 0) (t4 : (m1 == 0) = false) (t2 : ((q : Int) != (m2 : Int)) = false) : Calls Tryd.prog 94 #[.agg #[.bool n1, .bool false, .int .u64 (m1 : Int)], .agg #[.bool n2, .bool false, .int .u64 (m2 : Int)]] w fun e w' => e = .returned (.agg #[.bool n, .bool false, .int .u64 (m : Int)]) ∧ Below w.heap.size w w' := by
  have e3 : IntKind.u64.wrap (q : Int) = (q : Int) := by simp [IntKind.wrap, IntKind.bits, IntKind.signed]; omega
  go_enter Tryd.func94, Tryd.ntmps94
  go_wp2
  have hx : ((((w.alloc (.cells #[.bool n1, .bool false, .int .u64 (m1 : Int)] 99)).alloc (.cells #[.bool n2, .bool false, .int .u64 (m2 : Int)] 99)).alloc (.cells #[.bool false, .bool false, .int .u64 0] 99))).heap[w.heap.size]? = some (.cells #[.bool n1, .bool false, .int .u64 (m1 : Int)] 99 (0, 0)) := by
    rw [Below.heap_alloc _ _ _ (by simp; omega), Below.heap_alloc _ _ _ (by simp), heap_alloc_new]
  have hy : ((((w.alloc (.cells #[.bool n1, .bool false, .int .u64 (m1 : Int)] 99)).alloc (.cells #[.bool n2, .bool false, .int .u64 (m2 : Int)] 99)).alloc (.cells #[.bool false, .bool false, .int .u64 0] 99))).heap[w.heap.size + 1]? = some (.cells #[.bool n2, .bool false, .int .u64 (m2 : Int)] 99 (0, 0)) := by
    rw [Below.heap_alloc _ _ _ (by simp), show w.heap.size + 1 = (w.alloc (.cells #[.bool n1, .bool false, .int .u64 (m1 : Int)] 99)).heap.size by simp, heap_alloc_new]
  have hz : ((((w.alloc (.cells #[.bool n1, .bool false, .int .u64 (m1 : Int)] 99)).alloc (.cells #[.bool n2, .bool false, .int .u64 (m2 : Int)] 99)).alloc (.cells #[.bool false, .bool false, .int .u64 0] 99))).heap[w.heap.size + 1 + 1]? = some (.cells #[.bool false, .bool false, .int .u64 0] 99 (0, 0)) := by
    rw [show w.heap.size + 1 + 1 = ((w.alloc (.cells #[.bool n1, .bool false, .int .u64 (m1 : Int)] 99)).alloc (.cells #[.bool n2, .bool false, .int .u64 (m2 : Int)] 99)).heap.size by simp, heap_alloc_new]
  have hb : Below w.heap.size w ((((w.alloc (.cells #[.bool n1, .bool false, .int .u64 (m1 : Int)] 99)).alloc (.cells #[.bool n2, .bool false, .int .u64 (m2 : Int)] 99)).alloc (.cells #[.bool false, .bool false, .int .u64 0] 99))) := (((Below.refl _ _).alloc (Nat.le_refl _) _).alloc (by simp) _).alloc (by simp; omega) _
  have x0 := Lib.cell_of_heap hx 0
  have x1 := Lib.cell_of_heap hx 1
  have x2 := Lib.cell_of_heap hx 2
  have z0 := Lib.cell_of_heap hz 0
  have z1 := Lib.cell_of_heap hz 1
  have z2 := Lib.cell_of_heap hz 2
  have f0 := Lib.frozen_of_heap hz 0
  have f1 := Lib.frozen_of_heap hz 1
  have f2 := Lib.frozen_of_heap hz 2
  have y0 := Lib.cell_of_heap hy 0
  have y1 := Lib.cell_of_heap hy 1
  have y2 := Lib.cell_of_heap hy 2
  generalize (((w.alloc (.cells #[.bool n1, .bool false, .int .u64 (m1 : Int)] 99)).alloc (.cells #[.bool n2, .bool false, .int .u64 (m2 : Int)] 99)).alloc (.cells #[.bool false, .bool false, .int .u64 0] 99)) = W2 at *
  clear hx hy hz
  simp only [List.getElem?_toArray, List.getElem?_cons_zero, List.getElem?_cons_succ] at x0 x1 x2 y0 y1 y2 z0 z1 z2
  go_still_tail 27, (by kernel_rfl)
  change wpList _ _ _ _ _ W2.drew
  go_wp2
  refine bodyPost_ret (v := .agg #[.bool n, .bool false, .int .u64 (m : Int)]) ?_ rfl ⟨rfl, (((hb.setCell (p := ⟨w.heap.size + 1 + 1, 0, none⟩) (by simp; omega) _).setCell (p := ⟨w.heap.size + 1 + 1, 1, none⟩) (by simp; omega) _).setCell (p := ⟨w.heap.size + 1 + 1, 2, none⟩) (by simp; omega) _).drew⟩
  simp [results, Tryd.results94, go_sem, z0, z1, z2]

set_option maxRecDepth 100000 in
theorem prod_over (n1 n2 n : Bool) (m1 m2 m q : Nat) (w : World) (tn : (!(n1 == n2)) = n) (e1 : IntKind.u64.wrap ((m1 : Int) * (m2 : Int)) = (m : Int)) (e2 : (m : Int).tdiv (m1 : Int) = (q : Int)) (hq : q ≤ 18446744073709551615) (t0 : ((m1 : Int) != 0) = true) (t1 : ¬ (m1 : Int) = 0) (t3 : ¬ m1 = 0) (t4 : (m1 == 0) = false) (t2 : ((q : Int) != (m2 : Int)) = true) : Calls Tryd.prog 94 #[.agg #[.bool n1, .bool false, .int .u64 (m1 : Int)], .agg #[.bool n2, .bool false, .int .u64 (m2 : Int)]] w fun e w' => e = .returned (.agg #[.bool n, .bool true, .int .u64 (m : Int)]) ∧ Below w.heap.size w w' := by
  have e3 : IntKind.u64.wrap (q : Int) = (q : Int) := by simp [IntKind.wrap, IntKind.bits, IntKind.signed]; omega
  go_enter Tryd.func94, Tryd.ntmps94
  go_wp2
  have hx : ((((w.alloc (.cells #[.bool n1, .bool false, .int .u64 (m1 : Int)] 99)).alloc (.cells #[.bool n2, .bool false, .int .u64 (m2 : Int)] 99)).alloc (.cells #[.bool false, .bool false, .int .u64 0] 99))).heap[w.heap.size]? = some (.cells #[.bool n1, .bool false, .int .u64 (m1 : Int)] 99 (0, 0)) := by
    rw [Below.heap_alloc _ _ _ (by simp; omega), Below.heap_alloc _ _ _ (by simp), heap_alloc_new]
  have hy : ((((w.alloc (.cells #[.bool n1, .bool false, .int .u64 (m1 : Int)] 99)).alloc (.cells #[.bool n2, .bool false, .int .u64 (m2 : Int)] 99)).alloc (.cells #[.bool false, .bool false, .int .u64 0] 99))).heap[w.heap.size + 1]? = some (.cells #[.bool n2, .bool false, .int .u64 (m2 : Int)] 99 (0, 0)) := by
    rw [Below.heap_alloc _ _ _ (by simp), show w.heap.size + 1 = (w.alloc (.cells #[.bool n1, .bool false, .int .u64 (m1 : Int)] 99)).heap.size by simp, heap_alloc_new]
  have hz : ((((w.alloc (.cells #[.bool n1, .bool false, .int .u64 (m1 : Int)] 99)).alloc (.cells #[.bool n2, .bool false, .int .u64 (m2 : Int)] 99)).alloc (.cells #[.bool false, .bool false, .int .u64 0] 99))).heap[w.heap.size + 1 + 1]? = some (.cells #[.bool false, .bool false, .int .u64 0] 99 (0, 0)) := by
    rw [show w.heap.size + 1 + 1 = ((w.alloc (.cells #[.bool n1, .bool false, .int .u64 (m1 : Int)] 99)).alloc (.cells #[.bool n2, .bool false, .int .u64 (m2 : Int)] 99)).heap.size by simp, heap_alloc_new]
  have hb : Below w.heap.size w ((((w.alloc (.cells #[.bool n1, .bool false, .int .u64 (m1 : Int)] 99)).alloc (.cells #[.bool n2, .bool false, .int .u64 (m2 : Int)] 99)).alloc (.cells #[.bool false, .bool false, .int .u64 0] 99))) := (((Below.refl _ _).alloc (Nat.le_refl _) _).alloc (by simp) _).alloc (by simp; omega) _
  have x0 := Lib.cell_of_heap hx 0
  have x1 := Lib.cell_of_heap hx 1
  have x2 := Lib.cell_of_heap hx 2
  have z0 := Lib.cell_of_heap hz 0
  have z1 := Lib.cell_of_heap hz 1
  have z2 := Lib.cell_of_heap hz 2
  have f0 := Lib.frozen_of_heap hz 0
  have f1 := Lib.frozen_of_heap hz 1
  have f2 := Lib.frozen_of_heap hz 2
  have y0 := Lib.cell_of_heap hy 0
  have y1 := Lib.cell_of_heap hy 1
  have y2 := Lib.cell_of_heap hy 2
  generalize (((w.alloc (.cells #[.bool n1, .bool false, .int .u64 (m1 : Int)] 99)).alloc (.cells #[.bool n2, .bool false, .int .u64 (m2 : Int)] 99)).alloc (.cells #[.bool false, .bool false, .int .u64 0] 99)) = W2 at *
  clear hx hy hz
  simp only [List.getElem?_toArray, List.getElem?_cons_zero, List.getElem?_cons_succ] at x0 x1 x2 y0 y1 y2 z0 z1 z2
  go_still_tail 27, (by kernel_rfl)
  change wpList _ _ _ _ _ W2.drew
  go_wp2
  refine bodyPost_ret (v := .agg #[.bool n, .bool true, .int .u64 (m : Int)]) ?_ rfl ⟨rfl, (((hb.setCell (p := ⟨w.heap.size + 1 + 1, 0, none⟩) (by simp; omega) _).setCell (p := ⟨w.heap.size + 1 + 1, 1, none⟩) (by simp; omega) _).setCell (p := ⟨w.heap.size + 1 + 1, 2, none⟩) (by simp; omega) _).drew⟩
  simp [results, Tryd.results94, go_sem, z0, z1, z2]
theorem prod_any (n1 n2 n o : Bool) (m1 m2 m : Nat) (w : World) (h1 : m1 < 18446744073709551616) (h2 : m2 < 18446744073709551616) (hn : (n1 != n2) = n) (ho : Ref.prodO m1 m2 = o) (hm : Ref.prodM m1 m2 = m) :
    Calls Tryd.prog 94 #[.agg #[.bool n1, .bool false, .int .u64 (m1 : Int)], .agg #[.bool n2, .bool false, .int .u64 (m2 : Int)]] w fun e w' => e = .returned (.agg #[.bool n, .bool o, .int .u64 (m : Int)]) ∧ Below w.heap.size w w' := by
  have tn : (!(n1 == n2)) = n := hn
  have hml : m < 18446744073709551616 := by rw [← hm]; exact Ref.prodM_lt _ _
  have e1 : IntKind.u64.wrap ((m1 : Int) * (m2 : Int)) = (m : Int) := by
    rw [← hm]
    unfold Ref.prodM
    rw [← Int.natCast_mul]
    simp [IntKind.wrap, IntKind.bits, IntKind.signed]
  have e2 : (m : Int).tdiv (m1 : Int) = ((m / m1 : Nat) : Int) := by rw [Int.tdiv_eq_ediv_of_nonneg (by omega)]; rfl
  have hq : m / m1 ≤ 18446744073709551615 := by have := Nat.div_le_self m m1; omega
  by_cases h0 : m1 = 0
  · obtain rfl : o = false := by rw [← ho, h0]; unfold Ref.prodO; simp
    subst h0
    obtain rfl : m = 0 := by rw [← hm]; unfold Ref.prodM; simp
    exact prod_zero n1 n2 n m2 w tn
  · have ht := Ref.prod_tell m1 m2 h0 h2
    rw [hm] at ht
    have t0 : ((m1 : Int) != 0) = true := by rw [bne_iff_ne]; omega
    have t1 : ¬ (m1 : Int) = 0 := by omega
    have t4 : (m1 == 0) = false := by simpa using h0
    by_cases hov : 18446744073709551616 ≤ m1 * m2
    · obtain rfl : o = true := by rw [← ho]; exact decide_eq_true hov
      have hne : m / m1 ≠ m2 := fun e => ht.1 e hov
      exact prod_over n1 n2 n m1 m2 m _ w tn e1 e2 hq t0 t1 h0 t4 (by rw [bne_iff_ne]; omega)
    · obtain rfl : o = false := by rw [← ho]; exact decide_eq_false hov
      exact prod_fit n1 n2 n m1 m2 m _ w tn e1 e2 hq t0 t1 h0 t4 (by rw [ht.2 hov]; simp)

end Go.Proofs.YtdbjmjeiaajdiaaDoor
