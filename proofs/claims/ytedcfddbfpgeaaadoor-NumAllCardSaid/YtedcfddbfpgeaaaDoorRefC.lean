/- Contracts of quadrilleref1's Add, Sub, Mul, Quo, Mod, Gcd, Lcm, at whatever numbers of 64 bits. -/
import Derived.Test.YtedcfddbfpgeaaaDoorRefB
namespace Go.Proofs.YtedcfddbfpgeaaaDoor
open Go.RowKit
set_option linter.unusedVariables false
theorem abs_lt (a : Int) (h1 : -9223372036854775808 ≤ a) (h2 : a ≤ 9223372036854775807) : a.natAbs < 18446744073709551616 := by omega
theorem radd_any (a b v : Int) (t : Bool) (w : World) (ha1 : -9223372036854775808 ≤ a) (ha2 : a ≤ 9223372036854775807) (hb1 : -9223372036854775808 ≤ b) (hb2 : b ≤ 9223372036854775807) (hv : Ref.fitV (a + b) = v) (ht : Ref.fitB (a + b) = t) :
    Calls Tryd.prog 93 #[.int .i64 a, .int .i64 b] w fun e w' => e = .returned (.tuple #[.int .i64 v, .bool t]) ∧ Below w.heap.size w w' := by
  have F := Ref.sum_fits (decide (a < 0)) a.natAbs (decide (b < 0)) b.natAbs (a + b) (abs_lt a ha1 ha2) (abs_lt b hb1 hb2) (by rw [Ref.val_neg, Ref.val_neg])
  rw [hv, ht] at F
  have H1 := Lib.hid (fun w => of_any a a.natAbs (decide (a < 0)) w ha1 ha2 rfl rfl)
  have H2 := Lib.hid (fun w => of_any b b.natAbs (decide (b < 0)) w hb1 hb2 rfl rfl)
  have H3 := Lib.hid (fun w => sum_any (decide (a < 0)) false (decide (b < 0)) false _ _ a.natAbs b.natAbs _ w (abs_lt a ha1 ha2) (abs_lt b hb1 hb2) rfl rfl rfl)
  have H4 := Lib.hid (fun w => fits_any' _ _ _ v t w F.1 F.2)
  generalize Ref.sumN (decide (a < 0)) a.natAbs (decide (b < 0)) b.natAbs = n at *
  generalize Ref.sumO (decide (a < 0)) a.natAbs (decide (b < 0)) b.natAbs = o at *
  generalize Ref.sumM (decide (a < 0)) a.natAbs (decide (b < 0)) b.natAbs = m at *
  generalize decide (a < 0) = na at *
  generalize decide (b < 0) = nb at *
  generalize a.natAbs = ma at *
  generalize b.natAbs = mb at *
  clear F hv ht
  go_enter Tryd.func93, Tryd.ntmps93
  go_wp2_with (fail)
  refine (H1.out _).mono ?_
  rintro e w1 ⟨rfl, hb1⟩
  go_wp2_with (fail)
  refine (H2.out _).mono ?_
  rintro e w2 ⟨rfl, hb2⟩
  replace hb2 := hb1.trans (hb2.mono hb1.size)
  clear hb1
  go_wp2_with (fail)
  refine (H3.out _).mono ?_
  rintro e w3 ⟨rfl, hb3⟩
  replace hb3 := hb2.trans (hb3.mono hb2.size)
  clear hb2
  go_wp2_with (fail)
  refine (H4.out _).mono ?_
  rintro e w4 ⟨rfl, hb4⟩
  replace hb4 := hb3.trans (hb4.mono hb3.size)
  clear hb3
  go_wp2
  go_ret2
  exact ⟨rfl, hb4⟩
theorem rmul_any (a b v : Int) (t : Bool) (w : World) (ha1 : -9223372036854775808 ≤ a) (ha2 : a ≤ 9223372036854775807) (hb1 : -9223372036854775808 ≤ b) (hb2 : b ≤ 9223372036854775807) (hv : Ref.fitV (a * b) = v) (ht : Ref.fitB (a * b) = t) :
    Calls Tryd.prog 95 #[.int .i64 a, .int .i64 b] w fun e w' => e = .returned (.tuple #[.int .i64 v, .bool t]) ∧ Below w.heap.size w w' := by
  have F := Ref.prod_fits (decide (a < 0)) a.natAbs (decide (b < 0)) b.natAbs (a * b) (by rw [Ref.val_neg, Ref.val_neg])
  rw [hv, ht] at F
  have H1 := Lib.hid (fun w => of_any a a.natAbs (decide (a < 0)) w ha1 ha2 rfl rfl)
  have H2 := Lib.hid (fun w => of_any b b.natAbs (decide (b < 0)) w hb1 hb2 rfl rfl)
  have H3 := Lib.hid (fun w => prod_any (decide (a < 0)) (decide (b < 0)) _ _ a.natAbs b.natAbs _ w (abs_lt a ha1 ha2) (abs_lt b hb1 hb2) rfl rfl rfl)
  have H4 := Lib.hid (fun w => fits_any' _ _ _ v t w F.1 F.2)
  generalize (decide (a < 0) != decide (b < 0)) = n at *
  generalize Ref.prodO a.natAbs b.natAbs = o at *
  generalize Ref.prodM a.natAbs b.natAbs = m at *
  generalize decide (a < 0) = na at *
  generalize decide (b < 0) = nb at *
  generalize a.natAbs = ma at *
  generalize b.natAbs = mb at *
  clear F hv ht
  go_enter Tryd.func95, Tryd.ntmps95
  go_wp2_with (fail)
  refine (H1.out _).mono ?_
  rintro e w1 ⟨rfl, hb1⟩
  go_wp2_with (fail)
  refine (H2.out _).mono ?_
  rintro e w2 ⟨rfl, hb2⟩
  replace hb2 := hb1.trans (hb2.mono hb1.size)
  clear hb1
  go_wp2_with (fail)
  refine (H3.out _).mono ?_
  rintro e w3 ⟨rfl, hb3⟩
  replace hb3 := hb2.trans (hb3.mono hb2.size)
  clear hb2
  go_wp2_with (fail)
  refine (H4.out _).mono ?_
  rintro e w4 ⟨rfl, hb4⟩
  replace hb4 := hb3.trans (hb4.mono hb3.size)
  clear hb3
  go_wp2
  go_ret2
  exact ⟨rfl, hb4⟩
theorem val_not (n : Bool) (m : Nat) : Ref.val (!n) m = -Ref.val n m := by unfold Ref.val; cases n <;> simp
theorem num_cells {w : World} {B T : Nat} {n o : Bool} {m : Nat} (h : w.heap[B]? = some (.cells #[.bool n, .bool o, .int .u64 (m : Int)] T (0, 0))) :
    w.cell? ⟨B, 0, none⟩ = some (.bool n) ∧ w.cell? ⟨B, 1, none⟩ = some (.bool o) ∧ w.cell? ⟨B, 2, none⟩ = some (.int .u64 (m : Int)) :=
  ⟨Lib.cell_of_heap h 0, Lib.cell_of_heap h 1, Lib.cell_of_heap h 2⟩
set_option maxHeartbeats 1000000 in
theorem rsub_any (a b v : Int) (t : Bool) (w : World) (ha1 : -9223372036854775808 ≤ a) (ha2 : a ≤ 9223372036854775807) (hb1 : -9223372036854775808 ≤ b) (hb2 : b ≤ 9223372036854775807) (hv : Ref.fitV (a - b) = v) (ht : Ref.fitB (a - b) = t) :
    Calls Tryd.prog 94 #[.int .i64 a, .int .i64 b] w fun e w' => e = .returned (.tuple #[.int .i64 v, .bool t]) ∧ Below w.heap.size w w' := by
  have F := Ref.sum_fits (decide (a < 0)) a.natAbs (!decide (b < 0)) b.natAbs (a - b) (abs_lt a ha1 ha2) (abs_lt b hb1 hb2) (by rw [val_not, Ref.val_neg, Ref.val_neg]; omega)
  rw [hv, ht] at F
  have H1 := Lib.hid (fun w => of_any a a.natAbs (decide (a < 0)) w ha1 ha2 rfl rfl)
  have H2 := Lib.hid (fun w => of_any b b.natAbs (decide (b < 0)) w hb1 hb2 rfl rfl)
  have H3 := Lib.hid (fun w => sum_any (decide (a < 0)) false (!decide (b < 0)) false _ _ a.natAbs b.natAbs _ w (abs_lt a ha1 ha2) (abs_lt b hb1 hb2) rfl rfl rfl)
  have H4 := Lib.hid (fun w => fits_any' _ _ _ v t w F.1 F.2)
  generalize Ref.sumN (decide (a < 0)) a.natAbs (!decide (b < 0)) b.natAbs = n at *
  generalize Ref.sumO (decide (a < 0)) a.natAbs (!decide (b < 0)) b.natAbs = o at *
  generalize Ref.sumM (decide (a < 0)) a.natAbs (!decide (b < 0)) b.natAbs = m at *
  generalize decide (a < 0) = na at *
  generalize decide (b < 0) = nb at *
  generalize a.natAbs = ma at *
  generalize b.natAbs = mb at *
  clear F hv ht
  go_enter Tryd.func94, Tryd.ntmps94
  go_wp2_with (fail)
  refine (H2.out _).mono ?_
  rintro e w1 ⟨rfl, hb1⟩
  go_wp2_with (fail)
  have hx : (w1.alloc (Obj.cells #[.bool (!nb), .bool false, .int .u64 (mb : Int)] 106)).heap[w1.heap.size]? = some (.cells #[.bool (!nb), .bool false, .int .u64 (mb : Int)] 106 (0, 0)) := heap_alloc_new _ _
  have hb0 : Below w.heap.size w (w1.alloc (Obj.cells #[.bool (!nb), .bool false, .int .u64 (mb : Int)] 106)) := hb1.alloc hb1.size _
  obtain ⟨x0, x1, x2⟩ := num_cells hx
  have hlt : w1.heap.size < (w1.alloc (Obj.cells #[.bool (!nb), .bool false, .int .u64 (mb : Int)] 106)).heap.size := by simp
  generalize w1.alloc (Obj.cells #[.bool (!nb), .bool false, .int .u64 (mb : Int)] 106) = W0 at *
  clear hx
  go_region_with (first
    | (go_at_call 96; refine (H1.out _).mono ?_; rintro e w2 ⟨rfl, hb2⟩; have c0 : w2.cell? ⟨w1.heap.size, 0, none⟩ = some (.bool (!nb)) := (hb2.cell (p := ⟨w1.heap.size, 0, none⟩) hlt).trans x0; have c1 : w2.cell? ⟨w1.heap.size, 1, none⟩ = some (.bool false) := (hb2.cell (p := ⟨w1.heap.size, 1, none⟩) hlt).trans x1; have c2 : w2.cell? ⟨w1.heap.size, 2, none⟩ = some (.int .u64 (mb : Int)) := (hb2.cell (p := ⟨w1.heap.size, 2, none⟩) hlt).trans x2; replace hb2 := hb0.drew.trans (hb2.mono hb0.size))
    | (go_at_call 98; refine (H3.out _).mono ?_; rintro e w3 ⟨rfl, hb3⟩; replace hb3 := hb2.trans (hb3.mono hb2.size))
    | (go_at_call 100; refine (H4.out _).mono ?_; rintro e w4 ⟨rfl, hb4⟩; replace hb4 := hb3.trans (hb4.mono hb3.size)))
  all_goals
    go_wp2
    go_ret2
    exact ⟨rfl, hb4⟩
theorem rquo_zero (a : Int) (w : World) : Calls Tryd.prog 68 #[.int .i64 a, .int .i64 0] w fun e w' => e = .returned (.tuple #[.int .i64 0, .int .i64 14]) ∧ Below w.heap.size w w' := by
  go_enter Tryd.func68, Tryd.ntmps68
  go_wp2
  go_ret2
  exact ⟨rfl, Below.refl _ _⟩
set_option maxRecDepth 100000 in
set_option maxHeartbeats 1000000 in
theorem rquo_any (a b v : Int) (t : Bool) (w : World) (ha1 : -9223372036854775808 ≤ a) (ha2 : a ≤ 9223372036854775807) (hb1 : -9223372036854775808 ≤ b) (hb2 : b ≤ 9223372036854775807) (hb : b ≠ 0) (hv : Ref.fitV (a.tdiv b) = v) (ht : Ref.fitB (a.tdiv b) = t) :
    Calls Tryd.prog 68 #[.int .i64 a, .int .i64 b] w fun e w' => e = .returned (.tuple #[.int .i64 v, .int .i64 (cond t 0 13)]) ∧ Below w.heap.size w w' := by
  have F1 : Ref.rV (decide (a < 0) != decide (b < 0)) false (a.natAbs / b.natAbs) = v := by unfold Ref.rV; rw [Ref.val_quo]; exact hv
  have F2 : Ref.rB (decide (a < 0) != decide (b < 0)) false (a.natAbs / b.natAbs) = t := by unfold Ref.rB; rw [Ref.val_quo]; exact ht
  have H1 := Lib.hid (fun w => of_any a a.natAbs (decide (a < 0)) w ha1 ha2 rfl rfl)
  have H2 := Lib.hid (fun w => of_any b b.natAbs (decide (b < 0)) w hb1 hb2 rfl rfl)
  have H4 := Lib.hid (fun w => told_any _ _ _ v t w F1 F2)
  have hma := abs_lt a ha1 ha2
  have hmb0 : b.natAbs ≠ 0 := by omega
  have t0 : (b == 0) = false := by simpa using hb
  have hqa := Nat.div_le_self a.natAbs b.natAbs
  have e2 : (a.natAbs : Int).tdiv (b.natAbs : Int) = ((a.natAbs / b.natAbs : Nat) : Int) := by rw [Int.tdiv_eq_ediv_of_nonneg (by omega)]; rfl
  have tn0 : (!(decide (a < 0) == decide (b < 0))) = (decide (a < 0) != decide (b < 0)) := rfl
  generalize (decide (a < 0) != decide (b < 0)) = n at *
  clear F1 F2 hv ht
  generalize decide (a < 0) = na at *
  generalize decide (b < 0) = nb at *
  generalize a.natAbs = ma at *
  generalize b.natAbs = mb at *
  generalize ma / mb = q at *
  have t1 : ¬ (mb : Int) = 0 := by omega
  have t4 : (mb == 0) = false := by simpa using hmb0
  have e3 : IntKind.u64.wrap (q : Int) = (q : Int) := by simp [IntKind.wrap, IntKind.bits, IntKind.signed]; omega
  go_enter Tryd.func68, Tryd.ntmps68
  go_wp2_with (fail)
  refine (H1.out _).mono ?_
  rintro e w1 ⟨rfl, hb1⟩
  go_wp2_with (fail)
  refine (H2.out _).mono ?_
  rintro e w2 ⟨rfl, hb2⟩
  replace hb2 := hb1.trans (hb2.mono hb1.size)
  clear hb1
  go_wp2_with (fail)
  have hx : ((w2.alloc (Obj.cells #[.bool na, .bool false, .int .u64 (ma : Int)] 106)).alloc (Obj.cells #[.bool nb, .bool false, .int .u64 (mb : Int)] 106)).heap[w2.heap.size]? = some (.cells #[.bool na, .bool false, .int .u64 (ma : Int)] 106 (0, 0)) := by
    rw [Below.heap_alloc _ _ _ (by simp), heap_alloc_new]
  have hy : ((w2.alloc (Obj.cells #[.bool na, .bool false, .int .u64 (ma : Int)] 106)).alloc (Obj.cells #[.bool nb, .bool false, .int .u64 (mb : Int)] 106)).heap[w2.heap.size + 1]? = some (.cells #[.bool nb, .bool false, .int .u64 (mb : Int)] 106 (0, 0)) := by
    rw [show w2.heap.size + 1 = (w2.alloc (Obj.cells #[.bool na, .bool false, .int .u64 (ma : Int)] 106)).heap.size by simp, heap_alloc_new]
  have hb0 : Below w.heap.size w ((w2.alloc (Obj.cells #[.bool na, .bool false, .int .u64 (ma : Int)] 106)).alloc (Obj.cells #[.bool nb, .bool false, .int .u64 (mb : Int)] 106)) := (hb2.alloc hb2.size _).alloc (by have := hb2.size; simp; omega) _
  have hlt : w2.heap.size + 1 < ((w2.alloc (Obj.cells #[.bool na, .bool false, .int .u64 (ma : Int)] 106)).alloc (Obj.cells #[.bool nb, .bool false, .int .u64 (mb : Int)] 106)).heap.size := by simp
  obtain ⟨x0, x1, x2⟩ := num_cells hx
  obtain ⟨y0, y1, y2⟩ := num_cells hy
  generalize ((w2.alloc (Obj.cells #[.bool na, .bool false, .int .u64 (ma : Int)] 106)).alloc (Obj.cells #[.bool nb, .bool false, .int .u64 (mb : Int)] 106)) = W0 at *
  clear hx hy hb2
  go_region_held3 (fun w' => w'.cell? ⟨w2.heap.size, 0, none⟩ = some (.bool na) ∧ w'.cell? ⟨w2.heap.size, 2, none⟩ = some (.int .u64 (ma : Int)) ∧ w'.cell? ⟨w2.heap.size + 1, 0, none⟩ = some (.bool nb) ∧ w'.cell? ⟨w2.heap.size + 1, 2, none⟩ = some (.int .u64 (mb : Int)))
    (first | go_keep | exact ⟨(hb4.cell (p := ⟨w2.heap.size, 0, none⟩) (by show w2.heap.size < W0.heap.size; omega)).trans x0, (hb4.cell (p := ⟨w2.heap.size, 2, none⟩) (by show w2.heap.size < W0.heap.size; omega)).trans x2, (hb4.cell (p := ⟨w2.heap.size + 1, 0, none⟩) hlt).trans y0, (hb4.cell (p := ⟨w2.heap.size + 1, 2, none⟩) hlt).trans y2⟩)
    ((go_at_call 97; refine (H4.out _).mono ?_; rintro e w4 ⟨rfl, hb4⟩))
  go_wp2
  go_ret2
  exact ⟨rfl, hb0.drew.trans (hb4.mono hb0.size)⟩
theorem rmod_zero (a : Int) (w : World) : Calls Tryd.prog 69 #[.int .i64 a, .int .i64 0] w fun e w' => e = .returned (.tuple #[.int .i64 0, .int .i64 14]) ∧ Below w.heap.size w w' := by
  go_enter Tryd.func69, Tryd.ntmps69
  go_wp2
  go_ret2
  exact ⟨rfl, Below.refl _ _⟩
set_option maxRecDepth 100000 in
set_option maxHeartbeats 1000000 in
theorem rmod_same (a b v : Int) (na nb : Bool) (ma mb r : Nat) (w : World) (ha1 : -9223372036854775808 ≤ a) (ha2 : a ≤ 9223372036854775807) (hb1 : -9223372036854775808 ≤ b) (hb2 : b ≤ 9223372036854775807) (hna : decide (a < 0) = na) (hnb : decide (b < 0) = nb) (hma : a.natAbs = ma) (hmb : b.natAbs = mb) (t0 : (b == 0) = false) (t1 : ¬ (mb : Int) = 0) (t3 : ¬ mb = 0) (t4 : (mb == 0) = false) (e2 : (ma : Int).tmod (mb : Int) = (r : Int)) (hr : r < 18446744073709551616) (t5 : ((r : Int) != 0) = false) (hT : ∀ w, Calls Tryd.prog 97 #[.agg #[.bool na, .bool false, .int .u64 (r : Int)]] w fun e w' => e = .returned (.tuple #[.int .i64 v, .int .i64 0]) ∧ Below w.heap.size w w') :
    Calls Tryd.prog 69 #[.int .i64 a, .int .i64 b] w fun e w' => e = .returned (.tuple #[.int .i64 v, .int .i64 0]) ∧ Below w.heap.size w w' := by
  have H1 := Lib.hid (fun w => of_any a ma na w ha1 ha2 hma hna)
  have H2 := Lib.hid (fun w => of_any b mb nb w hb1 hb2 hmb hnb)
  have e3 : IntKind.u64.wrap (r : Int) = (r : Int) := by simp [IntKind.wrap, IntKind.bits, IntKind.signed]; omega
  clear hna hnb hma hmb
  go_enter Tryd.func69, Tryd.ntmps69
  go_wp2_with (fail)
  refine (H1.out _).mono ?_
  rintro e w1 ⟨rfl, hb1⟩
  go_wp2_with (fail)
  refine (H2.out _).mono ?_
  rintro e w2 ⟨rfl, hb2⟩
  replace hb2 := hb1.trans (hb2.mono hb1.size)
  clear hb1
  go_wp2_with (fail)
  have hx : ((w2.alloc (Obj.cells #[.bool na, .bool false, .int .u64 (ma : Int)] 106)).alloc (Obj.cells #[.bool nb, .bool false, .int .u64 (mb : Int)] 106)).heap[w2.heap.size]? = some (.cells #[.bool na, .bool false, .int .u64 (ma : Int)] 106 (0, 0)) := by
    rw [Below.heap_alloc _ _ _ (by simp), heap_alloc_new]
  have hy : ((w2.alloc (Obj.cells #[.bool na, .bool false, .int .u64 (ma : Int)] 106)).alloc (Obj.cells #[.bool nb, .bool false, .int .u64 (mb : Int)] 106)).heap[w2.heap.size + 1]? = some (.cells #[.bool nb, .bool false, .int .u64 (mb : Int)] 106 (0, 0)) := by
    rw [show w2.heap.size + 1 = (w2.alloc (Obj.cells #[.bool na, .bool false, .int .u64 (ma : Int)] 106)).heap.size by simp, heap_alloc_new]
  have hb0 : Below w.heap.size w ((w2.alloc (Obj.cells #[.bool na, .bool false, .int .u64 (ma : Int)] 106)).alloc (Obj.cells #[.bool nb, .bool false, .int .u64 (mb : Int)] 106)) := (hb2.alloc hb2.size _).alloc (by have := hb2.size; simp; omega) _
  have hlt : w2.heap.size + 1 < ((w2.alloc (Obj.cells #[.bool na, .bool false, .int .u64 (ma : Int)] 106)).alloc (Obj.cells #[.bool nb, .bool false, .int .u64 (mb : Int)] 106)).heap.size := by simp
  obtain ⟨x0, x1, x2⟩ := num_cells hx
  obtain ⟨y0, y1, y2⟩ := num_cells hy
  generalize ((w2.alloc (Obj.cells #[.bool na, .bool false, .int .u64 (ma : Int)] 106)).alloc (Obj.cells #[.bool nb, .bool false, .int .u64 (mb : Int)] 106)) = W0 at *
  clear hx hy hb2
  go_region_held3 (fun w' => w'.cell? ⟨w2.heap.size, 0, none⟩ = some (.bool na) ∧ w'.cell? ⟨w2.heap.size, 2, none⟩ = some (.int .u64 (ma : Int)) ∧ w'.cell? ⟨w2.heap.size + 1, 2, none⟩ = some (.int .u64 (mb : Int)))
    (first | go_keep | (go_simp; done))
    (fail)
  have HT := Lib.hid hT
  clear hT
  go_wp2_with (fail)
  refine (HT.out _).mono ?_
  rintro e w4 ⟨rfl, hb4⟩
  go_wp2
  go_ret2
  refine ⟨rfl, Below.trans (hb0.alloc hb0.size _).drew (hb4.mono ?_)⟩
  have := hb0.size
  simp; omega
set_option maxRecDepth 100000 in
set_option maxHeartbeats 1000000 in
theorem rmod_near (a b v : Int) (na : Bool) (ma mb r : Nat) (w : World) (ha1 : -9223372036854775808 ≤ a) (ha2 : a ≤ 9223372036854775807) (hb1 : -9223372036854775808 ≤ b) (hb2 : b ≤ 9223372036854775807) (hna : decide (a < 0) = na) (hnb : decide (b < 0) = na) (hma : a.natAbs = ma) (hmb : b.natAbs = mb) (t0 : (b == 0) = false) (t1 : ¬ (mb : Int) = 0) (t3 : ¬ mb = 0) (t4 : (mb == 0) = false) (e2 : (ma : Int).tmod (mb : Int) = (r : Int)) (hr : r < 18446744073709551616) (t5 : ((r : Int) != 0) = true) (hT : ∀ w, Calls Tryd.prog 97 #[.agg #[.bool na, .bool false, .int .u64 (r : Int)]] w fun e w' => e = .returned (.tuple #[.int .i64 v, .int .i64 0]) ∧ Below w.heap.size w w') :
    Calls Tryd.prog 69 #[.int .i64 a, .int .i64 b] w fun e w' => e = .returned (.tuple #[.int .i64 v, .int .i64 0]) ∧ Below w.heap.size w w' := by
  have H1 := Lib.hid (fun w => of_any a ma na w ha1 ha2 hma hna)
  have H2 := Lib.hid (fun w => of_any b mb na w hb1 hb2 hmb hnb)
  have e3 : IntKind.u64.wrap (r : Int) = (r : Int) := by simp [IntKind.wrap, IntKind.bits, IntKind.signed]; omega
  clear hna hnb hma hmb
  go_enter Tryd.func69, Tryd.ntmps69
  go_wp2_with (fail)
  refine (H1.out _).mono ?_
  rintro e w1 ⟨rfl, hb1⟩
  go_wp2_with (fail)
  refine (H2.out _).mono ?_
  rintro e w2 ⟨rfl, hb2⟩
  replace hb2 := hb1.trans (hb2.mono hb1.size)
  clear hb1
  go_wp2_with (fail)
  have hx : ((w2.alloc (Obj.cells #[.bool na, .bool false, .int .u64 (ma : Int)] 106)).alloc (Obj.cells #[.bool na, .bool false, .int .u64 (mb : Int)] 106)).heap[w2.heap.size]? = some (.cells #[.bool na, .bool false, .int .u64 (ma : Int)] 106 (0, 0)) := by
    rw [Below.heap_alloc _ _ _ (by simp), heap_alloc_new]
  have hy : ((w2.alloc (Obj.cells #[.bool na, .bool false, .int .u64 (ma : Int)] 106)).alloc (Obj.cells #[.bool na, .bool false, .int .u64 (mb : Int)] 106)).heap[w2.heap.size + 1]? = some (.cells #[.bool na, .bool false, .int .u64 (mb : Int)] 106 (0, 0)) := by
    rw [show w2.heap.size + 1 = (w2.alloc (Obj.cells #[.bool na, .bool false, .int .u64 (ma : Int)] 106)).heap.size by simp, heap_alloc_new]
  have hb0 : Below w.heap.size w ((w2.alloc (Obj.cells #[.bool na, .bool false, .int .u64 (ma : Int)] 106)).alloc (Obj.cells #[.bool na, .bool false, .int .u64 (mb : Int)] 106)) := (hb2.alloc hb2.size _).alloc (by have := hb2.size; simp; omega) _
  have hlt : w2.heap.size + 1 < ((w2.alloc (Obj.cells #[.bool na, .bool false, .int .u64 (ma : Int)] 106)).alloc (Obj.cells #[.bool na, .bool false, .int .u64 (mb : Int)] 106)).heap.size := by simp
  obtain ⟨x0, x1, x2⟩ := num_cells hx
  obtain ⟨y0, y1, y2⟩ := num_cells hy
  generalize ((w2.alloc (Obj.cells #[.bool na, .bool false, .int .u64 (ma : Int)] 106)).alloc (Obj.cells #[.bool na, .bool false, .int .u64 (mb : Int)] 106)) = W0 at *
  clear hx hy hb2
  go_region_held3 (fun w' => w'.cell? ⟨w2.heap.size, 0, none⟩ = some (.bool na) ∧ w'.cell? ⟨w2.heap.size, 2, none⟩ = some (.int .u64 (ma : Int)) ∧ w'.cell? ⟨w2.heap.size + 1, 2, none⟩ = some (.int .u64 (mb : Int)))
    (first | go_keep | (go_simp; done))
    (fail)
  have HT := Lib.hid hT
  clear hT
  go_wp2_with (fail)
  refine (HT.out _).mono ?_
  rintro e w4 ⟨rfl, hb4⟩
  go_wp2
  go_ret2
  refine ⟨rfl, Below.trans (hb0.alloc hb0.size _).drew (hb4.mono ?_)⟩
  have := hb0.size
  simp; omega
set_option maxRecDepth 100000 in
set_option maxHeartbeats 1000000 in
theorem rmod_far_t (a b v : Int) (n o : Bool) (ma mb r m : Nat) (w : World) (ha1 : -9223372036854775808 ≤ a) (ha2 : a ≤ 9223372036854775807) (hb1 : -9223372036854775808 ≤ b) (hb2 : b ≤ 9223372036854775807) (hna : decide (a < 0) = true) (hnb : decide (b < 0) = false) (hma : a.natAbs = ma) (hmb : b.natAbs = mb) (t0 : (b == 0) = false) (t1 : ¬ (mb : Int) = 0) (t3 : ¬ mb = 0) (t4 : (mb == 0) = false) (e2 : (ma : Int).tmod (mb : Int) = (r : Int)) (hr : r < 18446744073709551616) (t5 : ((r : Int) != 0) = true) (hS : ∀ w, Calls Tryd.prog 98 #[.agg #[.bool true, .bool false, .int .u64 (r : Int)], .agg #[.bool false, .bool false, .int .u64 (mb : Int)]] w fun e w' => e = .returned (.agg #[.bool n, .bool o, .int .u64 (m : Int)]) ∧ Below w.heap.size w w') (hT : ∀ w, Calls Tryd.prog 97 #[.agg #[.bool n, .bool o, .int .u64 (m : Int)]] w fun e w' => e = .returned (.tuple #[.int .i64 v, .int .i64 0]) ∧ Below w.heap.size w w') :
    Calls Tryd.prog 69 #[.int .i64 a, .int .i64 b] w fun e w' => e = .returned (.tuple #[.int .i64 v, .int .i64 0]) ∧ Below w.heap.size w w' := by
  have H1 := Lib.hid (fun w => of_any a ma true w ha1 ha2 hma hna)
  have H2 := Lib.hid (fun w => of_any b mb false w hb1 hb2 hmb hnb)
  have e3 : IntKind.u64.wrap (r : Int) = (r : Int) := by simp [IntKind.wrap, IntKind.bits, IntKind.signed]; omega
  clear hna hnb hma hmb
  have HT := Lib.hid hT
  have HS := Lib.hid hS
  clear hT hS
  go_enter Tryd.func69, Tryd.ntmps69
  go_wp2_with (fail)
  refine (H1.out _).mono ?_
  rintro e w1 ⟨rfl, hb1⟩
  go_wp2_with (fail)
  refine (H2.out _).mono ?_
  rintro e w2 ⟨rfl, hb2⟩
  replace hb2 := hb1.trans (hb2.mono hb1.size)
  clear hb1
  go_wp2_with (fail)
  have hx : ((w2.alloc (Obj.cells #[.bool true, .bool false, .int .u64 (ma : Int)] 106)).alloc (Obj.cells #[.bool false, .bool false, .int .u64 (mb : Int)] 106)).heap[w2.heap.size]? = some (.cells #[.bool true, .bool false, .int .u64 (ma : Int)] 106 (0, 0)) := by
    rw [Below.heap_alloc _ _ _ (by simp), heap_alloc_new]
  have hy : ((w2.alloc (Obj.cells #[.bool true, .bool false, .int .u64 (ma : Int)] 106)).alloc (Obj.cells #[.bool false, .bool false, .int .u64 (mb : Int)] 106)).heap[w2.heap.size + 1]? = some (.cells #[.bool false, .bool false, .int .u64 (mb : Int)] 106 (0, 0)) := by
    rw [show w2.heap.size + 1 = (w2.alloc (Obj.cells #[.bool true, .bool false, .int .u64 (ma : Int)] 106)).heap.size by simp, heap_alloc_new]
  have hb0 : Below w.heap.size w ((w2.alloc (Obj.cells #[.bool true, .bool false, .int .u64 (ma : Int)] 106)).alloc (Obj.cells #[.bool false, .bool false, .int .u64 (mb : Int)] 106)) := (hb2.alloc hb2.size _).alloc (by have := hb2.size; simp; omega) _
  have hlt : w2.heap.size + 1 < ((w2.alloc (Obj.cells #[.bool true, .bool false, .int .u64 (ma : Int)] 106)).alloc (Obj.cells #[.bool false, .bool false, .int .u64 (mb : Int)] 106)).heap.size := by simp
  obtain ⟨x0, x1, x2⟩ := num_cells hx
  obtain ⟨y0, y1, y2⟩ := num_cells hy
  generalize ((w2.alloc (Obj.cells #[.bool true, .bool false, .int .u64 (ma : Int)] 106)).alloc (Obj.cells #[.bool false, .bool false, .int .u64 (mb : Int)] 106)) = W0 at *
  clear hx hy hb2
  go_region_held3 (fun w' => w'.cell? ⟨w2.heap.size, 0, none⟩ = some (.bool true) ∧ w'.cell? ⟨w2.heap.size, 2, none⟩ = some (.int .u64 (ma : Int)) ∧ w'.cell? ⟨w2.heap.size + 1, 2, none⟩ = some (.int .u64 (mb : Int)))
    (first | go_keep | (go_simp; done))
    (fail)
  have hb5 : Below w.heap.size w (W0.alloc (Obj.cells #[.bool true, .bool false, .int .u64 (r : Int)] 106)).drew := (hb0.alloc hb0.size _).drew
  have hz : (W0.alloc (Obj.cells #[.bool true, .bool false, .int .u64 (r : Int)] 106)).drew.heap[W0.heap.size]? = some (.cells #[.bool true, .bool false, .int .u64 (r : Int)] 106 (0, 0)) := heap_alloc_new _ _
  have hY : ∀ j, (W0.alloc (Obj.cells #[.bool true, .bool false, .int .u64 (r : Int)] 106)).drew.cell? ⟨w2.heap.size + 1, j, none⟩ = W0.cell? ⟨w2.heap.size + 1, j, none⟩ := fun j => by go_simp
  have hl5 : W0.heap.size < (W0.alloc (Obj.cells #[.bool true, .bool false, .int .u64 (r : Int)] 106)).drew.heap.size := by simp
  obtain ⟨z0, z1, z2⟩ := num_cells hz
  replace y0 := (hY 0).trans y0
  replace y1 := (hY 1).trans y1
  replace y2 := (hY 2).trans y2
  have hz0 := hb0.size
  generalize (W0.alloc (Obj.cells #[.bool true, .bool false, .int .u64 (r : Int)] 106)).drew = W5 at *
  clear hY hb0 x0 x1 x2
  go_wp2_with (fail)
  refine (HS.out _).mono ?_
  rintro e w3 ⟨rfl, hb3⟩
  have hk := (hb3.block W0.heap.size hl5).trans hz
  obtain ⟨z3, z4, z5⟩ := num_cells hk
  have f3 := Lib.frozen_of_heap hk 0
  have f4 := Lib.frozen_of_heap hk 1
  have f5 := Lib.frozen_of_heap hk 2
  have hb6 := hb5.trans (hb3.mono hb5.size)
  clear hk hz hb3 z0 z1 z2
  go_wp2_with (fail)
  refine (HT.out _).mono ?_
  rintro e w4 ⟨rfl, hb4⟩
  go_wp2
  go_ret2
  refine ⟨rfl, Below.trans (((hb6.setCell (p := ⟨W0.heap.size, 0, none⟩) (by simp; omega) _).setCell (p := ⟨W0.heap.size, 1, none⟩) (by simp; omega) _).setCell (p := ⟨W0.heap.size, 2, none⟩) (by simp; omega) _) (hb4.mono ?_)⟩
  have := hb6.size
  simp; omega
set_option maxRecDepth 100000 in
set_option maxHeartbeats 1000000 in
theorem rmod_far_f (a b v : Int) (n o : Bool) (ma mb r m : Nat) (w : World) (ha1 : -9223372036854775808 ≤ a) (ha2 : a ≤ 9223372036854775807) (hb1 : -9223372036854775808 ≤ b) (hb2 : b ≤ 9223372036854775807) (hna : decide (a < 0) = false) (hnb : decide (b < 0) = true) (hma : a.natAbs = ma) (hmb : b.natAbs = mb) (t0 : (b == 0) = false) (t1 : ¬ (mb : Int) = 0) (t3 : ¬ mb = 0) (t4 : (mb == 0) = false) (e2 : (ma : Int).tmod (mb : Int) = (r : Int)) (hr : r < 18446744073709551616) (t5 : ((r : Int) != 0) = true) (hS : ∀ w, Calls Tryd.prog 98 #[.agg #[.bool false, .bool false, .int .u64 (r : Int)], .agg #[.bool true, .bool false, .int .u64 (mb : Int)]] w fun e w' => e = .returned (.agg #[.bool n, .bool o, .int .u64 (m : Int)]) ∧ Below w.heap.size w w') (hT : ∀ w, Calls Tryd.prog 97 #[.agg #[.bool n, .bool o, .int .u64 (m : Int)]] w fun e w' => e = .returned (.tuple #[.int .i64 v, .int .i64 0]) ∧ Below w.heap.size w w') :
    Calls Tryd.prog 69 #[.int .i64 a, .int .i64 b] w fun e w' => e = .returned (.tuple #[.int .i64 v, .int .i64 0]) ∧ Below w.heap.size w w' := by
  have H1 := Lib.hid (fun w => of_any a ma false w ha1 ha2 hma hna)
  have H2 := Lib.hid (fun w => of_any b mb true w hb1 hb2 hmb hnb)
  have e3 : IntKind.u64.wrap (r : Int) = (r : Int) := by simp [IntKind.wrap, IntKind.bits, IntKind.signed]; omega
  clear hna hnb hma hmb
  have HT := Lib.hid hT
  have HS := Lib.hid hS
  clear hT hS
  go_enter Tryd.func69, Tryd.ntmps69
  go_wp2_with (fail)
  refine (H1.out _).mono ?_
  rintro e w1 ⟨rfl, hb1⟩
  go_wp2_with (fail)
  refine (H2.out _).mono ?_
  rintro e w2 ⟨rfl, hb2⟩
  replace hb2 := hb1.trans (hb2.mono hb1.size)
  clear hb1
  go_wp2_with (fail)
  have hx : ((w2.alloc (Obj.cells #[.bool false, .bool false, .int .u64 (ma : Int)] 106)).alloc (Obj.cells #[.bool true, .bool false, .int .u64 (mb : Int)] 106)).heap[w2.heap.size]? = some (.cells #[.bool false, .bool false, .int .u64 (ma : Int)] 106 (0, 0)) := by
    rw [Below.heap_alloc _ _ _ (by simp), heap_alloc_new]
  have hy : ((w2.alloc (Obj.cells #[.bool false, .bool false, .int .u64 (ma : Int)] 106)).alloc (Obj.cells #[.bool true, .bool false, .int .u64 (mb : Int)] 106)).heap[w2.heap.size + 1]? = some (.cells #[.bool true, .bool false, .int .u64 (mb : Int)] 106 (0, 0)) := by
    rw [show w2.heap.size + 1 = (w2.alloc (Obj.cells #[.bool false, .bool false, .int .u64 (ma : Int)] 106)).heap.size by simp, heap_alloc_new]
  have hb0 : Below w.heap.size w ((w2.alloc (Obj.cells #[.bool false, .bool false, .int .u64 (ma : Int)] 106)).alloc (Obj.cells #[.bool true, .bool false, .int .u64 (mb : Int)] 106)) := (hb2.alloc hb2.size _).alloc (by have := hb2.size; simp; omega) _
  have hlt : w2.heap.size + 1 < ((w2.alloc (Obj.cells #[.bool false, .bool false, .int .u64 (ma : Int)] 106)).alloc (Obj.cells #[.bool true, .bool false, .int .u64 (mb : Int)] 106)).heap.size := by simp
  obtain ⟨x0, x1, x2⟩ := num_cells hx
  obtain ⟨y0, y1, y2⟩ := num_cells hy
  generalize ((w2.alloc (Obj.cells #[.bool false, .bool false, .int .u64 (ma : Int)] 106)).alloc (Obj.cells #[.bool true, .bool false, .int .u64 (mb : Int)] 106)) = W0 at *
  clear hx hy hb2
  go_region_held3 (fun w' => w'.cell? ⟨w2.heap.size, 0, none⟩ = some (.bool false) ∧ w'.cell? ⟨w2.heap.size, 2, none⟩ = some (.int .u64 (ma : Int)) ∧ w'.cell? ⟨w2.heap.size + 1, 2, none⟩ = some (.int .u64 (mb : Int)))
    (first | go_keep | (go_simp; done))
    (fail)
  have hb5 : Below w.heap.size w (W0.alloc (Obj.cells #[.bool false, .bool false, .int .u64 (r : Int)] 106)).drew := (hb0.alloc hb0.size _).drew
  have hz : (W0.alloc (Obj.cells #[.bool false, .bool false, .int .u64 (r : Int)] 106)).drew.heap[W0.heap.size]? = some (.cells #[.bool false, .bool false, .int .u64 (r : Int)] 106 (0, 0)) := heap_alloc_new _ _
  have hY : ∀ j, (W0.alloc (Obj.cells #[.bool false, .bool false, .int .u64 (r : Int)] 106)).drew.cell? ⟨w2.heap.size + 1, j, none⟩ = W0.cell? ⟨w2.heap.size + 1, j, none⟩ := fun j => by go_simp
  have hl5 : W0.heap.size < (W0.alloc (Obj.cells #[.bool false, .bool false, .int .u64 (r : Int)] 106)).drew.heap.size := by simp
  obtain ⟨z0, z1, z2⟩ := num_cells hz
  replace y0 := (hY 0).trans y0
  replace y1 := (hY 1).trans y1
  replace y2 := (hY 2).trans y2
  have hz0 := hb0.size
  generalize (W0.alloc (Obj.cells #[.bool false, .bool false, .int .u64 (r : Int)] 106)).drew = W5 at *
  clear hY hb0 x0 x1 x2
  go_wp2_with (fail)
  refine (HS.out _).mono ?_
  rintro e w3 ⟨rfl, hb3⟩
  have hk := (hb3.block W0.heap.size hl5).trans hz
  obtain ⟨z3, z4, z5⟩ := num_cells hk
  have f3 := Lib.frozen_of_heap hk 0
  have f4 := Lib.frozen_of_heap hk 1
  have f5 := Lib.frozen_of_heap hk 2
  have hb6 := hb5.trans (hb3.mono hb5.size)
  clear hk hz hb3 z0 z1 z2
  go_wp2_with (fail)
  refine (HT.out _).mono ?_
  rintro e w4 ⟨rfl, hb4⟩
  go_wp2
  go_ret2
  refine ⟨rfl, Below.trans (((hb6.setCell (p := ⟨W0.heap.size, 0, none⟩) (by simp; omega) _).setCell (p := ⟨W0.heap.size, 1, none⟩) (by simp; omega) _).setCell (p := ⟨W0.heap.size, 2, none⟩) (by simp; omega) _) (hb4.mono ?_)⟩
  have := hb6.size
  simp; omega
theorem fit_of {v : Int} (h : PowG.Fits v) : Ref.fitV v = v ∧ Ref.fitB v = true := by unfold Ref.fitV Ref.fitB; rw [if_pos h, decide_eq_true h]; exact ⟨rfl, rfl⟩
theorem fit_not {v : Int} (h : ¬ PowG.Fits v) : Ref.fitV v = 0 ∧ Ref.fitB v = false := by unfold Ref.fitV Ref.fitB; rw [if_neg h, decide_eq_false h]; exact ⟨rfl, rfl⟩
theorem rmod_any (a b v : Int) (w : World) (ha1 : -9223372036854775808 ≤ a) (ha2 : a ≤ 9223372036854775807) (hb1 : -9223372036854775808 ≤ b) (hb2 : b ≤ 9223372036854775807) (hb : b ≠ 0) (hv : Div.modV a b = v) :
    Calls Tryd.prog 69 #[.int .i64 a, .int .i64 b] w fun e w' => e = .returned (.tuple #[.int .i64 v, .int .i64 0]) ∧ Below w.heap.size w w' := by
  have hr : a.natAbs % b.natAbs < b.natAbs := Nat.mod_lt _ (by omega)
  have e2 : (a.natAbs : Int).tmod (b.natAbs : Int) = ((a.natAbs % b.natAbs : Nat) : Int) := by rw [Int.tmod_eq_emod_of_nonneg (by omega)]; omega
  have t0 : (b == 0) = false := by simpa using hb
  have hf : PowG.Fits v := by
    have := Div.modV_range a b hb
    rw [hv] at this
    unfold PowG.Fits
    rcases Int.lt_or_gt_of_ne hb with h | h
    · have := this.2 h; omega
    · have := this.1 h; omega
  have hz := Ref.tmod_zero a b
  have hval := Ref.val_mod a b
  have hbm : b.natAbs < 18446744073709551616 := abs_lt b hb1 hb2
  have hT : ∀ (n o : Bool) (m : Nat), Ref.rV n o m = Ref.fitV v → Ref.rB n o m = Ref.fitB v → ∀ w, Calls Tryd.prog 97 #[.agg #[.bool n, .bool o, .int .u64 (m : Int)]] w fun e w' => e = .returned (.tuple #[.int .i64 v, .int .i64 0]) ∧ Below w.heap.size w w' := fun n o m h1 h2 w => by
    have := told_any n o m v true w (h1.trans (fit_of hf).1) (h2.trans (fit_of hf).2)
    exact this
  have hlow : Ref.val (decide (a < 0)) (a.natAbs % b.natAbs) = v → ∀ w, Calls Tryd.prog 97 #[.agg #[.bool (decide (a < 0)), .bool false, .int .u64 ((a.natAbs % b.natAbs : Nat) : Int)]] w fun e w' => e = .returned (.tuple #[.int .i64 v, .int .i64 0]) ∧ Below w.heap.size w w' := fun h => hT _ _ _ (by unfold Ref.rV; rw [h]; rfl) (by unfold Ref.rB; rw [h]; rfl)
  by_cases h0 : a.natAbs % b.natAbs = 0
  · have hv0 : Ref.val (decide (a < 0)) (a.natAbs % b.natAbs) = v := by
      rw [hval, ← hv]; unfold Div.modV; rw [if_neg (fun h => h.1 (hz.1 h0))]
    exact rmod_same a b v _ _ _ _ _ w ha1 ha2 hb1 hb2 rfl rfl rfl rfl t0 (by omega) (by omega) (by simp; omega) e2 (by omega) (by rw [h0]; rfl) (hlow hv0)
  · have htm : a.tmod b ≠ 0 := fun h => h0 (hz.2 h)
    have hneg := Ref.tmod_neg a b htm
    have t5 : (((a.natAbs % b.natAbs : Nat) : Int) != 0) = true := by rw [bne_iff_ne]; omega
    by_cases hs : decide (a < 0) = decide (b < 0)
    · have hv0 : Ref.val (decide (a < 0)) (a.natAbs % b.natAbs) = v := by
        rw [hval, ← hv]; unfold Div.modV; rw [if_neg (by rw [hneg, hs]; simp)]
      exact rmod_near a b v _ _ _ _ w ha1 ha2 hb1 hb2 rfl hs.symm rfl rfl t0 (by omega) (by omega) (by simp; omega) e2 (by omega) t5 (hlow hv0)
    · have hv0 : a.tmod b + b = v := by
        rw [← hv]; unfold Div.modV; rw [if_pos ⟨htm, by rw [hneg]; simpa using hs⟩]
      have F := Ref.sum_fits (decide (a < 0)) (a.natAbs % b.natAbs) (decide (b < 0)) b.natAbs v (by omega) hbm (by rw [hval, Ref.val_neg]; exact hv0)
      have hS := fun w => sum_any (decide (a < 0)) false (decide (b < 0)) false _ _ (a.natAbs % b.natAbs) b.natAbs _ w (by omega) hbm rfl rfl rfl
      have hTT := hT _ _ _ F.1 F.2
      by_cases hna : a < 0
      · have hnb : ¬ b < 0 := fun h => hs (by rw [decide_eq_true hna, decide_eq_true h])
        rw [decide_eq_true hna, decide_eq_false hnb] at hS hTT
        exact rmod_far_t a b v _ _ _ _ _ _ w ha1 ha2 hb1 hb2 (decide_eq_true hna) (decide_eq_false hnb) rfl rfl t0 (by omega) (by omega) (by simp; omega) e2 (by omega) t5 hS hTT
      · have hnb : b < 0 := by
          by_cases h : b < 0
          · exact h
          · exact absurd (by rw [decide_eq_false hna, decide_eq_false h]) hs
        rw [decide_eq_false hna, decide_eq_true hnb] at hS hTT
        exact rmod_far_f a b v _ _ _ _ _ _ w ha1 ha2 hb1 hb2 (decide_eq_false hna) (decide_eq_true hnb) rfl rfl t0 (by omega) (by omega) (by simp; omega) e2 (by omega) t5 hS hTT
theorem field2 (n o : Bool) (m : Int) (w : World) : (Instr.field 106 (.agg #[.bool n, .bool o, .int .u64 m]) 2).run Tryd.prog w = .ok (.int .u64 m) w := by kernel_rfl
theorem rV_pos (m : Nat) : Ref.rV false false m = Ref.fitV (m : Int) := rfl
theorem rB_pos (m : Nat) : Ref.rB false false m = Ref.fitB (m : Int) := by unfold Ref.rB; rfl
set_option maxRecDepth 100000 in
theorem rgcd2_any (a b v : Int) (t : Bool) (w : World) (ha1 : -9223372036854775808 ≤ a) (ha2 : a ≤ 9223372036854775807) (hb1 : -9223372036854775808 ≤ b) (hb2 : b ≤ 9223372036854775807) (hv : Ref.fitV ((Nat.gcd a.natAbs b.natAbs : Nat) : Int) = v) (ht : Ref.fitB ((Nat.gcd a.natAbs b.natAbs : Nat) : Int) = t) :
    Calls Tryd.prog 71 #[.int .i64 a, .int .i64 b] w fun e w' => e = .returned (.tuple #[.int .i64 v, .int .i64 (cond t 0 13)]) ∧ Below w.heap.size w w' := by
  have H1 := Lib.hid (fun w => of_any a a.natAbs (decide (a < 0)) w ha1 ha2 rfl rfl)
  have H2 := Lib.hid (fun w => of_any b b.natAbs (decide (b < 0)) w hb1 hb2 rfl rfl)
  have H3 := Lib.hid (fun w => rgcd_any a.natAbs b.natAbs _ w (by have := abs_lt a ha1 ha2; omega) (by have := abs_lt b hb1 hb2; omega) rfl)
  have H4 := Lib.hid (fun w => told_any false false _ v t w ((rV_pos _).trans hv) ((rB_pos _).trans ht))
  generalize Nat.gcd a.natAbs b.natAbs = g at *
  generalize decide (a < 0) = na at *
  generalize decide (b < 0) = nb at *
  generalize a.natAbs = ma at *
  generalize b.natAbs = mb at *
  clear hv ht
  have hfl := field2
  go_enter Tryd.func71, Tryd.ntmps71
  go_wp2_with (fail)
  refine (H1.out _).mono ?_
  rintro e w1 ⟨rfl, hb1⟩
  go_wp2_with (fail)
  refine (H2.out _).mono ?_
  rintro e w2 ⟨rfl, hb2⟩
  replace hb2 := hb1.trans (hb2.mono hb1.size)
  clear hb1
  go_wp2_with (fail)
  refine (H3.out _).mono ?_
  rintro e w' ⟨rfl, rfl⟩
  go_wp2_with (fail)
  refine (H4.out _).mono ?_
  rintro e w4 ⟨rfl, hb4⟩
  replace hb4 := hb2.trans (hb4.mono hb2.size)
  clear hb2
  go_wp2
  go_ret2
  exact ⟨rfl, hb4⟩
theorem rlcm_zero1 (b : Int) (w : World) : Calls Tryd.prog 72 #[.int .i64 0, .int .i64 b] w fun e w' => e = .returned (.tuple #[.int .i64 0, .int .i64 0]) ∧ Below w.heap.size w w' := by
  go_enter Tryd.func72, Tryd.ntmps72
  go_wp2
  go_ret2
  exact ⟨rfl, Below.refl _ _⟩
theorem rlcm_zero2 (a : Int) (w : World) : Calls Tryd.prog 72 #[.int .i64 a, .int .i64 0] w fun e w' => e = .returned (.tuple #[.int .i64 0, .int .i64 0]) ∧ Below w.heap.size w w' := by
  by_cases h : (a == 0) = true
  · go_enter Tryd.func72, Tryd.ntmps72
    go_wp2
    go_ret2
    exact ⟨rfl, Below.refl _ _⟩
  · have h' : (a == 0) = false := by simpa using h
    clear h
    go_enter Tryd.func72, Tryd.ntmps72
    go_wp2
    go_ret2
    exact ⟨rfl, Below.refl _ _⟩
set_option maxRecDepth 100000 in
theorem rlcm_any (a b v : Int) (t : Bool) (w : World) (ha1 : -9223372036854775808 ≤ a) (ha2 : a ≤ 9223372036854775807) (hb1 : -9223372036854775808 ≤ b) (hb2 : b ≤ 9223372036854775807) (ha0 : a ≠ 0) (hb0 : b ≠ 0) (hv : Ref.fitV ((a.natAbs / Nat.gcd a.natAbs b.natAbs * b.natAbs : Nat) : Int) = v) (ht : Ref.fitB ((a.natAbs / Nat.gcd a.natAbs b.natAbs * b.natAbs : Nat) : Int) = t) :
    Calls Tryd.prog 72 #[.int .i64 a, .int .i64 b] w fun e w' => e = .returned (.tuple #[.int .i64 v, .int .i64 (cond t 0 13)]) ∧ Below w.heap.size w w' := by
  have hq := Nat.div_le_self a.natAbs (Nat.gcd a.natAbs b.natAbs)
  have hma := abs_lt a ha1 ha2
  have hg0 : Nat.gcd a.natAbs b.natAbs ≠ 0 := by
    intro e
    have := (Nat.gcd_eq_zero_iff.1 e).1
    omega
  have F := Ref.prod_fits false (a.natAbs / Nat.gcd a.natAbs b.natAbs) false b.natAbs ((a.natAbs / Nat.gcd a.natAbs b.natAbs * b.natAbs : Nat) : Int) (by show ((_ : Nat) : Int) * ((_ : Nat) : Int) = _; push_cast; rfl)
  rw [hv, ht] at F
  have H1 := Lib.hid (fun w => of_any a a.natAbs (decide (a < 0)) w ha1 ha2 rfl rfl)
  have H2 := Lib.hid (fun w => of_any b b.natAbs (decide (b < 0)) w hb1 hb2 rfl rfl)
  have H3 := Lib.hid (fun w => rgcd_any a.natAbs b.natAbs _ w (by have := abs_lt a ha1 ha2; omega) (by have := abs_lt b hb1 hb2; omega) rfl)
  have H5 := Lib.hid (fun w => prod_any false false _ _ (a.natAbs / Nat.gcd a.natAbs b.natAbs) b.natAbs _ w (by omega) (abs_lt b hb1 hb2) rfl rfl rfl)
  have H4 := Lib.hid (fun w => told_any _ _ _ v t w F.1 F.2)
  have e2 : (a.natAbs : Int).tdiv ((Nat.gcd a.natAbs b.natAbs : Nat) : Int) = ((a.natAbs / Nat.gcd a.natAbs b.natAbs : Nat) : Int) := by rw [Int.tdiv_eq_ediv_of_nonneg (by omega)]; rfl
  have t0 : (a == 0) = false := by simpa using ha0
  have t1 : (b == 0) = false := by simpa using hb0
  generalize Ref.prodO (a.natAbs / Nat.gcd a.natAbs b.natAbs) b.natAbs = o at *
  generalize Ref.prodM (a.natAbs / Nat.gcd a.natAbs b.natAbs) b.natAbs = m at *
  clear hv ht F
  generalize a.natAbs / Nat.gcd a.natAbs b.natAbs = q at *
  generalize Nat.gcd a.natAbs b.natAbs = g at *
  generalize decide (a < 0) = na at *
  generalize decide (b < 0) = nb at *
  generalize a.natAbs = ma at *
  generalize b.natAbs = mb at *
  have t2 : ¬ (g : Int) = 0 := by omega
  have t4 : (g == 0) = false := by simpa using hg0
  have e3 : IntKind.u64.wrap (q : Int) = (q : Int) := by simp [IntKind.wrap, IntKind.bits, IntKind.signed]; omega
  simp only [bne_self_eq_false] at *
  clear ha0 hb0
  have hfl := field2
  go_enter Tryd.func72, Tryd.ntmps72
  go_wp2_with (fail)
  refine (H1.out _).mono ?_
  rintro e w1 ⟨rfl, hb1⟩
  go_wp2_with (fail)
  refine (H2.out _).mono ?_
  rintro e w2 ⟨rfl, hb2⟩
  replace hb2 := hb1.trans (hb2.mono hb1.size)
  clear hb1
  go_wp2_with (fail)
  refine (H3.out _).mono ?_
  rintro e w' ⟨rfl, rfl⟩
  go_wp2_with (fail)
  refine (H5.out _).mono ?_
  rintro e w3 ⟨rfl, hb3⟩
  replace hb3 := hb2.trans (hb3.mono hb2.size)
  clear hb2
  go_wp2_with (fail)
  refine (H4.out _).mono ?_
  rintro e w4 ⟨rfl, hb4⟩
  replace hb4 := hb3.trans (hb4.mono hb3.size)
  clear hb3
  go_wp2
  go_ret2
  exact ⟨rfl, hb4⟩
end Go.Proofs.YtedcfddbfpgeaaaDoor
