/- The walk of quadrillelaw4.ValueOrder. -/
import Derived.Test.YtedcfddbfpgeaabDoorValI
namespace Go.Proofs.YtedcfddbfpgeaabDoor
open Go.RowKit
set_option linter.unusedVariables false

set_option maxRecDepth 100000 in
set_option maxHeartbeats 3200000 in
theorem order_a1 (ak an bk bn ck cn : Int) (at' bt ct : ByteArray) (x y z x' : Int) (w : World) (e0 : IntKind.i64.wrap (-x') = x) (c1 : decide (x < -1) = false) (c2 : decide (1 < x) = false) 
    (HB0 : ∀ w', Below w.heap.size w w' → Calls Tryd.prog 8 #[] w' fun e w'' => e = .returned (.bool true) ∧ Below w'.heap.size w' w'')
    (K10 : ∀ w', Below w.heap.size w w' → Calls Tryd.prog 16 #[.agg #[.int .i64 ak, .int .i64 an, .string at'], .agg #[.int .i64 bk, .int .i64 bn, .string bt]] w' fun e w'' => e = .returned (.int .i64 x) ∧ Below w'.heap.size w' w'')
    (K20 : ∀ w', Below w.heap.size w w' → Calls Tryd.prog 16 #[.agg #[.int .i64 bk, .int .i64 bn, .string bt], .agg #[.int .i64 ck, .int .i64 cn, .string ct]] w' fun e w'' => e = .returned (.int .i64 y) ∧ Below w'.heap.size w' w'')
    (K30 : ∀ w', Below w.heap.size w w' → Calls Tryd.prog 16 #[.agg #[.int .i64 ak, .int .i64 an, .string at'], .agg #[.int .i64 ck, .int .i64 cn, .string ct]] w' fun e w'' => e = .returned (.int .i64 z) ∧ Below w'.heap.size w' w'')
    (K40 : ∀ w', Below w.heap.size w w' → Calls Tryd.prog 16 #[.agg #[.int .i64 bk, .int .i64 bn, .string bt], .agg #[.int .i64 ak, .int .i64 an, .string at']] w' fun e w'' => e = .returned (.int .i64 x') ∧ Below w'.heap.size w' w'')
    (K50 : ∀ w', Below w.heap.size w w' → Calls Tryd.prog 16 #[.agg #[.int .i64 ak, .int .i64 an, .string at'], .agg #[.int .i64 ak, .int .i64 an, .string at']] w' fun e w'' => e = .returned (.int .i64 0) ∧ Below w'.heap.size w' w'')
    (M10 : ∀ w', Below w.heap.size w w' → Calls Tryd.prog 11 #[.agg #[.int .i64 ak, .int .i64 an, .string at']] w' fun e w'' => e = .returned (.bool false) ∧ Below w'.heap.size w' w'')
    : Calls Tryd.prog 6 #[.agg #[.int .i64 ak, .int .i64 an, .string at'], .agg #[.int .i64 bk, .int .i64 bn, .string bt], .agg #[.int .i64 ck, .int .i64 cn, .string ct]] w fun e w' => e = .returned (.bool true) ∧ Below w.heap.size w w' := by
  have HB := Lib.hid HB0
  have K1 := Lib.hid K10
  have K2 := Lib.hid K20
  have K3 := Lib.hid K30
  have K4 := Lib.hid K40
  have K5 := Lib.hid K50
  have M1 := Lib.hid M10
  clear HB0 K10 K20 K30 K40 K50 M10
  have HE0 := Lib.hid e0
  clear e0
  go_enter Tryd.func6, Tryd.ntmps6
  go_upto_region 1 with (fail)
  have hx : (((w.alloc (Obj.cells #[.int .i64 ak, .int .i64 an, .string at'] 26)).alloc (Obj.cells #[.int .i64 bk, .int .i64 bn, .string bt] 26)).alloc (Obj.cells #[.int .i64 ck, .int .i64 cn, .string ct] 26)).heap[w.heap.size]? = some (.cells #[.int .i64 ak, .int .i64 an, .string at'] 26 (0, 0)) := (Below.heap_alloc _ _ w.heap.size (by simp; omega)).trans ((Below.heap_alloc _ _ w.heap.size (by simp)).trans (heap_alloc_new _ _))
  have hy : (((w.alloc (Obj.cells #[.int .i64 ak, .int .i64 an, .string at'] 26)).alloc (Obj.cells #[.int .i64 bk, .int .i64 bn, .string bt] 26)).alloc (Obj.cells #[.int .i64 ck, .int .i64 cn, .string ct] 26)).heap[w.heap.size + 1]? = some (.cells #[.int .i64 bk, .int .i64 bn, .string bt] 26 (0, 0)) := (Below.heap_alloc _ _ (w.heap.size + 1) (by simp)).trans (by
    rw [show w.heap.size + 1 = (w.alloc (Obj.cells #[.int .i64 ak, .int .i64 an, .string at'] 26)).heap.size by simp]; exact heap_alloc_new _ _)
  have hz : (((w.alloc (Obj.cells #[.int .i64 ak, .int .i64 an, .string at'] 26)).alloc (Obj.cells #[.int .i64 bk, .int .i64 bn, .string bt] 26)).alloc (Obj.cells #[.int .i64 ck, .int .i64 cn, .string ct] 26)).heap[w.heap.size + 1 + 1]? = some (.cells #[.int .i64 ck, .int .i64 cn, .string ct] 26 (0, 0)) := by
    rw [show w.heap.size + 1 + 1 = ((w.alloc (Obj.cells #[.int .i64 ak, .int .i64 an, .string at'] 26)).alloc (Obj.cells #[.int .i64 bk, .int .i64 bn, .string bt] 26)).heap.size by simp]; exact heap_alloc_new _ _
  have hb : Below w.heap.size w (((w.alloc (Obj.cells #[.int .i64 ak, .int .i64 an, .string at'] 26)).alloc (Obj.cells #[.int .i64 bk, .int .i64 bn, .string bt] 26)).alloc (Obj.cells #[.int .i64 ck, .int .i64 cn, .string ct] 26)) := (((Below.refl _ _).alloc (Nat.le_refl w.heap.size) _).alloc (by simp) _).alloc (by simp; omega) _
  have hl : w.heap.size + 1 + 1 < (((w.alloc (Obj.cells #[.int .i64 ak, .int .i64 an, .string at'] 26)).alloc (Obj.cells #[.int .i64 bk, .int .i64 bn, .string bt] 26)).alloc (Obj.cells #[.int .i64 ck, .int .i64 cn, .string ct] 26)).heap.size := by simp
  generalize (((w.alloc (Obj.cells #[.int .i64 ak, .int .i64 an, .string at'] 26)).alloc (Obj.cells #[.int .i64 bk, .int .i64 bn, .string bt] 26)).alloc (Obj.cells #[.int .i64 ck, .int .i64 cn, .string ct] 26)) = W0 at *
  obtain ⟨x0, x1, x2⟩ := val_cells hx
  obtain ⟨y0, y1, y2⟩ := val_cells hy
  obtain ⟨z0, z1, z2⟩ := val_cells hz
  go_wp2_with (fail)
  refine (HB.out _ hb).mono ?_
  rintro e w1 ⟨rfl, hb1⟩
  replace hx := (hb1.block w.heap.size (by omega)).trans hx
  replace hy := (hb1.block (w.heap.size + 1) (by omega)).trans hy
  replace hz := (hb1.block (w.heap.size + 1 + 1) (by omega)).trans hz
  replace hb := hb.trans (hb1.mono hb.size)
  replace hl := Nat.lt_of_lt_of_le hl hb1.size
  clear hb1 x0 x1 x2 y0 y1 y2 z0 z1 z2
  obtain ⟨x0, x1, x2⟩ := val_cells hx
  obtain ⟨y0, y1, y2⟩ := val_cells hy
  obtain ⟨z0, z1, z2⟩ := val_cells hz
  go_upto_region 3 with (fail)
  go_cut [7, 8, 9] (fun s7 s8 s9 wx => s7 = .int .i64 x ∧ s8 = .int .i64 y ∧ s9 = .int .i64 z ∧ Below w.heap.size w wx ∧ wx.heap[w.heap.size]? = some (.cells #[.int .i64 ak, .int .i64 an, .string at'] 26 (0, 0)) ∧ wx.heap[w.heap.size + 1]? = some (.cells #[.int .i64 bk, .int .i64 bn, .string bt] 26 (0, 0)) ∧ wx.heap[w.heap.size + 1 + 1]? = some (.cells #[.int .i64 ck, .int .i64 cn, .string ct] 26 (0, 0)) ∧ w.heap.size + 1 + 1 < wx.heap.size)
  case first =>
    go_region_held3 (fun w' => w'.cell? ⟨w.heap.size, 0, none⟩ = some (.int .i64 ak) ∧ w'.cell? ⟨w.heap.size, 1, none⟩ = some (.int .i64 an) ∧ w'.cell? ⟨w.heap.size, 2, none⟩ = some (.string at') ∧ w'.cell? ⟨w.heap.size + 1, 0, none⟩ = some (.int .i64 bk) ∧ w'.cell? ⟨w.heap.size + 1, 1, none⟩ = some (.int .i64 bn) ∧ w'.cell? ⟨w.heap.size + 1, 2, none⟩ = some (.string bt) ∧ w'.cell? ⟨w.heap.size + 1 + 1, 0, none⟩ = some (.int .i64 ck) ∧ w'.cell? ⟨w.heap.size + 1 + 1, 1, none⟩ = some (.int .i64 cn) ∧ w'.cell? ⟨w.heap.size + 1 + 1, 2, none⟩ = some (.string ct))
      (first | go_keep | exact ⟨x0, x1, x2, y0, y1, y2, z0, z1, z2⟩)
      ((go_at_call 16; (first | (with_reducible refine (K1.out _ ?_).mono ?_; (first | exact hb | exact hb.drew)) | (with_reducible refine (K2.out _ ?_).mono ?_; (first | exact hb | exact hb.drew)) | (with_reducible refine (K3.out _ ?_).mono ?_; (first | exact hb | exact hb.drew))); rintro e v ⟨rfl, hbn⟩; clear x0 x1 x2 y0 y1 y2 z0 z1 z2; replace hx := (hbn.block w.heap.size (Nat.lt_of_succ_lt (Nat.lt_of_succ_lt hl))).trans hx; replace hy := (hbn.block (w.heap.size + 1) (Nat.lt_of_succ_lt hl)).trans hy; replace hz := (hbn.block (w.heap.size + 1 + 1) hl).trans hz; replace hb : Below w.heap.size w v := (by first | exact hb.trans (hbn.mono hb.size) | exact hb.drew.trans (hbn.mono hb.size)); replace hl := Nat.lt_of_lt_of_le hl hbn.size; clear hbn; obtain ⟨x0, x1, x2⟩ := val_cells hx; obtain ⟨y0, y1, y2⟩ := val_cells hy; obtain ⟨z0, z1, z2⟩ := val_cells hz))
    all_goals
      go_wp2_with (fail)
      go_meet
      exact ⟨rfl, rfl, rfl, hb, hx, hy, hz, hl⟩
  case rest =>
  clear hx hy hz hb hl x0 x1 x2 y0 y1 y2 z0 z1 z2 K1 K2 K3
  obtain ⟨rfl, rfl, rfl, hb, hx, hy, hz, hl⟩ := hcut
  obtain ⟨x0, x1, x2⟩ := val_cells hx
  obtain ⟨y0, y1, y2⟩ := val_cells hy
  obtain ⟨z0, z1, z2⟩ := val_cells hz
  have e0 := HE0.out
  go_wp2_with (fail)
  refine (K4.out _ hb).mono ?_
  rintro e w2 ⟨rfl, hb2⟩
  replace hx := (hb2.block w.heap.size (by omega)).trans hx
  replace hy := (hb2.block (w.heap.size + 1) (by omega)).trans hy
  replace hz := (hb2.block (w.heap.size + 1 + 1) (by omega)).trans hz
  replace hb := hb.trans (hb2.mono hb.size)
  replace hl := Nat.lt_of_lt_of_le hl hb2.size
  clear hb2 x0 x1 x2 y0 y1 y2 z0 z1 z2
  obtain ⟨x0, x1, x2⟩ := val_cells hx
  obtain ⟨y0, y1, y2⟩ := val_cells hy
  obtain ⟨z0, z1, z2⟩ := val_cells hz
  go_wp2_with (fail)
  refine (K5.out _ hb).mono ?_
  rintro e w3 ⟨rfl, hb3⟩
  replace hx := (hb3.block w.heap.size (by omega)).trans hx
  replace hy := (hb3.block (w.heap.size + 1) (by omega)).trans hy
  replace hz := (hb3.block (w.heap.size + 1 + 1) (by omega)).trans hz
  replace hb := hb.trans (hb3.mono hb.size)
  replace hl := Nat.lt_of_lt_of_le hl hb3.size
  clear hb3 x0 x1 x2 y0 y1 y2 z0 z1 z2
  obtain ⟨x0, x1, x2⟩ := val_cells hx
  obtain ⟨y0, y1, y2⟩ := val_cells hy
  obtain ⟨z0, z1, z2⟩ := val_cells hz
  go_wp2_with (fail)
  refine (M1.out _ hb).mono ?_
  rintro e w4 ⟨rfl, hb4⟩
  replace hx := (hb4.block w.heap.size (by omega)).trans hx
  replace hy := (hb4.block (w.heap.size + 1) (by omega)).trans hy
  replace hz := (hb4.block (w.heap.size + 1 + 1) (by omega)).trans hz
  replace hb := hb.trans (hb4.mono hb.size)
  replace hl := Nat.lt_of_lt_of_le hl hb4.size
  clear hb4 x0 x1 x2 y0 y1 y2 z0 z1 z2
  obtain ⟨x0, x1, x2⟩ := val_cells hx
  obtain ⟨y0, y1, y2⟩ := val_cells hy
  obtain ⟨z0, z1, z2⟩ := val_cells hz
  go_wp2
  go_ret
  exact ⟨rfl, hb⟩


set_option maxRecDepth 100000 in
set_option maxHeartbeats 3200000 in
theorem order_a2 (ak an bk bn ck cn : Int) (at' bt ct : ByteArray) (x y z x' : Int) (w : World) (e0 : IntKind.i64.wrap (-x') = x) (c1 : decide (x < -1) = false) (c2 : decide (1 < x) = false) 
    (HB0 : ∀ w', Below w.heap.size w w' → Calls Tryd.prog 8 #[] w' fun e w'' => e = .returned (.bool true) ∧ Below w'.heap.size w' w'')
    (K10 : ∀ w', Below w.heap.size w w' → Calls Tryd.prog 16 #[.agg #[.int .i64 ak, .int .i64 an, .string at'], .agg #[.int .i64 bk, .int .i64 bn, .string bt]] w' fun e w'' => e = .returned (.int .i64 x) ∧ Below w'.heap.size w' w'')
    (K20 : ∀ w', Below w.heap.size w w' → Calls Tryd.prog 16 #[.agg #[.int .i64 bk, .int .i64 bn, .string bt], .agg #[.int .i64 ck, .int .i64 cn, .string ct]] w' fun e w'' => e = .returned (.int .i64 y) ∧ Below w'.heap.size w' w'')
    (K30 : ∀ w', Below w.heap.size w w' → Calls Tryd.prog 16 #[.agg #[.int .i64 ak, .int .i64 an, .string at'], .agg #[.int .i64 ck, .int .i64 cn, .string ct]] w' fun e w'' => e = .returned (.int .i64 z) ∧ Below w'.heap.size w' w'')
    (K40 : ∀ w', Below w.heap.size w w' → Calls Tryd.prog 16 #[.agg #[.int .i64 bk, .int .i64 bn, .string bt], .agg #[.int .i64 ak, .int .i64 an, .string at']] w' fun e w'' => e = .returned (.int .i64 x') ∧ Below w'.heap.size w' w'')
    (K50 : ∀ w', Below w.heap.size w w' → Calls Tryd.prog 16 #[.agg #[.int .i64 ak, .int .i64 an, .string at'], .agg #[.int .i64 ak, .int .i64 an, .string at']] w' fun e w'' => e = .returned (.int .i64 0) ∧ Below w'.heap.size w' w'')
    (M10 : ∀ w', Below w.heap.size w w' → Calls Tryd.prog 11 #[.agg #[.int .i64 ak, .int .i64 an, .string at']] w' fun e w'' => e = .returned (.bool true) ∧ Below w'.heap.size w' w'')
    (M20 : ∀ w', Below w.heap.size w w' → Calls Tryd.prog 11 #[.agg #[.int .i64 bk, .int .i64 bn, .string bt]] w' fun e w'' => e = .returned (.bool false) ∧ Below w'.heap.size w' w'')
    : Calls Tryd.prog 6 #[.agg #[.int .i64 ak, .int .i64 an, .string at'], .agg #[.int .i64 bk, .int .i64 bn, .string bt], .agg #[.int .i64 ck, .int .i64 cn, .string ct]] w fun e w' => e = .returned (.bool true) ∧ Below w.heap.size w w' := by
  have HB := Lib.hid HB0
  have K1 := Lib.hid K10
  have K2 := Lib.hid K20
  have K3 := Lib.hid K30
  have K4 := Lib.hid K40
  have K5 := Lib.hid K50
  have M1 := Lib.hid M10
  have M2 := Lib.hid M20
  clear HB0 K10 K20 K30 K40 K50 M10 M20
  have HE0 := Lib.hid e0
  clear e0
  go_enter Tryd.func6, Tryd.ntmps6
  go_upto_region 1 with (fail)
  have hx : (((w.alloc (Obj.cells #[.int .i64 ak, .int .i64 an, .string at'] 26)).alloc (Obj.cells #[.int .i64 bk, .int .i64 bn, .string bt] 26)).alloc (Obj.cells #[.int .i64 ck, .int .i64 cn, .string ct] 26)).heap[w.heap.size]? = some (.cells #[.int .i64 ak, .int .i64 an, .string at'] 26 (0, 0)) := (Below.heap_alloc _ _ w.heap.size (by simp; omega)).trans ((Below.heap_alloc _ _ w.heap.size (by simp)).trans (heap_alloc_new _ _))
  have hy : (((w.alloc (Obj.cells #[.int .i64 ak, .int .i64 an, .string at'] 26)).alloc (Obj.cells #[.int .i64 bk, .int .i64 bn, .string bt] 26)).alloc (Obj.cells #[.int .i64 ck, .int .i64 cn, .string ct] 26)).heap[w.heap.size + 1]? = some (.cells #[.int .i64 bk, .int .i64 bn, .string bt] 26 (0, 0)) := (Below.heap_alloc _ _ (w.heap.size + 1) (by simp)).trans (by
    rw [show w.heap.size + 1 = (w.alloc (Obj.cells #[.int .i64 ak, .int .i64 an, .string at'] 26)).heap.size by simp]; exact heap_alloc_new _ _)
  have hz : (((w.alloc (Obj.cells #[.int .i64 ak, .int .i64 an, .string at'] 26)).alloc (Obj.cells #[.int .i64 bk, .int .i64 bn, .string bt] 26)).alloc (Obj.cells #[.int .i64 ck, .int .i64 cn, .string ct] 26)).heap[w.heap.size + 1 + 1]? = some (.cells #[.int .i64 ck, .int .i64 cn, .string ct] 26 (0, 0)) := by
    rw [show w.heap.size + 1 + 1 = ((w.alloc (Obj.cells #[.int .i64 ak, .int .i64 an, .string at'] 26)).alloc (Obj.cells #[.int .i64 bk, .int .i64 bn, .string bt] 26)).heap.size by simp]; exact heap_alloc_new _ _
  have hb : Below w.heap.size w (((w.alloc (Obj.cells #[.int .i64 ak, .int .i64 an, .string at'] 26)).alloc (Obj.cells #[.int .i64 bk, .int .i64 bn, .string bt] 26)).alloc (Obj.cells #[.int .i64 ck, .int .i64 cn, .string ct] 26)) := (((Below.refl _ _).alloc (Nat.le_refl w.heap.size) _).alloc (by simp) _).alloc (by simp; omega) _
  have hl : w.heap.size + 1 + 1 < (((w.alloc (Obj.cells #[.int .i64 ak, .int .i64 an, .string at'] 26)).alloc (Obj.cells #[.int .i64 bk, .int .i64 bn, .string bt] 26)).alloc (Obj.cells #[.int .i64 ck, .int .i64 cn, .string ct] 26)).heap.size := by simp
  generalize (((w.alloc (Obj.cells #[.int .i64 ak, .int .i64 an, .string at'] 26)).alloc (Obj.cells #[.int .i64 bk, .int .i64 bn, .string bt] 26)).alloc (Obj.cells #[.int .i64 ck, .int .i64 cn, .string ct] 26)) = W0 at *
  obtain ⟨x0, x1, x2⟩ := val_cells hx
  obtain ⟨y0, y1, y2⟩ := val_cells hy
  obtain ⟨z0, z1, z2⟩ := val_cells hz
  go_wp2_with (fail)
  refine (HB.out _ hb).mono ?_
  rintro e w1 ⟨rfl, hb1⟩
  replace hx := (hb1.block w.heap.size (by omega)).trans hx
  replace hy := (hb1.block (w.heap.size + 1) (by omega)).trans hy
  replace hz := (hb1.block (w.heap.size + 1 + 1) (by omega)).trans hz
  replace hb := hb.trans (hb1.mono hb.size)
  replace hl := Nat.lt_of_lt_of_le hl hb1.size
  clear hb1 x0 x1 x2 y0 y1 y2 z0 z1 z2
  obtain ⟨x0, x1, x2⟩ := val_cells hx
  obtain ⟨y0, y1, y2⟩ := val_cells hy
  obtain ⟨z0, z1, z2⟩ := val_cells hz
  go_upto_region 3 with (fail)
  go_cut [7, 8, 9] (fun s7 s8 s9 wx => s7 = .int .i64 x ∧ s8 = .int .i64 y ∧ s9 = .int .i64 z ∧ Below w.heap.size w wx ∧ wx.heap[w.heap.size]? = some (.cells #[.int .i64 ak, .int .i64 an, .string at'] 26 (0, 0)) ∧ wx.heap[w.heap.size + 1]? = some (.cells #[.int .i64 bk, .int .i64 bn, .string bt] 26 (0, 0)) ∧ wx.heap[w.heap.size + 1 + 1]? = some (.cells #[.int .i64 ck, .int .i64 cn, .string ct] 26 (0, 0)) ∧ w.heap.size + 1 + 1 < wx.heap.size)
  case first =>
    go_region_held3 (fun w' => w'.cell? ⟨w.heap.size, 0, none⟩ = some (.int .i64 ak) ∧ w'.cell? ⟨w.heap.size, 1, none⟩ = some (.int .i64 an) ∧ w'.cell? ⟨w.heap.size, 2, none⟩ = some (.string at') ∧ w'.cell? ⟨w.heap.size + 1, 0, none⟩ = some (.int .i64 bk) ∧ w'.cell? ⟨w.heap.size + 1, 1, none⟩ = some (.int .i64 bn) ∧ w'.cell? ⟨w.heap.size + 1, 2, none⟩ = some (.string bt) ∧ w'.cell? ⟨w.heap.size + 1 + 1, 0, none⟩ = some (.int .i64 ck) ∧ w'.cell? ⟨w.heap.size + 1 + 1, 1, none⟩ = some (.int .i64 cn) ∧ w'.cell? ⟨w.heap.size + 1 + 1, 2, none⟩ = some (.string ct))
      (first | go_keep | exact ⟨x0, x1, x2, y0, y1, y2, z0, z1, z2⟩)
      ((go_at_call 16; (first | (with_reducible refine (K1.out _ ?_).mono ?_; (first | exact hb | exact hb.drew)) | (with_reducible refine (K2.out _ ?_).mono ?_; (first | exact hb | exact hb.drew)) | (with_reducible refine (K3.out _ ?_).mono ?_; (first | exact hb | exact hb.drew))); rintro e v ⟨rfl, hbn⟩; clear x0 x1 x2 y0 y1 y2 z0 z1 z2; replace hx := (hbn.block w.heap.size (Nat.lt_of_succ_lt (Nat.lt_of_succ_lt hl))).trans hx; replace hy := (hbn.block (w.heap.size + 1) (Nat.lt_of_succ_lt hl)).trans hy; replace hz := (hbn.block (w.heap.size + 1 + 1) hl).trans hz; replace hb : Below w.heap.size w v := (by first | exact hb.trans (hbn.mono hb.size) | exact hb.drew.trans (hbn.mono hb.size)); replace hl := Nat.lt_of_lt_of_le hl hbn.size; clear hbn; obtain ⟨x0, x1, x2⟩ := val_cells hx; obtain ⟨y0, y1, y2⟩ := val_cells hy; obtain ⟨z0, z1, z2⟩ := val_cells hz))
    all_goals
      go_wp2_with (fail)
      go_meet
      exact ⟨rfl, rfl, rfl, hb, hx, hy, hz, hl⟩
  case rest =>
  clear hx hy hz hb hl x0 x1 x2 y0 y1 y2 z0 z1 z2 K1 K2 K3
  obtain ⟨rfl, rfl, rfl, hb, hx, hy, hz, hl⟩ := hcut
  obtain ⟨x0, x1, x2⟩ := val_cells hx
  obtain ⟨y0, y1, y2⟩ := val_cells hy
  obtain ⟨z0, z1, z2⟩ := val_cells hz
  have e0 := HE0.out
  go_wp2_with (fail)
  refine (K4.out _ hb).mono ?_
  rintro e w2 ⟨rfl, hb2⟩
  replace hx := (hb2.block w.heap.size (by omega)).trans hx
  replace hy := (hb2.block (w.heap.size + 1) (by omega)).trans hy
  replace hz := (hb2.block (w.heap.size + 1 + 1) (by omega)).trans hz
  replace hb := hb.trans (hb2.mono hb.size)
  replace hl := Nat.lt_of_lt_of_le hl hb2.size
  clear hb2 x0 x1 x2 y0 y1 y2 z0 z1 z2
  obtain ⟨x0, x1, x2⟩ := val_cells hx
  obtain ⟨y0, y1, y2⟩ := val_cells hy
  obtain ⟨z0, z1, z2⟩ := val_cells hz
  go_wp2_with (fail)
  refine (K5.out _ hb).mono ?_
  rintro e w3 ⟨rfl, hb3⟩
  replace hx := (hb3.block w.heap.size (by omega)).trans hx
  replace hy := (hb3.block (w.heap.size + 1) (by omega)).trans hy
  replace hz := (hb3.block (w.heap.size + 1 + 1) (by omega)).trans hz
  replace hb := hb.trans (hb3.mono hb.size)
  replace hl := Nat.lt_of_lt_of_le hl hb3.size
  clear hb3 x0 x1 x2 y0 y1 y2 z0 z1 z2
  obtain ⟨x0, x1, x2⟩ := val_cells hx
  obtain ⟨y0, y1, y2⟩ := val_cells hy
  obtain ⟨z0, z1, z2⟩ := val_cells hz
  go_wp2_with (fail)
  refine (M1.out _ hb).mono ?_
  rintro e w4 ⟨rfl, hb4⟩
  replace hx := (hb4.block w.heap.size (by omega)).trans hx
  replace hy := (hb4.block (w.heap.size + 1) (by omega)).trans hy
  replace hz := (hb4.block (w.heap.size + 1 + 1) (by omega)).trans hz
  replace hb := hb.trans (hb4.mono hb.size)
  replace hl := Nat.lt_of_lt_of_le hl hb4.size
  clear hb4 x0 x1 x2 y0 y1 y2 z0 z1 z2
  obtain ⟨x0, x1, x2⟩ := val_cells hx
  obtain ⟨y0, y1, y2⟩ := val_cells hy
  obtain ⟨z0, z1, z2⟩ := val_cells hz
  go_wp2_with (fail)
  refine (M2.out _ hb).mono ?_
  rintro e w5 ⟨rfl, hb5⟩
  replace hx := (hb5.block w.heap.size (by omega)).trans hx
  replace hy := (hb5.block (w.heap.size + 1) (by omega)).trans hy
  replace hz := (hb5.block (w.heap.size + 1 + 1) (by omega)).trans hz
  replace hb := hb.trans (hb5.mono hb.size)
  replace hl := Nat.lt_of_lt_of_le hl hb5.size
  clear hb5 x0 x1 x2 y0 y1 y2 z0 z1 z2
  obtain ⟨x0, x1, x2⟩ := val_cells hx
  obtain ⟨y0, y1, y2⟩ := val_cells hy
  obtain ⟨z0, z1, z2⟩ := val_cells hz
  go_wp2
  go_ret
  exact ⟨rfl, hb⟩


set_option maxRecDepth 100000 in
set_option maxHeartbeats 3200000 in
theorem order_a3 (ak an bk bn ck cn : Int) (at' bt ct : ByteArray) (x y z x' : Int) (w : World) (e0 : IntKind.i64.wrap (-x') = x) (c1 : decide (x < -1) = false) (c2 : decide (1 < x) = false) 
    (HB0 : ∀ w', Below w.heap.size w w' → Calls Tryd.prog 8 #[] w' fun e w'' => e = .returned (.bool true) ∧ Below w'.heap.size w' w'')
    (K10 : ∀ w', Below w.heap.size w w' → Calls Tryd.prog 16 #[.agg #[.int .i64 ak, .int .i64 an, .string at'], .agg #[.int .i64 bk, .int .i64 bn, .string bt]] w' fun e w'' => e = .returned (.int .i64 x) ∧ Below w'.heap.size w' w'')
    (K20 : ∀ w', Below w.heap.size w w' → Calls Tryd.prog 16 #[.agg #[.int .i64 bk, .int .i64 bn, .string bt], .agg #[.int .i64 ck, .int .i64 cn, .string ct]] w' fun e w'' => e = .returned (.int .i64 y) ∧ Below w'.heap.size w' w'')
    (K30 : ∀ w', Below w.heap.size w w' → Calls Tryd.prog 16 #[.agg #[.int .i64 ak, .int .i64 an, .string at'], .agg #[.int .i64 ck, .int .i64 cn, .string ct]] w' fun e w'' => e = .returned (.int .i64 z) ∧ Below w'.heap.size w' w'')
    (K40 : ∀ w', Below w.heap.size w w' → Calls Tryd.prog 16 #[.agg #[.int .i64 bk, .int .i64 bn, .string bt], .agg #[.int .i64 ak, .int .i64 an, .string at']] w' fun e w'' => e = .returned (.int .i64 x') ∧ Below w'.heap.size w' w'')
    (K50 : ∀ w', Below w.heap.size w w' → Calls Tryd.prog 16 #[.agg #[.int .i64 ak, .int .i64 an, .string at'], .agg #[.int .i64 ak, .int .i64 an, .string at']] w' fun e w'' => e = .returned (.int .i64 0) ∧ Below w'.heap.size w' w'')
    (M10 : ∀ w', Below w.heap.size w w' → Calls Tryd.prog 11 #[.agg #[.int .i64 ak, .int .i64 an, .string at']] w' fun e w'' => e = .returned (.bool true) ∧ Below w'.heap.size w' w'')
    (M20 : ∀ w', Below w.heap.size w w' → Calls Tryd.prog 11 #[.agg #[.int .i64 bk, .int .i64 bn, .string bt]] w' fun e w'' => e = .returned (.bool true) ∧ Below w'.heap.size w' w'')
    (M30 : ∀ w', Below w.heap.size w w' → Calls Tryd.prog 11 #[.agg #[.int .i64 ck, .int .i64 cn, .string ct]] w' fun e w'' => e = .returned (.bool false) ∧ Below w'.heap.size w' w'')
    : Calls Tryd.prog 6 #[.agg #[.int .i64 ak, .int .i64 an, .string at'], .agg #[.int .i64 bk, .int .i64 bn, .string bt], .agg #[.int .i64 ck, .int .i64 cn, .string ct]] w fun e w' => e = .returned (.bool true) ∧ Below w.heap.size w w' := by
  have HB := Lib.hid HB0
  have K1 := Lib.hid K10
  have K2 := Lib.hid K20
  have K3 := Lib.hid K30
  have K4 := Lib.hid K40
  have K5 := Lib.hid K50
  have M1 := Lib.hid M10
  have M2 := Lib.hid M20
  have M3 := Lib.hid M30
  clear HB0 K10 K20 K30 K40 K50 M10 M20 M30
  have HE0 := Lib.hid e0
  clear e0
  go_enter Tryd.func6, Tryd.ntmps6
  go_upto_region 1 with (fail)
  have hx : (((w.alloc (Obj.cells #[.int .i64 ak, .int .i64 an, .string at'] 26)).alloc (Obj.cells #[.int .i64 bk, .int .i64 bn, .string bt] 26)).alloc (Obj.cells #[.int .i64 ck, .int .i64 cn, .string ct] 26)).heap[w.heap.size]? = some (.cells #[.int .i64 ak, .int .i64 an, .string at'] 26 (0, 0)) := (Below.heap_alloc _ _ w.heap.size (by simp; omega)).trans ((Below.heap_alloc _ _ w.heap.size (by simp)).trans (heap_alloc_new _ _))
  have hy : (((w.alloc (Obj.cells #[.int .i64 ak, .int .i64 an, .string at'] 26)).alloc (Obj.cells #[.int .i64 bk, .int .i64 bn, .string bt] 26)).alloc (Obj.cells #[.int .i64 ck, .int .i64 cn, .string ct] 26)).heap[w.heap.size + 1]? = some (.cells #[.int .i64 bk, .int .i64 bn, .string bt] 26 (0, 0)) := (Below.heap_alloc _ _ (w.heap.size + 1) (by simp)).trans (by
    rw [show w.heap.size + 1 = (w.alloc (Obj.cells #[.int .i64 ak, .int .i64 an, .string at'] 26)).heap.size by simp]; exact heap_alloc_new _ _)
  have hz : (((w.alloc (Obj.cells #[.int .i64 ak, .int .i64 an, .string at'] 26)).alloc (Obj.cells #[.int .i64 bk, .int .i64 bn, .string bt] 26)).alloc (Obj.cells #[.int .i64 ck, .int .i64 cn, .string ct] 26)).heap[w.heap.size + 1 + 1]? = some (.cells #[.int .i64 ck, .int .i64 cn, .string ct] 26 (0, 0)) := by
    rw [show w.heap.size + 1 + 1 = ((w.alloc (Obj.cells #[.int .i64 ak, .int .i64 an, .string at'] 26)).alloc (Obj.cells #[.int .i64 bk, .int .i64 bn, .string bt] 26)).heap.size by simp]; exact heap_alloc_new _ _
  have hb : Below w.heap.size w (((w.alloc (Obj.cells #[.int .i64 ak, .int .i64 an, .string at'] 26)).alloc (Obj.cells #[.int .i64 bk, .int .i64 bn, .string bt] 26)).alloc (Obj.cells #[.int .i64 ck, .int .i64 cn, .string ct] 26)) := (((Below.refl _ _).alloc (Nat.le_refl w.heap.size) _).alloc (by simp) _).alloc (by simp; omega) _
  have hl : w.heap.size + 1 + 1 < (((w.alloc (Obj.cells #[.int .i64 ak, .int .i64 an, .string at'] 26)).alloc (Obj.cells #[.int .i64 bk, .int .i64 bn, .string bt] 26)).alloc (Obj.cells #[.int .i64 ck, .int .i64 cn, .string ct] 26)).heap.size := by simp
  generalize (((w.alloc (Obj.cells #[.int .i64 ak, .int .i64 an, .string at'] 26)).alloc (Obj.cells #[.int .i64 bk, .int .i64 bn, .string bt] 26)).alloc (Obj.cells #[.int .i64 ck, .int .i64 cn, .string ct] 26)) = W0 at *
  obtain ⟨x0, x1, x2⟩ := val_cells hx
  obtain ⟨y0, y1, y2⟩ := val_cells hy
  obtain ⟨z0, z1, z2⟩ := val_cells hz
  go_wp2_with (fail)
  refine (HB.out _ hb).mono ?_
  rintro e w1 ⟨rfl, hb1⟩
  replace hx := (hb1.block w.heap.size (by omega)).trans hx
  replace hy := (hb1.block (w.heap.size + 1) (by omega)).trans hy
  replace hz := (hb1.block (w.heap.size + 1 + 1) (by omega)).trans hz
  replace hb := hb.trans (hb1.mono hb.size)
  replace hl := Nat.lt_of_lt_of_le hl hb1.size
  clear hb1 x0 x1 x2 y0 y1 y2 z0 z1 z2
  obtain ⟨x0, x1, x2⟩ := val_cells hx
  obtain ⟨y0, y1, y2⟩ := val_cells hy
  obtain ⟨z0, z1, z2⟩ := val_cells hz
  go_upto_region 3 with (fail)
  go_cut [7, 8, 9] (fun s7 s8 s9 wx => s7 = .int .i64 x ∧ s8 = .int .i64 y ∧ s9 = .int .i64 z ∧ Below w.heap.size w wx ∧ wx.heap[w.heap.size]? = some (.cells #[.int .i64 ak, .int .i64 an, .string at'] 26 (0, 0)) ∧ wx.heap[w.heap.size + 1]? = some (.cells #[.int .i64 bk, .int .i64 bn, .string bt] 26 (0, 0)) ∧ wx.heap[w.heap.size + 1 + 1]? = some (.cells #[.int .i64 ck, .int .i64 cn, .string ct] 26 (0, 0)) ∧ w.heap.size + 1 + 1 < wx.heap.size)
  case first =>
    go_region_held3 (fun w' => w'.cell? ⟨w.heap.size, 0, none⟩ = some (.int .i64 ak) ∧ w'.cell? ⟨w.heap.size, 1, none⟩ = some (.int .i64 an) ∧ w'.cell? ⟨w.heap.size, 2, none⟩ = some (.string at') ∧ w'.cell? ⟨w.heap.size + 1, 0, none⟩ = some (.int .i64 bk) ∧ w'.cell? ⟨w.heap.size + 1, 1, none⟩ = some (.int .i64 bn) ∧ w'.cell? ⟨w.heap.size + 1, 2, none⟩ = some (.string bt) ∧ w'.cell? ⟨w.heap.size + 1 + 1, 0, none⟩ = some (.int .i64 ck) ∧ w'.cell? ⟨w.heap.size + 1 + 1, 1, none⟩ = some (.int .i64 cn) ∧ w'.cell? ⟨w.heap.size + 1 + 1, 2, none⟩ = some (.string ct))
      (first | go_keep | exact ⟨x0, x1, x2, y0, y1, y2, z0, z1, z2⟩)
      ((go_at_call 16; (first | (with_reducible refine (K1.out _ ?_).mono ?_; (first | exact hb | exact hb.drew)) | (with_reducible refine (K2.out _ ?_).mono ?_; (first | exact hb | exact hb.drew)) | (with_reducible refine (K3.out _ ?_).mono ?_; (first | exact hb | exact hb.drew))); rintro e v ⟨rfl, hbn⟩; clear x0 x1 x2 y0 y1 y2 z0 z1 z2; replace hx := (hbn.block w.heap.size (Nat.lt_of_succ_lt (Nat.lt_of_succ_lt hl))).trans hx; replace hy := (hbn.block (w.heap.size + 1) (Nat.lt_of_succ_lt hl)).trans hy; replace hz := (hbn.block (w.heap.size + 1 + 1) hl).trans hz; replace hb : Below w.heap.size w v := (by first | exact hb.trans (hbn.mono hb.size) | exact hb.drew.trans (hbn.mono hb.size)); replace hl := Nat.lt_of_lt_of_le hl hbn.size; clear hbn; obtain ⟨x0, x1, x2⟩ := val_cells hx; obtain ⟨y0, y1, y2⟩ := val_cells hy; obtain ⟨z0, z1, z2⟩ := val_cells hz))
    all_goals
      go_wp2_with (fail)
      go_meet
      exact ⟨rfl, rfl, rfl, hb, hx, hy, hz, hl⟩
  case rest =>
  clear hx hy hz hb hl x0 x1 x2 y0 y1 y2 z0 z1 z2 K1 K2 K3
  obtain ⟨rfl, rfl, rfl, hb, hx, hy, hz, hl⟩ := hcut
  obtain ⟨x0, x1, x2⟩ := val_cells hx
  obtain ⟨y0, y1, y2⟩ := val_cells hy
  obtain ⟨z0, z1, z2⟩ := val_cells hz
  have e0 := HE0.out
  go_wp2_with (fail)
  refine (K4.out _ hb).mono ?_
  rintro e w2 ⟨rfl, hb2⟩
  replace hx := (hb2.block w.heap.size (by omega)).trans hx
  replace hy := (hb2.block (w.heap.size + 1) (by omega)).trans hy
  replace hz := (hb2.block (w.heap.size + 1 + 1) (by omega)).trans hz
  replace hb := hb.trans (hb2.mono hb.size)
  replace hl := Nat.lt_of_lt_of_le hl hb2.size
  clear hb2 x0 x1 x2 y0 y1 y2 z0 z1 z2
  obtain ⟨x0, x1, x2⟩ := val_cells hx
  obtain ⟨y0, y1, y2⟩ := val_cells hy
  obtain ⟨z0, z1, z2⟩ := val_cells hz
  go_wp2_with (fail)
  refine (K5.out _ hb).mono ?_
  rintro e w3 ⟨rfl, hb3⟩
  replace hx := (hb3.block w.heap.size (by omega)).trans hx
  replace hy := (hb3.block (w.heap.size + 1) (by omega)).trans hy
  replace hz := (hb3.block (w.heap.size + 1 + 1) (by omega)).trans hz
  replace hb := hb.trans (hb3.mono hb.size)
  replace hl := Nat.lt_of_lt_of_le hl hb3.size
  clear hb3 x0 x1 x2 y0 y1 y2 z0 z1 z2
  obtain ⟨x0, x1, x2⟩ := val_cells hx
  obtain ⟨y0, y1, y2⟩ := val_cells hy
  obtain ⟨z0, z1, z2⟩ := val_cells hz
  go_wp2_with (fail)
  refine (M1.out _ hb).mono ?_
  rintro e w4 ⟨rfl, hb4⟩
  replace hx := (hb4.block w.heap.size (by omega)).trans hx
  replace hy := (hb4.block (w.heap.size + 1) (by omega)).trans hy
  replace hz := (hb4.block (w.heap.size + 1 + 1) (by omega)).trans hz
  replace hb := hb.trans (hb4.mono hb.size)
  replace hl := Nat.lt_of_lt_of_le hl hb4.size
  clear hb4 x0 x1 x2 y0 y1 y2 z0 z1 z2
  obtain ⟨x0, x1, x2⟩ := val_cells hx
  obtain ⟨y0, y1, y2⟩ := val_cells hy
  obtain ⟨z0, z1, z2⟩ := val_cells hz
  go_wp2_with (fail)
  refine (M2.out _ hb).mono ?_
  rintro e w5 ⟨rfl, hb5⟩
  replace hx := (hb5.block w.heap.size (by omega)).trans hx
  replace hy := (hb5.block (w.heap.size + 1) (by omega)).trans hy
  replace hz := (hb5.block (w.heap.size + 1 + 1) (by omega)).trans hz
  replace hb := hb.trans (hb5.mono hb.size)
  replace hl := Nat.lt_of_lt_of_le hl hb5.size
  clear hb5 x0 x1 x2 y0 y1 y2 z0 z1 z2
  obtain ⟨x0, x1, x2⟩ := val_cells hx
  obtain ⟨y0, y1, y2⟩ := val_cells hy
  obtain ⟨z0, z1, z2⟩ := val_cells hz
  go_wp2_with (fail)
  refine (M3.out _ hb).mono ?_
  rintro e w6 ⟨rfl, hb6⟩
  replace hx := (hb6.block w.heap.size (by omega)).trans hx
  replace hy := (hb6.block (w.heap.size + 1) (by omega)).trans hy
  replace hz := (hb6.block (w.heap.size + 1 + 1) (by omega)).trans hz
  replace hb := hb.trans (hb6.mono hb.size)
  replace hl := Nat.lt_of_lt_of_le hl hb6.size
  clear hb6 x0 x1 x2 y0 y1 y2 z0 z1 z2
  obtain ⟨x0, x1, x2⟩ := val_cells hx
  obtain ⟨y0, y1, y2⟩ := val_cells hy
  obtain ⟨z0, z1, z2⟩ := val_cells hz
  go_wp2
  go_ret
  exact ⟨rfl, hb⟩


set_option maxRecDepth 100000 in
set_option maxHeartbeats 3200000 in
theorem order_b (an bk bn ck cn : Int) (at' bt ct : ByteArray) (x y z x' : Int) (w : World) (e0 : IntKind.i64.wrap (-x') = x) (c1 : decide (x < -1) = false) (c2 : decide (1 < x) = false) (b4 : (bk != 4) = true) (b0 : (bk != 0) = true) 
    (HB0 : ∀ w', Below w.heap.size w w' → Calls Tryd.prog 8 #[] w' fun e w'' => e = .returned (.bool true) ∧ Below w'.heap.size w' w'')
    (K10 : ∀ w', Below w.heap.size w w' → Calls Tryd.prog 16 #[.agg #[.int .i64 0, .int .i64 an, .string at'], .agg #[.int .i64 bk, .int .i64 bn, .string bt]] w' fun e w'' => e = .returned (.int .i64 x) ∧ Below w'.heap.size w' w'')
    (K20 : ∀ w', Below w.heap.size w w' → Calls Tryd.prog 16 #[.agg #[.int .i64 bk, .int .i64 bn, .string bt], .agg #[.int .i64 ck, .int .i64 cn, .string ct]] w' fun e w'' => e = .returned (.int .i64 y) ∧ Below w'.heap.size w' w'')
    (K30 : ∀ w', Below w.heap.size w w' → Calls Tryd.prog 16 #[.agg #[.int .i64 0, .int .i64 an, .string at'], .agg #[.int .i64 ck, .int .i64 cn, .string ct]] w' fun e w'' => e = .returned (.int .i64 z) ∧ Below w'.heap.size w' w'')
    (K40 : ∀ w', Below w.heap.size w w' → Calls Tryd.prog 16 #[.agg #[.int .i64 bk, .int .i64 bn, .string bt], .agg #[.int .i64 0, .int .i64 an, .string at']] w' fun e w'' => e = .returned (.int .i64 x') ∧ Below w'.heap.size w' w'')
    (K50 : ∀ w', Below w.heap.size w w' → Calls Tryd.prog 16 #[.agg #[.int .i64 0, .int .i64 an, .string at'], .agg #[.int .i64 0, .int .i64 an, .string at']] w' fun e w'' => e = .returned (.int .i64 0) ∧ Below w'.heap.size w' w'')
    (M10 : ∀ w', Below w.heap.size w w' → Calls Tryd.prog 11 #[.agg #[.int .i64 0, .int .i64 an, .string at']] w' fun e w'' => e = .returned (.bool true) ∧ Below w'.heap.size w' w'')
    (M20 : ∀ w', Below w.heap.size w w' → Calls Tryd.prog 11 #[.agg #[.int .i64 bk, .int .i64 bn, .string bt]] w' fun e w'' => e = .returned (.bool true) ∧ Below w'.heap.size w' w'')
    (M30 : ∀ w', Below w.heap.size w w' → Calls Tryd.prog 11 #[.agg #[.int .i64 ck, .int .i64 cn, .string ct]] w' fun e w'' => e = .returned (.bool true) ∧ Below w'.heap.size w' w'')
    (K60 : ∀ w', Below w.heap.size w w' → Calls Tryd.prog 16 #[.agg #[.int .i64 bk, .int .i64 0, .string ⟨#[]⟩], .agg #[.int .i64 bk, .int .i64 bn, .string bt]] w' fun e w'' => e = .returned (.int .i64 x) ∧ Below w'.heap.size w' w'')
    : Calls Tryd.prog 6 #[.agg #[.int .i64 0, .int .i64 an, .string at'], .agg #[.int .i64 bk, .int .i64 bn, .string bt], .agg #[.int .i64 ck, .int .i64 cn, .string ct]] w fun e w' => e = .returned (.bool true) ∧ Below w.heap.size w w' := by
  have HB := Lib.hid HB0
  have K1 := Lib.hid K10
  have K2 := Lib.hid K20
  have K3 := Lib.hid K30
  have K4 := Lib.hid K40
  have K5 := Lib.hid K50
  have M1 := Lib.hid M10
  have M2 := Lib.hid M20
  have M3 := Lib.hid M30
  have K6 := Lib.hid K60
  clear HB0 K10 K20 K30 K40 K50 M10 M20 M30 K60
  have HE0 := Lib.hid e0
  clear e0
  go_enter Tryd.func6, Tryd.ntmps6
  go_upto_region 1 with (fail)
  have hx : (((w.alloc (Obj.cells #[.int .i64 0, .int .i64 an, .string at'] 26)).alloc (Obj.cells #[.int .i64 bk, .int .i64 bn, .string bt] 26)).alloc (Obj.cells #[.int .i64 ck, .int .i64 cn, .string ct] 26)).heap[w.heap.size]? = some (.cells #[.int .i64 0, .int .i64 an, .string at'] 26 (0, 0)) := (Below.heap_alloc _ _ w.heap.size (by simp; omega)).trans ((Below.heap_alloc _ _ w.heap.size (by simp)).trans (heap_alloc_new _ _))
  have hy : (((w.alloc (Obj.cells #[.int .i64 0, .int .i64 an, .string at'] 26)).alloc (Obj.cells #[.int .i64 bk, .int .i64 bn, .string bt] 26)).alloc (Obj.cells #[.int .i64 ck, .int .i64 cn, .string ct] 26)).heap[w.heap.size + 1]? = some (.cells #[.int .i64 bk, .int .i64 bn, .string bt] 26 (0, 0)) := (Below.heap_alloc _ _ (w.heap.size + 1) (by simp)).trans (by
    rw [show w.heap.size + 1 = (w.alloc (Obj.cells #[.int .i64 0, .int .i64 an, .string at'] 26)).heap.size by simp]; exact heap_alloc_new _ _)
  have hz : (((w.alloc (Obj.cells #[.int .i64 0, .int .i64 an, .string at'] 26)).alloc (Obj.cells #[.int .i64 bk, .int .i64 bn, .string bt] 26)).alloc (Obj.cells #[.int .i64 ck, .int .i64 cn, .string ct] 26)).heap[w.heap.size + 1 + 1]? = some (.cells #[.int .i64 ck, .int .i64 cn, .string ct] 26 (0, 0)) := by
    rw [show w.heap.size + 1 + 1 = ((w.alloc (Obj.cells #[.int .i64 0, .int .i64 an, .string at'] 26)).alloc (Obj.cells #[.int .i64 bk, .int .i64 bn, .string bt] 26)).heap.size by simp]; exact heap_alloc_new _ _
  have hb : Below w.heap.size w (((w.alloc (Obj.cells #[.int .i64 0, .int .i64 an, .string at'] 26)).alloc (Obj.cells #[.int .i64 bk, .int .i64 bn, .string bt] 26)).alloc (Obj.cells #[.int .i64 ck, .int .i64 cn, .string ct] 26)) := (((Below.refl _ _).alloc (Nat.le_refl w.heap.size) _).alloc (by simp) _).alloc (by simp; omega) _
  have hl : w.heap.size + 1 + 1 < (((w.alloc (Obj.cells #[.int .i64 0, .int .i64 an, .string at'] 26)).alloc (Obj.cells #[.int .i64 bk, .int .i64 bn, .string bt] 26)).alloc (Obj.cells #[.int .i64 ck, .int .i64 cn, .string ct] 26)).heap.size := by simp
  generalize (((w.alloc (Obj.cells #[.int .i64 0, .int .i64 an, .string at'] 26)).alloc (Obj.cells #[.int .i64 bk, .int .i64 bn, .string bt] 26)).alloc (Obj.cells #[.int .i64 ck, .int .i64 cn, .string ct] 26)) = W0 at *
  obtain ⟨x0, x1, x2⟩ := val_cells hx
  obtain ⟨y0, y1, y2⟩ := val_cells hy
  obtain ⟨z0, z1, z2⟩ := val_cells hz
  go_wp2_with (fail)
  refine (HB.out _ hb).mono ?_
  rintro e w1 ⟨rfl, hb1⟩
  replace hx := (hb1.block w.heap.size (by omega)).trans hx
  replace hy := (hb1.block (w.heap.size + 1) (by omega)).trans hy
  replace hz := (hb1.block (w.heap.size + 1 + 1) (by omega)).trans hz
  replace hb := hb.trans (hb1.mono hb.size)
  replace hl := Nat.lt_of_lt_of_le hl hb1.size
  clear hb1 x0 x1 x2 y0 y1 y2 z0 z1 z2
  obtain ⟨x0, x1, x2⟩ := val_cells hx
  obtain ⟨y0, y1, y2⟩ := val_cells hy
  obtain ⟨z0, z1, z2⟩ := val_cells hz
  go_upto_region 3 with (fail)
  go_cut [7, 8, 9] (fun s7 s8 s9 wx => s7 = .int .i64 x ∧ s8 = .int .i64 y ∧ s9 = .int .i64 z ∧ Below w.heap.size w wx ∧ wx.heap[w.heap.size]? = some (.cells #[.int .i64 0, .int .i64 an, .string at'] 26 (0, 0)) ∧ wx.heap[w.heap.size + 1]? = some (.cells #[.int .i64 bk, .int .i64 bn, .string bt] 26 (0, 0)) ∧ wx.heap[w.heap.size + 1 + 1]? = some (.cells #[.int .i64 ck, .int .i64 cn, .string ct] 26 (0, 0)) ∧ w.heap.size + 1 + 1 < wx.heap.size)
  case first =>
    go_region_held3 (fun w' => w'.cell? ⟨w.heap.size, 0, none⟩ = some (.int .i64 0) ∧ w'.cell? ⟨w.heap.size, 1, none⟩ = some (.int .i64 an) ∧ w'.cell? ⟨w.heap.size, 2, none⟩ = some (.string at') ∧ w'.cell? ⟨w.heap.size + 1, 0, none⟩ = some (.int .i64 bk) ∧ w'.cell? ⟨w.heap.size + 1, 1, none⟩ = some (.int .i64 bn) ∧ w'.cell? ⟨w.heap.size + 1, 2, none⟩ = some (.string bt) ∧ w'.cell? ⟨w.heap.size + 1 + 1, 0, none⟩ = some (.int .i64 ck) ∧ w'.cell? ⟨w.heap.size + 1 + 1, 1, none⟩ = some (.int .i64 cn) ∧ w'.cell? ⟨w.heap.size + 1 + 1, 2, none⟩ = some (.string ct))
      (first | go_keep | exact ⟨x0, x1, x2, y0, y1, y2, z0, z1, z2⟩)
      ((go_at_call 16; (first | (with_reducible refine (K1.out _ ?_).mono ?_; (first | exact hb | exact hb.drew)) | (with_reducible refine (K2.out _ ?_).mono ?_; (first | exact hb | exact hb.drew)) | (with_reducible refine (K3.out _ ?_).mono ?_; (first | exact hb | exact hb.drew))); rintro e v ⟨rfl, hbn⟩; clear x0 x1 x2 y0 y1 y2 z0 z1 z2; replace hx := (hbn.block w.heap.size (Nat.lt_of_succ_lt (Nat.lt_of_succ_lt hl))).trans hx; replace hy := (hbn.block (w.heap.size + 1) (Nat.lt_of_succ_lt hl)).trans hy; replace hz := (hbn.block (w.heap.size + 1 + 1) hl).trans hz; replace hb : Below w.heap.size w v := (by first | exact hb.trans (hbn.mono hb.size) | exact hb.drew.trans (hbn.mono hb.size)); replace hl := Nat.lt_of_lt_of_le hl hbn.size; clear hbn; obtain ⟨x0, x1, x2⟩ := val_cells hx; obtain ⟨y0, y1, y2⟩ := val_cells hy; obtain ⟨z0, z1, z2⟩ := val_cells hz))
    all_goals
      go_wp2_with (fail)
      go_meet
      exact ⟨rfl, rfl, rfl, hb, hx, hy, hz, hl⟩
  case rest =>
  clear hx hy hz hb hl x0 x1 x2 y0 y1 y2 z0 z1 z2 K1 K2 K3
  obtain ⟨rfl, rfl, rfl, hb, hx, hy, hz, hl⟩ := hcut
  obtain ⟨x0, x1, x2⟩ := val_cells hx
  obtain ⟨y0, y1, y2⟩ := val_cells hy
  obtain ⟨z0, z1, z2⟩ := val_cells hz
  have e0 := HE0.out
  go_wp2_with (fail)
  refine (K4.out _ hb).mono ?_
  rintro e w2 ⟨rfl, hb2⟩
  replace hx := (hb2.block w.heap.size (by omega)).trans hx
  replace hy := (hb2.block (w.heap.size + 1) (by omega)).trans hy
  replace hz := (hb2.block (w.heap.size + 1 + 1) (by omega)).trans hz
  replace hb := hb.trans (hb2.mono hb.size)
  replace hl := Nat.lt_of_lt_of_le hl hb2.size
  clear hb2 x0 x1 x2 y0 y1 y2 z0 z1 z2
  obtain ⟨x0, x1, x2⟩ := val_cells hx
  obtain ⟨y0, y1, y2⟩ := val_cells hy
  obtain ⟨z0, z1, z2⟩ := val_cells hz
  go_wp2_with (fail)
  refine (K5.out _ hb).mono ?_
  rintro e w3 ⟨rfl, hb3⟩
  replace hx := (hb3.block w.heap.size (by omega)).trans hx
  replace hy := (hb3.block (w.heap.size + 1) (by omega)).trans hy
  replace hz := (hb3.block (w.heap.size + 1 + 1) (by omega)).trans hz
  replace hb := hb.trans (hb3.mono hb.size)
  replace hl := Nat.lt_of_lt_of_le hl hb3.size
  clear hb3 x0 x1 x2 y0 y1 y2 z0 z1 z2
  obtain ⟨x0, x1, x2⟩ := val_cells hx
  obtain ⟨y0, y1, y2⟩ := val_cells hy
  obtain ⟨z0, z1, z2⟩ := val_cells hz
  go_wp2_with (fail)
  refine (M1.out _ hb).mono ?_
  rintro e w4 ⟨rfl, hb4⟩
  replace hx := (hb4.block w.heap.size (by omega)).trans hx
  replace hy := (hb4.block (w.heap.size + 1) (by omega)).trans hy
  replace hz := (hb4.block (w.heap.size + 1 + 1) (by omega)).trans hz
  replace hb := hb.trans (hb4.mono hb.size)
  replace hl := Nat.lt_of_lt_of_le hl hb4.size
  clear hb4 x0 x1 x2 y0 y1 y2 z0 z1 z2
  obtain ⟨x0, x1, x2⟩ := val_cells hx
  obtain ⟨y0, y1, y2⟩ := val_cells hy
  obtain ⟨z0, z1, z2⟩ := val_cells hz
  go_wp2_with (fail)
  refine (M2.out _ hb).mono ?_
  rintro e w5 ⟨rfl, hb5⟩
  replace hx := (hb5.block w.heap.size (by omega)).trans hx
  replace hy := (hb5.block (w.heap.size + 1) (by omega)).trans hy
  replace hz := (hb5.block (w.heap.size + 1 + 1) (by omega)).trans hz
  replace hb := hb.trans (hb5.mono hb.size)
  replace hl := Nat.lt_of_lt_of_le hl hb5.size
  clear hb5 x0 x1 x2 y0 y1 y2 z0 z1 z2
  obtain ⟨x0, x1, x2⟩ := val_cells hx
  obtain ⟨y0, y1, y2⟩ := val_cells hy
  obtain ⟨z0, z1, z2⟩ := val_cells hz
  go_wp2_with (fail)
  refine (M3.out _ hb).mono ?_
  rintro e w6 ⟨rfl, hb6⟩
  replace hx := (hb6.block w.heap.size (by omega)).trans hx
  replace hy := (hb6.block (w.heap.size + 1) (by omega)).trans hy
  replace hz := (hb6.block (w.heap.size + 1 + 1) (by omega)).trans hz
  replace hb := hb.trans (hb6.mono hb.size)
  replace hl := Nat.lt_of_lt_of_le hl hb6.size
  clear hb6 x0 x1 x2 y0 y1 y2 z0 z1 z2
  obtain ⟨x0, x1, x2⟩ := val_cells hx
  obtain ⟨y0, y1, y2⟩ := val_cells hy
  obtain ⟨z0, z1, z2⟩ := val_cells hz
  go_wp2_with (fail)
  refine (K6.out _ hb).mono ?_
  rintro e w7 ⟨rfl, hb7⟩
  replace hx := (hb7.block w.heap.size (by omega)).trans hx
  replace hy := (hb7.block (w.heap.size + 1) (by omega)).trans hy
  replace hz := (hb7.block (w.heap.size + 1 + 1) (by omega)).trans hz
  replace hb := hb.trans (hb7.mono hb.size)
  replace hl := Nat.lt_of_lt_of_le hl hb7.size
  clear hb7 x0 x1 x2 y0 y1 y2 z0 z1 z2
  obtain ⟨x0, x1, x2⟩ := val_cells hx
  obtain ⟨y0, y1, y2⟩ := val_cells hy
  obtain ⟨z0, z1, z2⟩ := val_cells hz
  go_wp2
  go_ret
  exact ⟨rfl, hb⟩


set_option maxRecDepth 100000 in
set_option maxHeartbeats 3200000 in
theorem order_c4 (an bn ck cn : Int) (at' bt ct : ByteArray) (x y z x' : Int) (w : World) (e0 : IntKind.i64.wrap (-x') = x) (c1 : decide (x < -1) = false) (c2 : decide (1 < x) = false) 
    (HB0 : ∀ w', Below w.heap.size w w' → Calls Tryd.prog 8 #[] w' fun e w'' => e = .returned (.bool true) ∧ Below w'.heap.size w' w'')
    (K10 : ∀ w', Below w.heap.size w w' → Calls Tryd.prog 16 #[.agg #[.int .i64 0, .int .i64 an, .string at'], .agg #[.int .i64 4, .int .i64 bn, .string bt]] w' fun e w'' => e = .returned (.int .i64 x) ∧ Below w'.heap.size w' w'')
    (K20 : ∀ w', Below w.heap.size w w' → Calls Tryd.prog 16 #[.agg #[.int .i64 4, .int .i64 bn, .string bt], .agg #[.int .i64 ck, .int .i64 cn, .string ct]] w' fun e w'' => e = .returned (.int .i64 y) ∧ Below w'.heap.size w' w'')
    (K30 : ∀ w', Below w.heap.size w w' → Calls Tryd.prog 16 #[.agg #[.int .i64 0, .int .i64 an, .string at'], .agg #[.int .i64 ck, .int .i64 cn, .string ct]] w' fun e w'' => e = .returned (.int .i64 z) ∧ Below w'.heap.size w' w'')
    (K40 : ∀ w', Below w.heap.size w w' → Calls Tryd.prog 16 #[.agg #[.int .i64 4, .int .i64 bn, .string bt], .agg #[.int .i64 0, .int .i64 an, .string at']] w' fun e w'' => e = .returned (.int .i64 x') ∧ Below w'.heap.size w' w'')
    (K50 : ∀ w', Below w.heap.size w w' → Calls Tryd.prog 16 #[.agg #[.int .i64 0, .int .i64 an, .string at'], .agg #[.int .i64 0, .int .i64 an, .string at']] w' fun e w'' => e = .returned (.int .i64 0) ∧ Below w'.heap.size w' w'')
    (M10 : ∀ w', Below w.heap.size w w' → Calls Tryd.prog 11 #[.agg #[.int .i64 0, .int .i64 an, .string at']] w' fun e w'' => e = .returned (.bool true) ∧ Below w'.heap.size w' w'')
    (M20 : ∀ w', Below w.heap.size w w' → Calls Tryd.prog 11 #[.agg #[.int .i64 4, .int .i64 bn, .string bt]] w' fun e w'' => e = .returned (.bool true) ∧ Below w'.heap.size w' w'')
    (M30 : ∀ w', Below w.heap.size w w' → Calls Tryd.prog 11 #[.agg #[.int .i64 ck, .int .i64 cn, .string ct]] w' fun e w'' => e = .returned (.bool true) ∧ Below w'.heap.size w' w'')
    : Calls Tryd.prog 6 #[.agg #[.int .i64 0, .int .i64 an, .string at'], .agg #[.int .i64 4, .int .i64 bn, .string bt], .agg #[.int .i64 ck, .int .i64 cn, .string ct]] w fun e w' => e = .returned (.bool true) ∧ Below w.heap.size w w' := by
  have HB := Lib.hid HB0
  have K1 := Lib.hid K10
  have K2 := Lib.hid K20
  have K3 := Lib.hid K30
  have K4 := Lib.hid K40
  have K5 := Lib.hid K50
  have M1 := Lib.hid M10
  have M2 := Lib.hid M20
  have M3 := Lib.hid M30
  clear HB0 K10 K20 K30 K40 K50 M10 M20 M30
  have HE0 := Lib.hid e0
  clear e0
  go_enter Tryd.func6, Tryd.ntmps6
  go_upto_region 1 with (fail)
  have hx : (((w.alloc (Obj.cells #[.int .i64 0, .int .i64 an, .string at'] 26)).alloc (Obj.cells #[.int .i64 4, .int .i64 bn, .string bt] 26)).alloc (Obj.cells #[.int .i64 ck, .int .i64 cn, .string ct] 26)).heap[w.heap.size]? = some (.cells #[.int .i64 0, .int .i64 an, .string at'] 26 (0, 0)) := (Below.heap_alloc _ _ w.heap.size (by simp; omega)).trans ((Below.heap_alloc _ _ w.heap.size (by simp)).trans (heap_alloc_new _ _))
  have hy : (((w.alloc (Obj.cells #[.int .i64 0, .int .i64 an, .string at'] 26)).alloc (Obj.cells #[.int .i64 4, .int .i64 bn, .string bt] 26)).alloc (Obj.cells #[.int .i64 ck, .int .i64 cn, .string ct] 26)).heap[w.heap.size + 1]? = some (.cells #[.int .i64 4, .int .i64 bn, .string bt] 26 (0, 0)) := (Below.heap_alloc _ _ (w.heap.size + 1) (by simp)).trans (by
    rw [show w.heap.size + 1 = (w.alloc (Obj.cells #[.int .i64 0, .int .i64 an, .string at'] 26)).heap.size by simp]; exact heap_alloc_new _ _)
  have hz : (((w.alloc (Obj.cells #[.int .i64 0, .int .i64 an, .string at'] 26)).alloc (Obj.cells #[.int .i64 4, .int .i64 bn, .string bt] 26)).alloc (Obj.cells #[.int .i64 ck, .int .i64 cn, .string ct] 26)).heap[w.heap.size + 1 + 1]? = some (.cells #[.int .i64 ck, .int .i64 cn, .string ct] 26 (0, 0)) := by
    rw [show w.heap.size + 1 + 1 = ((w.alloc (Obj.cells #[.int .i64 0, .int .i64 an, .string at'] 26)).alloc (Obj.cells #[.int .i64 4, .int .i64 bn, .string bt] 26)).heap.size by simp]; exact heap_alloc_new _ _
  have hb : Below w.heap.size w (((w.alloc (Obj.cells #[.int .i64 0, .int .i64 an, .string at'] 26)).alloc (Obj.cells #[.int .i64 4, .int .i64 bn, .string bt] 26)).alloc (Obj.cells #[.int .i64 ck, .int .i64 cn, .string ct] 26)) := (((Below.refl _ _).alloc (Nat.le_refl w.heap.size) _).alloc (by simp) _).alloc (by simp; omega) _
  have hl : w.heap.size + 1 + 1 < (((w.alloc (Obj.cells #[.int .i64 0, .int .i64 an, .string at'] 26)).alloc (Obj.cells #[.int .i64 4, .int .i64 bn, .string bt] 26)).alloc (Obj.cells #[.int .i64 ck, .int .i64 cn, .string ct] 26)).heap.size := by simp
  generalize (((w.alloc (Obj.cells #[.int .i64 0, .int .i64 an, .string at'] 26)).alloc (Obj.cells #[.int .i64 4, .int .i64 bn, .string bt] 26)).alloc (Obj.cells #[.int .i64 ck, .int .i64 cn, .string ct] 26)) = W0 at *
  obtain ⟨x0, x1, x2⟩ := val_cells hx
  obtain ⟨y0, y1, y2⟩ := val_cells hy
  obtain ⟨z0, z1, z2⟩ := val_cells hz
  go_wp2_with (fail)
  refine (HB.out _ hb).mono ?_
  rintro e w1 ⟨rfl, hb1⟩
  replace hx := (hb1.block w.heap.size (by omega)).trans hx
  replace hy := (hb1.block (w.heap.size + 1) (by omega)).trans hy
  replace hz := (hb1.block (w.heap.size + 1 + 1) (by omega)).trans hz
  replace hb := hb.trans (hb1.mono hb.size)
  replace hl := Nat.lt_of_lt_of_le hl hb1.size
  clear hb1 x0 x1 x2 y0 y1 y2 z0 z1 z2
  obtain ⟨x0, x1, x2⟩ := val_cells hx
  obtain ⟨y0, y1, y2⟩ := val_cells hy
  obtain ⟨z0, z1, z2⟩ := val_cells hz
  go_upto_region 3 with (fail)
  go_cut [7, 8, 9] (fun s7 s8 s9 wx => s7 = .int .i64 x ∧ s8 = .int .i64 y ∧ s9 = .int .i64 z ∧ Below w.heap.size w wx ∧ wx.heap[w.heap.size]? = some (.cells #[.int .i64 0, .int .i64 an, .string at'] 26 (0, 0)) ∧ wx.heap[w.heap.size + 1]? = some (.cells #[.int .i64 4, .int .i64 bn, .string bt] 26 (0, 0)) ∧ wx.heap[w.heap.size + 1 + 1]? = some (.cells #[.int .i64 ck, .int .i64 cn, .string ct] 26 (0, 0)) ∧ w.heap.size + 1 + 1 < wx.heap.size)
  case first =>
    go_region_held3 (fun w' => w'.cell? ⟨w.heap.size, 0, none⟩ = some (.int .i64 0) ∧ w'.cell? ⟨w.heap.size, 1, none⟩ = some (.int .i64 an) ∧ w'.cell? ⟨w.heap.size, 2, none⟩ = some (.string at') ∧ w'.cell? ⟨w.heap.size + 1, 0, none⟩ = some (.int .i64 4) ∧ w'.cell? ⟨w.heap.size + 1, 1, none⟩ = some (.int .i64 bn) ∧ w'.cell? ⟨w.heap.size + 1, 2, none⟩ = some (.string bt) ∧ w'.cell? ⟨w.heap.size + 1 + 1, 0, none⟩ = some (.int .i64 ck) ∧ w'.cell? ⟨w.heap.size + 1 + 1, 1, none⟩ = some (.int .i64 cn) ∧ w'.cell? ⟨w.heap.size + 1 + 1, 2, none⟩ = some (.string ct))
      (first | go_keep | exact ⟨x0, x1, x2, y0, y1, y2, z0, z1, z2⟩)
      ((go_at_call 16; (first | (with_reducible refine (K1.out _ ?_).mono ?_; (first | exact hb | exact hb.drew)) | (with_reducible refine (K2.out _ ?_).mono ?_; (first | exact hb | exact hb.drew)) | (with_reducible refine (K3.out _ ?_).mono ?_; (first | exact hb | exact hb.drew))); rintro e v ⟨rfl, hbn⟩; clear x0 x1 x2 y0 y1 y2 z0 z1 z2; replace hx := (hbn.block w.heap.size (Nat.lt_of_succ_lt (Nat.lt_of_succ_lt hl))).trans hx; replace hy := (hbn.block (w.heap.size + 1) (Nat.lt_of_succ_lt hl)).trans hy; replace hz := (hbn.block (w.heap.size + 1 + 1) hl).trans hz; replace hb : Below w.heap.size w v := (by first | exact hb.trans (hbn.mono hb.size) | exact hb.drew.trans (hbn.mono hb.size)); replace hl := Nat.lt_of_lt_of_le hl hbn.size; clear hbn; obtain ⟨x0, x1, x2⟩ := val_cells hx; obtain ⟨y0, y1, y2⟩ := val_cells hy; obtain ⟨z0, z1, z2⟩ := val_cells hz))
    all_goals
      go_wp2_with (fail)
      go_meet
      exact ⟨rfl, rfl, rfl, hb, hx, hy, hz, hl⟩
  case rest =>
  clear hx hy hz hb hl x0 x1 x2 y0 y1 y2 z0 z1 z2 K1 K2 K3
  obtain ⟨rfl, rfl, rfl, hb, hx, hy, hz, hl⟩ := hcut
  obtain ⟨x0, x1, x2⟩ := val_cells hx
  obtain ⟨y0, y1, y2⟩ := val_cells hy
  obtain ⟨z0, z1, z2⟩ := val_cells hz
  have e0 := HE0.out
  go_wp2_with (fail)
  refine (K4.out _ hb).mono ?_
  rintro e w2 ⟨rfl, hb2⟩
  replace hx := (hb2.block w.heap.size (by omega)).trans hx
  replace hy := (hb2.block (w.heap.size + 1) (by omega)).trans hy
  replace hz := (hb2.block (w.heap.size + 1 + 1) (by omega)).trans hz
  replace hb := hb.trans (hb2.mono hb.size)
  replace hl := Nat.lt_of_lt_of_le hl hb2.size
  clear hb2 x0 x1 x2 y0 y1 y2 z0 z1 z2
  obtain ⟨x0, x1, x2⟩ := val_cells hx
  obtain ⟨y0, y1, y2⟩ := val_cells hy
  obtain ⟨z0, z1, z2⟩ := val_cells hz
  go_wp2_with (fail)
  refine (K5.out _ hb).mono ?_
  rintro e w3 ⟨rfl, hb3⟩
  replace hx := (hb3.block w.heap.size (by omega)).trans hx
  replace hy := (hb3.block (w.heap.size + 1) (by omega)).trans hy
  replace hz := (hb3.block (w.heap.size + 1 + 1) (by omega)).trans hz
  replace hb := hb.trans (hb3.mono hb.size)
  replace hl := Nat.lt_of_lt_of_le hl hb3.size
  clear hb3 x0 x1 x2 y0 y1 y2 z0 z1 z2
  obtain ⟨x0, x1, x2⟩ := val_cells hx
  obtain ⟨y0, y1, y2⟩ := val_cells hy
  obtain ⟨z0, z1, z2⟩ := val_cells hz
  go_wp2_with (fail)
  refine (M1.out _ hb).mono ?_
  rintro e w4 ⟨rfl, hb4⟩
  replace hx := (hb4.block w.heap.size (by omega)).trans hx
  replace hy := (hb4.block (w.heap.size + 1) (by omega)).trans hy
  replace hz := (hb4.block (w.heap.size + 1 + 1) (by omega)).trans hz
  replace hb := hb.trans (hb4.mono hb.size)
  replace hl := Nat.lt_of_lt_of_le hl hb4.size
  clear hb4 x0 x1 x2 y0 y1 y2 z0 z1 z2
  obtain ⟨x0, x1, x2⟩ := val_cells hx
  obtain ⟨y0, y1, y2⟩ := val_cells hy
  obtain ⟨z0, z1, z2⟩ := val_cells hz
  go_wp2_with (fail)
  refine (M2.out _ hb).mono ?_
  rintro e w5 ⟨rfl, hb5⟩
  replace hx := (hb5.block w.heap.size (by omega)).trans hx
  replace hy := (hb5.block (w.heap.size + 1) (by omega)).trans hy
  replace hz := (hb5.block (w.heap.size + 1 + 1) (by omega)).trans hz
  replace hb := hb.trans (hb5.mono hb.size)
  replace hl := Nat.lt_of_lt_of_le hl hb5.size
  clear hb5 x0 x1 x2 y0 y1 y2 z0 z1 z2
  obtain ⟨x0, x1, x2⟩ := val_cells hx
  obtain ⟨y0, y1, y2⟩ := val_cells hy
  obtain ⟨z0, z1, z2⟩ := val_cells hz
  go_wp2_with (fail)
  refine (M3.out _ hb).mono ?_
  rintro e w6 ⟨rfl, hb6⟩
  replace hx := (hb6.block w.heap.size (by omega)).trans hx
  replace hy := (hb6.block (w.heap.size + 1) (by omega)).trans hy
  replace hz := (hb6.block (w.heap.size + 1 + 1) (by omega)).trans hz
  replace hb := hb.trans (hb6.mono hb.size)
  replace hl := Nat.lt_of_lt_of_le hl hb6.size
  clear hb6 x0 x1 x2 y0 y1 y2 z0 z1 z2
  obtain ⟨x0, x1, x2⟩ := val_cells hx
  obtain ⟨y0, y1, y2⟩ := val_cells hy
  obtain ⟨z0, z1, z2⟩ := val_cells hz
  go_wp2
  go_ret
  exact ⟨rfl, hb⟩


set_option maxRecDepth 100000 in
set_option maxHeartbeats 3200000 in
theorem order_c0 (an bn ck cn : Int) (at' bt ct : ByteArray) (x y z x' : Int) (w : World) (e0 : IntKind.i64.wrap (-x') = x) (c1 : decide (x < -1) = false) (c2 : decide (1 < x) = false) 
    (HB0 : ∀ w', Below w.heap.size w w' → Calls Tryd.prog 8 #[] w' fun e w'' => e = .returned (.bool true) ∧ Below w'.heap.size w' w'')
    (K10 : ∀ w', Below w.heap.size w w' → Calls Tryd.prog 16 #[.agg #[.int .i64 0, .int .i64 an, .string at'], .agg #[.int .i64 0, .int .i64 bn, .string bt]] w' fun e w'' => e = .returned (.int .i64 x) ∧ Below w'.heap.size w' w'')
    (K20 : ∀ w', Below w.heap.size w w' → Calls Tryd.prog 16 #[.agg #[.int .i64 0, .int .i64 bn, .string bt], .agg #[.int .i64 ck, .int .i64 cn, .string ct]] w' fun e w'' => e = .returned (.int .i64 y) ∧ Below w'.heap.size w' w'')
    (K30 : ∀ w', Below w.heap.size w w' → Calls Tryd.prog 16 #[.agg #[.int .i64 0, .int .i64 an, .string at'], .agg #[.int .i64 ck, .int .i64 cn, .string ct]] w' fun e w'' => e = .returned (.int .i64 z) ∧ Below w'.heap.size w' w'')
    (K40 : ∀ w', Below w.heap.size w w' → Calls Tryd.prog 16 #[.agg #[.int .i64 0, .int .i64 bn, .string bt], .agg #[.int .i64 0, .int .i64 an, .string at']] w' fun e w'' => e = .returned (.int .i64 x') ∧ Below w'.heap.size w' w'')
    (K50 : ∀ w', Below w.heap.size w w' → Calls Tryd.prog 16 #[.agg #[.int .i64 0, .int .i64 an, .string at'], .agg #[.int .i64 0, .int .i64 an, .string at']] w' fun e w'' => e = .returned (.int .i64 0) ∧ Below w'.heap.size w' w'')
    (M10 : ∀ w', Below w.heap.size w w' → Calls Tryd.prog 11 #[.agg #[.int .i64 0, .int .i64 an, .string at']] w' fun e w'' => e = .returned (.bool true) ∧ Below w'.heap.size w' w'')
    (M20 : ∀ w', Below w.heap.size w w' → Calls Tryd.prog 11 #[.agg #[.int .i64 0, .int .i64 bn, .string bt]] w' fun e w'' => e = .returned (.bool true) ∧ Below w'.heap.size w' w'')
    (M30 : ∀ w', Below w.heap.size w w' → Calls Tryd.prog 11 #[.agg #[.int .i64 ck, .int .i64 cn, .string ct]] w' fun e w'' => e = .returned (.bool true) ∧ Below w'.heap.size w' w'')
    : Calls Tryd.prog 6 #[.agg #[.int .i64 0, .int .i64 an, .string at'], .agg #[.int .i64 0, .int .i64 bn, .string bt], .agg #[.int .i64 ck, .int .i64 cn, .string ct]] w fun e w' => e = .returned (.bool true) ∧ Below w.heap.size w w' := by
  have HB := Lib.hid HB0
  have K1 := Lib.hid K10
  have K2 := Lib.hid K20
  have K3 := Lib.hid K30
  have K4 := Lib.hid K40
  have K5 := Lib.hid K50
  have M1 := Lib.hid M10
  have M2 := Lib.hid M20
  have M3 := Lib.hid M30
  clear HB0 K10 K20 K30 K40 K50 M10 M20 M30
  have HE0 := Lib.hid e0
  clear e0
  go_enter Tryd.func6, Tryd.ntmps6
  go_upto_region 1 with (fail)
  have hx : (((w.alloc (Obj.cells #[.int .i64 0, .int .i64 an, .string at'] 26)).alloc (Obj.cells #[.int .i64 0, .int .i64 bn, .string bt] 26)).alloc (Obj.cells #[.int .i64 ck, .int .i64 cn, .string ct] 26)).heap[w.heap.size]? = some (.cells #[.int .i64 0, .int .i64 an, .string at'] 26 (0, 0)) := (Below.heap_alloc _ _ w.heap.size (by simp; omega)).trans ((Below.heap_alloc _ _ w.heap.size (by simp)).trans (heap_alloc_new _ _))
  have hy : (((w.alloc (Obj.cells #[.int .i64 0, .int .i64 an, .string at'] 26)).alloc (Obj.cells #[.int .i64 0, .int .i64 bn, .string bt] 26)).alloc (Obj.cells #[.int .i64 ck, .int .i64 cn, .string ct] 26)).heap[w.heap.size + 1]? = some (.cells #[.int .i64 0, .int .i64 bn, .string bt] 26 (0, 0)) := (Below.heap_alloc _ _ (w.heap.size + 1) (by simp)).trans (by
    rw [show w.heap.size + 1 = (w.alloc (Obj.cells #[.int .i64 0, .int .i64 an, .string at'] 26)).heap.size by simp]; exact heap_alloc_new _ _)
  have hz : (((w.alloc (Obj.cells #[.int .i64 0, .int .i64 an, .string at'] 26)).alloc (Obj.cells #[.int .i64 0, .int .i64 bn, .string bt] 26)).alloc (Obj.cells #[.int .i64 ck, .int .i64 cn, .string ct] 26)).heap[w.heap.size + 1 + 1]? = some (.cells #[.int .i64 ck, .int .i64 cn, .string ct] 26 (0, 0)) := by
    rw [show w.heap.size + 1 + 1 = ((w.alloc (Obj.cells #[.int .i64 0, .int .i64 an, .string at'] 26)).alloc (Obj.cells #[.int .i64 0, .int .i64 bn, .string bt] 26)).heap.size by simp]; exact heap_alloc_new _ _
  have hb : Below w.heap.size w (((w.alloc (Obj.cells #[.int .i64 0, .int .i64 an, .string at'] 26)).alloc (Obj.cells #[.int .i64 0, .int .i64 bn, .string bt] 26)).alloc (Obj.cells #[.int .i64 ck, .int .i64 cn, .string ct] 26)) := (((Below.refl _ _).alloc (Nat.le_refl w.heap.size) _).alloc (by simp) _).alloc (by simp; omega) _
  have hl : w.heap.size + 1 + 1 < (((w.alloc (Obj.cells #[.int .i64 0, .int .i64 an, .string at'] 26)).alloc (Obj.cells #[.int .i64 0, .int .i64 bn, .string bt] 26)).alloc (Obj.cells #[.int .i64 ck, .int .i64 cn, .string ct] 26)).heap.size := by simp
  generalize (((w.alloc (Obj.cells #[.int .i64 0, .int .i64 an, .string at'] 26)).alloc (Obj.cells #[.int .i64 0, .int .i64 bn, .string bt] 26)).alloc (Obj.cells #[.int .i64 ck, .int .i64 cn, .string ct] 26)) = W0 at *
  obtain ⟨x0, x1, x2⟩ := val_cells hx
  obtain ⟨y0, y1, y2⟩ := val_cells hy
  obtain ⟨z0, z1, z2⟩ := val_cells hz
  go_wp2_with (fail)
  refine (HB.out _ hb).mono ?_
  rintro e w1 ⟨rfl, hb1⟩
  replace hx := (hb1.block w.heap.size (by omega)).trans hx
  replace hy := (hb1.block (w.heap.size + 1) (by omega)).trans hy
  replace hz := (hb1.block (w.heap.size + 1 + 1) (by omega)).trans hz
  replace hb := hb.trans (hb1.mono hb.size)
  replace hl := Nat.lt_of_lt_of_le hl hb1.size
  clear hb1 x0 x1 x2 y0 y1 y2 z0 z1 z2
  obtain ⟨x0, x1, x2⟩ := val_cells hx
  obtain ⟨y0, y1, y2⟩ := val_cells hy
  obtain ⟨z0, z1, z2⟩ := val_cells hz
  go_upto_region 3 with (fail)
  go_cut [7, 8, 9] (fun s7 s8 s9 wx => s7 = .int .i64 x ∧ s8 = .int .i64 y ∧ s9 = .int .i64 z ∧ Below w.heap.size w wx ∧ wx.heap[w.heap.size]? = some (.cells #[.int .i64 0, .int .i64 an, .string at'] 26 (0, 0)) ∧ wx.heap[w.heap.size + 1]? = some (.cells #[.int .i64 0, .int .i64 bn, .string bt] 26 (0, 0)) ∧ wx.heap[w.heap.size + 1 + 1]? = some (.cells #[.int .i64 ck, .int .i64 cn, .string ct] 26 (0, 0)) ∧ w.heap.size + 1 + 1 < wx.heap.size)
  case first =>
    go_region_held3 (fun w' => w'.cell? ⟨w.heap.size, 0, none⟩ = some (.int .i64 0) ∧ w'.cell? ⟨w.heap.size, 1, none⟩ = some (.int .i64 an) ∧ w'.cell? ⟨w.heap.size, 2, none⟩ = some (.string at') ∧ w'.cell? ⟨w.heap.size + 1, 0, none⟩ = some (.int .i64 0) ∧ w'.cell? ⟨w.heap.size + 1, 1, none⟩ = some (.int .i64 bn) ∧ w'.cell? ⟨w.heap.size + 1, 2, none⟩ = some (.string bt) ∧ w'.cell? ⟨w.heap.size + 1 + 1, 0, none⟩ = some (.int .i64 ck) ∧ w'.cell? ⟨w.heap.size + 1 + 1, 1, none⟩ = some (.int .i64 cn) ∧ w'.cell? ⟨w.heap.size + 1 + 1, 2, none⟩ = some (.string ct))
      (first | go_keep | exact ⟨x0, x1, x2, y0, y1, y2, z0, z1, z2⟩)
      ((go_at_call 16; (first | (with_reducible refine (K1.out _ ?_).mono ?_; (first | exact hb | exact hb.drew)) | (with_reducible refine (K2.out _ ?_).mono ?_; (first | exact hb | exact hb.drew)) | (with_reducible refine (K3.out _ ?_).mono ?_; (first | exact hb | exact hb.drew))); rintro e v ⟨rfl, hbn⟩; clear x0 x1 x2 y0 y1 y2 z0 z1 z2; replace hx := (hbn.block w.heap.size (Nat.lt_of_succ_lt (Nat.lt_of_succ_lt hl))).trans hx; replace hy := (hbn.block (w.heap.size + 1) (Nat.lt_of_succ_lt hl)).trans hy; replace hz := (hbn.block (w.heap.size + 1 + 1) hl).trans hz; replace hb : Below w.heap.size w v := (by first | exact hb.trans (hbn.mono hb.size) | exact hb.drew.trans (hbn.mono hb.size)); replace hl := Nat.lt_of_lt_of_le hl hbn.size; clear hbn; obtain ⟨x0, x1, x2⟩ := val_cells hx; obtain ⟨y0, y1, y2⟩ := val_cells hy; obtain ⟨z0, z1, z2⟩ := val_cells hz))
    all_goals
      go_wp2_with (fail)
      go_meet
      exact ⟨rfl, rfl, rfl, hb, hx, hy, hz, hl⟩
  case rest =>
  clear hx hy hz hb hl x0 x1 x2 y0 y1 y2 z0 z1 z2 K1 K2 K3
  obtain ⟨rfl, rfl, rfl, hb, hx, hy, hz, hl⟩ := hcut
  obtain ⟨x0, x1, x2⟩ := val_cells hx
  obtain ⟨y0, y1, y2⟩ := val_cells hy
  obtain ⟨z0, z1, z2⟩ := val_cells hz
  have e0 := HE0.out
  go_wp2_with (fail)
  refine (K4.out _ hb).mono ?_
  rintro e w2 ⟨rfl, hb2⟩
  replace hx := (hb2.block w.heap.size (by omega)).trans hx
  replace hy := (hb2.block (w.heap.size + 1) (by omega)).trans hy
  replace hz := (hb2.block (w.heap.size + 1 + 1) (by omega)).trans hz
  replace hb := hb.trans (hb2.mono hb.size)
  replace hl := Nat.lt_of_lt_of_le hl hb2.size
  clear hb2 x0 x1 x2 y0 y1 y2 z0 z1 z2
  obtain ⟨x0, x1, x2⟩ := val_cells hx
  obtain ⟨y0, y1, y2⟩ := val_cells hy
  obtain ⟨z0, z1, z2⟩ := val_cells hz
  go_wp2_with (fail)
  refine (K5.out _ hb).mono ?_
  rintro e w3 ⟨rfl, hb3⟩
  replace hx := (hb3.block w.heap.size (by omega)).trans hx
  replace hy := (hb3.block (w.heap.size + 1) (by omega)).trans hy
  replace hz := (hb3.block (w.heap.size + 1 + 1) (by omega)).trans hz
  replace hb := hb.trans (hb3.mono hb.size)
  replace hl := Nat.lt_of_lt_of_le hl hb3.size
  clear hb3 x0 x1 x2 y0 y1 y2 z0 z1 z2
  obtain ⟨x0, x1, x2⟩ := val_cells hx
  obtain ⟨y0, y1, y2⟩ := val_cells hy
  obtain ⟨z0, z1, z2⟩ := val_cells hz
  go_wp2_with (fail)
  refine (M1.out _ hb).mono ?_
  rintro e w4 ⟨rfl, hb4⟩
  replace hx := (hb4.block w.heap.size (by omega)).trans hx
  replace hy := (hb4.block (w.heap.size + 1) (by omega)).trans hy
  replace hz := (hb4.block (w.heap.size + 1 + 1) (by omega)).trans hz
  replace hb := hb.trans (hb4.mono hb.size)
  replace hl := Nat.lt_of_lt_of_le hl hb4.size
  clear hb4 x0 x1 x2 y0 y1 y2 z0 z1 z2
  obtain ⟨x0, x1, x2⟩ := val_cells hx
  obtain ⟨y0, y1, y2⟩ := val_cells hy
  obtain ⟨z0, z1, z2⟩ := val_cells hz
  go_wp2_with (fail)
  refine (M2.out _ hb).mono ?_
  rintro e w5 ⟨rfl, hb5⟩
  replace hx := (hb5.block w.heap.size (by omega)).trans hx
  replace hy := (hb5.block (w.heap.size + 1) (by omega)).trans hy
  replace hz := (hb5.block (w.heap.size + 1 + 1) (by omega)).trans hz
  replace hb := hb.trans (hb5.mono hb.size)
  replace hl := Nat.lt_of_lt_of_le hl hb5.size
  clear hb5 x0 x1 x2 y0 y1 y2 z0 z1 z2
  obtain ⟨x0, x1, x2⟩ := val_cells hx
  obtain ⟨y0, y1, y2⟩ := val_cells hy
  obtain ⟨z0, z1, z2⟩ := val_cells hz
  go_wp2_with (fail)
  refine (M3.out _ hb).mono ?_
  rintro e w6 ⟨rfl, hb6⟩
  replace hx := (hb6.block w.heap.size (by omega)).trans hx
  replace hy := (hb6.block (w.heap.size + 1) (by omega)).trans hy
  replace hz := (hb6.block (w.heap.size + 1 + 1) (by omega)).trans hz
  replace hb := hb.trans (hb6.mono hb.size)
  replace hl := Nat.lt_of_lt_of_le hl hb6.size
  clear hb6 x0 x1 x2 y0 y1 y2 z0 z1 z2
  obtain ⟨x0, x1, x2⟩ := val_cells hx
  obtain ⟨y0, y1, y2⟩ := val_cells hy
  obtain ⟨z0, z1, z2⟩ := val_cells hz
  go_wp2
  go_ret
  exact ⟨rfl, hb⟩


set_option maxRecDepth 100000 in
set_option maxHeartbeats 3200000 in
theorem order_cb (ak an bn ck cn : Int) (at' bt ct : ByteArray) (x y z x' : Int) (w : World) (e0 : IntKind.i64.wrap (-x') = x) (c1 : decide (x < -1) = false) (c2 : decide (1 < x) = false) (a0 : (ak == 0) = false) 
    (HB0 : ∀ w', Below w.heap.size w w' → Calls Tryd.prog 8 #[] w' fun e w'' => e = .returned (.bool true) ∧ Below w'.heap.size w' w'')
    (K10 : ∀ w', Below w.heap.size w w' → Calls Tryd.prog 16 #[.agg #[.int .i64 ak, .int .i64 an, .string at'], .agg #[.int .i64 0, .int .i64 bn, .string bt]] w' fun e w'' => e = .returned (.int .i64 x) ∧ Below w'.heap.size w' w'')
    (K20 : ∀ w', Below w.heap.size w w' → Calls Tryd.prog 16 #[.agg #[.int .i64 0, .int .i64 bn, .string bt], .agg #[.int .i64 ck, .int .i64 cn, .string ct]] w' fun e w'' => e = .returned (.int .i64 y) ∧ Below w'.heap.size w' w'')
    (K30 : ∀ w', Below w.heap.size w w' → Calls Tryd.prog 16 #[.agg #[.int .i64 ak, .int .i64 an, .string at'], .agg #[.int .i64 ck, .int .i64 cn, .string ct]] w' fun e w'' => e = .returned (.int .i64 z) ∧ Below w'.heap.size w' w'')
    (K40 : ∀ w', Below w.heap.size w w' → Calls Tryd.prog 16 #[.agg #[.int .i64 0, .int .i64 bn, .string bt], .agg #[.int .i64 ak, .int .i64 an, .string at']] w' fun e w'' => e = .returned (.int .i64 x') ∧ Below w'.heap.size w' w'')
    (K50 : ∀ w', Below w.heap.size w w' → Calls Tryd.prog 16 #[.agg #[.int .i64 ak, .int .i64 an, .string at'], .agg #[.int .i64 ak, .int .i64 an, .string at']] w' fun e w'' => e = .returned (.int .i64 0) ∧ Below w'.heap.size w' w'')
    (M10 : ∀ w', Below w.heap.size w w' → Calls Tryd.prog 11 #[.agg #[.int .i64 ak, .int .i64 an, .string at']] w' fun e w'' => e = .returned (.bool true) ∧ Below w'.heap.size w' w'')
    (M20 : ∀ w', Below w.heap.size w w' → Calls Tryd.prog 11 #[.agg #[.int .i64 0, .int .i64 bn, .string bt]] w' fun e w'' => e = .returned (.bool true) ∧ Below w'.heap.size w' w'')
    (M30 : ∀ w', Below w.heap.size w w' → Calls Tryd.prog 11 #[.agg #[.int .i64 ck, .int .i64 cn, .string ct]] w' fun e w'' => e = .returned (.bool true) ∧ Below w'.heap.size w' w'')
    : Calls Tryd.prog 6 #[.agg #[.int .i64 ak, .int .i64 an, .string at'], .agg #[.int .i64 0, .int .i64 bn, .string bt], .agg #[.int .i64 ck, .int .i64 cn, .string ct]] w fun e w' => e = .returned (.bool true) ∧ Below w.heap.size w w' := by
  have HB := Lib.hid HB0
  have K1 := Lib.hid K10
  have K2 := Lib.hid K20
  have K3 := Lib.hid K30
  have K4 := Lib.hid K40
  have K5 := Lib.hid K50
  have M1 := Lib.hid M10
  have M2 := Lib.hid M20
  have M3 := Lib.hid M30
  clear HB0 K10 K20 K30 K40 K50 M10 M20 M30
  have HE0 := Lib.hid e0
  clear e0
  go_enter Tryd.func6, Tryd.ntmps6
  go_upto_region 1 with (fail)
  have hx : (((w.alloc (Obj.cells #[.int .i64 ak, .int .i64 an, .string at'] 26)).alloc (Obj.cells #[.int .i64 0, .int .i64 bn, .string bt] 26)).alloc (Obj.cells #[.int .i64 ck, .int .i64 cn, .string ct] 26)).heap[w.heap.size]? = some (.cells #[.int .i64 ak, .int .i64 an, .string at'] 26 (0, 0)) := (Below.heap_alloc _ _ w.heap.size (by simp; omega)).trans ((Below.heap_alloc _ _ w.heap.size (by simp)).trans (heap_alloc_new _ _))
  have hy : (((w.alloc (Obj.cells #[.int .i64 ak, .int .i64 an, .string at'] 26)).alloc (Obj.cells #[.int .i64 0, .int .i64 bn, .string bt] 26)).alloc (Obj.cells #[.int .i64 ck, .int .i64 cn, .string ct] 26)).heap[w.heap.size + 1]? = some (.cells #[.int .i64 0, .int .i64 bn, .string bt] 26 (0, 0)) := (Below.heap_alloc _ _ (w.heap.size + 1) (by simp)).trans (by
    rw [show w.heap.size + 1 = (w.alloc (Obj.cells #[.int .i64 ak, .int .i64 an, .string at'] 26)).heap.size by simp]; exact heap_alloc_new _ _)
  have hz : (((w.alloc (Obj.cells #[.int .i64 ak, .int .i64 an, .string at'] 26)).alloc (Obj.cells #[.int .i64 0, .int .i64 bn, .string bt] 26)).alloc (Obj.cells #[.int .i64 ck, .int .i64 cn, .string ct] 26)).heap[w.heap.size + 1 + 1]? = some (.cells #[.int .i64 ck, .int .i64 cn, .string ct] 26 (0, 0)) := by
    rw [show w.heap.size + 1 + 1 = ((w.alloc (Obj.cells #[.int .i64 ak, .int .i64 an, .string at'] 26)).alloc (Obj.cells #[.int .i64 0, .int .i64 bn, .string bt] 26)).heap.size by simp]; exact heap_alloc_new _ _
  have hb : Below w.heap.size w (((w.alloc (Obj.cells #[.int .i64 ak, .int .i64 an, .string at'] 26)).alloc (Obj.cells #[.int .i64 0, .int .i64 bn, .string bt] 26)).alloc (Obj.cells #[.int .i64 ck, .int .i64 cn, .string ct] 26)) := (((Below.refl _ _).alloc (Nat.le_refl w.heap.size) _).alloc (by simp) _).alloc (by simp; omega) _
  have hl : w.heap.size + 1 + 1 < (((w.alloc (Obj.cells #[.int .i64 ak, .int .i64 an, .string at'] 26)).alloc (Obj.cells #[.int .i64 0, .int .i64 bn, .string bt] 26)).alloc (Obj.cells #[.int .i64 ck, .int .i64 cn, .string ct] 26)).heap.size := by simp
  generalize (((w.alloc (Obj.cells #[.int .i64 ak, .int .i64 an, .string at'] 26)).alloc (Obj.cells #[.int .i64 0, .int .i64 bn, .string bt] 26)).alloc (Obj.cells #[.int .i64 ck, .int .i64 cn, .string ct] 26)) = W0 at *
  obtain ⟨x0, x1, x2⟩ := val_cells hx
  obtain ⟨y0, y1, y2⟩ := val_cells hy
  obtain ⟨z0, z1, z2⟩ := val_cells hz
  go_wp2_with (fail)
  refine (HB.out _ hb).mono ?_
  rintro e w1 ⟨rfl, hb1⟩
  replace hx := (hb1.block w.heap.size (by omega)).trans hx
  replace hy := (hb1.block (w.heap.size + 1) (by omega)).trans hy
  replace hz := (hb1.block (w.heap.size + 1 + 1) (by omega)).trans hz
  replace hb := hb.trans (hb1.mono hb.size)
  replace hl := Nat.lt_of_lt_of_le hl hb1.size
  clear hb1 x0 x1 x2 y0 y1 y2 z0 z1 z2
  obtain ⟨x0, x1, x2⟩ := val_cells hx
  obtain ⟨y0, y1, y2⟩ := val_cells hy
  obtain ⟨z0, z1, z2⟩ := val_cells hz
  go_upto_region 3 with (fail)
  go_cut [7, 8, 9] (fun s7 s8 s9 wx => s7 = .int .i64 x ∧ s8 = .int .i64 y ∧ s9 = .int .i64 z ∧ Below w.heap.size w wx ∧ wx.heap[w.heap.size]? = some (.cells #[.int .i64 ak, .int .i64 an, .string at'] 26 (0, 0)) ∧ wx.heap[w.heap.size + 1]? = some (.cells #[.int .i64 0, .int .i64 bn, .string bt] 26 (0, 0)) ∧ wx.heap[w.heap.size + 1 + 1]? = some (.cells #[.int .i64 ck, .int .i64 cn, .string ct] 26 (0, 0)) ∧ w.heap.size + 1 + 1 < wx.heap.size)
  case first =>
    go_region_held3 (fun w' => w'.cell? ⟨w.heap.size, 0, none⟩ = some (.int .i64 ak) ∧ w'.cell? ⟨w.heap.size, 1, none⟩ = some (.int .i64 an) ∧ w'.cell? ⟨w.heap.size, 2, none⟩ = some (.string at') ∧ w'.cell? ⟨w.heap.size + 1, 0, none⟩ = some (.int .i64 0) ∧ w'.cell? ⟨w.heap.size + 1, 1, none⟩ = some (.int .i64 bn) ∧ w'.cell? ⟨w.heap.size + 1, 2, none⟩ = some (.string bt) ∧ w'.cell? ⟨w.heap.size + 1 + 1, 0, none⟩ = some (.int .i64 ck) ∧ w'.cell? ⟨w.heap.size + 1 + 1, 1, none⟩ = some (.int .i64 cn) ∧ w'.cell? ⟨w.heap.size + 1 + 1, 2, none⟩ = some (.string ct))
      (first | go_keep | exact ⟨x0, x1, x2, y0, y1, y2, z0, z1, z2⟩)
      ((go_at_call 16; (first | (with_reducible refine (K1.out _ ?_).mono ?_; (first | exact hb | exact hb.drew)) | (with_reducible refine (K2.out _ ?_).mono ?_; (first | exact hb | exact hb.drew)) | (with_reducible refine (K3.out _ ?_).mono ?_; (first | exact hb | exact hb.drew))); rintro e v ⟨rfl, hbn⟩; clear x0 x1 x2 y0 y1 y2 z0 z1 z2; replace hx := (hbn.block w.heap.size (Nat.lt_of_succ_lt (Nat.lt_of_succ_lt hl))).trans hx; replace hy := (hbn.block (w.heap.size + 1) (Nat.lt_of_succ_lt hl)).trans hy; replace hz := (hbn.block (w.heap.size + 1 + 1) hl).trans hz; replace hb : Below w.heap.size w v := (by first | exact hb.trans (hbn.mono hb.size) | exact hb.drew.trans (hbn.mono hb.size)); replace hl := Nat.lt_of_lt_of_le hl hbn.size; clear hbn; obtain ⟨x0, x1, x2⟩ := val_cells hx; obtain ⟨y0, y1, y2⟩ := val_cells hy; obtain ⟨z0, z1, z2⟩ := val_cells hz))
    all_goals
      go_wp2_with (fail)
      go_meet
      exact ⟨rfl, rfl, rfl, hb, hx, hy, hz, hl⟩
  case rest =>
  clear hx hy hz hb hl x0 x1 x2 y0 y1 y2 z0 z1 z2 K1 K2 K3
  obtain ⟨rfl, rfl, rfl, hb, hx, hy, hz, hl⟩ := hcut
  obtain ⟨x0, x1, x2⟩ := val_cells hx
  obtain ⟨y0, y1, y2⟩ := val_cells hy
  obtain ⟨z0, z1, z2⟩ := val_cells hz
  have e0 := HE0.out
  go_wp2_with (fail)
  refine (K4.out _ hb).mono ?_
  rintro e w2 ⟨rfl, hb2⟩
  replace hx := (hb2.block w.heap.size (by omega)).trans hx
  replace hy := (hb2.block (w.heap.size + 1) (by omega)).trans hy
  replace hz := (hb2.block (w.heap.size + 1 + 1) (by omega)).trans hz
  replace hb := hb.trans (hb2.mono hb.size)
  replace hl := Nat.lt_of_lt_of_le hl hb2.size
  clear hb2 x0 x1 x2 y0 y1 y2 z0 z1 z2
  obtain ⟨x0, x1, x2⟩ := val_cells hx
  obtain ⟨y0, y1, y2⟩ := val_cells hy
  obtain ⟨z0, z1, z2⟩ := val_cells hz
  go_wp2_with (fail)
  refine (K5.out _ hb).mono ?_
  rintro e w3 ⟨rfl, hb3⟩
  replace hx := (hb3.block w.heap.size (by omega)).trans hx
  replace hy := (hb3.block (w.heap.size + 1) (by omega)).trans hy
  replace hz := (hb3.block (w.heap.size + 1 + 1) (by omega)).trans hz
  replace hb := hb.trans (hb3.mono hb.size)
  replace hl := Nat.lt_of_lt_of_le hl hb3.size
  clear hb3 x0 x1 x2 y0 y1 y2 z0 z1 z2
  obtain ⟨x0, x1, x2⟩ := val_cells hx
  obtain ⟨y0, y1, y2⟩ := val_cells hy
  obtain ⟨z0, z1, z2⟩ := val_cells hz
  go_wp2_with (fail)
  refine (M1.out _ hb).mono ?_
  rintro e w4 ⟨rfl, hb4⟩
  replace hx := (hb4.block w.heap.size (by omega)).trans hx
  replace hy := (hb4.block (w.heap.size + 1) (by omega)).trans hy
  replace hz := (hb4.block (w.heap.size + 1 + 1) (by omega)).trans hz
  replace hb := hb.trans (hb4.mono hb.size)
  replace hl := Nat.lt_of_lt_of_le hl hb4.size
  clear hb4 x0 x1 x2 y0 y1 y2 z0 z1 z2
  obtain ⟨x0, x1, x2⟩ := val_cells hx
  obtain ⟨y0, y1, y2⟩ := val_cells hy
  obtain ⟨z0, z1, z2⟩ := val_cells hz
  go_wp2_with (fail)
  refine (M2.out _ hb).mono ?_
  rintro e w5 ⟨rfl, hb5⟩
  replace hx := (hb5.block w.heap.size (by omega)).trans hx
  replace hy := (hb5.block (w.heap.size + 1) (by omega)).trans hy
  replace hz := (hb5.block (w.heap.size + 1 + 1) (by omega)).trans hz
  replace hb := hb.trans (hb5.mono hb.size)
  replace hl := Nat.lt_of_lt_of_le hl hb5.size
  clear hb5 x0 x1 x2 y0 y1 y2 z0 z1 z2
  obtain ⟨x0, x1, x2⟩ := val_cells hx
  obtain ⟨y0, y1, y2⟩ := val_cells hy
  obtain ⟨z0, z1, z2⟩ := val_cells hz
  go_wp2_with (fail)
  refine (M3.out _ hb).mono ?_
  rintro e w6 ⟨rfl, hb6⟩
  replace hx := (hb6.block w.heap.size (by omega)).trans hx
  replace hy := (hb6.block (w.heap.size + 1) (by omega)).trans hy
  replace hz := (hb6.block (w.heap.size + 1 + 1) (by omega)).trans hz
  replace hb := hb.trans (hb6.mono hb.size)
  replace hl := Nat.lt_of_lt_of_le hl hb6.size
  clear hb6 x0 x1 x2 y0 y1 y2 z0 z1 z2
  obtain ⟨x0, x1, x2⟩ := val_cells hx
  obtain ⟨y0, y1, y2⟩ := val_cells hy
  obtain ⟨z0, z1, z2⟩ := val_cells hz
  go_wp2
  go_ret
  exact ⟨rfl, hb⟩


set_option maxRecDepth 100000 in
set_option maxHeartbeats 3200000 in
theorem order_cc (ak an bk bn cn : Int) (at' bt ct : ByteArray) (x y z x' : Int) (w : World) (e0 : IntKind.i64.wrap (-x') = x) (c1 : decide (x < -1) = false) (c2 : decide (1 < x) = false) (a0 : (ak == 0) = false) (b0 : (bk == 0) = false) 
    (HB0 : ∀ w', Below w.heap.size w w' → Calls Tryd.prog 8 #[] w' fun e w'' => e = .returned (.bool true) ∧ Below w'.heap.size w' w'')
    (K10 : ∀ w', Below w.heap.size w w' → Calls Tryd.prog 16 #[.agg #[.int .i64 ak, .int .i64 an, .string at'], .agg #[.int .i64 bk, .int .i64 bn, .string bt]] w' fun e w'' => e = .returned (.int .i64 x) ∧ Below w'.heap.size w' w'')
    (K20 : ∀ w', Below w.heap.size w w' → Calls Tryd.prog 16 #[.agg #[.int .i64 bk, .int .i64 bn, .string bt], .agg #[.int .i64 0, .int .i64 cn, .string ct]] w' fun e w'' => e = .returned (.int .i64 y) ∧ Below w'.heap.size w' w'')
    (K30 : ∀ w', Below w.heap.size w w' → Calls Tryd.prog 16 #[.agg #[.int .i64 ak, .int .i64 an, .string at'], .agg #[.int .i64 0, .int .i64 cn, .string ct]] w' fun e w'' => e = .returned (.int .i64 z) ∧ Below w'.heap.size w' w'')
    (K40 : ∀ w', Below w.heap.size w w' → Calls Tryd.prog 16 #[.agg #[.int .i64 bk, .int .i64 bn, .string bt], .agg #[.int .i64 ak, .int .i64 an, .string at']] w' fun e w'' => e = .returned (.int .i64 x') ∧ Below w'.heap.size w' w'')
    (K50 : ∀ w', Below w.heap.size w w' → Calls Tryd.prog 16 #[.agg #[.int .i64 ak, .int .i64 an, .string at'], .agg #[.int .i64 ak, .int .i64 an, .string at']] w' fun e w'' => e = .returned (.int .i64 0) ∧ Below w'.heap.size w' w'')
    (M10 : ∀ w', Below w.heap.size w w' → Calls Tryd.prog 11 #[.agg #[.int .i64 ak, .int .i64 an, .string at']] w' fun e w'' => e = .returned (.bool true) ∧ Below w'.heap.size w' w'')
    (M20 : ∀ w', Below w.heap.size w w' → Calls Tryd.prog 11 #[.agg #[.int .i64 bk, .int .i64 bn, .string bt]] w' fun e w'' => e = .returned (.bool true) ∧ Below w'.heap.size w' w'')
    (M30 : ∀ w', Below w.heap.size w w' → Calls Tryd.prog 11 #[.agg #[.int .i64 0, .int .i64 cn, .string ct]] w' fun e w'' => e = .returned (.bool true) ∧ Below w'.heap.size w' w'')
    : Calls Tryd.prog 6 #[.agg #[.int .i64 ak, .int .i64 an, .string at'], .agg #[.int .i64 bk, .int .i64 bn, .string bt], .agg #[.int .i64 0, .int .i64 cn, .string ct]] w fun e w' => e = .returned (.bool true) ∧ Below w.heap.size w w' := by
  have HB := Lib.hid HB0
  have K1 := Lib.hid K10
  have K2 := Lib.hid K20
  have K3 := Lib.hid K30
  have K4 := Lib.hid K40
  have K5 := Lib.hid K50
  have M1 := Lib.hid M10
  have M2 := Lib.hid M20
  have M3 := Lib.hid M30
  clear HB0 K10 K20 K30 K40 K50 M10 M20 M30
  have HE0 := Lib.hid e0
  clear e0
  go_enter Tryd.func6, Tryd.ntmps6
  go_upto_region 1 with (fail)
  have hx : (((w.alloc (Obj.cells #[.int .i64 ak, .int .i64 an, .string at'] 26)).alloc (Obj.cells #[.int .i64 bk, .int .i64 bn, .string bt] 26)).alloc (Obj.cells #[.int .i64 0, .int .i64 cn, .string ct] 26)).heap[w.heap.size]? = some (.cells #[.int .i64 ak, .int .i64 an, .string at'] 26 (0, 0)) := (Below.heap_alloc _ _ w.heap.size (by simp; omega)).trans ((Below.heap_alloc _ _ w.heap.size (by simp)).trans (heap_alloc_new _ _))
  have hy : (((w.alloc (Obj.cells #[.int .i64 ak, .int .i64 an, .string at'] 26)).alloc (Obj.cells #[.int .i64 bk, .int .i64 bn, .string bt] 26)).alloc (Obj.cells #[.int .i64 0, .int .i64 cn, .string ct] 26)).heap[w.heap.size + 1]? = some (.cells #[.int .i64 bk, .int .i64 bn, .string bt] 26 (0, 0)) := (Below.heap_alloc _ _ (w.heap.size + 1) (by simp)).trans (by
    rw [show w.heap.size + 1 = (w.alloc (Obj.cells #[.int .i64 ak, .int .i64 an, .string at'] 26)).heap.size by simp]; exact heap_alloc_new _ _)
  have hz : (((w.alloc (Obj.cells #[.int .i64 ak, .int .i64 an, .string at'] 26)).alloc (Obj.cells #[.int .i64 bk, .int .i64 bn, .string bt] 26)).alloc (Obj.cells #[.int .i64 0, .int .i64 cn, .string ct] 26)).heap[w.heap.size + 1 + 1]? = some (.cells #[.int .i64 0, .int .i64 cn, .string ct] 26 (0, 0)) := by
    rw [show w.heap.size + 1 + 1 = ((w.alloc (Obj.cells #[.int .i64 ak, .int .i64 an, .string at'] 26)).alloc (Obj.cells #[.int .i64 bk, .int .i64 bn, .string bt] 26)).heap.size by simp]; exact heap_alloc_new _ _
  have hb : Below w.heap.size w (((w.alloc (Obj.cells #[.int .i64 ak, .int .i64 an, .string at'] 26)).alloc (Obj.cells #[.int .i64 bk, .int .i64 bn, .string bt] 26)).alloc (Obj.cells #[.int .i64 0, .int .i64 cn, .string ct] 26)) := (((Below.refl _ _).alloc (Nat.le_refl w.heap.size) _).alloc (by simp) _).alloc (by simp; omega) _
  have hl : w.heap.size + 1 + 1 < (((w.alloc (Obj.cells #[.int .i64 ak, .int .i64 an, .string at'] 26)).alloc (Obj.cells #[.int .i64 bk, .int .i64 bn, .string bt] 26)).alloc (Obj.cells #[.int .i64 0, .int .i64 cn, .string ct] 26)).heap.size := by simp
  generalize (((w.alloc (Obj.cells #[.int .i64 ak, .int .i64 an, .string at'] 26)).alloc (Obj.cells #[.int .i64 bk, .int .i64 bn, .string bt] 26)).alloc (Obj.cells #[.int .i64 0, .int .i64 cn, .string ct] 26)) = W0 at *
  obtain ⟨x0, x1, x2⟩ := val_cells hx
  obtain ⟨y0, y1, y2⟩ := val_cells hy
  obtain ⟨z0, z1, z2⟩ := val_cells hz
  go_wp2_with (fail)
  refine (HB.out _ hb).mono ?_
  rintro e w1 ⟨rfl, hb1⟩
  replace hx := (hb1.block w.heap.size (by omega)).trans hx
  replace hy := (hb1.block (w.heap.size + 1) (by omega)).trans hy
  replace hz := (hb1.block (w.heap.size + 1 + 1) (by omega)).trans hz
  replace hb := hb.trans (hb1.mono hb.size)
  replace hl := Nat.lt_of_lt_of_le hl hb1.size
  clear hb1 x0 x1 x2 y0 y1 y2 z0 z1 z2
  obtain ⟨x0, x1, x2⟩ := val_cells hx
  obtain ⟨y0, y1, y2⟩ := val_cells hy
  obtain ⟨z0, z1, z2⟩ := val_cells hz
  go_upto_region 3 with (fail)
  go_cut [7, 8, 9] (fun s7 s8 s9 wx => s7 = .int .i64 x ∧ s8 = .int .i64 y ∧ s9 = .int .i64 z ∧ Below w.heap.size w wx ∧ wx.heap[w.heap.size]? = some (.cells #[.int .i64 ak, .int .i64 an, .string at'] 26 (0, 0)) ∧ wx.heap[w.heap.size + 1]? = some (.cells #[.int .i64 bk, .int .i64 bn, .string bt] 26 (0, 0)) ∧ wx.heap[w.heap.size + 1 + 1]? = some (.cells #[.int .i64 0, .int .i64 cn, .string ct] 26 (0, 0)) ∧ w.heap.size + 1 + 1 < wx.heap.size)
  case first =>
    go_region_held3 (fun w' => w'.cell? ⟨w.heap.size, 0, none⟩ = some (.int .i64 ak) ∧ w'.cell? ⟨w.heap.size, 1, none⟩ = some (.int .i64 an) ∧ w'.cell? ⟨w.heap.size, 2, none⟩ = some (.string at') ∧ w'.cell? ⟨w.heap.size + 1, 0, none⟩ = some (.int .i64 bk) ∧ w'.cell? ⟨w.heap.size + 1, 1, none⟩ = some (.int .i64 bn) ∧ w'.cell? ⟨w.heap.size + 1, 2, none⟩ = some (.string bt) ∧ w'.cell? ⟨w.heap.size + 1 + 1, 0, none⟩ = some (.int .i64 0) ∧ w'.cell? ⟨w.heap.size + 1 + 1, 1, none⟩ = some (.int .i64 cn) ∧ w'.cell? ⟨w.heap.size + 1 + 1, 2, none⟩ = some (.string ct))
      (first | go_keep | exact ⟨x0, x1, x2, y0, y1, y2, z0, z1, z2⟩)
      ((go_at_call 16; (first | (with_reducible refine (K1.out _ ?_).mono ?_; (first | exact hb | exact hb.drew)) | (with_reducible refine (K2.out _ ?_).mono ?_; (first | exact hb | exact hb.drew)) | (with_reducible refine (K3.out _ ?_).mono ?_; (first | exact hb | exact hb.drew))); rintro e v ⟨rfl, hbn⟩; clear x0 x1 x2 y0 y1 y2 z0 z1 z2; replace hx := (hbn.block w.heap.size (Nat.lt_of_succ_lt (Nat.lt_of_succ_lt hl))).trans hx; replace hy := (hbn.block (w.heap.size + 1) (Nat.lt_of_succ_lt hl)).trans hy; replace hz := (hbn.block (w.heap.size + 1 + 1) hl).trans hz; replace hb : Below w.heap.size w v := (by first | exact hb.trans (hbn.mono hb.size) | exact hb.drew.trans (hbn.mono hb.size)); replace hl := Nat.lt_of_lt_of_le hl hbn.size; clear hbn; obtain ⟨x0, x1, x2⟩ := val_cells hx; obtain ⟨y0, y1, y2⟩ := val_cells hy; obtain ⟨z0, z1, z2⟩ := val_cells hz))
    all_goals
      go_wp2_with (fail)
      go_meet
      exact ⟨rfl, rfl, rfl, hb, hx, hy, hz, hl⟩
  case rest =>
  clear hx hy hz hb hl x0 x1 x2 y0 y1 y2 z0 z1 z2 K1 K2 K3
  obtain ⟨rfl, rfl, rfl, hb, hx, hy, hz, hl⟩ := hcut
  obtain ⟨x0, x1, x2⟩ := val_cells hx
  obtain ⟨y0, y1, y2⟩ := val_cells hy
  obtain ⟨z0, z1, z2⟩ := val_cells hz
  have e0 := HE0.out
  go_wp2_with (fail)
  refine (K4.out _ hb).mono ?_
  rintro e w2 ⟨rfl, hb2⟩
  replace hx := (hb2.block w.heap.size (by omega)).trans hx
  replace hy := (hb2.block (w.heap.size + 1) (by omega)).trans hy
  replace hz := (hb2.block (w.heap.size + 1 + 1) (by omega)).trans hz
  replace hb := hb.trans (hb2.mono hb.size)
  replace hl := Nat.lt_of_lt_of_le hl hb2.size
  clear hb2 x0 x1 x2 y0 y1 y2 z0 z1 z2
  obtain ⟨x0, x1, x2⟩ := val_cells hx
  obtain ⟨y0, y1, y2⟩ := val_cells hy
  obtain ⟨z0, z1, z2⟩ := val_cells hz
  go_wp2_with (fail)
  refine (K5.out _ hb).mono ?_
  rintro e w3 ⟨rfl, hb3⟩
  replace hx := (hb3.block w.heap.size (by omega)).trans hx
  replace hy := (hb3.block (w.heap.size + 1) (by omega)).trans hy
  replace hz := (hb3.block (w.heap.size + 1 + 1) (by omega)).trans hz
  replace hb := hb.trans (hb3.mono hb.size)
  replace hl := Nat.lt_of_lt_of_le hl hb3.size
  clear hb3 x0 x1 x2 y0 y1 y2 z0 z1 z2
  obtain ⟨x0, x1, x2⟩ := val_cells hx
  obtain ⟨y0, y1, y2⟩ := val_cells hy
  obtain ⟨z0, z1, z2⟩ := val_cells hz
  go_wp2_with (fail)
  refine (M1.out _ hb).mono ?_
  rintro e w4 ⟨rfl, hb4⟩
  replace hx := (hb4.block w.heap.size (by omega)).trans hx
  replace hy := (hb4.block (w.heap.size + 1) (by omega)).trans hy
  replace hz := (hb4.block (w.heap.size + 1 + 1) (by omega)).trans hz
  replace hb := hb.trans (hb4.mono hb.size)
  replace hl := Nat.lt_of_lt_of_le hl hb4.size
  clear hb4 x0 x1 x2 y0 y1 y2 z0 z1 z2
  obtain ⟨x0, x1, x2⟩ := val_cells hx
  obtain ⟨y0, y1, y2⟩ := val_cells hy
  obtain ⟨z0, z1, z2⟩ := val_cells hz
  go_wp2_with (fail)
  refine (M2.out _ hb).mono ?_
  rintro e w5 ⟨rfl, hb5⟩
  replace hx := (hb5.block w.heap.size (by omega)).trans hx
  replace hy := (hb5.block (w.heap.size + 1) (by omega)).trans hy
  replace hz := (hb5.block (w.heap.size + 1 + 1) (by omega)).trans hz
  replace hb := hb.trans (hb5.mono hb.size)
  replace hl := Nat.lt_of_lt_of_le hl hb5.size
  clear hb5 x0 x1 x2 y0 y1 y2 z0 z1 z2
  obtain ⟨x0, x1, x2⟩ := val_cells hx
  obtain ⟨y0, y1, y2⟩ := val_cells hy
  obtain ⟨z0, z1, z2⟩ := val_cells hz
  go_wp2_with (fail)
  refine (M3.out _ hb).mono ?_
  rintro e w6 ⟨rfl, hb6⟩
  replace hx := (hb6.block w.heap.size (by omega)).trans hx
  replace hy := (hb6.block (w.heap.size + 1) (by omega)).trans hy
  replace hz := (hb6.block (w.heap.size + 1 + 1) (by omega)).trans hz
  replace hb := hb.trans (hb6.mono hb.size)
  replace hl := Nat.lt_of_lt_of_le hl hb6.size
  clear hb6 x0 x1 x2 y0 y1 y2 z0 z1 z2
  obtain ⟨x0, x1, x2⟩ := val_cells hx
  obtain ⟨y0, y1, y2⟩ := val_cells hy
  obtain ⟨z0, z1, z2⟩ := val_cells hz
  go_wp2
  go_ret
  exact ⟨rfl, hb⟩


set_option maxRecDepth 100000 in
set_option maxHeartbeats 3200000 in
theorem order_dk (ak an bk bn ck cn : Int) (at' bt ct : ByteArray) (x y z x' : Int) (w : World) (e0 : IntKind.i64.wrap (-x') = x) (c1 : decide (x < -1) = false) (c2 : decide (1 < x) = false) (a0 : (ak == 0) = false) (b0 : (bk == 0) = false) (c0 : (ck == 0) = false) (hne : ¬ ak = bk) (hx0 : (x == 0) = false) (hfin : 0 < x ∨ (x < 0 ∧ 0 < y) ∨ (x < 0 ∧ y ≤ 0 ∧ z < 0)) 
    (HB0 : ∀ w', Below w.heap.size w w' → Calls Tryd.prog 8 #[] w' fun e w'' => e = .returned (.bool true) ∧ Below w'.heap.size w' w'')
    (K10 : ∀ w', Below w.heap.size w w' → Calls Tryd.prog 16 #[.agg #[.int .i64 ak, .int .i64 an, .string at'], .agg #[.int .i64 bk, .int .i64 bn, .string bt]] w' fun e w'' => e = .returned (.int .i64 x) ∧ Below w'.heap.size w' w'')
    (K20 : ∀ w', Below w.heap.size w w' → Calls Tryd.prog 16 #[.agg #[.int .i64 bk, .int .i64 bn, .string bt], .agg #[.int .i64 ck, .int .i64 cn, .string ct]] w' fun e w'' => e = .returned (.int .i64 y) ∧ Below w'.heap.size w' w'')
    (K30 : ∀ w', Below w.heap.size w w' → Calls Tryd.prog 16 #[.agg #[.int .i64 ak, .int .i64 an, .string at'], .agg #[.int .i64 ck, .int .i64 cn, .string ct]] w' fun e w'' => e = .returned (.int .i64 z) ∧ Below w'.heap.size w' w'')
    (K40 : ∀ w', Below w.heap.size w w' → Calls Tryd.prog 16 #[.agg #[.int .i64 bk, .int .i64 bn, .string bt], .agg #[.int .i64 ak, .int .i64 an, .string at']] w' fun e w'' => e = .returned (.int .i64 x') ∧ Below w'.heap.size w' w'')
    (K50 : ∀ w', Below w.heap.size w w' → Calls Tryd.prog 16 #[.agg #[.int .i64 ak, .int .i64 an, .string at'], .agg #[.int .i64 ak, .int .i64 an, .string at']] w' fun e w'' => e = .returned (.int .i64 0) ∧ Below w'.heap.size w' w'')
    (M10 : ∀ w', Below w.heap.size w w' → Calls Tryd.prog 11 #[.agg #[.int .i64 ak, .int .i64 an, .string at']] w' fun e w'' => e = .returned (.bool true) ∧ Below w'.heap.size w' w'')
    (M20 : ∀ w', Below w.heap.size w w' → Calls Tryd.prog 11 #[.agg #[.int .i64 bk, .int .i64 bn, .string bt]] w' fun e w'' => e = .returned (.bool true) ∧ Below w'.heap.size w' w'')
    (M30 : ∀ w', Below w.heap.size w w' → Calls Tryd.prog 11 #[.agg #[.int .i64 ck, .int .i64 cn, .string ct]] w' fun e w'' => e = .returned (.bool true) ∧ Below w'.heap.size w' w'')
    (Q10 : ∀ w', Below w.heap.size w w' → Calls Tryd.prog 17 #[.agg #[.int .i64 ak, .int .i64 an, .string at'], .agg #[.int .i64 bk, .int .i64 bn, .string bt]] w' fun e w'' => e = .returned (.bool false) ∧ Below w'.heap.size w' w'')
    : Calls Tryd.prog 6 #[.agg #[.int .i64 ak, .int .i64 an, .string at'], .agg #[.int .i64 bk, .int .i64 bn, .string bt], .agg #[.int .i64 ck, .int .i64 cn, .string ct]] w fun e w' => e = .returned (.bool true) ∧ Below w.heap.size w w' := by
  have HB := Lib.hid HB0
  have K1 := Lib.hid K10
  have K2 := Lib.hid K20
  have K3 := Lib.hid K30
  have K4 := Lib.hid K40
  have K5 := Lib.hid K50
  have M1 := Lib.hid M10
  have M2 := Lib.hid M20
  have M3 := Lib.hid M30
  have Q1 := Lib.hid Q10
  clear HB0 K10 K20 K30 K40 K50 M10 M20 M30 Q10
  have HF := Lib.hid hfin
  clear hfin
  have HE0 := Lib.hid e0
  clear e0
  go_enter Tryd.func6, Tryd.ntmps6
  go_upto_region 1 with (fail)
  have hx : (((w.alloc (Obj.cells #[.int .i64 ak, .int .i64 an, .string at'] 26)).alloc (Obj.cells #[.int .i64 bk, .int .i64 bn, .string bt] 26)).alloc (Obj.cells #[.int .i64 ck, .int .i64 cn, .string ct] 26)).heap[w.heap.size]? = some (.cells #[.int .i64 ak, .int .i64 an, .string at'] 26 (0, 0)) := (Below.heap_alloc _ _ w.heap.size (by simp; omega)).trans ((Below.heap_alloc _ _ w.heap.size (by simp)).trans (heap_alloc_new _ _))
  have hy : (((w.alloc (Obj.cells #[.int .i64 ak, .int .i64 an, .string at'] 26)).alloc (Obj.cells #[.int .i64 bk, .int .i64 bn, .string bt] 26)).alloc (Obj.cells #[.int .i64 ck, .int .i64 cn, .string ct] 26)).heap[w.heap.size + 1]? = some (.cells #[.int .i64 bk, .int .i64 bn, .string bt] 26 (0, 0)) := (Below.heap_alloc _ _ (w.heap.size + 1) (by simp)).trans (by
    rw [show w.heap.size + 1 = (w.alloc (Obj.cells #[.int .i64 ak, .int .i64 an, .string at'] 26)).heap.size by simp]; exact heap_alloc_new _ _)
  have hz : (((w.alloc (Obj.cells #[.int .i64 ak, .int .i64 an, .string at'] 26)).alloc (Obj.cells #[.int .i64 bk, .int .i64 bn, .string bt] 26)).alloc (Obj.cells #[.int .i64 ck, .int .i64 cn, .string ct] 26)).heap[w.heap.size + 1 + 1]? = some (.cells #[.int .i64 ck, .int .i64 cn, .string ct] 26 (0, 0)) := by
    rw [show w.heap.size + 1 + 1 = ((w.alloc (Obj.cells #[.int .i64 ak, .int .i64 an, .string at'] 26)).alloc (Obj.cells #[.int .i64 bk, .int .i64 bn, .string bt] 26)).heap.size by simp]; exact heap_alloc_new _ _
  have hb : Below w.heap.size w (((w.alloc (Obj.cells #[.int .i64 ak, .int .i64 an, .string at'] 26)).alloc (Obj.cells #[.int .i64 bk, .int .i64 bn, .string bt] 26)).alloc (Obj.cells #[.int .i64 ck, .int .i64 cn, .string ct] 26)) := (((Below.refl _ _).alloc (Nat.le_refl w.heap.size) _).alloc (by simp) _).alloc (by simp; omega) _
  have hl : w.heap.size + 1 + 1 < (((w.alloc (Obj.cells #[.int .i64 ak, .int .i64 an, .string at'] 26)).alloc (Obj.cells #[.int .i64 bk, .int .i64 bn, .string bt] 26)).alloc (Obj.cells #[.int .i64 ck, .int .i64 cn, .string ct] 26)).heap.size := by simp
  generalize (((w.alloc (Obj.cells #[.int .i64 ak, .int .i64 an, .string at'] 26)).alloc (Obj.cells #[.int .i64 bk, .int .i64 bn, .string bt] 26)).alloc (Obj.cells #[.int .i64 ck, .int .i64 cn, .string ct] 26)) = W0 at *
  obtain ⟨x0, x1, x2⟩ := val_cells hx
  obtain ⟨y0, y1, y2⟩ := val_cells hy
  obtain ⟨z0, z1, z2⟩ := val_cells hz
  go_wp2_with (fail)
  refine (HB.out _ hb).mono ?_
  rintro e w1 ⟨rfl, hb1⟩
  replace hx := (hb1.block w.heap.size (by omega)).trans hx
  replace hy := (hb1.block (w.heap.size + 1) (by omega)).trans hy
  replace hz := (hb1.block (w.heap.size + 1 + 1) (by omega)).trans hz
  replace hb := hb.trans (hb1.mono hb.size)
  replace hl := Nat.lt_of_lt_of_le hl hb1.size
  clear hb1 x0 x1 x2 y0 y1 y2 z0 z1 z2
  obtain ⟨x0, x1, x2⟩ := val_cells hx
  obtain ⟨y0, y1, y2⟩ := val_cells hy
  obtain ⟨z0, z1, z2⟩ := val_cells hz
  go_upto_region 3 with (fail)
  go_cut [7, 8, 9] (fun s7 s8 s9 wx => s7 = .int .i64 x ∧ s8 = .int .i64 y ∧ s9 = .int .i64 z ∧ Below w.heap.size w wx ∧ wx.heap[w.heap.size]? = some (.cells #[.int .i64 ak, .int .i64 an, .string at'] 26 (0, 0)) ∧ wx.heap[w.heap.size + 1]? = some (.cells #[.int .i64 bk, .int .i64 bn, .string bt] 26 (0, 0)) ∧ wx.heap[w.heap.size + 1 + 1]? = some (.cells #[.int .i64 ck, .int .i64 cn, .string ct] 26 (0, 0)) ∧ w.heap.size + 1 + 1 < wx.heap.size)
  case first =>
    go_region_held3 (fun w' => w'.cell? ⟨w.heap.size, 0, none⟩ = some (.int .i64 ak) ∧ w'.cell? ⟨w.heap.size, 1, none⟩ = some (.int .i64 an) ∧ w'.cell? ⟨w.heap.size, 2, none⟩ = some (.string at') ∧ w'.cell? ⟨w.heap.size + 1, 0, none⟩ = some (.int .i64 bk) ∧ w'.cell? ⟨w.heap.size + 1, 1, none⟩ = some (.int .i64 bn) ∧ w'.cell? ⟨w.heap.size + 1, 2, none⟩ = some (.string bt) ∧ w'.cell? ⟨w.heap.size + 1 + 1, 0, none⟩ = some (.int .i64 ck) ∧ w'.cell? ⟨w.heap.size + 1 + 1, 1, none⟩ = some (.int .i64 cn) ∧ w'.cell? ⟨w.heap.size + 1 + 1, 2, none⟩ = some (.string ct))
      (first | go_keep | exact ⟨x0, x1, x2, y0, y1, y2, z0, z1, z2⟩)
      ((go_at_call 16; (first | (with_reducible refine (K1.out _ ?_).mono ?_; (first | exact hb | exact hb.drew)) | (with_reducible refine (K2.out _ ?_).mono ?_; (first | exact hb | exact hb.drew)) | (with_reducible refine (K3.out _ ?_).mono ?_; (first | exact hb | exact hb.drew))); rintro e v ⟨rfl, hbn⟩; clear x0 x1 x2 y0 y1 y2 z0 z1 z2; replace hx := (hbn.block w.heap.size (Nat.lt_of_succ_lt (Nat.lt_of_succ_lt hl))).trans hx; replace hy := (hbn.block (w.heap.size + 1) (Nat.lt_of_succ_lt hl)).trans hy; replace hz := (hbn.block (w.heap.size + 1 + 1) hl).trans hz; replace hb : Below w.heap.size w v := (by first | exact hb.trans (hbn.mono hb.size) | exact hb.drew.trans (hbn.mono hb.size)); replace hl := Nat.lt_of_lt_of_le hl hbn.size; clear hbn; obtain ⟨x0, x1, x2⟩ := val_cells hx; obtain ⟨y0, y1, y2⟩ := val_cells hy; obtain ⟨z0, z1, z2⟩ := val_cells hz))
    all_goals
      go_wp2_with (fail)
      go_meet
      exact ⟨rfl, rfl, rfl, hb, hx, hy, hz, hl⟩
  case rest =>
  clear hx hy hz hb hl x0 x1 x2 y0 y1 y2 z0 z1 z2 K1 K2 K3
  obtain ⟨rfl, rfl, rfl, hb, hx, hy, hz, hl⟩ := hcut
  obtain ⟨x0, x1, x2⟩ := val_cells hx
  obtain ⟨y0, y1, y2⟩ := val_cells hy
  obtain ⟨z0, z1, z2⟩ := val_cells hz
  have e0 := HE0.out
  go_wp2_with (fail)
  refine (K4.out _ hb).mono ?_
  rintro e w2 ⟨rfl, hb2⟩
  replace hx := (hb2.block w.heap.size (by omega)).trans hx
  replace hy := (hb2.block (w.heap.size + 1) (by omega)).trans hy
  replace hz := (hb2.block (w.heap.size + 1 + 1) (by omega)).trans hz
  replace hb := hb.trans (hb2.mono hb.size)
  replace hl := Nat.lt_of_lt_of_le hl hb2.size
  clear hb2 x0 x1 x2 y0 y1 y2 z0 z1 z2
  obtain ⟨x0, x1, x2⟩ := val_cells hx
  obtain ⟨y0, y1, y2⟩ := val_cells hy
  obtain ⟨z0, z1, z2⟩ := val_cells hz
  go_wp2_with (fail)
  refine (K5.out _ hb).mono ?_
  rintro e w3 ⟨rfl, hb3⟩
  replace hx := (hb3.block w.heap.size (by omega)).trans hx
  replace hy := (hb3.block (w.heap.size + 1) (by omega)).trans hy
  replace hz := (hb3.block (w.heap.size + 1 + 1) (by omega)).trans hz
  replace hb := hb.trans (hb3.mono hb.size)
  replace hl := Nat.lt_of_lt_of_le hl hb3.size
  clear hb3 x0 x1 x2 y0 y1 y2 z0 z1 z2
  obtain ⟨x0, x1, x2⟩ := val_cells hx
  obtain ⟨y0, y1, y2⟩ := val_cells hy
  obtain ⟨z0, z1, z2⟩ := val_cells hz
  go_wp2_with (fail)
  refine (M1.out _ hb).mono ?_
  rintro e w4 ⟨rfl, hb4⟩
  replace hx := (hb4.block w.heap.size (by omega)).trans hx
  replace hy := (hb4.block (w.heap.size + 1) (by omega)).trans hy
  replace hz := (hb4.block (w.heap.size + 1 + 1) (by omega)).trans hz
  replace hb := hb.trans (hb4.mono hb.size)
  replace hl := Nat.lt_of_lt_of_le hl hb4.size
  clear hb4 x0 x1 x2 y0 y1 y2 z0 z1 z2
  obtain ⟨x0, x1, x2⟩ := val_cells hx
  obtain ⟨y0, y1, y2⟩ := val_cells hy
  obtain ⟨z0, z1, z2⟩ := val_cells hz
  go_wp2_with (fail)
  refine (M2.out _ hb).mono ?_
  rintro e w5 ⟨rfl, hb5⟩
  replace hx := (hb5.block w.heap.size (by omega)).trans hx
  replace hy := (hb5.block (w.heap.size + 1) (by omega)).trans hy
  replace hz := (hb5.block (w.heap.size + 1 + 1) (by omega)).trans hz
  replace hb := hb.trans (hb5.mono hb.size)
  replace hl := Nat.lt_of_lt_of_le hl hb5.size
  clear hb5 x0 x1 x2 y0 y1 y2 z0 z1 z2
  obtain ⟨x0, x1, x2⟩ := val_cells hx
  obtain ⟨y0, y1, y2⟩ := val_cells hy
  obtain ⟨z0, z1, z2⟩ := val_cells hz
  go_wp2_with (fail)
  refine (M3.out _ hb).mono ?_
  rintro e w6 ⟨rfl, hb6⟩
  replace hx := (hb6.block w.heap.size (by omega)).trans hx
  replace hy := (hb6.block (w.heap.size + 1) (by omega)).trans hy
  replace hz := (hb6.block (w.heap.size + 1 + 1) (by omega)).trans hz
  replace hb := hb.trans (hb6.mono hb.size)
  replace hl := Nat.lt_of_lt_of_le hl hb6.size
  clear hb6 x0 x1 x2 y0 y1 y2 z0 z1 z2
  obtain ⟨x0, x1, x2⟩ := val_cells hx
  obtain ⟨y0, y1, y2⟩ := val_cells hy
  obtain ⟨z0, z1, z2⟩ := val_cells hz
  go_upto_region 12 with (fail)
  go_cut [101] (fun s wx => s = .bool false ∧ Below w.heap.size w wx)
  case first =>
    clear z0 z1 z2 hz
    replace hl := Nat.lt_of_succ_lt hl
    go_region_held3 (fun w' => w'.cell? ⟨w.heap.size, 0, none⟩ = some (.int .i64 ak) ∧ w'.cell? ⟨w.heap.size, 1, none⟩ = some (.int .i64 an) ∧ w'.cell? ⟨w.heap.size, 2, none⟩ = some (.string at') ∧ w'.cell? ⟨w.heap.size + 1, 0, none⟩ = some (.int .i64 bk) ∧ w'.cell? ⟨w.heap.size + 1, 1, none⟩ = some (.int .i64 bn) ∧ w'.cell? ⟨w.heap.size + 1, 2, none⟩ = some (.string bt))
      (first | go_keep | exact ⟨x0, x1, x2, y0, y1, y2⟩)
      ((go_at_call 17; (with_reducible refine (Q1.out _ ?_).mono ?_; (first | exact hb | exact hb.drew)); rintro e v ⟨rfl, hbn⟩; clear x0 x1 x2 y0 y1 y2; replace hx := (hbn.block w.heap.size (Nat.lt_of_succ_lt hl)).trans hx; replace hy := (hbn.block (w.heap.size + 1) hl).trans hy; replace hb : Below w.heap.size w v := (by first | exact hb.trans (hbn.mono hb.size) | exact hb.drew.trans (hbn.mono hb.size)); replace hl := Nat.lt_of_lt_of_le hl hbn.size; clear hbn; obtain ⟨x0, x1, x2⟩ := val_cells hx; obtain ⟨y0, y1, y2⟩ := val_cells hy))
    all_goals
      go_wp2_with (fail)
      go_meet
      exact ⟨rfl, hb⟩
  case rest =>
  clear hx hy hz hb hl x0 x1 x2 y0 y1 y2 z0 z1 z2
  obtain ⟨rfl, hb⟩ := hcut
  rcases HF.out with h | ⟨h, h2⟩ | ⟨h, h2, h3⟩
  · have t1 : decide (0 < x) = true := decide_eq_true h
    go_wp2
    go_ret
    exact ⟨rfl, hb⟩
  · have t1 : decide (0 < x) = false := decide_eq_false (by omega)
    have t2 : decide (0 < y) = true := decide_eq_true h2
    go_wp2
    go_ret
    exact ⟨rfl, hb⟩
  · have t1 : decide (0 < x) = false := decide_eq_false (by omega)
    have t2 : decide (0 < y) = false := decide_eq_false (by omega)
    have t3 : decide (z ≤ 0) = true := decide_eq_true (by omega)
    have t4 : (z == 0) = false := by rw [beq_eq_false_iff_ne]; omega
    have t5 : (x == 0) = false := by rw [beq_eq_false_iff_ne]; omega
    go_wp2
    go_ret
    exact ⟨rfl, hb⟩


set_option maxRecDepth 100000 in
set_option maxHeartbeats 3200000 in
theorem order_dn (ak an bn ck cn : Int) (at' bt ct : ByteArray) (x y z x' : Int) (w : World) (e0 : IntKind.i64.wrap (-x') = x) (c1 : decide (x < -1) = false) (c2 : decide (1 < x) = false) (a0 : (ak == 0) = false) (c0 : (ck == 0) = false) (hne : ¬ an = bn) (hx0 : (x == 0) = false) (hfin : 0 < x ∨ (x < 0 ∧ 0 < y) ∨ (x < 0 ∧ y ≤ 0 ∧ z < 0)) 
    (HB0 : ∀ w', Below w.heap.size w w' → Calls Tryd.prog 8 #[] w' fun e w'' => e = .returned (.bool true) ∧ Below w'.heap.size w' w'')
    (K10 : ∀ w', Below w.heap.size w w' → Calls Tryd.prog 16 #[.agg #[.int .i64 ak, .int .i64 an, .string at'], .agg #[.int .i64 ak, .int .i64 bn, .string bt]] w' fun e w'' => e = .returned (.int .i64 x) ∧ Below w'.heap.size w' w'')
    (K20 : ∀ w', Below w.heap.size w w' → Calls Tryd.prog 16 #[.agg #[.int .i64 ak, .int .i64 bn, .string bt], .agg #[.int .i64 ck, .int .i64 cn, .string ct]] w' fun e w'' => e = .returned (.int .i64 y) ∧ Below w'.heap.size w' w'')
    (K30 : ∀ w', Below w.heap.size w w' → Calls Tryd.prog 16 #[.agg #[.int .i64 ak, .int .i64 an, .string at'], .agg #[.int .i64 ck, .int .i64 cn, .string ct]] w' fun e w'' => e = .returned (.int .i64 z) ∧ Below w'.heap.size w' w'')
    (K40 : ∀ w', Below w.heap.size w w' → Calls Tryd.prog 16 #[.agg #[.int .i64 ak, .int .i64 bn, .string bt], .agg #[.int .i64 ak, .int .i64 an, .string at']] w' fun e w'' => e = .returned (.int .i64 x') ∧ Below w'.heap.size w' w'')
    (K50 : ∀ w', Below w.heap.size w w' → Calls Tryd.prog 16 #[.agg #[.int .i64 ak, .int .i64 an, .string at'], .agg #[.int .i64 ak, .int .i64 an, .string at']] w' fun e w'' => e = .returned (.int .i64 0) ∧ Below w'.heap.size w' w'')
    (M10 : ∀ w', Below w.heap.size w w' → Calls Tryd.prog 11 #[.agg #[.int .i64 ak, .int .i64 an, .string at']] w' fun e w'' => e = .returned (.bool true) ∧ Below w'.heap.size w' w'')
    (M20 : ∀ w', Below w.heap.size w w' → Calls Tryd.prog 11 #[.agg #[.int .i64 ak, .int .i64 bn, .string bt]] w' fun e w'' => e = .returned (.bool true) ∧ Below w'.heap.size w' w'')
    (M30 : ∀ w', Below w.heap.size w w' → Calls Tryd.prog 11 #[.agg #[.int .i64 ck, .int .i64 cn, .string ct]] w' fun e w'' => e = .returned (.bool true) ∧ Below w'.heap.size w' w'')
    (Q10 : ∀ w', Below w.heap.size w w' → Calls Tryd.prog 17 #[.agg #[.int .i64 ak, .int .i64 an, .string at'], .agg #[.int .i64 ak, .int .i64 bn, .string bt]] w' fun e w'' => e = .returned (.bool false) ∧ Below w'.heap.size w' w'')
    : Calls Tryd.prog 6 #[.agg #[.int .i64 ak, .int .i64 an, .string at'], .agg #[.int .i64 ak, .int .i64 bn, .string bt], .agg #[.int .i64 ck, .int .i64 cn, .string ct]] w fun e w' => e = .returned (.bool true) ∧ Below w.heap.size w w' := by
  have HB := Lib.hid HB0
  have K1 := Lib.hid K10
  have K2 := Lib.hid K20
  have K3 := Lib.hid K30
  have K4 := Lib.hid K40
  have K5 := Lib.hid K50
  have M1 := Lib.hid M10
  have M2 := Lib.hid M20
  have M3 := Lib.hid M30
  have Q1 := Lib.hid Q10
  clear HB0 K10 K20 K30 K40 K50 M10 M20 M30 Q10
  have HF := Lib.hid hfin
  clear hfin
  have HE0 := Lib.hid e0
  clear e0
  go_enter Tryd.func6, Tryd.ntmps6
  go_upto_region 1 with (fail)
  have hx : (((w.alloc (Obj.cells #[.int .i64 ak, .int .i64 an, .string at'] 26)).alloc (Obj.cells #[.int .i64 ak, .int .i64 bn, .string bt] 26)).alloc (Obj.cells #[.int .i64 ck, .int .i64 cn, .string ct] 26)).heap[w.heap.size]? = some (.cells #[.int .i64 ak, .int .i64 an, .string at'] 26 (0, 0)) := (Below.heap_alloc _ _ w.heap.size (by simp; omega)).trans ((Below.heap_alloc _ _ w.heap.size (by simp)).trans (heap_alloc_new _ _))
  have hy : (((w.alloc (Obj.cells #[.int .i64 ak, .int .i64 an, .string at'] 26)).alloc (Obj.cells #[.int .i64 ak, .int .i64 bn, .string bt] 26)).alloc (Obj.cells #[.int .i64 ck, .int .i64 cn, .string ct] 26)).heap[w.heap.size + 1]? = some (.cells #[.int .i64 ak, .int .i64 bn, .string bt] 26 (0, 0)) := (Below.heap_alloc _ _ (w.heap.size + 1) (by simp)).trans (by
    rw [show w.heap.size + 1 = (w.alloc (Obj.cells #[.int .i64 ak, .int .i64 an, .string at'] 26)).heap.size by simp]; exact heap_alloc_new _ _)
  have hz : (((w.alloc (Obj.cells #[.int .i64 ak, .int .i64 an, .string at'] 26)).alloc (Obj.cells #[.int .i64 ak, .int .i64 bn, .string bt] 26)).alloc (Obj.cells #[.int .i64 ck, .int .i64 cn, .string ct] 26)).heap[w.heap.size + 1 + 1]? = some (.cells #[.int .i64 ck, .int .i64 cn, .string ct] 26 (0, 0)) := by
    rw [show w.heap.size + 1 + 1 = ((w.alloc (Obj.cells #[.int .i64 ak, .int .i64 an, .string at'] 26)).alloc (Obj.cells #[.int .i64 ak, .int .i64 bn, .string bt] 26)).heap.size by simp]; exact heap_alloc_new _ _
  have hb : Below w.heap.size w (((w.alloc (Obj.cells #[.int .i64 ak, .int .i64 an, .string at'] 26)).alloc (Obj.cells #[.int .i64 ak, .int .i64 bn, .string bt] 26)).alloc (Obj.cells #[.int .i64 ck, .int .i64 cn, .string ct] 26)) := (((Below.refl _ _).alloc (Nat.le_refl w.heap.size) _).alloc (by simp) _).alloc (by simp; omega) _
  have hl : w.heap.size + 1 + 1 < (((w.alloc (Obj.cells #[.int .i64 ak, .int .i64 an, .string at'] 26)).alloc (Obj.cells #[.int .i64 ak, .int .i64 bn, .string bt] 26)).alloc (Obj.cells #[.int .i64 ck, .int .i64 cn, .string ct] 26)).heap.size := by simp
  generalize (((w.alloc (Obj.cells #[.int .i64 ak, .int .i64 an, .string at'] 26)).alloc (Obj.cells #[.int .i64 ak, .int .i64 bn, .string bt] 26)).alloc (Obj.cells #[.int .i64 ck, .int .i64 cn, .string ct] 26)) = W0 at *
  obtain ⟨x0, x1, x2⟩ := val_cells hx
  obtain ⟨y0, y1, y2⟩ := val_cells hy
  obtain ⟨z0, z1, z2⟩ := val_cells hz
  go_wp2_with (fail)
  refine (HB.out _ hb).mono ?_
  rintro e w1 ⟨rfl, hb1⟩
  replace hx := (hb1.block w.heap.size (by omega)).trans hx
  replace hy := (hb1.block (w.heap.size + 1) (by omega)).trans hy
  replace hz := (hb1.block (w.heap.size + 1 + 1) (by omega)).trans hz
  replace hb := hb.trans (hb1.mono hb.size)
  replace hl := Nat.lt_of_lt_of_le hl hb1.size
  clear hb1 x0 x1 x2 y0 y1 y2 z0 z1 z2
  obtain ⟨x0, x1, x2⟩ := val_cells hx
  obtain ⟨y0, y1, y2⟩ := val_cells hy
  obtain ⟨z0, z1, z2⟩ := val_cells hz
  go_upto_region 3 with (fail)
  go_cut [7, 8, 9] (fun s7 s8 s9 wx => s7 = .int .i64 x ∧ s8 = .int .i64 y ∧ s9 = .int .i64 z ∧ Below w.heap.size w wx ∧ wx.heap[w.heap.size]? = some (.cells #[.int .i64 ak, .int .i64 an, .string at'] 26 (0, 0)) ∧ wx.heap[w.heap.size + 1]? = some (.cells #[.int .i64 ak, .int .i64 bn, .string bt] 26 (0, 0)) ∧ wx.heap[w.heap.size + 1 + 1]? = some (.cells #[.int .i64 ck, .int .i64 cn, .string ct] 26 (0, 0)) ∧ w.heap.size + 1 + 1 < wx.heap.size)
  case first =>
    go_region_held3 (fun w' => w'.cell? ⟨w.heap.size, 0, none⟩ = some (.int .i64 ak) ∧ w'.cell? ⟨w.heap.size, 1, none⟩ = some (.int .i64 an) ∧ w'.cell? ⟨w.heap.size, 2, none⟩ = some (.string at') ∧ w'.cell? ⟨w.heap.size + 1, 0, none⟩ = some (.int .i64 ak) ∧ w'.cell? ⟨w.heap.size + 1, 1, none⟩ = some (.int .i64 bn) ∧ w'.cell? ⟨w.heap.size + 1, 2, none⟩ = some (.string bt) ∧ w'.cell? ⟨w.heap.size + 1 + 1, 0, none⟩ = some (.int .i64 ck) ∧ w'.cell? ⟨w.heap.size + 1 + 1, 1, none⟩ = some (.int .i64 cn) ∧ w'.cell? ⟨w.heap.size + 1 + 1, 2, none⟩ = some (.string ct))
      (first | go_keep | exact ⟨x0, x1, x2, y0, y1, y2, z0, z1, z2⟩)
      ((go_at_call 16; (first | (with_reducible refine (K1.out _ ?_).mono ?_; (first | exact hb | exact hb.drew)) | (with_reducible refine (K2.out _ ?_).mono ?_; (first | exact hb | exact hb.drew)) | (with_reducible refine (K3.out _ ?_).mono ?_; (first | exact hb | exact hb.drew))); rintro e v ⟨rfl, hbn⟩; clear x0 x1 x2 y0 y1 y2 z0 z1 z2; replace hx := (hbn.block w.heap.size (Nat.lt_of_succ_lt (Nat.lt_of_succ_lt hl))).trans hx; replace hy := (hbn.block (w.heap.size + 1) (Nat.lt_of_succ_lt hl)).trans hy; replace hz := (hbn.block (w.heap.size + 1 + 1) hl).trans hz; replace hb : Below w.heap.size w v := (by first | exact hb.trans (hbn.mono hb.size) | exact hb.drew.trans (hbn.mono hb.size)); replace hl := Nat.lt_of_lt_of_le hl hbn.size; clear hbn; obtain ⟨x0, x1, x2⟩ := val_cells hx; obtain ⟨y0, y1, y2⟩ := val_cells hy; obtain ⟨z0, z1, z2⟩ := val_cells hz))
    all_goals
      go_wp2_with (fail)
      go_meet
      exact ⟨rfl, rfl, rfl, hb, hx, hy, hz, hl⟩
  case rest =>
  clear hx hy hz hb hl x0 x1 x2 y0 y1 y2 z0 z1 z2 K1 K2 K3
  obtain ⟨rfl, rfl, rfl, hb, hx, hy, hz, hl⟩ := hcut
  obtain ⟨x0, x1, x2⟩ := val_cells hx
  obtain ⟨y0, y1, y2⟩ := val_cells hy
  obtain ⟨z0, z1, z2⟩ := val_cells hz
  have e0 := HE0.out
  go_wp2_with (fail)
  refine (K4.out _ hb).mono ?_
  rintro e w2 ⟨rfl, hb2⟩
  replace hx := (hb2.block w.heap.size (by omega)).trans hx
  replace hy := (hb2.block (w.heap.size + 1) (by omega)).trans hy
  replace hz := (hb2.block (w.heap.size + 1 + 1) (by omega)).trans hz
  replace hb := hb.trans (hb2.mono hb.size)
  replace hl := Nat.lt_of_lt_of_le hl hb2.size
  clear hb2 x0 x1 x2 y0 y1 y2 z0 z1 z2
  obtain ⟨x0, x1, x2⟩ := val_cells hx
  obtain ⟨y0, y1, y2⟩ := val_cells hy
  obtain ⟨z0, z1, z2⟩ := val_cells hz
  go_wp2_with (fail)
  refine (K5.out _ hb).mono ?_
  rintro e w3 ⟨rfl, hb3⟩
  replace hx := (hb3.block w.heap.size (by omega)).trans hx
  replace hy := (hb3.block (w.heap.size + 1) (by omega)).trans hy
  replace hz := (hb3.block (w.heap.size + 1 + 1) (by omega)).trans hz
  replace hb := hb.trans (hb3.mono hb.size)
  replace hl := Nat.lt_of_lt_of_le hl hb3.size
  clear hb3 x0 x1 x2 y0 y1 y2 z0 z1 z2
  obtain ⟨x0, x1, x2⟩ := val_cells hx
  obtain ⟨y0, y1, y2⟩ := val_cells hy
  obtain ⟨z0, z1, z2⟩ := val_cells hz
  go_wp2_with (fail)
  refine (M1.out _ hb).mono ?_
  rintro e w4 ⟨rfl, hb4⟩
  replace hx := (hb4.block w.heap.size (by omega)).trans hx
  replace hy := (hb4.block (w.heap.size + 1) (by omega)).trans hy
  replace hz := (hb4.block (w.heap.size + 1 + 1) (by omega)).trans hz
  replace hb := hb.trans (hb4.mono hb.size)
  replace hl := Nat.lt_of_lt_of_le hl hb4.size
  clear hb4 x0 x1 x2 y0 y1 y2 z0 z1 z2
  obtain ⟨x0, x1, x2⟩ := val_cells hx
  obtain ⟨y0, y1, y2⟩ := val_cells hy
  obtain ⟨z0, z1, z2⟩ := val_cells hz
  go_wp2_with (fail)
  refine (M2.out _ hb).mono ?_
  rintro e w5 ⟨rfl, hb5⟩
  replace hx := (hb5.block w.heap.size (by omega)).trans hx
  replace hy := (hb5.block (w.heap.size + 1) (by omega)).trans hy
  replace hz := (hb5.block (w.heap.size + 1 + 1) (by omega)).trans hz
  replace hb := hb.trans (hb5.mono hb.size)
  replace hl := Nat.lt_of_lt_of_le hl hb5.size
  clear hb5 x0 x1 x2 y0 y1 y2 z0 z1 z2
  obtain ⟨x0, x1, x2⟩ := val_cells hx
  obtain ⟨y0, y1, y2⟩ := val_cells hy
  obtain ⟨z0, z1, z2⟩ := val_cells hz
  go_wp2_with (fail)
  refine (M3.out _ hb).mono ?_
  rintro e w6 ⟨rfl, hb6⟩
  replace hx := (hb6.block w.heap.size (by omega)).trans hx
  replace hy := (hb6.block (w.heap.size + 1) (by omega)).trans hy
  replace hz := (hb6.block (w.heap.size + 1 + 1) (by omega)).trans hz
  replace hb := hb.trans (hb6.mono hb.size)
  replace hl := Nat.lt_of_lt_of_le hl hb6.size
  clear hb6 x0 x1 x2 y0 y1 y2 z0 z1 z2
  obtain ⟨x0, x1, x2⟩ := val_cells hx
  obtain ⟨y0, y1, y2⟩ := val_cells hy
  obtain ⟨z0, z1, z2⟩ := val_cells hz
  go_upto_region 12 with (fail)
  go_cut [101] (fun s wx => s = .bool false ∧ Below w.heap.size w wx)
  case first =>
    clear z0 z1 z2 hz
    replace hl := Nat.lt_of_succ_lt hl
    go_region_held3 (fun w' => w'.cell? ⟨w.heap.size, 0, none⟩ = some (.int .i64 ak) ∧ w'.cell? ⟨w.heap.size, 1, none⟩ = some (.int .i64 an) ∧ w'.cell? ⟨w.heap.size, 2, none⟩ = some (.string at') ∧ w'.cell? ⟨w.heap.size + 1, 0, none⟩ = some (.int .i64 ak) ∧ w'.cell? ⟨w.heap.size + 1, 1, none⟩ = some (.int .i64 bn) ∧ w'.cell? ⟨w.heap.size + 1, 2, none⟩ = some (.string bt))
      (first | go_keep | exact ⟨x0, x1, x2, y0, y1, y2⟩)
      ((go_at_call 17; (with_reducible refine (Q1.out _ ?_).mono ?_; (first | exact hb | exact hb.drew)); rintro e v ⟨rfl, hbn⟩; clear x0 x1 x2 y0 y1 y2; replace hx := (hbn.block w.heap.size (Nat.lt_of_succ_lt hl)).trans hx; replace hy := (hbn.block (w.heap.size + 1) hl).trans hy; replace hb : Below w.heap.size w v := (by first | exact hb.trans (hbn.mono hb.size) | exact hb.drew.trans (hbn.mono hb.size)); replace hl := Nat.lt_of_lt_of_le hl hbn.size; clear hbn; obtain ⟨x0, x1, x2⟩ := val_cells hx; obtain ⟨y0, y1, y2⟩ := val_cells hy))
    all_goals
      go_wp2_with (fail)
      go_meet
      exact ⟨rfl, hb⟩
  case rest =>
  clear hx hy hz hb hl x0 x1 x2 y0 y1 y2 z0 z1 z2
  obtain ⟨rfl, hb⟩ := hcut
  rcases HF.out with h | ⟨h, h2⟩ | ⟨h, h2, h3⟩
  · have t1 : decide (0 < x) = true := decide_eq_true h
    go_wp2
    go_ret
    exact ⟨rfl, hb⟩
  · have t1 : decide (0 < x) = false := decide_eq_false (by omega)
    have t2 : decide (0 < y) = true := decide_eq_true h2
    go_wp2
    go_ret
    exact ⟨rfl, hb⟩
  · have t1 : decide (0 < x) = false := decide_eq_false (by omega)
    have t2 : decide (0 < y) = false := decide_eq_false (by omega)
    have t3 : decide (z ≤ 0) = true := decide_eq_true (by omega)
    have t4 : (z == 0) = false := by rw [beq_eq_false_iff_ne]; omega
    have t5 : (x == 0) = false := by rw [beq_eq_false_iff_ne]; omega
    go_wp2
    go_ret
    exact ⟨rfl, hb⟩


set_option maxRecDepth 100000 in
set_option maxHeartbeats 3200000 in
theorem order_dt (ak an ck cn : Int) (at' bt ct : ByteArray) (x y z x' : Int) (w : World) (e0 : IntKind.i64.wrap (-x') = x) (c1 : decide (x < -1) = false) (c2 : decide (1 < x) = false) (a0 : (ak == 0) = false) (c0 : (ck == 0) = false) (hne : ¬ at'.toList = bt.toList) (hx0 : (x == 0) = false) (hfin : 0 < x ∨ (x < 0 ∧ 0 < y) ∨ (x < 0 ∧ y ≤ 0 ∧ z < 0)) 
    (HB0 : ∀ w', Below w.heap.size w w' → Calls Tryd.prog 8 #[] w' fun e w'' => e = .returned (.bool true) ∧ Below w'.heap.size w' w'')
    (K10 : ∀ w', Below w.heap.size w w' → Calls Tryd.prog 16 #[.agg #[.int .i64 ak, .int .i64 an, .string at'], .agg #[.int .i64 ak, .int .i64 an, .string bt]] w' fun e w'' => e = .returned (.int .i64 x) ∧ Below w'.heap.size w' w'')
    (K20 : ∀ w', Below w.heap.size w w' → Calls Tryd.prog 16 #[.agg #[.int .i64 ak, .int .i64 an, .string bt], .agg #[.int .i64 ck, .int .i64 cn, .string ct]] w' fun e w'' => e = .returned (.int .i64 y) ∧ Below w'.heap.size w' w'')
    (K30 : ∀ w', Below w.heap.size w w' → Calls Tryd.prog 16 #[.agg #[.int .i64 ak, .int .i64 an, .string at'], .agg #[.int .i64 ck, .int .i64 cn, .string ct]] w' fun e w'' => e = .returned (.int .i64 z) ∧ Below w'.heap.size w' w'')
    (K40 : ∀ w', Below w.heap.size w w' → Calls Tryd.prog 16 #[.agg #[.int .i64 ak, .int .i64 an, .string bt], .agg #[.int .i64 ak, .int .i64 an, .string at']] w' fun e w'' => e = .returned (.int .i64 x') ∧ Below w'.heap.size w' w'')
    (K50 : ∀ w', Below w.heap.size w w' → Calls Tryd.prog 16 #[.agg #[.int .i64 ak, .int .i64 an, .string at'], .agg #[.int .i64 ak, .int .i64 an, .string at']] w' fun e w'' => e = .returned (.int .i64 0) ∧ Below w'.heap.size w' w'')
    (M10 : ∀ w', Below w.heap.size w w' → Calls Tryd.prog 11 #[.agg #[.int .i64 ak, .int .i64 an, .string at']] w' fun e w'' => e = .returned (.bool true) ∧ Below w'.heap.size w' w'')
    (M20 : ∀ w', Below w.heap.size w w' → Calls Tryd.prog 11 #[.agg #[.int .i64 ak, .int .i64 an, .string bt]] w' fun e w'' => e = .returned (.bool true) ∧ Below w'.heap.size w' w'')
    (M30 : ∀ w', Below w.heap.size w w' → Calls Tryd.prog 11 #[.agg #[.int .i64 ck, .int .i64 cn, .string ct]] w' fun e w'' => e = .returned (.bool true) ∧ Below w'.heap.size w' w'')
    (Q10 : ∀ w', Below w.heap.size w w' → Calls Tryd.prog 17 #[.agg #[.int .i64 ak, .int .i64 an, .string at'], .agg #[.int .i64 ak, .int .i64 an, .string bt]] w' fun e w'' => e = .returned (.bool false) ∧ Below w'.heap.size w' w'')
    : Calls Tryd.prog 6 #[.agg #[.int .i64 ak, .int .i64 an, .string at'], .agg #[.int .i64 ak, .int .i64 an, .string bt], .agg #[.int .i64 ck, .int .i64 cn, .string ct]] w fun e w' => e = .returned (.bool true) ∧ Below w.heap.size w w' := by
  have HB := Lib.hid HB0
  have K1 := Lib.hid K10
  have K2 := Lib.hid K20
  have K3 := Lib.hid K30
  have K4 := Lib.hid K40
  have K5 := Lib.hid K50
  have M1 := Lib.hid M10
  have M2 := Lib.hid M20
  have M3 := Lib.hid M30
  have Q1 := Lib.hid Q10
  clear HB0 K10 K20 K30 K40 K50 M10 M20 M30 Q10
  have HF := Lib.hid hfin
  clear hfin
  have HE0 := Lib.hid e0
  clear e0
  go_enter Tryd.func6, Tryd.ntmps6
  go_upto_region 1 with (fail)
  have hx : (((w.alloc (Obj.cells #[.int .i64 ak, .int .i64 an, .string at'] 26)).alloc (Obj.cells #[.int .i64 ak, .int .i64 an, .string bt] 26)).alloc (Obj.cells #[.int .i64 ck, .int .i64 cn, .string ct] 26)).heap[w.heap.size]? = some (.cells #[.int .i64 ak, .int .i64 an, .string at'] 26 (0, 0)) := (Below.heap_alloc _ _ w.heap.size (by simp; omega)).trans ((Below.heap_alloc _ _ w.heap.size (by simp)).trans (heap_alloc_new _ _))
  have hy : (((w.alloc (Obj.cells #[.int .i64 ak, .int .i64 an, .string at'] 26)).alloc (Obj.cells #[.int .i64 ak, .int .i64 an, .string bt] 26)).alloc (Obj.cells #[.int .i64 ck, .int .i64 cn, .string ct] 26)).heap[w.heap.size + 1]? = some (.cells #[.int .i64 ak, .int .i64 an, .string bt] 26 (0, 0)) := (Below.heap_alloc _ _ (w.heap.size + 1) (by simp)).trans (by
    rw [show w.heap.size + 1 = (w.alloc (Obj.cells #[.int .i64 ak, .int .i64 an, .string at'] 26)).heap.size by simp]; exact heap_alloc_new _ _)
  have hz : (((w.alloc (Obj.cells #[.int .i64 ak, .int .i64 an, .string at'] 26)).alloc (Obj.cells #[.int .i64 ak, .int .i64 an, .string bt] 26)).alloc (Obj.cells #[.int .i64 ck, .int .i64 cn, .string ct] 26)).heap[w.heap.size + 1 + 1]? = some (.cells #[.int .i64 ck, .int .i64 cn, .string ct] 26 (0, 0)) := by
    rw [show w.heap.size + 1 + 1 = ((w.alloc (Obj.cells #[.int .i64 ak, .int .i64 an, .string at'] 26)).alloc (Obj.cells #[.int .i64 ak, .int .i64 an, .string bt] 26)).heap.size by simp]; exact heap_alloc_new _ _
  have hb : Below w.heap.size w (((w.alloc (Obj.cells #[.int .i64 ak, .int .i64 an, .string at'] 26)).alloc (Obj.cells #[.int .i64 ak, .int .i64 an, .string bt] 26)).alloc (Obj.cells #[.int .i64 ck, .int .i64 cn, .string ct] 26)) := (((Below.refl _ _).alloc (Nat.le_refl w.heap.size) _).alloc (by simp) _).alloc (by simp; omega) _
  have hl : w.heap.size + 1 + 1 < (((w.alloc (Obj.cells #[.int .i64 ak, .int .i64 an, .string at'] 26)).alloc (Obj.cells #[.int .i64 ak, .int .i64 an, .string bt] 26)).alloc (Obj.cells #[.int .i64 ck, .int .i64 cn, .string ct] 26)).heap.size := by simp
  generalize (((w.alloc (Obj.cells #[.int .i64 ak, .int .i64 an, .string at'] 26)).alloc (Obj.cells #[.int .i64 ak, .int .i64 an, .string bt] 26)).alloc (Obj.cells #[.int .i64 ck, .int .i64 cn, .string ct] 26)) = W0 at *
  obtain ⟨x0, x1, x2⟩ := val_cells hx
  obtain ⟨y0, y1, y2⟩ := val_cells hy
  obtain ⟨z0, z1, z2⟩ := val_cells hz
  go_wp2_with (fail)
  refine (HB.out _ hb).mono ?_
  rintro e w1 ⟨rfl, hb1⟩
  replace hx := (hb1.block w.heap.size (by omega)).trans hx
  replace hy := (hb1.block (w.heap.size + 1) (by omega)).trans hy
  replace hz := (hb1.block (w.heap.size + 1 + 1) (by omega)).trans hz
  replace hb := hb.trans (hb1.mono hb.size)
  replace hl := Nat.lt_of_lt_of_le hl hb1.size
  clear hb1 x0 x1 x2 y0 y1 y2 z0 z1 z2
  obtain ⟨x0, x1, x2⟩ := val_cells hx
  obtain ⟨y0, y1, y2⟩ := val_cells hy
  obtain ⟨z0, z1, z2⟩ := val_cells hz
  go_upto_region 3 with (fail)
  go_cut [7, 8, 9] (fun s7 s8 s9 wx => s7 = .int .i64 x ∧ s8 = .int .i64 y ∧ s9 = .int .i64 z ∧ Below w.heap.size w wx ∧ wx.heap[w.heap.size]? = some (.cells #[.int .i64 ak, .int .i64 an, .string at'] 26 (0, 0)) ∧ wx.heap[w.heap.size + 1]? = some (.cells #[.int .i64 ak, .int .i64 an, .string bt] 26 (0, 0)) ∧ wx.heap[w.heap.size + 1 + 1]? = some (.cells #[.int .i64 ck, .int .i64 cn, .string ct] 26 (0, 0)) ∧ w.heap.size + 1 + 1 < wx.heap.size)
  case first =>
    go_region_held3 (fun w' => w'.cell? ⟨w.heap.size, 0, none⟩ = some (.int .i64 ak) ∧ w'.cell? ⟨w.heap.size, 1, none⟩ = some (.int .i64 an) ∧ w'.cell? ⟨w.heap.size, 2, none⟩ = some (.string at') ∧ w'.cell? ⟨w.heap.size + 1, 0, none⟩ = some (.int .i64 ak) ∧ w'.cell? ⟨w.heap.size + 1, 1, none⟩ = some (.int .i64 an) ∧ w'.cell? ⟨w.heap.size + 1, 2, none⟩ = some (.string bt) ∧ w'.cell? ⟨w.heap.size + 1 + 1, 0, none⟩ = some (.int .i64 ck) ∧ w'.cell? ⟨w.heap.size + 1 + 1, 1, none⟩ = some (.int .i64 cn) ∧ w'.cell? ⟨w.heap.size + 1 + 1, 2, none⟩ = some (.string ct))
      (first | go_keep | exact ⟨x0, x1, x2, y0, y1, y2, z0, z1, z2⟩)
      ((go_at_call 16; (first | (with_reducible refine (K1.out _ ?_).mono ?_; (first | exact hb | exact hb.drew)) | (with_reducible refine (K2.out _ ?_).mono ?_; (first | exact hb | exact hb.drew)) | (with_reducible refine (K3.out _ ?_).mono ?_; (first | exact hb | exact hb.drew))); rintro e v ⟨rfl, hbn⟩; clear x0 x1 x2 y0 y1 y2 z0 z1 z2; replace hx := (hbn.block w.heap.size (Nat.lt_of_succ_lt (Nat.lt_of_succ_lt hl))).trans hx; replace hy := (hbn.block (w.heap.size + 1) (Nat.lt_of_succ_lt hl)).trans hy; replace hz := (hbn.block (w.heap.size + 1 + 1) hl).trans hz; replace hb : Below w.heap.size w v := (by first | exact hb.trans (hbn.mono hb.size) | exact hb.drew.trans (hbn.mono hb.size)); replace hl := Nat.lt_of_lt_of_le hl hbn.size; clear hbn; obtain ⟨x0, x1, x2⟩ := val_cells hx; obtain ⟨y0, y1, y2⟩ := val_cells hy; obtain ⟨z0, z1, z2⟩ := val_cells hz))
    all_goals
      go_wp2_with (fail)
      go_meet
      exact ⟨rfl, rfl, rfl, hb, hx, hy, hz, hl⟩
  case rest =>
  clear hx hy hz hb hl x0 x1 x2 y0 y1 y2 z0 z1 z2 K1 K2 K3
  obtain ⟨rfl, rfl, rfl, hb, hx, hy, hz, hl⟩ := hcut
  obtain ⟨x0, x1, x2⟩ := val_cells hx
  obtain ⟨y0, y1, y2⟩ := val_cells hy
  obtain ⟨z0, z1, z2⟩ := val_cells hz
  have e0 := HE0.out
  go_wp2_with (fail)
  refine (K4.out _ hb).mono ?_
  rintro e w2 ⟨rfl, hb2⟩
  replace hx := (hb2.block w.heap.size (by omega)).trans hx
  replace hy := (hb2.block (w.heap.size + 1) (by omega)).trans hy
  replace hz := (hb2.block (w.heap.size + 1 + 1) (by omega)).trans hz
  replace hb := hb.trans (hb2.mono hb.size)
  replace hl := Nat.lt_of_lt_of_le hl hb2.size
  clear hb2 x0 x1 x2 y0 y1 y2 z0 z1 z2
  obtain ⟨x0, x1, x2⟩ := val_cells hx
  obtain ⟨y0, y1, y2⟩ := val_cells hy
  obtain ⟨z0, z1, z2⟩ := val_cells hz
  go_wp2_with (fail)
  refine (K5.out _ hb).mono ?_
  rintro e w3 ⟨rfl, hb3⟩
  replace hx := (hb3.block w.heap.size (by omega)).trans hx
  replace hy := (hb3.block (w.heap.size + 1) (by omega)).trans hy
  replace hz := (hb3.block (w.heap.size + 1 + 1) (by omega)).trans hz
  replace hb := hb.trans (hb3.mono hb.size)
  replace hl := Nat.lt_of_lt_of_le hl hb3.size
  clear hb3 x0 x1 x2 y0 y1 y2 z0 z1 z2
  obtain ⟨x0, x1, x2⟩ := val_cells hx
  obtain ⟨y0, y1, y2⟩ := val_cells hy
  obtain ⟨z0, z1, z2⟩ := val_cells hz
  go_wp2_with (fail)
  refine (M1.out _ hb).mono ?_
  rintro e w4 ⟨rfl, hb4⟩
  replace hx := (hb4.block w.heap.size (by omega)).trans hx
  replace hy := (hb4.block (w.heap.size + 1) (by omega)).trans hy
  replace hz := (hb4.block (w.heap.size + 1 + 1) (by omega)).trans hz
  replace hb := hb.trans (hb4.mono hb.size)
  replace hl := Nat.lt_of_lt_of_le hl hb4.size
  clear hb4 x0 x1 x2 y0 y1 y2 z0 z1 z2
  obtain ⟨x0, x1, x2⟩ := val_cells hx
  obtain ⟨y0, y1, y2⟩ := val_cells hy
  obtain ⟨z0, z1, z2⟩ := val_cells hz
  go_wp2_with (fail)
  refine (M2.out _ hb).mono ?_
  rintro e w5 ⟨rfl, hb5⟩
  replace hx := (hb5.block w.heap.size (by omega)).trans hx
  replace hy := (hb5.block (w.heap.size + 1) (by omega)).trans hy
  replace hz := (hb5.block (w.heap.size + 1 + 1) (by omega)).trans hz
  replace hb := hb.trans (hb5.mono hb.size)
  replace hl := Nat.lt_of_lt_of_le hl hb5.size
  clear hb5 x0 x1 x2 y0 y1 y2 z0 z1 z2
  obtain ⟨x0, x1, x2⟩ := val_cells hx
  obtain ⟨y0, y1, y2⟩ := val_cells hy
  obtain ⟨z0, z1, z2⟩ := val_cells hz
  go_wp2_with (fail)
  refine (M3.out _ hb).mono ?_
  rintro e w6 ⟨rfl, hb6⟩
  replace hx := (hb6.block w.heap.size (by omega)).trans hx
  replace hy := (hb6.block (w.heap.size + 1) (by omega)).trans hy
  replace hz := (hb6.block (w.heap.size + 1 + 1) (by omega)).trans hz
  replace hb := hb.trans (hb6.mono hb.size)
  replace hl := Nat.lt_of_lt_of_le hl hb6.size
  clear hb6 x0 x1 x2 y0 y1 y2 z0 z1 z2
  obtain ⟨x0, x1, x2⟩ := val_cells hx
  obtain ⟨y0, y1, y2⟩ := val_cells hy
  obtain ⟨z0, z1, z2⟩ := val_cells hz
  go_upto_region 12 with (fail)
  go_cut [101] (fun s wx => s = .bool false ∧ Below w.heap.size w wx)
  case first =>
    clear z0 z1 z2 hz
    replace hl := Nat.lt_of_succ_lt hl
    go_region_held3 (fun w' => w'.cell? ⟨w.heap.size, 0, none⟩ = some (.int .i64 ak) ∧ w'.cell? ⟨w.heap.size, 1, none⟩ = some (.int .i64 an) ∧ w'.cell? ⟨w.heap.size, 2, none⟩ = some (.string at') ∧ w'.cell? ⟨w.heap.size + 1, 0, none⟩ = some (.int .i64 ak) ∧ w'.cell? ⟨w.heap.size + 1, 1, none⟩ = some (.int .i64 an) ∧ w'.cell? ⟨w.heap.size + 1, 2, none⟩ = some (.string bt))
      (first | go_keep | exact ⟨x0, x1, x2, y0, y1, y2⟩)
      ((go_at_call 17; (with_reducible refine (Q1.out _ ?_).mono ?_; (first | exact hb | exact hb.drew)); rintro e v ⟨rfl, hbn⟩; clear x0 x1 x2 y0 y1 y2; replace hx := (hbn.block w.heap.size (Nat.lt_of_succ_lt hl)).trans hx; replace hy := (hbn.block (w.heap.size + 1) hl).trans hy; replace hb : Below w.heap.size w v := (by first | exact hb.trans (hbn.mono hb.size) | exact hb.drew.trans (hbn.mono hb.size)); replace hl := Nat.lt_of_lt_of_le hl hbn.size; clear hbn; obtain ⟨x0, x1, x2⟩ := val_cells hx; obtain ⟨y0, y1, y2⟩ := val_cells hy))
    all_goals
      go_wp2_with (fail)
      go_meet
      exact ⟨rfl, hb⟩
  case rest =>
  clear hx hy hz hb hl x0 x1 x2 y0 y1 y2 z0 z1 z2
  obtain ⟨rfl, hb⟩ := hcut
  rcases HF.out with h | ⟨h, h2⟩ | ⟨h, h2, h3⟩
  · have t1 : decide (0 < x) = true := decide_eq_true h
    go_wp2
    go_ret
    exact ⟨rfl, hb⟩
  · have t1 : decide (0 < x) = false := decide_eq_false (by omega)
    have t2 : decide (0 < y) = true := decide_eq_true h2
    go_wp2
    go_ret
    exact ⟨rfl, hb⟩
  · have t1 : decide (0 < x) = false := decide_eq_false (by omega)
    have t2 : decide (0 < y) = false := decide_eq_false (by omega)
    have t3 : decide (z ≤ 0) = true := decide_eq_true (by omega)
    have t4 : (z == 0) = false := by rw [beq_eq_false_iff_ne]; omega
    have t5 : (x == 0) = false := by rw [beq_eq_false_iff_ne]; omega
    go_wp2
    go_ret
    exact ⟨rfl, hb⟩


set_option maxRecDepth 100000 in
set_option maxHeartbeats 3200000 in
theorem order_e (ak an ck cn : Int) (at' ct : ByteArray) (y : Int) (w : World) (e0 : IntKind.i64.wrap (-0) = 0) (a0 : (ak == 0) = false) (c0 : (ck == 0) = false) 
    (HB0 : ∀ w', Below w.heap.size w w' → Calls Tryd.prog 8 #[] w' fun e w'' => e = .returned (.bool true) ∧ Below w'.heap.size w' w'')
    (K10 : ∀ w', Below w.heap.size w w' → Calls Tryd.prog 16 #[.agg #[.int .i64 ak, .int .i64 an, .string at'], .agg #[.int .i64 ak, .int .i64 an, .string at']] w' fun e w'' => e = .returned (.int .i64 0) ∧ Below w'.heap.size w' w'')
    (K20 : ∀ w', Below w.heap.size w w' → Calls Tryd.prog 16 #[.agg #[.int .i64 ak, .int .i64 an, .string at'], .agg #[.int .i64 ck, .int .i64 cn, .string ct]] w' fun e w'' => e = .returned (.int .i64 y) ∧ Below w'.heap.size w' w'')
    (K30 : ∀ w', Below w.heap.size w w' → Calls Tryd.prog 16 #[.agg #[.int .i64 ak, .int .i64 an, .string at'], .agg #[.int .i64 ck, .int .i64 cn, .string ct]] w' fun e w'' => e = .returned (.int .i64 y) ∧ Below w'.heap.size w' w'')
    (K40 : ∀ w', Below w.heap.size w w' → Calls Tryd.prog 16 #[.agg #[.int .i64 ak, .int .i64 an, .string at'], .agg #[.int .i64 ak, .int .i64 an, .string at']] w' fun e w'' => e = .returned (.int .i64 0) ∧ Below w'.heap.size w' w'')
    (K50 : ∀ w', Below w.heap.size w w' → Calls Tryd.prog 16 #[.agg #[.int .i64 ak, .int .i64 an, .string at'], .agg #[.int .i64 ak, .int .i64 an, .string at']] w' fun e w'' => e = .returned (.int .i64 0) ∧ Below w'.heap.size w' w'')
    (M10 : ∀ w', Below w.heap.size w w' → Calls Tryd.prog 11 #[.agg #[.int .i64 ak, .int .i64 an, .string at']] w' fun e w'' => e = .returned (.bool true) ∧ Below w'.heap.size w' w'')
    (M20 : ∀ w', Below w.heap.size w w' → Calls Tryd.prog 11 #[.agg #[.int .i64 ak, .int .i64 an, .string at']] w' fun e w'' => e = .returned (.bool true) ∧ Below w'.heap.size w' w'')
    (M30 : ∀ w', Below w.heap.size w w' → Calls Tryd.prog 11 #[.agg #[.int .i64 ck, .int .i64 cn, .string ct]] w' fun e w'' => e = .returned (.bool true) ∧ Below w'.heap.size w' w'')
    (Q10 : ∀ w', Below w.heap.size w w' → Calls Tryd.prog 17 #[.agg #[.int .i64 ak, .int .i64 an, .string at'], .agg #[.int .i64 ak, .int .i64 an, .string at']] w' fun e w'' => e = .returned (.bool true) ∧ Below w'.heap.size w' w'')
    : Calls Tryd.prog 6 #[.agg #[.int .i64 ak, .int .i64 an, .string at'], .agg #[.int .i64 ak, .int .i64 an, .string at'], .agg #[.int .i64 ck, .int .i64 cn, .string ct]] w fun e w' => e = .returned (.bool true) ∧ Below w.heap.size w w' := by
  have HB := Lib.hid HB0
  have K1 := Lib.hid K10
  have K2 := Lib.hid K20
  have K3 := Lib.hid K30
  have K4 := Lib.hid K40
  have K5 := Lib.hid K50
  have M1 := Lib.hid M10
  have M2 := Lib.hid M20
  have M3 := Lib.hid M30
  have Q1 := Lib.hid Q10
  clear HB0 K10 K20 K30 K40 K50 M10 M20 M30 Q10
  have HE0 := Lib.hid e0
  clear e0
  go_enter Tryd.func6, Tryd.ntmps6
  go_upto_region 1 with (fail)
  have hx : (((w.alloc (Obj.cells #[.int .i64 ak, .int .i64 an, .string at'] 26)).alloc (Obj.cells #[.int .i64 ak, .int .i64 an, .string at'] 26)).alloc (Obj.cells #[.int .i64 ck, .int .i64 cn, .string ct] 26)).heap[w.heap.size]? = some (.cells #[.int .i64 ak, .int .i64 an, .string at'] 26 (0, 0)) := (Below.heap_alloc _ _ w.heap.size (by simp; omega)).trans ((Below.heap_alloc _ _ w.heap.size (by simp)).trans (heap_alloc_new _ _))
  have hy : (((w.alloc (Obj.cells #[.int .i64 ak, .int .i64 an, .string at'] 26)).alloc (Obj.cells #[.int .i64 ak, .int .i64 an, .string at'] 26)).alloc (Obj.cells #[.int .i64 ck, .int .i64 cn, .string ct] 26)).heap[w.heap.size + 1]? = some (.cells #[.int .i64 ak, .int .i64 an, .string at'] 26 (0, 0)) := (Below.heap_alloc _ _ (w.heap.size + 1) (by simp)).trans (by
    rw [show w.heap.size + 1 = (w.alloc (Obj.cells #[.int .i64 ak, .int .i64 an, .string at'] 26)).heap.size by simp]; exact heap_alloc_new _ _)
  have hz : (((w.alloc (Obj.cells #[.int .i64 ak, .int .i64 an, .string at'] 26)).alloc (Obj.cells #[.int .i64 ak, .int .i64 an, .string at'] 26)).alloc (Obj.cells #[.int .i64 ck, .int .i64 cn, .string ct] 26)).heap[w.heap.size + 1 + 1]? = some (.cells #[.int .i64 ck, .int .i64 cn, .string ct] 26 (0, 0)) := by
    rw [show w.heap.size + 1 + 1 = ((w.alloc (Obj.cells #[.int .i64 ak, .int .i64 an, .string at'] 26)).alloc (Obj.cells #[.int .i64 ak, .int .i64 an, .string at'] 26)).heap.size by simp]; exact heap_alloc_new _ _
  have hb : Below w.heap.size w (((w.alloc (Obj.cells #[.int .i64 ak, .int .i64 an, .string at'] 26)).alloc (Obj.cells #[.int .i64 ak, .int .i64 an, .string at'] 26)).alloc (Obj.cells #[.int .i64 ck, .int .i64 cn, .string ct] 26)) := (((Below.refl _ _).alloc (Nat.le_refl w.heap.size) _).alloc (by simp) _).alloc (by simp; omega) _
  have hl : w.heap.size + 1 + 1 < (((w.alloc (Obj.cells #[.int .i64 ak, .int .i64 an, .string at'] 26)).alloc (Obj.cells #[.int .i64 ak, .int .i64 an, .string at'] 26)).alloc (Obj.cells #[.int .i64 ck, .int .i64 cn, .string ct] 26)).heap.size := by simp
  generalize (((w.alloc (Obj.cells #[.int .i64 ak, .int .i64 an, .string at'] 26)).alloc (Obj.cells #[.int .i64 ak, .int .i64 an, .string at'] 26)).alloc (Obj.cells #[.int .i64 ck, .int .i64 cn, .string ct] 26)) = W0 at *
  obtain ⟨x0, x1, x2⟩ := val_cells hx
  obtain ⟨y0, y1, y2⟩ := val_cells hy
  obtain ⟨z0, z1, z2⟩ := val_cells hz
  go_wp2_with (fail)
  refine (HB.out _ hb).mono ?_
  rintro e w1 ⟨rfl, hb1⟩
  replace hx := (hb1.block w.heap.size (by omega)).trans hx
  replace hy := (hb1.block (w.heap.size + 1) (by omega)).trans hy
  replace hz := (hb1.block (w.heap.size + 1 + 1) (by omega)).trans hz
  replace hb := hb.trans (hb1.mono hb.size)
  replace hl := Nat.lt_of_lt_of_le hl hb1.size
  clear hb1 x0 x1 x2 y0 y1 y2 z0 z1 z2
  obtain ⟨x0, x1, x2⟩ := val_cells hx
  obtain ⟨y0, y1, y2⟩ := val_cells hy
  obtain ⟨z0, z1, z2⟩ := val_cells hz
  go_upto_region 3 with (fail)
  go_cut [7, 8, 9] (fun s7 s8 s9 wx => s7 = .int .i64 0 ∧ s8 = .int .i64 y ∧ s9 = .int .i64 y ∧ Below w.heap.size w wx ∧ wx.heap[w.heap.size]? = some (.cells #[.int .i64 ak, .int .i64 an, .string at'] 26 (0, 0)) ∧ wx.heap[w.heap.size + 1]? = some (.cells #[.int .i64 ak, .int .i64 an, .string at'] 26 (0, 0)) ∧ wx.heap[w.heap.size + 1 + 1]? = some (.cells #[.int .i64 ck, .int .i64 cn, .string ct] 26 (0, 0)) ∧ w.heap.size + 1 + 1 < wx.heap.size)
  case first =>
    go_region_held3 (fun w' => w'.cell? ⟨w.heap.size, 0, none⟩ = some (.int .i64 ak) ∧ w'.cell? ⟨w.heap.size, 1, none⟩ = some (.int .i64 an) ∧ w'.cell? ⟨w.heap.size, 2, none⟩ = some (.string at') ∧ w'.cell? ⟨w.heap.size + 1, 0, none⟩ = some (.int .i64 ak) ∧ w'.cell? ⟨w.heap.size + 1, 1, none⟩ = some (.int .i64 an) ∧ w'.cell? ⟨w.heap.size + 1, 2, none⟩ = some (.string at') ∧ w'.cell? ⟨w.heap.size + 1 + 1, 0, none⟩ = some (.int .i64 ck) ∧ w'.cell? ⟨w.heap.size + 1 + 1, 1, none⟩ = some (.int .i64 cn) ∧ w'.cell? ⟨w.heap.size + 1 + 1, 2, none⟩ = some (.string ct))
      (first | go_keep | exact ⟨x0, x1, x2, y0, y1, y2, z0, z1, z2⟩)
      ((go_at_call 16; (first | (with_reducible refine (K1.out _ ?_).mono ?_; (first | exact hb | exact hb.drew)) | (with_reducible refine (K2.out _ ?_).mono ?_; (first | exact hb | exact hb.drew)) | (with_reducible refine (K3.out _ ?_).mono ?_; (first | exact hb | exact hb.drew))); rintro e v ⟨rfl, hbn⟩; clear x0 x1 x2 y0 y1 y2 z0 z1 z2; replace hx := (hbn.block w.heap.size (Nat.lt_of_succ_lt (Nat.lt_of_succ_lt hl))).trans hx; replace hy := (hbn.block (w.heap.size + 1) (Nat.lt_of_succ_lt hl)).trans hy; replace hz := (hbn.block (w.heap.size + 1 + 1) hl).trans hz; replace hb : Below w.heap.size w v := (by first | exact hb.trans (hbn.mono hb.size) | exact hb.drew.trans (hbn.mono hb.size)); replace hl := Nat.lt_of_lt_of_le hl hbn.size; clear hbn; obtain ⟨x0, x1, x2⟩ := val_cells hx; obtain ⟨y0, y1, y2⟩ := val_cells hy; obtain ⟨z0, z1, z2⟩ := val_cells hz))
    all_goals
      go_wp2_with (fail)
      go_meet
      exact ⟨rfl, rfl, rfl, hb, hx, hy, hz, hl⟩
  case rest =>
  clear hx hy hz hb hl x0 x1 x2 y0 y1 y2 z0 z1 z2 K1 K2 K3
  obtain ⟨rfl, rfl, rfl, hb, hx, hy, hz, hl⟩ := hcut
  obtain ⟨x0, x1, x2⟩ := val_cells hx
  obtain ⟨y0, y1, y2⟩ := val_cells hy
  obtain ⟨z0, z1, z2⟩ := val_cells hz
  have e0 := HE0.out
  go_wp2_with (fail)
  refine (K4.out _ hb).mono ?_
  rintro e w2 ⟨rfl, hb2⟩
  replace hx := (hb2.block w.heap.size (by omega)).trans hx
  replace hy := (hb2.block (w.heap.size + 1) (by omega)).trans hy
  replace hz := (hb2.block (w.heap.size + 1 + 1) (by omega)).trans hz
  replace hb := hb.trans (hb2.mono hb.size)
  replace hl := Nat.lt_of_lt_of_le hl hb2.size
  clear hb2 x0 x1 x2 y0 y1 y2 z0 z1 z2
  obtain ⟨x0, x1, x2⟩ := val_cells hx
  obtain ⟨y0, y1, y2⟩ := val_cells hy
  obtain ⟨z0, z1, z2⟩ := val_cells hz
  go_wp2_with (fail)
  refine (K5.out _ hb).mono ?_
  rintro e w3 ⟨rfl, hb3⟩
  replace hx := (hb3.block w.heap.size (by omega)).trans hx
  replace hy := (hb3.block (w.heap.size + 1) (by omega)).trans hy
  replace hz := (hb3.block (w.heap.size + 1 + 1) (by omega)).trans hz
  replace hb := hb.trans (hb3.mono hb.size)
  replace hl := Nat.lt_of_lt_of_le hl hb3.size
  clear hb3 x0 x1 x2 y0 y1 y2 z0 z1 z2
  obtain ⟨x0, x1, x2⟩ := val_cells hx
  obtain ⟨y0, y1, y2⟩ := val_cells hy
  obtain ⟨z0, z1, z2⟩ := val_cells hz
  go_wp2_with (fail)
  refine (M1.out _ hb).mono ?_
  rintro e w4 ⟨rfl, hb4⟩
  replace hx := (hb4.block w.heap.size (by omega)).trans hx
  replace hy := (hb4.block (w.heap.size + 1) (by omega)).trans hy
  replace hz := (hb4.block (w.heap.size + 1 + 1) (by omega)).trans hz
  replace hb := hb.trans (hb4.mono hb.size)
  replace hl := Nat.lt_of_lt_of_le hl hb4.size
  clear hb4 x0 x1 x2 y0 y1 y2 z0 z1 z2
  obtain ⟨x0, x1, x2⟩ := val_cells hx
  obtain ⟨y0, y1, y2⟩ := val_cells hy
  obtain ⟨z0, z1, z2⟩ := val_cells hz
  go_wp2_with (fail)
  refine (M2.out _ hb).mono ?_
  rintro e w5 ⟨rfl, hb5⟩
  replace hx := (hb5.block w.heap.size (by omega)).trans hx
  replace hy := (hb5.block (w.heap.size + 1) (by omega)).trans hy
  replace hz := (hb5.block (w.heap.size + 1 + 1) (by omega)).trans hz
  replace hb := hb.trans (hb5.mono hb.size)
  replace hl := Nat.lt_of_lt_of_le hl hb5.size
  clear hb5 x0 x1 x2 y0 y1 y2 z0 z1 z2
  obtain ⟨x0, x1, x2⟩ := val_cells hx
  obtain ⟨y0, y1, y2⟩ := val_cells hy
  obtain ⟨z0, z1, z2⟩ := val_cells hz
  go_wp2_with (fail)
  refine (M3.out _ hb).mono ?_
  rintro e w6 ⟨rfl, hb6⟩
  replace hx := (hb6.block w.heap.size (by omega)).trans hx
  replace hy := (hb6.block (w.heap.size + 1) (by omega)).trans hy
  replace hz := (hb6.block (w.heap.size + 1 + 1) (by omega)).trans hz
  replace hb := hb.trans (hb6.mono hb.size)
  replace hl := Nat.lt_of_lt_of_le hl hb6.size
  clear hb6 x0 x1 x2 y0 y1 y2 z0 z1 z2
  obtain ⟨x0, x1, x2⟩ := val_cells hx
  obtain ⟨y0, y1, y2⟩ := val_cells hy
  obtain ⟨z0, z1, z2⟩ := val_cells hz
  go_upto_region 12 with (fail)
  go_cut [101] (fun s wx => s = .bool false ∧ Below w.heap.size w wx)
  case first =>
    clear z0 z1 z2 hz
    replace hl := Nat.lt_of_succ_lt hl
    go_region_held3 (fun w' => w'.cell? ⟨w.heap.size, 0, none⟩ = some (.int .i64 ak) ∧ w'.cell? ⟨w.heap.size, 1, none⟩ = some (.int .i64 an) ∧ w'.cell? ⟨w.heap.size, 2, none⟩ = some (.string at') ∧ w'.cell? ⟨w.heap.size + 1, 0, none⟩ = some (.int .i64 ak) ∧ w'.cell? ⟨w.heap.size + 1, 1, none⟩ = some (.int .i64 an) ∧ w'.cell? ⟨w.heap.size + 1, 2, none⟩ = some (.string at'))
      (first | go_keep | exact ⟨x0, x1, x2, y0, y1, y2⟩)
      ((go_at_call 17; (with_reducible refine (Q1.out _ ?_).mono ?_; (first | exact hb | exact hb.drew)); rintro e v ⟨rfl, hbn⟩; clear x0 x1 x2 y0 y1 y2; replace hx := (hbn.block w.heap.size (Nat.lt_of_succ_lt hl)).trans hx; replace hy := (hbn.block (w.heap.size + 1) hl).trans hy; replace hb : Below w.heap.size w v := (by first | exact hb.trans (hbn.mono hb.size) | exact hb.drew.trans (hbn.mono hb.size)); replace hl := Nat.lt_of_lt_of_le hl hbn.size; clear hbn; obtain ⟨x0, x1, x2⟩ := val_cells hx; obtain ⟨y0, y1, y2⟩ := val_cells hy))
    all_goals
      go_wp2_with (fail)
      go_meet
      exact ⟨rfl, hb⟩
  case rest =>
  clear hx hy hz hb hl x0 x1 x2 y0 y1 y2 z0 z1 z2
  obtain ⟨rfl, hb⟩ := hcut
  by_cases h1 : 0 < y
  · have t2 : decide (0 < y) = true := decide_eq_true h1
    go_wp2
    go_ret
    exact ⟨rfl, hb⟩
  have t2 : decide (0 < y) = false := decide_eq_false h1
  have t3 : decide (y ≤ 0) = true := decide_eq_true (by omega)
  cases t4 : (y == 0) with
  | true =>
    go_wp2
    go_ret
    exact ⟨rfl, hb⟩
  | false =>
    go_wp2
    go_ret
    exact ⟨rfl, hb⟩

end Go.Proofs.YtedcfddbfpgeaabDoor
