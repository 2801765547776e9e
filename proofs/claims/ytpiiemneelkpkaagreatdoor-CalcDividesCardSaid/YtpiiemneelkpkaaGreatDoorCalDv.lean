/- The walk of quadrillelaw14.CalcDivides. -/
import Derived.Test.YtpiiemneelkpkaaGreatDoorGcb
import Derived.Test.YtpiiemneelkpkaaGreatDoorGcp
import Derived.Test.YtpiiemneelkpkaaGreatDoorGsh
import Derived.Deep.RegionHeld3
import Derived.Deep.DeepCutAuto
import Derived.Deep.RegionWith
namespace Go.Proofs.YtpiiemneelkpkaaGreatDoor
open Go.RowKit
set_option linter.unusedVariables false
set_option linter.unusedSimpArgs false
theorem whole_neg (n : Int) (k : Nat) (h : n < 0) (h2 : -9223372036854775808 ≤ n) (hk : n.natAbs = k) (w : World) : Calls Tryz.prog 16 #[.int .i64 n] w fun e w' => e = .returned (.int .u64 (k : Int)) ∧ Below w.heap.size w w' := by
  have t0 : decide (n < 0) = true := decide_eq_true h
  have e1 : IntKind.u64.wrap n = n + 18446744073709551616 := by simp [IntKind.wrap, IntKind.bits, IntKind.signed]; omega
  have e2 : IntKind.u64.wrap (-(n + 18446744073709551616)) = (k : Int) := by simp [IntKind.wrap, IntKind.bits, IntKind.signed]; omega
  clear h h2 hk
  go_enter Tryz.func16, Tryz.ntmps16
  go_wp2
  go_ret
  exact ⟨rfl, Below.refl _ _⟩
theorem whole_pos (n : Int) (k : Nat) (h : ¬ n < 0) (h2 : n ≤ 9223372036854775807) (hk : n.natAbs = k) (w : World) : Calls Tryz.prog 16 #[.int .i64 n] w fun e w' => e = .returned (.int .u64 (k : Int)) ∧ Below w.heap.size w w' := by
  obtain ⟨m, rfl⟩ := Int.eq_ofNat_of_zero_le (show 0 ≤ n by omega)
  obtain rfl : m = k := by omega
  have t0 : decide ((m : Int) < 0) = false := decide_eq_false h
  have e1 : IntKind.u64.wrap (m : Int) = (m : Int) := by simp [IntKind.wrap, IntKind.bits, IntKind.signed]; omega
  go_enter Tryz.func16, Tryz.ntmps16
  go_wp2
  go_ret
  exact ⟨rfl, Below.refl _ _⟩
theorem whole_any (n : Int) (h : I64 n) (w : World) : Calls Tryz.prog 16 #[.int .i64 n] w fun e w' => e = .returned (.int .u64 (n.natAbs : Int)) ∧ Below w.heap.size w w' := by
  by_cases h0 : n < 0
  · exact whole_neg n _ h0 h.1 rfl w
  · exact whole_pos n _ h0 h.2 rfl w

set_option maxRecDepth 100000 in
set_option maxHeartbeats 6400000 in
theorem div_zero (a : Int) (w : World) (HBEG : Hid (∀ v, Below w.heap.size w v → Calls Tryz.prog 8 #[] v fun e w' => e = .returned (.bool true) ∧ Below v.heap.size v w'))
    (HQ : Hid (∀ v, Below w.heap.size w v → Calls Tryz.prog 11 #[.int .i64 4, .slice (some ⟨v.heap.size, 0, none⟩) 2 2] (v.alloc (Obj.cells #[.int .i64 1, .int .i64 a, .string ⟨#[]⟩, .int .i64 1, .int .i64 0, .string ⟨#[]⟩] 26)) fun e w' => e = .returned (.agg #[.int .i64 4, .int .i64 5, .string ⟨#[]⟩]) ∧ Below v.heap.size v w'))
    (HM : Hid (∀ v, Below w.heap.size w v → Calls Tryz.prog 11 #[.int .i64 3, .slice (some ⟨v.heap.size, 0, none⟩) 2 2] (v.alloc (Obj.cells #[.int .i64 1, .int .i64 a, .string ⟨#[]⟩, .int .i64 1, .int .i64 0, .string ⟨#[]⟩] 26)) fun e w' => e = .returned (.agg #[.int .i64 4, .int .i64 5, .string ⟨#[]⟩]) ∧ Below v.heap.size v w'))
    (HD : Hid (∀ v, Below w.heap.size w v → Calls Tryz.prog 13 #[.int .i64 3, .agg #[.int .i64 1, .int .i64 a, .string ⟨#[]⟩], .agg #[.int .i64 1, .int .i64 0, .string ⟨#[]⟩]] v fun e w' => e = .returned (.agg #[.int .i64 4, .int .i64 5, .string ⟨#[]⟩]) ∧ Below v.heap.size v w'))
    (HL : Hid (∀ v, Below w.heap.size w v → Calls Tryz.prog 11 #[.int .i64 7, .slice (some ⟨v.heap.size, 0, none⟩) 2 2] (v.alloc (Obj.cells #[.int .i64 1, .int .i64 a, .string ⟨#[]⟩, .int .i64 1, .int .i64 0, .string ⟨#[]⟩] 26)) fun e w' => e = .returned (.agg #[.int .i64 1, .int .i64 0, .string ⟨#[]⟩]) ∧ Below v.heap.size v w')) : Calls Tryz.prog 4 #[.int .i64 a, .int .i64 0] w fun e w' => e = .returned (.bool true) ∧ Below w.heap.size w w' := by
  have HNUM := Lib.hid lnum_any
  have HBAD := Lib.hid lbad_any
  have hb : Below w.heap.size w w := Below.refl _ _
  go_enter Tryz.func4, Tryz.ntmps4
  go_wp2_with (fail)
  refine (HBEG.out _ hb).mono ?_
  rintro e w1 ⟨rfl, hb1⟩
  replace hb := hb.trans (hb1.mono hb.size)
  clear hb1
  go_wp2_with (fail)
  refine (HNUM.out _ _).mono ?_
  rintro e w2 ⟨rfl, hb2⟩
  replace hb := hb.trans (hb2.mono hb.size)
  clear hb2
  go_wp2_with (fail)
  refine (HNUM.out _ _).mono ?_
  rintro e w3 ⟨rfl, hb3⟩
  replace hb := hb.trans (hb3.mono hb.size)
  clear hb3
  go_wp2_with (fail)
  refine (HQ.out _ hb).mono ?_
  rintro e w4 ⟨rfl, hb4⟩
  replace hb := hb.trans (hb4.mono hb.size)
  clear hb4
  go_wp2_with (fail)
  refine (HNUM.out _ _).mono ?_
  rintro e w5 ⟨rfl, hb5⟩
  replace hb := hb.trans (hb5.mono hb.size)
  clear hb5
  go_wp2_with (fail)
  refine (HNUM.out _ _).mono ?_
  rintro e w6 ⟨rfl, hb6⟩
  replace hb := hb.trans (hb6.mono hb.size)
  clear hb6
  go_wp2_with (fail)
  refine (HM.out _ hb).mono ?_
  rintro e w7 ⟨rfl, hb7⟩
  replace hb := hb.trans (hb7.mono hb.size)
  clear hb7
  go_wp2_with (fail)
  refine (HNUM.out _ _).mono ?_
  rintro e w8 ⟨rfl, hb8⟩
  replace hb := hb.trans (hb8.mono hb.size)
  clear hb8
  go_wp2_with (fail)
  refine (HNUM.out _ _).mono ?_
  rintro e w9 ⟨rfl, hb9⟩
  replace hb := hb.trans (hb9.mono hb.size)
  clear hb9
  go_wp2_with (fail)
  refine (HD.out _ hb).mono ?_
  rintro e w10 ⟨rfl, hb10⟩
  replace hb := hb.trans (hb10.mono hb.size)
  clear hb10
  go_upto_region 4 with (fail)
  have kq : (((w10.alloc (Obj.cells #[.int .i64 4, .int .i64 5, .string ⟨#[]⟩] 26)).alloc (Obj.cells #[.int .i64 4, .int .i64 5, .string ⟨#[]⟩] 26)).alloc (Obj.cells #[.int .i64 4, .int .i64 5, .string ⟨#[]⟩] 26)).heap[w10.heap.size]? = some (.cells #[.int .i64 4, .int .i64 5, .string ⟨#[]⟩] 26 (0, 0)) := (heap_alloc_old _ _ (by simp; omega)).trans ((heap_alloc_old _ _ (by simp)).trans (heap_alloc_new _ _))
  have km : (((w10.alloc (Obj.cells #[.int .i64 4, .int .i64 5, .string ⟨#[]⟩] 26)).alloc (Obj.cells #[.int .i64 4, .int .i64 5, .string ⟨#[]⟩] 26)).alloc (Obj.cells #[.int .i64 4, .int .i64 5, .string ⟨#[]⟩] 26)).heap[w10.heap.size + 1]? = some (.cells #[.int .i64 4, .int .i64 5, .string ⟨#[]⟩] 26 (0, 0)) := (heap_alloc_old _ _ (by simp)).trans (by rw [show w10.heap.size + 1 = (w10.alloc (Obj.cells #[.int .i64 4, .int .i64 5, .string ⟨#[]⟩] 26)).heap.size by simp]; exact heap_alloc_new _ _)
  have kd : (((w10.alloc (Obj.cells #[.int .i64 4, .int .i64 5, .string ⟨#[]⟩] 26)).alloc (Obj.cells #[.int .i64 4, .int .i64 5, .string ⟨#[]⟩] 26)).alloc (Obj.cells #[.int .i64 4, .int .i64 5, .string ⟨#[]⟩] 26)).heap[w10.heap.size + 1 + 1]? = some (.cells #[.int .i64 4, .int .i64 5, .string ⟨#[]⟩] 26 (0, 0)) := by rw [show w10.heap.size + 1 + 1 = ((w10.alloc (Obj.cells #[.int .i64 4, .int .i64 5, .string ⟨#[]⟩] 26)).alloc (Obj.cells #[.int .i64 4, .int .i64 5, .string ⟨#[]⟩] 26)).heap.size by simp]; exact heap_alloc_new _ _
  replace hb : Below w.heap.size w (((w10.alloc (Obj.cells #[.int .i64 4, .int .i64 5, .string ⟨#[]⟩] 26)).alloc (Obj.cells #[.int .i64 4, .int .i64 5, .string ⟨#[]⟩] 26)).alloc (Obj.cells #[.int .i64 4, .int .i64 5, .string ⟨#[]⟩] 26)) := ((hb.alloc hb.size _).alloc (by have := hb.size; simp; omega) _).alloc (by have := hb.size; simp; omega) _
  generalize (((w10.alloc (Obj.cells #[.int .i64 4, .int .i64 5, .string ⟨#[]⟩] 26)).alloc (Obj.cells #[.int .i64 4, .int .i64 5, .string ⟨#[]⟩] 26)).alloc (Obj.cells #[.int .i64 4, .int .i64 5, .string ⟨#[]⟩] 26)) = W0 at *
  generalize w10.heap.size = B at *
  obtain ⟨q0, q1, q2⟩ := val_cells kq
  obtain ⟨m0, m1, m2⟩ := val_cells km
  obtain ⟨d0, d1, d2⟩ := val_cells kd
  go_upto_region 7 with (fail)
  clear q0 q1 q2 m0 m1 m2 d0 d1 d2
  obtain ⟨s00, s01, s02⟩ := val_cells kq
  obtain ⟨s10, s11, s12⟩ := val_cells km
  have hS : W0.cell? ⟨B, 0, none⟩ = some (.int .i64 4) ∧ W0.cell? ⟨B, 1, none⟩ = some (.int .i64 5) ∧ W0.cell? ⟨B, 2, none⟩ = some (.string ⟨#[]⟩) ∧ W0.cell? ⟨(B + 1), 0, none⟩ = some (.int .i64 4) ∧ W0.cell? ⟨(B + 1), 1, none⟩ = some (.int .i64 5) ∧ W0.cell? ⟨(B + 1), 2, none⟩ = some (.string ⟨#[]⟩) := ⟨s00, s01, s02, s10, s11, s12⟩
  clear s00 s01 s02 s10 s11 s12
  have hB : Below W0.heap.size W0 W0.drew := (Below.refl _ _).drew
  go_region_held3 (fun w' => w'.cell? ⟨B, 0, none⟩ = some (.int .i64 4) ∧ w'.cell? ⟨B, 1, none⟩ = some (.int .i64 5) ∧ w'.cell? ⟨B, 2, none⟩ = some (.string ⟨#[]⟩) ∧ w'.cell? ⟨(B + 1), 0, none⟩ = some (.int .i64 4) ∧ w'.cell? ⟨(B + 1), 1, none⟩ = some (.int .i64 5) ∧ w'.cell? ⟨(B + 1), 2, none⟩ = some (.string ⟨#[]⟩))
    (first | go_keep | exact ⟨(hB.cell (p := ⟨B, 0, none⟩) (Array.getElem?_eq_some_iff.1 kq).1).trans hS.1, (hB.cell (p := ⟨B, 1, none⟩) (Array.getElem?_eq_some_iff.1 kq).1).trans hS.2.1, (hB.cell (p := ⟨B, 2, none⟩) (Array.getElem?_eq_some_iff.1 kq).1).trans hS.2.2.1, (hB.cell (p := ⟨(B + 1), 0, none⟩) (Array.getElem?_eq_some_iff.1 km).1).trans hS.2.2.2.1, (hB.cell (p := ⟨(B + 1), 1, none⟩) (Array.getElem?_eq_some_iff.1 km).1).trans hS.2.2.2.2.1, (hB.cell (p := ⟨(B + 1), 2, none⟩) (Array.getElem?_eq_some_iff.1 km).1).trans hS.2.2.2.2.2⟩ | exact ⟨((hB.alloc hB.size _).cell (p := ⟨B, 0, none⟩) (Array.getElem?_eq_some_iff.1 kq).1).trans hS.1, ((hB.alloc hB.size _).cell (p := ⟨B, 1, none⟩) (Array.getElem?_eq_some_iff.1 kq).1).trans hS.2.1, ((hB.alloc hB.size _).cell (p := ⟨B, 2, none⟩) (Array.getElem?_eq_some_iff.1 kq).1).trans hS.2.2.1, ((hB.alloc hB.size _).cell (p := ⟨(B + 1), 0, none⟩) (Array.getElem?_eq_some_iff.1 km).1).trans hS.2.2.2.1, ((hB.alloc hB.size _).cell (p := ⟨(B + 1), 1, none⟩) (Array.getElem?_eq_some_iff.1 km).1).trans hS.2.2.2.2.1, ((hB.alloc hB.size _).cell (p := ⟨(B + 1), 2, none⟩) (Array.getElem?_eq_some_iff.1 km).1).trans hS.2.2.2.2.2⟩)
    (first | (go_at_call 14; with_reducible refine (HBAD.out _ _).mono ?_; rintro e v ⟨rfl, hbn⟩; replace hB := hB.trans (hbn.mono hB.size); clear hbn) | (go_at_call 12; with_reducible refine (HNUM.out _ _).mono ?_; rintro e v ⟨rfl, hbn⟩; replace hB := hB.trans (hbn.mono hB.size); clear hbn) | (go_at_call 11; with_reducible refine (HL.out _ (hb.trans (hB.mono hb.size))).mono ?_; rintro e v ⟨rfl, hbn⟩; replace hB := hB.trans (hbn.mono hB.size); clear hbn))
  go_wp2
  go_ret
  exact ⟨rfl, hb.trans (hB.mono hb.size)⟩

set_option maxRecDepth 100000 in
set_option maxHeartbeats 6400000 in
theorem div_over (w : World) (HBEG : Hid (∀ v, Below w.heap.size w v → Calls Tryz.prog 8 #[] v fun e w' => e = .returned (.bool true) ∧ Below v.heap.size v w'))
    (HQ : Hid (∀ v, Below w.heap.size w v → Calls Tryz.prog 11 #[.int .i64 4, .slice (some ⟨v.heap.size, 0, none⟩) 2 2] (v.alloc (Obj.cells #[.int .i64 1, .int .i64 (-9223372036854775808), .string ⟨#[]⟩, .int .i64 1, .int .i64 (-1), .string ⟨#[]⟩] 26)) fun e w' => e = .returned (.agg #[.int .i64 4, .int .i64 2, .string ⟨#[]⟩]) ∧ Below v.heap.size v w'))
    (HM : Hid (∀ v, Below w.heap.size w v → Calls Tryz.prog 11 #[.int .i64 3, .slice (some ⟨v.heap.size, 0, none⟩) 2 2] (v.alloc (Obj.cells #[.int .i64 1, .int .i64 (-9223372036854775808), .string ⟨#[]⟩, .int .i64 1, .int .i64 (-1), .string ⟨#[]⟩] 26)) fun e w' => e = .returned (.agg #[.int .i64 1, .int .i64 0, .string ⟨#[]⟩]) ∧ Below v.heap.size v w'))
    (HD : Hid (∀ v, Below w.heap.size w v → Calls Tryz.prog 13 #[.int .i64 3, .agg #[.int .i64 1, .int .i64 (-9223372036854775808), .string ⟨#[]⟩], .agg #[.int .i64 1, .int .i64 (-1), .string ⟨#[]⟩]] v fun e w' => e = .returned (.agg #[.int .i64 4, .int .i64 2, .string ⟨#[]⟩]) ∧ Below v.heap.size v w'))
     : Calls Tryz.prog 4 #[.int .i64 (-9223372036854775808), .int .i64 (-1)] w fun e w' => e = .returned (.bool true) ∧ Below w.heap.size w w' := by
  have HNUM := Lib.hid lnum_any
  have HBAD := Lib.hid lbad_any
  have hb : Below w.heap.size w w := Below.refl _ _
  go_enter Tryz.func4, Tryz.ntmps4
  go_wp2_with (fail)
  refine (HBEG.out _ hb).mono ?_
  rintro e w1 ⟨rfl, hb1⟩
  replace hb := hb.trans (hb1.mono hb.size)
  clear hb1
  go_wp2_with (fail)
  refine (HNUM.out _ _).mono ?_
  rintro e w2 ⟨rfl, hb2⟩
  replace hb := hb.trans (hb2.mono hb.size)
  clear hb2
  go_wp2_with (fail)
  refine (HNUM.out _ _).mono ?_
  rintro e w3 ⟨rfl, hb3⟩
  replace hb := hb.trans (hb3.mono hb.size)
  clear hb3
  go_wp2_with (fail)
  refine (HQ.out _ hb).mono ?_
  rintro e w4 ⟨rfl, hb4⟩
  replace hb := hb.trans (hb4.mono hb.size)
  clear hb4
  go_wp2_with (fail)
  refine (HNUM.out _ _).mono ?_
  rintro e w5 ⟨rfl, hb5⟩
  replace hb := hb.trans (hb5.mono hb.size)
  clear hb5
  go_wp2_with (fail)
  refine (HNUM.out _ _).mono ?_
  rintro e w6 ⟨rfl, hb6⟩
  replace hb := hb.trans (hb6.mono hb.size)
  clear hb6
  go_wp2_with (fail)
  refine (HM.out _ hb).mono ?_
  rintro e w7 ⟨rfl, hb7⟩
  replace hb := hb.trans (hb7.mono hb.size)
  clear hb7
  go_wp2_with (fail)
  refine (HNUM.out _ _).mono ?_
  rintro e w8 ⟨rfl, hb8⟩
  replace hb := hb.trans (hb8.mono hb.size)
  clear hb8
  go_wp2_with (fail)
  refine (HNUM.out _ _).mono ?_
  rintro e w9 ⟨rfl, hb9⟩
  replace hb := hb.trans (hb9.mono hb.size)
  clear hb9
  go_wp2_with (fail)
  refine (HD.out _ hb).mono ?_
  rintro e w10 ⟨rfl, hb10⟩
  replace hb := hb.trans (hb10.mono hb.size)
  clear hb10
  go_upto_region 4 with (fail)
  have kq : (((w10.alloc (Obj.cells #[.int .i64 4, .int .i64 2, .string ⟨#[]⟩] 26)).alloc (Obj.cells #[.int .i64 1, .int .i64 0, .string ⟨#[]⟩] 26)).alloc (Obj.cells #[.int .i64 4, .int .i64 2, .string ⟨#[]⟩] 26)).heap[w10.heap.size]? = some (.cells #[.int .i64 4, .int .i64 2, .string ⟨#[]⟩] 26 (0, 0)) := (heap_alloc_old _ _ (by simp; omega)).trans ((heap_alloc_old _ _ (by simp)).trans (heap_alloc_new _ _))
  have km : (((w10.alloc (Obj.cells #[.int .i64 4, .int .i64 2, .string ⟨#[]⟩] 26)).alloc (Obj.cells #[.int .i64 1, .int .i64 0, .string ⟨#[]⟩] 26)).alloc (Obj.cells #[.int .i64 4, .int .i64 2, .string ⟨#[]⟩] 26)).heap[w10.heap.size + 1]? = some (.cells #[.int .i64 1, .int .i64 0, .string ⟨#[]⟩] 26 (0, 0)) := (heap_alloc_old _ _ (by simp)).trans (by rw [show w10.heap.size + 1 = (w10.alloc (Obj.cells #[.int .i64 4, .int .i64 2, .string ⟨#[]⟩] 26)).heap.size by simp]; exact heap_alloc_new _ _)
  have kd : (((w10.alloc (Obj.cells #[.int .i64 4, .int .i64 2, .string ⟨#[]⟩] 26)).alloc (Obj.cells #[.int .i64 1, .int .i64 0, .string ⟨#[]⟩] 26)).alloc (Obj.cells #[.int .i64 4, .int .i64 2, .string ⟨#[]⟩] 26)).heap[w10.heap.size + 1 + 1]? = some (.cells #[.int .i64 4, .int .i64 2, .string ⟨#[]⟩] 26 (0, 0)) := by rw [show w10.heap.size + 1 + 1 = ((w10.alloc (Obj.cells #[.int .i64 4, .int .i64 2, .string ⟨#[]⟩] 26)).alloc (Obj.cells #[.int .i64 1, .int .i64 0, .string ⟨#[]⟩] 26)).heap.size by simp]; exact heap_alloc_new _ _
  replace hb : Below w.heap.size w (((w10.alloc (Obj.cells #[.int .i64 4, .int .i64 2, .string ⟨#[]⟩] 26)).alloc (Obj.cells #[.int .i64 1, .int .i64 0, .string ⟨#[]⟩] 26)).alloc (Obj.cells #[.int .i64 4, .int .i64 2, .string ⟨#[]⟩] 26)) := ((hb.alloc hb.size _).alloc (by have := hb.size; simp; omega) _).alloc (by have := hb.size; simp; omega) _
  generalize (((w10.alloc (Obj.cells #[.int .i64 4, .int .i64 2, .string ⟨#[]⟩] 26)).alloc (Obj.cells #[.int .i64 1, .int .i64 0, .string ⟨#[]⟩] 26)).alloc (Obj.cells #[.int .i64 4, .int .i64 2, .string ⟨#[]⟩] 26)) = W0 at *
  generalize w10.heap.size = B at *
  obtain ⟨q0, q1, q2⟩ := val_cells kq
  obtain ⟨m0, m1, m2⟩ := val_cells km
  obtain ⟨d0, d1, d2⟩ := val_cells kd
  go_upto_region 11 with (fail)
  clear q0 q1 q2 m0 m1 m2 d0 d1 d2
  obtain ⟨s00, s01, s02⟩ := val_cells kq
  obtain ⟨s10, s11, s12⟩ := val_cells km
  have hS : W0.cell? ⟨B, 0, none⟩ = some (.int .i64 4) ∧ W0.cell? ⟨B, 1, none⟩ = some (.int .i64 2) ∧ W0.cell? ⟨B, 2, none⟩ = some (.string ⟨#[]⟩) ∧ W0.cell? ⟨(B + 1), 0, none⟩ = some (.int .i64 1) ∧ W0.cell? ⟨(B + 1), 1, none⟩ = some (.int .i64 0) ∧ W0.cell? ⟨(B + 1), 2, none⟩ = some (.string ⟨#[]⟩) := ⟨s00, s01, s02, s10, s11, s12⟩
  clear s00 s01 s02 s10 s11 s12
  have hB : Below W0.heap.size W0 W0.drew := (Below.refl _ _).drew
  go_region_held3 (fun w' => w'.cell? ⟨B, 0, none⟩ = some (.int .i64 4) ∧ w'.cell? ⟨B, 1, none⟩ = some (.int .i64 2) ∧ w'.cell? ⟨B, 2, none⟩ = some (.string ⟨#[]⟩) ∧ w'.cell? ⟨(B + 1), 0, none⟩ = some (.int .i64 1) ∧ w'.cell? ⟨(B + 1), 1, none⟩ = some (.int .i64 0) ∧ w'.cell? ⟨(B + 1), 2, none⟩ = some (.string ⟨#[]⟩))
    (first | go_keep | exact ⟨(hB.cell (p := ⟨B, 0, none⟩) (Array.getElem?_eq_some_iff.1 kq).1).trans hS.1, (hB.cell (p := ⟨B, 1, none⟩) (Array.getElem?_eq_some_iff.1 kq).1).trans hS.2.1, (hB.cell (p := ⟨B, 2, none⟩) (Array.getElem?_eq_some_iff.1 kq).1).trans hS.2.2.1, (hB.cell (p := ⟨(B + 1), 0, none⟩) (Array.getElem?_eq_some_iff.1 km).1).trans hS.2.2.2.1, (hB.cell (p := ⟨(B + 1), 1, none⟩) (Array.getElem?_eq_some_iff.1 km).1).trans hS.2.2.2.2.1, (hB.cell (p := ⟨(B + 1), 2, none⟩) (Array.getElem?_eq_some_iff.1 km).1).trans hS.2.2.2.2.2⟩ | exact ⟨((hB.alloc hB.size _).cell (p := ⟨B, 0, none⟩) (Array.getElem?_eq_some_iff.1 kq).1).trans hS.1, ((hB.alloc hB.size _).cell (p := ⟨B, 1, none⟩) (Array.getElem?_eq_some_iff.1 kq).1).trans hS.2.1, ((hB.alloc hB.size _).cell (p := ⟨B, 2, none⟩) (Array.getElem?_eq_some_iff.1 kq).1).trans hS.2.2.1, ((hB.alloc hB.size _).cell (p := ⟨(B + 1), 0, none⟩) (Array.getElem?_eq_some_iff.1 km).1).trans hS.2.2.2.1, ((hB.alloc hB.size _).cell (p := ⟨(B + 1), 1, none⟩) (Array.getElem?_eq_some_iff.1 km).1).trans hS.2.2.2.2.1, ((hB.alloc hB.size _).cell (p := ⟨(B + 1), 2, none⟩) (Array.getElem?_eq_some_iff.1 km).1).trans hS.2.2.2.2.2⟩)
    (first | (go_at_call 14; with_reducible refine (HBAD.out _ _).mono ?_; rintro e v ⟨rfl, hbn⟩; replace hB := hB.trans (hbn.mono hB.size); clear hbn) | (go_at_call 12; with_reducible refine (HNUM.out _ _).mono ?_; rintro e v ⟨rfl, hbn⟩; replace hB := hB.trans (hbn.mono hB.size); clear hbn))
  go_wp2
  go_ret
  exact ⟨rfl, hb.trans (hB.mono hb.size)⟩
end Go.Proofs.YtpiiemneelkpkaaGreatDoor
