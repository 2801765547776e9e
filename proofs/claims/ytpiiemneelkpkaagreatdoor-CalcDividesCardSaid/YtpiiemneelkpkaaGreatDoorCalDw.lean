/- The walk of quadrillelaw14.CalcDivides: the common case. -/
import Derived.Test.YtpiiemneelkpkaaGreatDoorGcb
import Derived.Test.YtpiiemneelkpkaaGreatDoorGcp
import Derived.Test.YtpiiemneelkpkaaGreatDoorGsh
import Derived.Deep.RegionHeld3
import Derived.Deep.DeepCutAuto
import Derived.Deep.RegionWith
namespace Go.Proofs.YtpiiemneelkpkaaGreatDoor
open Go.RowKit
set_option linter.unusedVariables false
set_option linter.unusedSimpArgs false

set_option maxRecDepth 100000 in
set_option maxHeartbeats 6400000 in
theorem div_far (a b q m p r g x hi lo : Int) (X Y : Nat) (hq0 : (b == 0) = false) (e1 : IntKind.i64.wrap (q * b) = p) (e2 : IntKind.i64.wrap (a - p) = r) (hg1 : decide (g < 1) = false) (hg0 : (g == 0) = false) (hgn : ¬ g = 0) (rm1 : a.tmod g = 0) (rm2 : b.tmod g = 0) (e3 : IntKind.i64.wrap (a.tdiv g) = x) (h12 : Hid ((hi != 0) = true ∨ ((hi != 0) = false ∧ decide (9223372036854775807 < lo) = true))) (w : World) (HBEG : Hid (∀ v, Below w.heap.size w v → Calls Tryz.prog 8 #[] v fun e w' => e = .returned (.bool true) ∧ Below v.heap.size v w'))
    (HQ : Hid (∀ v, Below w.heap.size w v → Calls Tryz.prog 11 #[.int .i64 4, .slice (some ⟨v.heap.size, 0, none⟩) 2 2] (v.alloc (Obj.cells #[.int .i64 1, .int .i64 a, .string ⟨#[]⟩, .int .i64 1, .int .i64 b, .string ⟨#[]⟩] 26)) fun e w' => e = .returned (.agg #[.int .i64 1, .int .i64 q, .string ⟨#[]⟩]) ∧ Below v.heap.size v w'))
    (HM : Hid (∀ v, Below w.heap.size w v → Calls Tryz.prog 11 #[.int .i64 3, .slice (some ⟨v.heap.size, 0, none⟩) 2 2] (v.alloc (Obj.cells #[.int .i64 1, .int .i64 a, .string ⟨#[]⟩, .int .i64 1, .int .i64 b, .string ⟨#[]⟩] 26)) fun e w' => e = .returned (.agg #[.int .i64 1, .int .i64 m, .string ⟨#[]⟩]) ∧ Below v.heap.size v w'))
    (HD : Hid (∀ v, Below w.heap.size w v → Calls Tryz.prog 13 #[.int .i64 3, .agg #[.int .i64 1, .int .i64 a, .string ⟨#[]⟩], .agg #[.int .i64 1, .int .i64 b, .string ⟨#[]⟩]] v fun e w' => e = .returned (.agg #[.int .i64 1, .int .i64 q, .string ⟨#[]⟩]) ∧ Below v.heap.size v w'))
    (HG : Hid (∀ v, Below w.heap.size w v → Calls Tryz.prog 11 #[.int .i64 6, .slice (some ⟨v.heap.size, 0, none⟩) 2 2] (v.alloc (Obj.cells #[.int .i64 1, .int .i64 a, .string ⟨#[]⟩, .int .i64 1, .int .i64 b, .string ⟨#[]⟩] 26)) fun e w' => e = .returned (.agg #[.int .i64 1, .int .i64 g, .string ⟨#[]⟩]) ∧ Below v.heap.size v w'))
    (HL : Hid (∀ v, Below w.heap.size w v → Calls Tryz.prog 11 #[.int .i64 7, .slice (some ⟨v.heap.size, 0, none⟩) 2 2] (v.alloc (Obj.cells #[.int .i64 1, .int .i64 a, .string ⟨#[]⟩, .int .i64 1, .int .i64 b, .string ⟨#[]⟩] 26)) fun e w' => e = .returned (.agg #[.int .i64 4, .int .i64 2, .string ⟨#[]⟩]) ∧ Below v.heap.size v w'))
    (HX : Hid (∀ v, Calls Tryz.prog 16 #[.int .i64 x] v fun e w' => e = .returned (.int .u64 (X : Int)) ∧ Below v.heap.size v w')) (HY : Hid (∀ v, Calls Tryz.prog 16 #[.int .i64 b] v fun e w' => e = .returned (.int .u64 (Y : Int)) ∧ Below v.heap.size v w'))
    (HMUL : Hid (∀ v, Calls Tryz.prog 15 #[.int .u64 (X : Int), .int .u64 (Y : Int)] v fun e w' => e = .returned (.tuple #[.int .u64 hi, .int .u64 lo]) ∧ Below v.heap.size v w'))
    (H8 : Hid ((decide (0 < b) = true ∧ decide (m < 0) = false ∧ decide (b ≤ m) = false ∧ decide (b < 0) = false) ∨ (decide (0 < b) = false ∧ decide (b < 0) = true ∧ decide (0 < m) = false ∧ decide (m ≤ b) = false)))
    (H10 : Hid ((a == -9223372036854775808) = false ∨ ((a == -9223372036854775808) = true ∧ (b == -1) = false)))
    (H15 : Hid ((r != m) = false ∨ ((r != m) = true ∧ IntKind.i64.wrap (m - b) = r))) (H16 : Hid ((r != 0) = false ∨ ((r != 0) = true ∧ ∃ s, decide (r < 0) = s ∧ decide (a < 0) = s))) : Calls Tryz.prog 4 #[.int .i64 a, .int .i64 b] w fun e w' => e = .returned (.bool true) ∧ Below w.heap.size w w' := by
  have HNUM := Lib.hid lnum_any
  have HBAD := Lib.hid lbad_any
  have hb : Below w.heap.size w w := Below.refl _ _
  go_enter Tryz.func4, Tryz.ntmps4
  go_wp2_with (fail)
  refine (HBEG.out _ hb).mono ?_
  rintro e w1 ⟨rfl, hb1⟩
  replace hb := hb.trans (hb1.mono hb.size)
  clear hb1
  go_wp2_with (fail)
  refine (HNUM.out _ _).mono ?_
  rintro e w2 ⟨rfl, hb2⟩
  replace hb := hb.trans (hb2.mono hb.size)
  clear hb2
  go_wp2_with (fail)
  refine (HNUM.out _ _).mono ?_
  rintro e w3 ⟨rfl, hb3⟩
  replace hb := hb.trans (hb3.mono hb.size)
  clear hb3
  go_wp2_with (fail)
  refine (HQ.out _ hb).mono ?_
  rintro e w4 ⟨rfl, hb4⟩
  replace hb := hb.trans (hb4.mono hb.size)
  clear hb4
  go_wp2_with (fail)
  refine (HNUM.out _ _).mono ?_
  rintro e w5 ⟨rfl, hb5⟩
  replace hb := hb.trans (hb5.mono hb.size)
  clear hb5
  go_wp2_with (fail)
  refine (HNUM.out _ _).mono ?_
  rintro e w6 ⟨rfl, hb6⟩
  replace hb := hb.trans (hb6.mono hb.size)
  clear hb6
  go_wp2_with (fail)
  refine (HM.out _ hb).mono ?_
  rintro e w7 ⟨rfl, hb7⟩
  replace hb := hb.trans (hb7.mono hb.size)
  clear hb7
  go_wp2_with (fail)
  refine (HNUM.out _ _).mono ?_
  rintro e w8 ⟨rfl, hb8⟩
  replace hb := hb.trans (hb8.mono hb.size)
  clear hb8
  go_wp2_with (fail)
  refine (HNUM.out _ _).mono ?_
  rintro e w9 ⟨rfl, hb9⟩
  replace hb := hb.trans (hb9.mono hb.size)
  clear hb9
  go_wp2_with (fail)
  refine (HD.out _ hb).mono ?_
  rintro e w10 ⟨rfl, hb10⟩
  replace hb := hb.trans (hb10.mono hb.size)
  clear hb10
  go_upto_region 4 with (fail)
  have kq : (((w10.alloc (Obj.cells #[.int .i64 1, .int .i64 q, .string ⟨#[]⟩] 26)).alloc (Obj.cells #[.int .i64 1, .int .i64 m, .string ⟨#[]⟩] 26)).alloc (Obj.cells #[.int .i64 1, .int .i64 q, .string ⟨#[]⟩] 26)).heap[w10.heap.size]? = some (.cells #[.int .i64 1, .int .i64 q, .string ⟨#[]⟩] 26 (0, 0)) := (heap_alloc_old _ _ (by simp; omega)).trans ((heap_alloc_old _ _ (by simp)).trans (heap_alloc_new _ _))
  have km : (((w10.alloc (Obj.cells #[.int .i64 1, .int .i64 q, .string ⟨#[]⟩] 26)).alloc (Obj.cells #[.int .i64 1, .int .i64 m, .string ⟨#[]⟩] 26)).alloc (Obj.cells #[.int .i64 1, .int .i64 q, .string ⟨#[]⟩] 26)).heap[w10.heap.size + 1]? = some (.cells #[.int .i64 1, .int .i64 m, .string ⟨#[]⟩] 26 (0, 0)) := (heap_alloc_old _ _ (by simp)).trans (by rw [show w10.heap.size + 1 = (w10.alloc (Obj.cells #[.int .i64 1, .int .i64 q, .string ⟨#[]⟩] 26)).heap.size by simp]; exact heap_alloc_new _ _)
  have kd : (((w10.alloc (Obj.cells #[.int .i64 1, .int .i64 q, .string ⟨#[]⟩] 26)).alloc (Obj.cells #[.int .i64 1, .int .i64 m, .string ⟨#[]⟩] 26)).alloc (Obj.cells #[.int .i64 1, .int .i64 q, .string ⟨#[]⟩] 26)).heap[w10.heap.size + 1 + 1]? = some (.cells #[.int .i64 1, .int .i64 q, .string ⟨#[]⟩] 26 (0, 0)) := by rw [show w10.heap.size + 1 + 1 = ((w10.alloc (Obj.cells #[.int .i64 1, .int .i64 q, .string ⟨#[]⟩] 26)).alloc (Obj.cells #[.int .i64 1, .int .i64 m, .string ⟨#[]⟩] 26)).heap.size by simp]; exact heap_alloc_new _ _
  replace hb : Below w.heap.size w (((w10.alloc (Obj.cells #[.int .i64 1, .int .i64 q, .string ⟨#[]⟩] 26)).alloc (Obj.cells #[.int .i64 1, .int .i64 m, .string ⟨#[]⟩] 26)).alloc (Obj.cells #[.int .i64 1, .int .i64 q, .string ⟨#[]⟩] 26)) := ((hb.alloc hb.size _).alloc (by have := hb.size; simp; omega) _).alloc (by have := hb.size; simp; omega) _
  generalize (((w10.alloc (Obj.cells #[.int .i64 1, .int .i64 q, .string ⟨#[]⟩] 26)).alloc (Obj.cells #[.int .i64 1, .int .i64 m, .string ⟨#[]⟩] 26)).alloc (Obj.cells #[.int .i64 1, .int .i64 q, .string ⟨#[]⟩] 26)) = W0 at *
  generalize w10.heap.size = B at *
  obtain ⟨q0, q1, q2⟩ := val_cells kq
  obtain ⟨m0, m1, m2⟩ := val_cells km
  obtain ⟨d0, d1, d2⟩ := val_cells kd
  go_upto_region 8 with (fail)
  go_cut [87] (fun s wx => s = .bool false ∧ W0 = wx)
  case first =>
    rcases H8.out with ⟨t1, t2, t3, t4⟩ | ⟨t1, t2, t3, t4⟩
    all_goals
      go_wp2_with (fail)
      go_meet
      exact ⟨rfl, rfl⟩
  case rest =>
  obtain ⟨rfl, rfl⟩ := hcut
  go_upto_region 10 with (fail)
  go_cut [93] (fun s wx => s = .bool false ∧ W0 = wx)
  case first =>
    rcases H10.out with t1 | ⟨t1, t2⟩
    all_goals
      go_wp2_with (fail)
      go_meet
      exact ⟨rfl, rfl⟩
  case rest =>
  obtain ⟨rfl, rfl⟩ := hcut
  go_upto_region 15 with (fail)
  go_cut [133] (fun s wx => s = .bool false ∧ W0 = wx)
  case first =>
    rcases H15.out with t1 | ⟨t1, t2⟩ <;> rcases H16.out with t3 | ⟨t3, z, t4, t5⟩
    all_goals
      go_wp2_with (fail)
      go_meet
      exact ⟨rfl, rfl⟩
  case rest =>
  obtain ⟨rfl, rfl⟩ := hcut
  go_wp2_with (fail)
  refine (HNUM.out _ _).mono ?_
  rintro e w11 ⟨rfl, hb11⟩
  replace kq := (hb11.block _ (Array.getElem?_eq_some_iff.1 kq).1).trans kq
  replace km := (hb11.block _ (Array.getElem?_eq_some_iff.1 km).1).trans km
  replace kd := (hb11.block _ (Array.getElem?_eq_some_iff.1 kd).1).trans kd
  replace hb := hb.trans (hb11.mono hb.size)
  clear hb11
  go_wp2_with (fail)
  refine (HNUM.out _ _).mono ?_
  rintro e w12 ⟨rfl, hb12⟩
  replace kq := (hb12.block _ (Array.getElem?_eq_some_iff.1 kq).1).trans kq
  replace km := (hb12.block _ (Array.getElem?_eq_some_iff.1 km).1).trans km
  replace kd := (hb12.block _ (Array.getElem?_eq_some_iff.1 kd).1).trans kd
  replace hb := hb.trans (hb12.mono hb.size)
  clear hb12
  go_wp2_with (fail)
  refine (HG.out _ hb).mono ?_
  rintro e w13 ⟨rfl, hb13⟩
  replace kq := (hb13.block _ (Array.getElem?_eq_some_iff.1 kq).1).trans kq
  replace km := (hb13.block _ (Array.getElem?_eq_some_iff.1 km).1).trans km
  replace kd := (hb13.block _ (Array.getElem?_eq_some_iff.1 kd).1).trans kd
  replace hb := hb.trans (hb13.mono hb.size)
  clear hb13
  go_upto_region 18 with (fail)
  have kg : (w13.alloc (Obj.cells #[.int .i64 1, .int .i64 g, .string ⟨#[]⟩] 26)).heap[w13.heap.size]? = some (.cells #[.int .i64 1, .int .i64 g, .string ⟨#[]⟩] 26 (0, 0)) := heap_alloc_new _ _
  replace kq := (heap_alloc_old _ (Obj.cells #[.int .i64 1, .int .i64 g, .string ⟨#[]⟩] 26) (Array.getElem?_eq_some_iff.1 kq).1).trans kq
  replace km := (heap_alloc_old _ (Obj.cells #[.int .i64 1, .int .i64 g, .string ⟨#[]⟩] 26) (Array.getElem?_eq_some_iff.1 km).1).trans km
  replace kd := (heap_alloc_old _ (Obj.cells #[.int .i64 1, .int .i64 g, .string ⟨#[]⟩] 26) (Array.getElem?_eq_some_iff.1 kd).1).trans kd
  replace hb := hb.alloc hb.size (Obj.cells #[.int .i64 1, .int .i64 g, .string ⟨#[]⟩] 26)
  generalize (w13.alloc (Obj.cells #[.int .i64 1, .int .i64 g, .string ⟨#[]⟩] 26)) = Wkg at *
  generalize w13.heap.size = Bkg at *
  obtain ⟨g0, g1, g2⟩ := val_cells kg
  go_wp2_with (fail)
  refine (HNUM.out _ _).mono ?_
  rintro e w14 ⟨rfl, hb14⟩
  replace kq := (hb14.block _ (Array.getElem?_eq_some_iff.1 kq).1).trans kq
  replace km := (hb14.block _ (Array.getElem?_eq_some_iff.1 km).1).trans km
  replace kd := (hb14.block _ (Array.getElem?_eq_some_iff.1 kd).1).trans kd
  replace kg := (hb14.block _ (Array.getElem?_eq_some_iff.1 kg).1).trans kg
  replace hb := hb.trans (hb14.mono hb.size)
  clear hb14
  go_wp2_with (fail)
  refine (HNUM.out _ _).mono ?_
  rintro e w15 ⟨rfl, hb15⟩
  replace kq := (hb15.block _ (Array.getElem?_eq_some_iff.1 kq).1).trans kq
  replace km := (hb15.block _ (Array.getElem?_eq_some_iff.1 km).1).trans km
  replace kd := (hb15.block _ (Array.getElem?_eq_some_iff.1 kd).1).trans kd
  replace kg := (hb15.block _ (Array.getElem?_eq_some_iff.1 kg).1).trans kg
  replace hb := hb.trans (hb15.mono hb.size)
  clear hb15
  go_wp2_with (fail)
  refine (HL.out _ hb).mono ?_
  rintro e w16 ⟨rfl, hb16⟩
  replace kq := (hb16.block _ (Array.getElem?_eq_some_iff.1 kq).1).trans kq
  replace km := (hb16.block _ (Array.getElem?_eq_some_iff.1 km).1).trans km
  replace kd := (hb16.block _ (Array.getElem?_eq_some_iff.1 kd).1).trans kd
  replace kg := (hb16.block _ (Array.getElem?_eq_some_iff.1 kg).1).trans kg
  replace hb := hb.trans (hb16.mono hb.size)
  clear hb16
  clear g0 g1 g2
  obtain ⟨g0, g1, g2⟩ := val_cells kg
  go_upto_region 23 with (fail)
  have kl : (w16.alloc (Obj.cells #[.int .i64 4, .int .i64 2, .string ⟨#[]⟩] 26)).heap[w16.heap.size]? = some (.cells #[.int .i64 4, .int .i64 2, .string ⟨#[]⟩] 26 (0, 0)) := heap_alloc_new _ _
  replace kq := (heap_alloc_old _ (Obj.cells #[.int .i64 4, .int .i64 2, .string ⟨#[]⟩] 26) (Array.getElem?_eq_some_iff.1 kq).1).trans kq
  replace km := (heap_alloc_old _ (Obj.cells #[.int .i64 4, .int .i64 2, .string ⟨#[]⟩] 26) (Array.getElem?_eq_some_iff.1 km).1).trans km
  replace kd := (heap_alloc_old _ (Obj.cells #[.int .i64 4, .int .i64 2, .string ⟨#[]⟩] 26) (Array.getElem?_eq_some_iff.1 kd).1).trans kd
  replace kg := (heap_alloc_old _ (Obj.cells #[.int .i64 4, .int .i64 2, .string ⟨#[]⟩] 26) (Array.getElem?_eq_some_iff.1 kg).1).trans kg
  replace hb := hb.alloc hb.size (Obj.cells #[.int .i64 4, .int .i64 2, .string ⟨#[]⟩] 26)
  generalize (w16.alloc (Obj.cells #[.int .i64 4, .int .i64 2, .string ⟨#[]⟩] 26)) = Wkl at *
  generalize w16.heap.size = Bkl at *
  clear g0 g1 g2
  obtain ⟨g0, g1, g2⟩ := val_cells kg
  go_wp2_with (fail)
  refine (HX.out _).mono ?_
  rintro e w17 ⟨rfl, hb17⟩
  replace kq := (hb17.block _ (Array.getElem?_eq_some_iff.1 kq).1).trans kq
  replace km := (hb17.block _ (Array.getElem?_eq_some_iff.1 km).1).trans km
  replace kd := (hb17.block _ (Array.getElem?_eq_some_iff.1 kd).1).trans kd
  replace kg := (hb17.block _ (Array.getElem?_eq_some_iff.1 kg).1).trans kg
  replace kl := (hb17.block _ (Array.getElem?_eq_some_iff.1 kl).1).trans kl
  replace hb := hb.trans (hb17.mono hb.size)
  clear hb17
  go_wp2_with (fail)
  refine (HY.out _).mono ?_
  rintro e w18 ⟨rfl, hb18⟩
  replace kq := (hb18.block _ (Array.getElem?_eq_some_iff.1 kq).1).trans kq
  replace km := (hb18.block _ (Array.getElem?_eq_some_iff.1 km).1).trans km
  replace kd := (hb18.block _ (Array.getElem?_eq_some_iff.1 kd).1).trans kd
  replace kg := (hb18.block _ (Array.getElem?_eq_some_iff.1 kg).1).trans kg
  replace kl := (hb18.block _ (Array.getElem?_eq_some_iff.1 kl).1).trans kl
  replace hb := hb.trans (hb18.mono hb.size)
  clear hb18
  go_wp2_with (fail)
  refine (HMUL.out _).mono ?_
  rintro e w19 ⟨rfl, hb19⟩
  replace kq := (hb19.block _ (Array.getElem?_eq_some_iff.1 kq).1).trans kq
  replace km := (hb19.block _ (Array.getElem?_eq_some_iff.1 km).1).trans km
  replace kd := (hb19.block _ (Array.getElem?_eq_some_iff.1 kd).1).trans kd
  replace kg := (hb19.block _ (Array.getElem?_eq_some_iff.1 kg).1).trans kg
  replace kl := (hb19.block _ (Array.getElem?_eq_some_iff.1 kl).1).trans kl
  replace hb := hb.trans (hb19.mono hb.size)
  clear hb19
  go_upto_region 24 with (fail)
  go_cut [197] (fun s wx => s = .bool true ∧ w19 = wx)
  case first =>
    rcases h12.out with t1 | ⟨t1, t2⟩
    all_goals
      go_wp2_with (fail)
      go_meet
      exact ⟨rfl, rfl⟩
  case rest =>
  obtain ⟨rfl, rfl⟩ := hcut
  go_upto_region 25 with (fail)
  clear g0 g1 g2
  obtain ⟨s00, s01, s02⟩ := val_cells kl
  have hS : w19.cell? ⟨Bkl, 0, none⟩ = some (.int .i64 4) ∧ w19.cell? ⟨Bkl, 1, none⟩ = some (.int .i64 2) ∧ w19.cell? ⟨Bkl, 2, none⟩ = some (.string ⟨#[]⟩) := ⟨s00, s01, s02⟩
  clear s00 s01 s02
  have hB : Below w19.heap.size w19 w19.drew := (Below.refl _ _).drew
  go_region_held3 (fun w' => w'.cell? ⟨Bkl, 0, none⟩ = some (.int .i64 4) ∧ w'.cell? ⟨Bkl, 1, none⟩ = some (.int .i64 2) ∧ w'.cell? ⟨Bkl, 2, none⟩ = some (.string ⟨#[]⟩))
    (first | go_keep | exact ⟨(hB.cell (p := ⟨Bkl, 0, none⟩) (Array.getElem?_eq_some_iff.1 kl).1).trans hS.1, (hB.cell (p := ⟨Bkl, 1, none⟩) (Array.getElem?_eq_some_iff.1 kl).1).trans hS.2.1, (hB.cell (p := ⟨Bkl, 2, none⟩) (Array.getElem?_eq_some_iff.1 kl).1).trans hS.2.2⟩ | exact ⟨((hB.alloc hB.size _).cell (p := ⟨Bkl, 0, none⟩) (Array.getElem?_eq_some_iff.1 kl).1).trans hS.1, ((hB.alloc hB.size _).cell (p := ⟨Bkl, 1, none⟩) (Array.getElem?_eq_some_iff.1 kl).1).trans hS.2.1, ((hB.alloc hB.size _).cell (p := ⟨Bkl, 2, none⟩) (Array.getElem?_eq_some_iff.1 kl).1).trans hS.2.2⟩)
    (first | (go_at_call 14; with_reducible refine (HBAD.out _ _).mono ?_; rintro e v ⟨rfl, hbn⟩; replace hB := hB.trans (hbn.mono hB.size); clear hbn))
  go_wp2
  go_ret
  exact ⟨rfl, hb.trans (hB.mono hb.size)⟩

set_option maxRecDepth 100000 in
set_option maxHeartbeats 6400000 in
theorem div_near (a b q m p r g x hi lo : Int) (X Y : Nat) (hq0 : (b == 0) = false) (e1 : IntKind.i64.wrap (q * b) = p) (e2 : IntKind.i64.wrap (a - p) = r) (hg1 : decide (g < 1) = false) (hg0 : (g == 0) = false) (hgn : ¬ g = 0) (rm1 : a.tmod g = 0) (rm2 : b.tmod g = 0) (e3 : IntKind.i64.wrap (a.tdiv g) = x) (h1 : (hi != 0) = false) (h2 : decide (9223372036854775807 < lo) = false) (e4 : IntKind.i64.wrap lo = lo) (w : World) (HBEG : Hid (∀ v, Below w.heap.size w v → Calls Tryz.prog 8 #[] v fun e w' => e = .returned (.bool true) ∧ Below v.heap.size v w'))
    (HQ : Hid (∀ v, Below w.heap.size w v → Calls Tryz.prog 11 #[.int .i64 4, .slice (some ⟨v.heap.size, 0, none⟩) 2 2] (v.alloc (Obj.cells #[.int .i64 1, .int .i64 a, .string ⟨#[]⟩, .int .i64 1, .int .i64 b, .string ⟨#[]⟩] 26)) fun e w' => e = .returned (.agg #[.int .i64 1, .int .i64 q, .string ⟨#[]⟩]) ∧ Below v.heap.size v w'))
    (HM : Hid (∀ v, Below w.heap.size w v → Calls Tryz.prog 11 #[.int .i64 3, .slice (some ⟨v.heap.size, 0, none⟩) 2 2] (v.alloc (Obj.cells #[.int .i64 1, .int .i64 a, .string ⟨#[]⟩, .int .i64 1, .int .i64 b, .string ⟨#[]⟩] 26)) fun e w' => e = .returned (.agg #[.int .i64 1, .int .i64 m, .string ⟨#[]⟩]) ∧ Below v.heap.size v w'))
    (HD : Hid (∀ v, Below w.heap.size w v → Calls Tryz.prog 13 #[.int .i64 3, .agg #[.int .i64 1, .int .i64 a, .string ⟨#[]⟩], .agg #[.int .i64 1, .int .i64 b, .string ⟨#[]⟩]] v fun e w' => e = .returned (.agg #[.int .i64 1, .int .i64 q, .string ⟨#[]⟩]) ∧ Below v.heap.size v w'))
    (HG : Hid (∀ v, Below w.heap.size w v → Calls Tryz.prog 11 #[.int .i64 6, .slice (some ⟨v.heap.size, 0, none⟩) 2 2] (v.alloc (Obj.cells #[.int .i64 1, .int .i64 a, .string ⟨#[]⟩, .int .i64 1, .int .i64 b, .string ⟨#[]⟩] 26)) fun e w' => e = .returned (.agg #[.int .i64 1, .int .i64 g, .string ⟨#[]⟩]) ∧ Below v.heap.size v w'))
    (HL : Hid (∀ v, Below w.heap.size w v → Calls Tryz.prog 11 #[.int .i64 7, .slice (some ⟨v.heap.size, 0, none⟩) 2 2] (v.alloc (Obj.cells #[.int .i64 1, .int .i64 a, .string ⟨#[]⟩, .int .i64 1, .int .i64 b, .string ⟨#[]⟩] 26)) fun e w' => e = .returned (.agg #[.int .i64 1, .int .i64 lo, .string ⟨#[]⟩]) ∧ Below v.heap.size v w'))
    (HX : Hid (∀ v, Calls Tryz.prog 16 #[.int .i64 x] v fun e w' => e = .returned (.int .u64 (X : Int)) ∧ Below v.heap.size v w')) (HY : Hid (∀ v, Calls Tryz.prog 16 #[.int .i64 b] v fun e w' => e = .returned (.int .u64 (Y : Int)) ∧ Below v.heap.size v w'))
    (HMUL : Hid (∀ v, Calls Tryz.prog 15 #[.int .u64 (X : Int), .int .u64 (Y : Int)] v fun e w' => e = .returned (.tuple #[.int .u64 hi, .int .u64 lo]) ∧ Below v.heap.size v w'))
    (H8 : Hid ((decide (0 < b) = true ∧ decide (m < 0) = false ∧ decide (b ≤ m) = false ∧ decide (b < 0) = false) ∨ (decide (0 < b) = false ∧ decide (b < 0) = true ∧ decide (0 < m) = false ∧ decide (m ≤ b) = false)))
    (H10 : Hid ((a == -9223372036854775808) = false ∨ ((a == -9223372036854775808) = true ∧ (b == -1) = false)))
    (H15 : Hid ((r != m) = false ∨ ((r != m) = true ∧ IntKind.i64.wrap (m - b) = r))) (H16 : Hid ((r != 0) = false ∨ ((r != 0) = true ∧ ∃ s, decide (r < 0) = s ∧ decide (a < 0) = s))) : Calls Tryz.prog 4 #[.int .i64 a, .int .i64 b] w fun e w' => e = .returned (.bool true) ∧ Below w.heap.size w w' := by
  have HNUM := Lib.hid lnum_any
  have HBAD := Lib.hid lbad_any
  have hb : Below w.heap.size w w := Below.refl _ _
  go_enter Tryz.func4, Tryz.ntmps4
  go_wp2_with (fail)
  refine (HBEG.out _ hb).mono ?_
  rintro e w1 ⟨rfl, hb1⟩
  replace hb := hb.trans (hb1.mono hb.size)
  clear hb1
  go_wp2_with (fail)
  refine (HNUM.out _ _).mono ?_
  rintro e w2 ⟨rfl, hb2⟩
  replace hb := hb.trans (hb2.mono hb.size)
  clear hb2
  go_wp2_with (fail)
  refine (HNUM.out _ _).mono ?_
  rintro e w3 ⟨rfl, hb3⟩
  replace hb := hb.trans (hb3.mono hb.size)
  clear hb3
  go_wp2_with (fail)
  refine (HQ.out _ hb).mono ?_
  rintro e w4 ⟨rfl, hb4⟩
  replace hb := hb.trans (hb4.mono hb.size)
  clear hb4
  go_wp2_with (fail)
  refine (HNUM.out _ _).mono ?_
  rintro e w5 ⟨rfl, hb5⟩
  replace hb := hb.trans (hb5.mono hb.size)
  clear hb5
  go_wp2_with (fail)
  refine (HNUM.out _ _).mono ?_
  rintro e w6 ⟨rfl, hb6⟩
  replace hb := hb.trans (hb6.mono hb.size)
  clear hb6
  go_wp2_with (fail)
  refine (HM.out _ hb).mono ?_
  rintro e w7 ⟨rfl, hb7⟩
  replace hb := hb.trans (hb7.mono hb.size)
  clear hb7
  go_wp2_with (fail)
  refine (HNUM.out _ _).mono ?_
  rintro e w8 ⟨rfl, hb8⟩
  replace hb := hb.trans (hb8.mono hb.size)
  clear hb8
  go_wp2_with (fail)
  refine (HNUM.out _ _).mono ?_
  rintro e w9 ⟨rfl, hb9⟩
  replace hb := hb.trans (hb9.mono hb.size)
  clear hb9
  go_wp2_with (fail)
  refine (HD.out _ hb).mono ?_
  rintro e w10 ⟨rfl, hb10⟩
  replace hb := hb.trans (hb10.mono hb.size)
  clear hb10
  go_upto_region 4 with (fail)
  have kq : (((w10.alloc (Obj.cells #[.int .i64 1, .int .i64 q, .string ⟨#[]⟩] 26)).alloc (Obj.cells #[.int .i64 1, .int .i64 m, .string ⟨#[]⟩] 26)).alloc (Obj.cells #[.int .i64 1, .int .i64 q, .string ⟨#[]⟩] 26)).heap[w10.heap.size]? = some (.cells #[.int .i64 1, .int .i64 q, .string ⟨#[]⟩] 26 (0, 0)) := (heap_alloc_old _ _ (by simp; omega)).trans ((heap_alloc_old _ _ (by simp)).trans (heap_alloc_new _ _))
  have km : (((w10.alloc (Obj.cells #[.int .i64 1, .int .i64 q, .string ⟨#[]⟩] 26)).alloc (Obj.cells #[.int .i64 1, .int .i64 m, .string ⟨#[]⟩] 26)).alloc (Obj.cells #[.int .i64 1, .int .i64 q, .string ⟨#[]⟩] 26)).heap[w10.heap.size + 1]? = some (.cells #[.int .i64 1, .int .i64 m, .string ⟨#[]⟩] 26 (0, 0)) := (heap_alloc_old _ _ (by simp)).trans (by rw [show w10.heap.size + 1 = (w10.alloc (Obj.cells #[.int .i64 1, .int .i64 q, .string ⟨#[]⟩] 26)).heap.size by simp]; exact heap_alloc_new _ _)
  have kd : (((w10.alloc (Obj.cells #[.int .i64 1, .int .i64 q, .string ⟨#[]⟩] 26)).alloc (Obj.cells #[.int .i64 1, .int .i64 m, .string ⟨#[]⟩] 26)).alloc (Obj.cells #[.int .i64 1, .int .i64 q, .string ⟨#[]⟩] 26)).heap[w10.heap.size + 1 + 1]? = some (.cells #[.int .i64 1, .int .i64 q, .string ⟨#[]⟩] 26 (0, 0)) := by rw [show w10.heap.size + 1 + 1 = ((w10.alloc (Obj.cells #[.int .i64 1, .int .i64 q, .string ⟨#[]⟩] 26)).alloc (Obj.cells #[.int .i64 1, .int .i64 m, .string ⟨#[]⟩] 26)).heap.size by simp]; exact heap_alloc_new _ _
  replace hb : Below w.heap.size w (((w10.alloc (Obj.cells #[.int .i64 1, .int .i64 q, .string ⟨#[]⟩] 26)).alloc (Obj.cells #[.int .i64 1, .int .i64 m, .string ⟨#[]⟩] 26)).alloc (Obj.cells #[.int .i64 1, .int .i64 q, .string ⟨#[]⟩] 26)) := ((hb.alloc hb.size _).alloc (by have := hb.size; simp; omega) _).alloc (by have := hb.size; simp; omega) _
  generalize (((w10.alloc (Obj.cells #[.int .i64 1, .int .i64 q, .string ⟨#[]⟩] 26)).alloc (Obj.cells #[.int .i64 1, .int .i64 m, .string ⟨#[]⟩] 26)).alloc (Obj.cells #[.int .i64 1, .int .i64 q, .string ⟨#[]⟩] 26)) = W0 at *
  generalize w10.heap.size = B at *
  obtain ⟨q0, q1, q2⟩ := val_cells kq
  obtain ⟨m0, m1, m2⟩ := val_cells km
  obtain ⟨d0, d1, d2⟩ := val_cells kd
  go_upto_region 8 with (fail)
  go_cut [87] (fun s wx => s = .bool false ∧ W0 = wx)
  case first =>
    rcases H8.out with ⟨t1, t2, t3, t4⟩ | ⟨t1, t2, t3, t4⟩
    all_goals
      go_wp2_with (fail)
      go_meet
      exact ⟨rfl, rfl⟩
  case rest =>
  obtain ⟨rfl, rfl⟩ := hcut
  go_upto_region 10 with (fail)
  go_cut [93] (fun s wx => s = .bool false ∧ W0 = wx)
  case first =>
    rcases H10.out with t1 | ⟨t1, t2⟩
    all_goals
      go_wp2_with (fail)
      go_meet
      exact ⟨rfl, rfl⟩
  case rest =>
  obtain ⟨rfl, rfl⟩ := hcut
  go_upto_region 15 with (fail)
  go_cut [133] (fun s wx => s = .bool false ∧ W0 = wx)
  case first =>
    rcases H15.out with t1 | ⟨t1, t2⟩ <;> rcases H16.out with t3 | ⟨t3, z, t4, t5⟩
    all_goals
      go_wp2_with (fail)
      go_meet
      exact ⟨rfl, rfl⟩
  case rest =>
  obtain ⟨rfl, rfl⟩ := hcut
  go_wp2_with (fail)
  refine (HNUM.out _ _).mono ?_
  rintro e w11 ⟨rfl, hb11⟩
  replace kq := (hb11.block _ (Array.getElem?_eq_some_iff.1 kq).1).trans kq
  replace km := (hb11.block _ (Array.getElem?_eq_some_iff.1 km).1).trans km
  replace kd := (hb11.block _ (Array.getElem?_eq_some_iff.1 kd).1).trans kd
  replace hb := hb.trans (hb11.mono hb.size)
  clear hb11
  go_wp2_with (fail)
  refine (HNUM.out _ _).mono ?_
  rintro e w12 ⟨rfl, hb12⟩
  replace kq := (hb12.block _ (Array.getElem?_eq_some_iff.1 kq).1).trans kq
  replace km := (hb12.block _ (Array.getElem?_eq_some_iff.1 km).1).trans km
  replace kd := (hb12.block _ (Array.getElem?_eq_some_iff.1 kd).1).trans kd
  replace hb := hb.trans (hb12.mono hb.size)
  clear hb12
  go_wp2_with (fail)
  refine (HG.out _ hb).mono ?_
  rintro e w13 ⟨rfl, hb13⟩
  replace kq := (hb13.block _ (Array.getElem?_eq_some_iff.1 kq).1).trans kq
  replace km := (hb13.block _ (Array.getElem?_eq_some_iff.1 km).1).trans km
  replace kd := (hb13.block _ (Array.getElem?_eq_some_iff.1 kd).1).trans kd
  replace hb := hb.trans (hb13.mono hb.size)
  clear hb13
  go_upto_region 18 with (fail)
  have kg : (w13.alloc (Obj.cells #[.int .i64 1, .int .i64 g, .string ⟨#[]⟩] 26)).heap[w13.heap.size]? = some (.cells #[.int .i64 1, .int .i64 g, .string ⟨#[]⟩] 26 (0, 0)) := heap_alloc_new _ _
  replace kq := (heap_alloc_old _ (Obj.cells #[.int .i64 1, .int .i64 g, .string ⟨#[]⟩] 26) (Array.getElem?_eq_some_iff.1 kq).1).trans kq
  replace km := (heap_alloc_old _ (Obj.cells #[.int .i64 1, .int .i64 g, .string ⟨#[]⟩] 26) (Array.getElem?_eq_some_iff.1 km).1).trans km
  replace kd := (heap_alloc_old _ (Obj.cells #[.int .i64 1, .int .i64 g, .string ⟨#[]⟩] 26) (Array.getElem?_eq_some_iff.1 kd).1).trans kd
  replace hb := hb.alloc hb.size (Obj.cells #[.int .i64 1, .int .i64 g, .string ⟨#[]⟩] 26)
  generalize (w13.alloc (Obj.cells #[.int .i64 1, .int .i64 g, .string ⟨#[]⟩] 26)) = Wkg at *
  generalize w13.heap.size = Bkg at *
  obtain ⟨g0, g1, g2⟩ := val_cells kg
  go_wp2_with (fail)
  refine (HNUM.out _ _).mono ?_
  rintro e w14 ⟨rfl, hb14⟩
  replace kq := (hb14.block _ (Array.getElem?_eq_some_iff.1 kq).1).trans kq
  replace km := (hb14.block _ (Array.getElem?_eq_some_iff.1 km).1).trans km
  replace kd := (hb14.block _ (Array.getElem?_eq_some_iff.1 kd).1).trans kd
  replace kg := (hb14.block _ (Array.getElem?_eq_some_iff.1 kg).1).trans kg
  replace hb := hb.trans (hb14.mono hb.size)
  clear hb14
  go_wp2_with (fail)
  refine (HNUM.out _ _).mono ?_
  rintro e w15 ⟨rfl, hb15⟩
  replace kq := (hb15.block _ (Array.getElem?_eq_some_iff.1 kq).1).trans kq
  replace km := (hb15.block _ (Array.getElem?_eq_some_iff.1 km).1).trans km
  replace kd := (hb15.block _ (Array.getElem?_eq_some_iff.1 kd).1).trans kd
  replace kg := (hb15.block _ (Array.getElem?_eq_some_iff.1 kg).1).trans kg
  replace hb := hb.trans (hb15.mono hb.size)
  clear hb15
  go_wp2_with (fail)
  refine (HL.out _ hb).mono ?_
  rintro e w16 ⟨rfl, hb16⟩
  replace kq := (hb16.block _ (Array.getElem?_eq_some_iff.1 kq).1).trans kq
  replace km := (hb16.block _ (Array.getElem?_eq_some_iff.1 km).1).trans km
  replace kd := (hb16.block _ (Array.getElem?_eq_some_iff.1 kd).1).trans kd
  replace kg := (hb16.block _ (Array.getElem?_eq_some_iff.1 kg).1).trans kg
  replace hb := hb.trans (hb16.mono hb.size)
  clear hb16
  clear g0 g1 g2
  obtain ⟨g0, g1, g2⟩ := val_cells kg
  go_upto_region 23 with (fail)
  have kl : (w16.alloc (Obj.cells #[.int .i64 1, .int .i64 lo, .string ⟨#[]⟩] 26)).heap[w16.heap.size]? = some (.cells #[.int .i64 1, .int .i64 lo, .string ⟨#[]⟩] 26 (0, 0)) := heap_alloc_new _ _
  replace kq := (heap_alloc_old _ (Obj.cells #[.int .i64 1, .int .i64 lo, .string ⟨#[]⟩] 26) (Array.getElem?_eq_some_iff.1 kq).1).trans kq
  replace km := (heap_alloc_old _ (Obj.cells #[.int .i64 1, .int .i64 lo, .string ⟨#[]⟩] 26) (Array.getElem?_eq_some_iff.1 km).1).trans km
  replace kd := (heap_alloc_old _ (Obj.cells #[.int .i64 1, .int .i64 lo, .string ⟨#[]⟩] 26) (Array.getElem?_eq_some_iff.1 kd).1).trans kd
  replace kg := (heap_alloc_old _ (Obj.cells #[.int .i64 1, .int .i64 lo, .string ⟨#[]⟩] 26) (Array.getElem?_eq_some_iff.1 kg).1).trans kg
  replace hb := hb.alloc hb.size (Obj.cells #[.int .i64 1, .int .i64 lo, .string ⟨#[]⟩] 26)
  generalize (w16.alloc (Obj.cells #[.int .i64 1, .int .i64 lo, .string ⟨#[]⟩] 26)) = Wkl at *
  generalize w16.heap.size = Bkl at *
  clear g0 g1 g2
  obtain ⟨g0, g1, g2⟩ := val_cells kg
  go_wp2_with (fail)
  refine (HX.out _).mono ?_
  rintro e w17 ⟨rfl, hb17⟩
  replace kq := (hb17.block _ (Array.getElem?_eq_some_iff.1 kq).1).trans kq
  replace km := (hb17.block _ (Array.getElem?_eq_some_iff.1 km).1).trans km
  replace kd := (hb17.block _ (Array.getElem?_eq_some_iff.1 kd).1).trans kd
  replace kg := (hb17.block _ (Array.getElem?_eq_some_iff.1 kg).1).trans kg
  replace kl := (hb17.block _ (Array.getElem?_eq_some_iff.1 kl).1).trans kl
  replace hb := hb.trans (hb17.mono hb.size)
  clear hb17
  go_wp2_with (fail)
  refine (HY.out _).mono ?_
  rintro e w18 ⟨rfl, hb18⟩
  replace kq := (hb18.block _ (Array.getElem?_eq_some_iff.1 kq).1).trans kq
  replace km := (hb18.block _ (Array.getElem?_eq_some_iff.1 km).1).trans km
  replace kd := (hb18.block _ (Array.getElem?_eq_some_iff.1 kd).1).trans kd
  replace kg := (hb18.block _ (Array.getElem?_eq_some_iff.1 kg).1).trans kg
  replace kl := (hb18.block _ (Array.getElem?_eq_some_iff.1 kl).1).trans kl
  replace hb := hb.trans (hb18.mono hb.size)
  clear hb18
  go_wp2_with (fail)
  refine (HMUL.out _).mono ?_
  rintro e w19 ⟨rfl, hb19⟩
  replace kq := (hb19.block _ (Array.getElem?_eq_some_iff.1 kq).1).trans kq
  replace km := (hb19.block _ (Array.getElem?_eq_some_iff.1 km).1).trans km
  replace kd := (hb19.block _ (Array.getElem?_eq_some_iff.1 kd).1).trans kd
  replace kg := (hb19.block _ (Array.getElem?_eq_some_iff.1 kg).1).trans kg
  replace kl := (hb19.block _ (Array.getElem?_eq_some_iff.1 kl).1).trans kl
  replace hb := hb.trans (hb19.mono hb.size)
  clear hb19
  go_upto_region 26 with (fail)
  clear g0 g1 g2
  obtain ⟨s00, s01, s02⟩ := val_cells kl
  have hS : w19.cell? ⟨Bkl, 0, none⟩ = some (.int .i64 1) ∧ w19.cell? ⟨Bkl, 1, none⟩ = some (.int .i64 lo) ∧ w19.cell? ⟨Bkl, 2, none⟩ = some (.string ⟨#[]⟩) := ⟨s00, s01, s02⟩
  clear s00 s01 s02
  have hB : Below w19.heap.size w19 w19.drew := (Below.refl _ _).drew
  go_region_held3 (fun w' => w'.cell? ⟨Bkl, 0, none⟩ = some (.int .i64 1) ∧ w'.cell? ⟨Bkl, 1, none⟩ = some (.int .i64 lo) ∧ w'.cell? ⟨Bkl, 2, none⟩ = some (.string ⟨#[]⟩))
    (first | go_keep | exact ⟨(hB.cell (p := ⟨Bkl, 0, none⟩) (Array.getElem?_eq_some_iff.1 kl).1).trans hS.1, (hB.cell (p := ⟨Bkl, 1, none⟩) (Array.getElem?_eq_some_iff.1 kl).1).trans hS.2.1, (hB.cell (p := ⟨Bkl, 2, none⟩) (Array.getElem?_eq_some_iff.1 kl).1).trans hS.2.2⟩ | exact ⟨((hB.alloc hB.size _).cell (p := ⟨Bkl, 0, none⟩) (Array.getElem?_eq_some_iff.1 kl).1).trans hS.1, ((hB.alloc hB.size _).cell (p := ⟨Bkl, 1, none⟩) (Array.getElem?_eq_some_iff.1 kl).1).trans hS.2.1, ((hB.alloc hB.size _).cell (p := ⟨Bkl, 2, none⟩) (Array.getElem?_eq_some_iff.1 kl).1).trans hS.2.2⟩)
    (first | (go_at_call 12; with_reducible refine (HNUM.out _ _).mono ?_; rintro e v ⟨rfl, hbn⟩; replace hB := hB.trans (hbn.mono hB.size); clear hbn))
  go_wp2
  go_ret
  exact ⟨rfl, hb.trans (hB.mono hb.size)⟩
end Go.Proofs.YtpiiemneelkpkaaGreatDoor
