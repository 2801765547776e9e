/- The walk of quadrillelaw14.CalcDivides: the greatest divisor is 2^63. -/
import Derived.Test.YtpiiemneelkpkaaGreatDoorGcb
import Derived.Test.YtpiiemneelkpkaaGreatDoorGcp
import Derived.Test.YtpiiemneelkpkaaGreatDoorGsh
import Derived.Deep.RegionHeld3
import Derived.Deep.DeepCutAuto
import Derived.Deep.RegionWith
namespace Go.Proofs.YtpiiemneelkpkaaGreatDoor
open Go.RowKit
set_option linter.unusedVariables false
set_option linter.unusedSimpArgs false

set_option maxRecDepth 100000 in
set_option maxHeartbeats 6400000 in
theorem div_g1 (w : World) (HBEG : Hid (∀ v, Below w.heap.size w v → Calls Tryz.prog 8 #[] v fun e w' => e = .returned (.bool true) ∧ Below v.heap.size v w'))
    (HQ : Hid (∀ v, Below w.heap.size w v → Calls Tryz.prog 11 #[.int .i64 4, .slice (some ⟨v.heap.size, 0, none⟩) 2 2] (v.alloc (Obj.cells #[.int .i64 1, .int .i64 (-9223372036854775808), .string ⟨#[]⟩, .int .i64 1, .int .i64 (-9223372036854775808), .string ⟨#[]⟩] 26)) fun e w' => e = .returned (.agg #[.int .i64 1, .int .i64 1, .string ⟨#[]⟩]) ∧ Below v.heap.size v w'))
    (HM : Hid (∀ v, Below w.heap.size w v → Calls Tryz.prog 11 #[.int .i64 3, .slice (some ⟨v.heap.size, 0, none⟩) 2 2] (v.alloc (Obj.cells #[.int .i64 1, .int .i64 (-9223372036854775808), .string ⟨#[]⟩, .int .i64 1, .int .i64 (-9223372036854775808), .string ⟨#[]⟩] 26)) fun e w' => e = .returned (.agg #[.int .i64 1, .int .i64 0, .string ⟨#[]⟩]) ∧ Below v.heap.size v w'))
    (HD : Hid (∀ v, Below w.heap.size w v → Calls Tryz.prog 13 #[.int .i64 3, .agg #[.int .i64 1, .int .i64 (-9223372036854775808), .string ⟨#[]⟩], .agg #[.int .i64 1, .int .i64 (-9223372036854775808), .string ⟨#[]⟩]] v fun e w' => e = .returned (.agg #[.int .i64 1, .int .i64 1, .string ⟨#[]⟩]) ∧ Below v.heap.size v w'))
    (HG : Hid (∀ v, Below w.heap.size w v → Calls Tryz.prog 11 #[.int .i64 6, .slice (some ⟨v.heap.size, 0, none⟩) 2 2] (v.alloc (Obj.cells #[.int .i64 1, .int .i64 (-9223372036854775808), .string ⟨#[]⟩, .int .i64 1, .int .i64 (-9223372036854775808), .string ⟨#[]⟩] 26)) fun e w' => e = .returned (.agg #[.int .i64 4, .int .i64 2, .string ⟨#[]⟩]) ∧ Below v.heap.size v w')) : Calls Tryz.prog 4 #[.int .i64 (-9223372036854775808), .int .i64 (-9223372036854775808)] w fun e w' => e = .returned (.bool true) ∧ Below w.heap.size w w' := by
  have HNUM := Lib.hid lnum_any
  have HBAD := Lib.hid lbad_any
  have hb : Below w.heap.size w w := Below.refl _ _
  go_enter Tryz.func4, Tryz.ntmps4
  go_wp2_with (fail)
  refine (HBEG.out _ hb).mono ?_
  rintro e w1 ⟨rfl, hb1⟩
  replace hb := hb.trans (hb1.mono hb.size)
  clear hb1
  go_wp2_with (fail)
  refine (HNUM.out _ _).mono ?_
  rintro e w2 ⟨rfl, hb2⟩
  replace hb := hb.trans (hb2.mono hb.size)
  clear hb2
  go_wp2_with (fail)
  refine (HNUM.out _ _).mono ?_
  rintro e w3 ⟨rfl, hb3⟩
  replace hb := hb.trans (hb3.mono hb.size)
  clear hb3
  go_wp2_with (fail)
  refine (HQ.out _ hb).mono ?_
  rintro e w4 ⟨rfl, hb4⟩
  replace hb := hb.trans (hb4.mono hb.size)
  clear hb4
  go_wp2_with (fail)
  refine (HNUM.out _ _).mono ?_
  rintro e w5 ⟨rfl, hb5⟩
  replace hb := hb.trans (hb5.mono hb.size)
  clear hb5
  go_wp2_with (fail)
  refine (HNUM.out _ _).mono ?_
  rintro e w6 ⟨rfl, hb6⟩
  replace hb := hb.trans (hb6.mono hb.size)
  clear hb6
  go_wp2_with (fail)
  refine (HM.out _ hb).mono ?_
  rintro e w7 ⟨rfl, hb7⟩
  replace hb := hb.trans (hb7.mono hb.size)
  clear hb7
  go_wp2_with (fail)
  refine (HNUM.out _ _).mono ?_
  rintro e w8 ⟨rfl, hb8⟩
  replace hb := hb.trans (hb8.mono hb.size)
  clear hb8
  go_wp2_with (fail)
  refine (HNUM.out _ _).mono ?_
  rintro e w9 ⟨rfl, hb9⟩
  replace hb := hb.trans (hb9.mono hb.size)
  clear hb9
  go_wp2_with (fail)
  refine (HD.out _ hb).mono ?_
  rintro e w10 ⟨rfl, hb10⟩
  replace hb := hb.trans (hb10.mono hb.size)
  clear hb10
  go_upto_region 4 with (fail)
  have kq : (((w10.alloc (Obj.cells #[.int .i64 1, .int .i64 1, .string ⟨#[]⟩] 26)).alloc (Obj.cells #[.int .i64 1, .int .i64 0, .string ⟨#[]⟩] 26)).alloc (Obj.cells #[.int .i64 1, .int .i64 1, .string ⟨#[]⟩] 26)).heap[w10.heap.size]? = some (.cells #[.int .i64 1, .int .i64 1, .string ⟨#[]⟩] 26 (0, 0)) := (heap_alloc_old _ _ (by simp; omega)).trans ((heap_alloc_old _ _ (by simp)).trans (heap_alloc_new _ _))
  have km : (((w10.alloc (Obj.cells #[.int .i64 1, .int .i64 1, .string ⟨#[]⟩] 26)).alloc (Obj.cells #[.int .i64 1, .int .i64 0, .string ⟨#[]⟩] 26)).alloc (Obj.cells #[.int .i64 1, .int .i64 1, .string ⟨#[]⟩] 26)).heap[w10.heap.size + 1]? = some (.cells #[.int .i64 1, .int .i64 0, .string ⟨#[]⟩] 26 (0, 0)) := (heap_alloc_old _ _ (by simp)).trans (by rw [show w10.heap.size + 1 = (w10.alloc (Obj.cells #[.int .i64 1, .int .i64 1, .string ⟨#[]⟩] 26)).heap.size by simp]; exact heap_alloc_new _ _)
  have kd : (((w10.alloc (Obj.cells #[.int .i64 1, .int .i64 1, .string ⟨#[]⟩] 26)).alloc (Obj.cells #[.int .i64 1, .int .i64 0, .string ⟨#[]⟩] 26)).alloc (Obj.cells #[.int .i64 1, .int .i64 1, .string ⟨#[]⟩] 26)).heap[w10.heap.size + 1 + 1]? = some (.cells #[.int .i64 1, .int .i64 1, .string ⟨#[]⟩] 26 (0, 0)) := by rw [show w10.heap.size + 1 + 1 = ((w10.alloc (Obj.cells #[.int .i64 1, .int .i64 1, .string ⟨#[]⟩] 26)).alloc (Obj.cells #[.int .i64 1, .int .i64 0, .string ⟨#[]⟩] 26)).heap.size by simp]; exact heap_alloc_new _ _
  replace hb : Below w.heap.size w (((w10.alloc (Obj.cells #[.int .i64 1, .int .i64 1, .string ⟨#[]⟩] 26)).alloc (Obj.cells #[.int .i64 1, .int .i64 0, .string ⟨#[]⟩] 26)).alloc (Obj.cells #[.int .i64 1, .int .i64 1, .string ⟨#[]⟩] 26)) := ((hb.alloc hb.size _).alloc (by have := hb.size; simp; omega) _).alloc (by have := hb.size; simp; omega) _
  generalize (((w10.alloc (Obj.cells #[.int .i64 1, .int .i64 1, .string ⟨#[]⟩] 26)).alloc (Obj.cells #[.int .i64 1, .int .i64 0, .string ⟨#[]⟩] 26)).alloc (Obj.cells #[.int .i64 1, .int .i64 1, .string ⟨#[]⟩] 26)) = W0 at *
  generalize w10.heap.size = B at *
  obtain ⟨q0, q1, q2⟩ := val_cells kq
  obtain ⟨m0, m1, m2⟩ := val_cells km
  obtain ⟨d0, d1, d2⟩ := val_cells kd
  have v0 : IntKind.i64.wrap (-9223372036854775808) = -9223372036854775808 := by decide
  have v1 : IntKind.i64.wrap 0 = 0 := by decide
  go_wp2_with (fail)
  refine (HNUM.out _ _).mono ?_
  rintro e w11 ⟨rfl, hb11⟩
  replace kq := (hb11.block _ (Array.getElem?_eq_some_iff.1 kq).1).trans kq
  replace km := (hb11.block _ (Array.getElem?_eq_some_iff.1 km).1).trans km
  replace kd := (hb11.block _ (Array.getElem?_eq_some_iff.1 kd).1).trans kd
  replace hb := hb.trans (hb11.mono hb.size)
  clear hb11
  go_wp2_with (fail)
  refine (HNUM.out _ _).mono ?_
  rintro e w12 ⟨rfl, hb12⟩
  replace kq := (hb12.block _ (Array.getElem?_eq_some_iff.1 kq).1).trans kq
  replace km := (hb12.block _ (Array.getElem?_eq_some_iff.1 km).1).trans km
  replace kd := (hb12.block _ (Array.getElem?_eq_some_iff.1 kd).1).trans kd
  replace hb := hb.trans (hb12.mono hb.size)
  clear hb12
  go_wp2_with (fail)
  refine (HG.out _ hb).mono ?_
  rintro e w13 ⟨rfl, hb13⟩
  replace kq := (hb13.block _ (Array.getElem?_eq_some_iff.1 kq).1).trans kq
  replace km := (hb13.block _ (Array.getElem?_eq_some_iff.1 km).1).trans km
  replace kd := (hb13.block _ (Array.getElem?_eq_some_iff.1 kd).1).trans kd
  replace hb := hb.trans (hb13.mono hb.size)
  clear hb13
  go_upto_region 18 with (fail)
  have kg : (w13.alloc (Obj.cells #[.int .i64 4, .int .i64 2, .string ⟨#[]⟩] 26)).heap[w13.heap.size]? = some (.cells #[.int .i64 4, .int .i64 2, .string ⟨#[]⟩] 26 (0, 0)) := heap_alloc_new _ _
  replace kq := (heap_alloc_old _ (Obj.cells #[.int .i64 4, .int .i64 2, .string ⟨#[]⟩] 26) (Array.getElem?_eq_some_iff.1 kq).1).trans kq
  replace km := (heap_alloc_old _ (Obj.cells #[.int .i64 4, .int .i64 2, .string ⟨#[]⟩] 26) (Array.getElem?_eq_some_iff.1 km).1).trans km
  replace kd := (heap_alloc_old _ (Obj.cells #[.int .i64 4, .int .i64 2, .string ⟨#[]⟩] 26) (Array.getElem?_eq_some_iff.1 kd).1).trans kd
  replace hb := hb.alloc hb.size (Obj.cells #[.int .i64 4, .int .i64 2, .string ⟨#[]⟩] 26)
  generalize (w13.alloc (Obj.cells #[.int .i64 4, .int .i64 2, .string ⟨#[]⟩] 26)) = Wkg at *
  generalize w13.heap.size = Bkg at *
  obtain ⟨g0, g1, g2⟩ := val_cells kg
  go_upto_region 19 with (fail)
  have hS : Wkg.cell? ⟨Bkg, 0, none⟩ = some (.int .i64 4) ∧ Wkg.cell? ⟨Bkg, 1, none⟩ = some (.int .i64 2) ∧ Wkg.cell? ⟨Bkg, 2, none⟩ = some (.string ⟨#[]⟩) := ⟨g0, g1, g2⟩
  clear g0 g1 g2
  have hB : Below Wkg.heap.size Wkg Wkg.drew := (Below.refl _ _).drew
  refine wp_region_held_drew (S := fun w' => w'.cell? ⟨Bkg, 0, none⟩ = some (.int .i64 4) ∧ w'.cell? ⟨Bkg, 1, none⟩ = some (.int .i64 2) ∧ w'.cell? ⟨Bkg, 2, none⟩ = some (.string ⟨#[]⟩)) (by kernel_rfl) (by (try dsimp only); exact ⟨(hB.cell (p := ⟨Bkg, 0, none⟩) (Array.getElem?_eq_some_iff.1 kg).1).trans hS.1, (hB.cell (p := ⟨Bkg, 1, none⟩) (Array.getElem?_eq_some_iff.1 kg).1).trans hS.2.1, (hB.cell (p := ⟨Bkg, 2, none⟩) (Array.getElem?_eq_some_iff.1 kg).1).trans hS.2.2⟩) (fun hh => ?_)
  refine wpAnyH_take (i := 0) (v := ?_) rfl (by kernel_rfl) (by kernel_rfl) (by kernel_rfl) (fun _ _ _ h => h) (Or.inl ⟨by rfl, ?_⟩) (by assumption) ?_
  rotate_left
  · (intro w hSw; (try dsimp only at hSw); go_simp; try with_reducible rfl)
  try simp only [List.getElem_toArray, List.getElem_cons_zero, List.getElem_cons_succ, Act.put, List.setIfInBounds_toArray, List.set_cons_zero, List.set_cons_succ]
  refine wpAnyH_ready (rs := [1]) (by kernel_rfl) (by simp) ?_
  refine AllReadyH.cons rfl (fun K hK => ?_) AllReadyH.nil
  go_simp
  (go_at_call 14; with_reducible refine (HBAD.out _ _).mono ?_; rintro e v ⟨rfl, hbn⟩; replace hB := hB.trans (hbn.mono hB.size); clear hbn)
  try go_wp2_with (fail)
  refine hK.out _ _ (by (try dsimp only); first | exact ⟨(hB.cell (p := ⟨Bkg, 0, none⟩) (Array.getElem?_eq_some_iff.1 kg).1).trans hS.1, (hB.cell (p := ⟨Bkg, 1, none⟩) (Array.getElem?_eq_some_iff.1 kg).1).trans hS.2.1, (hB.cell (p := ⟨Bkg, 2, none⟩) (Array.getElem?_eq_some_iff.1 kg).1).trans hS.2.2⟩ | exact ⟨((hB.alloc hB.size _).cell (p := ⟨Bkg, 0, none⟩) (Array.getElem?_eq_some_iff.1 kg).1).trans hS.1, ((hB.alloc hB.size _).cell (p := ⟨Bkg, 1, none⟩) (Array.getElem?_eq_some_iff.1 kg).1).trans hS.2.1, ((hB.alloc hB.size _).cell (p := ⟨Bkg, 2, none⟩) (Array.getElem?_eq_some_iff.1 kg).1).trans hS.2.2⟩) (fun hh2 => ?_)
  clear hK K hh
  have hh := hh2
  clear hh2
  try simp only [List.getElem_toArray, List.getElem_cons_zero, List.getElem_cons_succ, Act.put, List.setIfInBounds_toArray, List.set_cons_zero, List.set_cons_succ]
  refine wpAnyH_take (i := 2) (v := ?_) rfl (by kernel_rfl) (by kernel_rfl) (by kernel_rfl) (fun _ _ _ h => h) (Or.inl ⟨by rfl, ?_⟩) (by assumption) ?_
  rotate_left
  · (intro w hSw; (try dsimp only at hSw); go_simp; try with_reducible rfl)
  try simp only [List.getElem_toArray, List.getElem_cons_zero, List.getElem_cons_succ, Act.put, List.setIfInBounds_toArray, List.set_cons_zero, List.set_cons_succ]
  refine wpAnyH_take (i := 3) (v := ?_) rfl (by kernel_rfl) (by kernel_rfl) (by kernel_rfl) (fun _ _ _ h => h) (Or.inl ⟨by rfl, ?_⟩) (by assumption) ?_
  rotate_left
  · (intro w hSw; (try dsimp only at hSw); go_simp; try with_reducible rfl)
  try simp only [List.getElem_toArray, List.getElem_cons_zero, List.getElem_cons_succ, Act.put, List.setIfInBounds_toArray, List.set_cons_zero, List.set_cons_succ]
  refine wpAnyH_take (i := 4) (v := ?_) rfl (by kernel_rfl) (by kernel_rfl) (by kernel_rfl) (fun _ _ _ h => h) (Or.inl ⟨by rfl, ?_⟩) (by assumption) ?_
  rotate_left
  · (intro w hSw; (try dsimp only at hSw); go_simp; try with_reducible rfl)
  try simp only [List.getElem_toArray, List.getElem_cons_zero, List.getElem_cons_succ, Act.put, List.setIfInBounds_toArray, List.set_cons_zero, List.set_cons_succ]
  refine wpAnyH_take (i := 5) (v := ?_) rfl (by kernel_rfl) (by kernel_rfl) (by kernel_rfl) (fun _ _ _ h => h) (Or.inl ⟨by rfl, ?_⟩) (by assumption) ?_
  rotate_left
  · (intro w hSw; (try dsimp only at hSw); go_simp; try with_reducible rfl)
  try simp only [List.getElem_toArray, List.getElem_cons_zero, List.getElem_cons_succ, Act.put, List.setIfInBounds_toArray, List.set_cons_zero, List.set_cons_succ]
  refine wpAnyH_take (i := 6) (v := ?_) rfl (by kernel_rfl) (by kernel_rfl) (by kernel_rfl) (fun _ _ _ h => h) (Or.inl ⟨by rfl, ?_⟩) (by assumption) ?_
  rotate_left
  · (intro w hSw; (try dsimp only at hSw); go_simp; try with_reducible rfl)
  try simp only [List.getElem_toArray, List.getElem_cons_zero, List.getElem_cons_succ, Act.put, List.setIfInBounds_toArray, List.set_cons_zero, List.set_cons_succ]
  refine wpAnyH_take (i := 7) (v := undef) rfl (by kernel_rfl) (by kernel_rfl) (by kernel_rfl) (fun _ _ _ h => h) (Or.inr ⟨by rfl, rfl⟩) (by assumption) ?_
  try simp only [List.getElem_toArray, List.getElem_cons_zero, List.getElem_cons_succ, Act.put, List.setIfInBounds_toArray, List.set_cons_zero, List.set_cons_succ]
  refine wpAnyH_take (i := 8) (v := undef) rfl (by kernel_rfl) (by kernel_rfl) (by kernel_rfl) (fun _ _ _ h => h) (Or.inr ⟨by rfl, rfl⟩) (by assumption) ?_
  try simp only [List.getElem_toArray, List.getElem_cons_zero, List.getElem_cons_succ, Act.put, List.setIfInBounds_toArray, List.set_cons_zero, List.set_cons_succ]
  refine wpAnyH_take (i := 9) (v := ?_) rfl (by kernel_rfl) (by kernel_rfl) (by kernel_rfl) (fun _ _ _ h => h) (Or.inl ⟨by rfl, ?_⟩) (by assumption) ?_
  rotate_left
  · (intro w hSw; (try dsimp only at hSw); go_simp; try with_reducible rfl)
  try simp only [List.getElem_toArray, List.getElem_cons_zero, List.getElem_cons_succ, Act.put, List.setIfInBounds_toArray, List.set_cons_zero, List.set_cons_succ]
  refine wpAnyH_take (i := 10) (v := ?_) rfl (by kernel_rfl) (by kernel_rfl) (by kernel_rfl) (fun _ _ _ h => h) (Or.inl ⟨by rfl, ?_⟩) (by assumption) ?_
  rotate_left
  · (intro w hSw; (try dsimp only at hSw); go_simp; try with_reducible rfl)
  try simp only [List.getElem_toArray, List.getElem_cons_zero, List.getElem_cons_succ, Act.put, List.setIfInBounds_toArray, List.set_cons_zero, List.set_cons_succ]
  refine wpAnyH_take (i := 11) (v := ?_) rfl (by kernel_rfl) (by kernel_rfl) (by kernel_rfl) (fun _ _ _ h => h) (Or.inl ⟨by rfl, ?_⟩) (by assumption) ?_
  rotate_left
  · (intro w hSw; (try dsimp only at hSw); go_simp; try with_reducible rfl)
  try simp only [List.getElem_toArray, List.getElem_cons_zero, List.getElem_cons_succ, Act.put, List.setIfInBounds_toArray, List.set_cons_zero, List.set_cons_succ]
  refine wpAnyH_take (i := 12) (v := ?_) rfl (by kernel_rfl) (by kernel_rfl) (by kernel_rfl) (fun _ _ _ h => h) (Or.inl ⟨by rfl, ?_⟩) (by assumption) ?_
  rotate_left
  · (intro w hSw; (try dsimp only at hSw); go_simp; try with_reducible rfl)
  try simp only [List.getElem_toArray, List.getElem_cons_zero, List.getElem_cons_succ, Act.put, List.setIfInBounds_toArray, List.set_cons_zero, List.set_cons_succ]
  refine wpAnyH_take (i := 13) (v := ?_) rfl (by kernel_rfl) (by kernel_rfl) (by kernel_rfl) (fun _ _ _ h => h) (Or.inl ⟨by rfl, ?_⟩) (by assumption) ?_
  rotate_left
  · (intro w hSw; (try dsimp only at hSw); go_simp; try with_reducible rfl)
  try simp only [List.getElem_toArray, List.getElem_cons_zero, List.getElem_cons_succ, Act.put, List.setIfInBounds_toArray, List.set_cons_zero, List.set_cons_succ]
  refine wpAnyH_take (i := 14) (v := ?_) rfl (by kernel_rfl) (by kernel_rfl) (by kernel_rfl) (fun _ _ _ h => h) (Or.inl ⟨by rfl, ?_⟩) (by assumption) ?_
  rotate_left
  · (intro w hSw; (try dsimp only at hSw); go_simp; try with_reducible rfl)
  try simp only [List.getElem_toArray, List.getElem_cons_zero, List.getElem_cons_succ, Act.put, List.setIfInBounds_toArray, List.set_cons_zero, List.set_cons_succ]
  refine wpAnyH_take (i := 15) (v := ?_) rfl (by kernel_rfl) (by kernel_rfl) (by kernel_rfl) (fun _ _ _ h => h) (Or.inl ⟨by rfl, ?_⟩) (by assumption) ?_
  rotate_left
  · (intro w hSw; (try dsimp only at hSw); go_simp; try with_reducible rfl)
  try simp only [List.getElem_toArray, List.getElem_cons_zero, List.getElem_cons_succ, Act.put, List.setIfInBounds_toArray, List.set_cons_zero, List.set_cons_succ]
  refine wpAnyH_done (by kernel_rfl) ?_ _
  go_wp2
  go_ret
  exact ⟨rfl, hb.trans (hB.mono hb.size)⟩

set_option maxRecDepth 100000 in
set_option maxHeartbeats 6400000 in
theorem div_g2 (w : World) (HBEG : Hid (∀ v, Below w.heap.size w v → Calls Tryz.prog 8 #[] v fun e w' => e = .returned (.bool true) ∧ Below v.heap.size v w'))
    (HQ : Hid (∀ v, Below w.heap.size w v → Calls Tryz.prog 11 #[.int .i64 4, .slice (some ⟨v.heap.size, 0, none⟩) 2 2] (v.alloc (Obj.cells #[.int .i64 1, .int .i64 0, .string ⟨#[]⟩, .int .i64 1, .int .i64 (-9223372036854775808), .string ⟨#[]⟩] 26)) fun e w' => e = .returned (.agg #[.int .i64 1, .int .i64 0, .string ⟨#[]⟩]) ∧ Below v.heap.size v w'))
    (HM : Hid (∀ v, Below w.heap.size w v → Calls Tryz.prog 11 #[.int .i64 3, .slice (some ⟨v.heap.size, 0, none⟩) 2 2] (v.alloc (Obj.cells #[.int .i64 1, .int .i64 0, .string ⟨#[]⟩, .int .i64 1, .int .i64 (-9223372036854775808), .string ⟨#[]⟩] 26)) fun e w' => e = .returned (.agg #[.int .i64 1, .int .i64 0, .string ⟨#[]⟩]) ∧ Below v.heap.size v w'))
    (HD : Hid (∀ v, Below w.heap.size w v → Calls Tryz.prog 13 #[.int .i64 3, .agg #[.int .i64 1, .int .i64 0, .string ⟨#[]⟩], .agg #[.int .i64 1, .int .i64 (-9223372036854775808), .string ⟨#[]⟩]] v fun e w' => e = .returned (.agg #[.int .i64 1, .int .i64 0, .string ⟨#[]⟩]) ∧ Below v.heap.size v w'))
    (HG : Hid (∀ v, Below w.heap.size w v → Calls Tryz.prog 11 #[.int .i64 6, .slice (some ⟨v.heap.size, 0, none⟩) 2 2] (v.alloc (Obj.cells #[.int .i64 1, .int .i64 0, .string ⟨#[]⟩, .int .i64 1, .int .i64 (-9223372036854775808), .string ⟨#[]⟩] 26)) fun e w' => e = .returned (.agg #[.int .i64 4, .int .i64 2, .string ⟨#[]⟩]) ∧ Below v.heap.size v w')) : Calls Tryz.prog 4 #[.int .i64 0, .int .i64 (-9223372036854775808)] w fun e w' => e = .returned (.bool true) ∧ Below w.heap.size w w' := by
  have HNUM := Lib.hid lnum_any
  have HBAD := Lib.hid lbad_any
  have hb : Below w.heap.size w w := Below.refl _ _
  go_enter Tryz.func4, Tryz.ntmps4
  go_wp2_with (fail)
  refine (HBEG.out _ hb).mono ?_
  rintro e w1 ⟨rfl, hb1⟩
  replace hb := hb.trans (hb1.mono hb.size)
  clear hb1
  go_wp2_with (fail)
  refine (HNUM.out _ _).mono ?_
  rintro e w2 ⟨rfl, hb2⟩
  replace hb := hb.trans (hb2.mono hb.size)
  clear hb2
  go_wp2_with (fail)
  refine (HNUM.out _ _).mono ?_
  rintro e w3 ⟨rfl, hb3⟩
  replace hb := hb.trans (hb3.mono hb.size)
  clear hb3
  go_wp2_with (fail)
  refine (HQ.out _ hb).mono ?_
  rintro e w4 ⟨rfl, hb4⟩
  replace hb := hb.trans (hb4.mono hb.size)
  clear hb4
  go_wp2_with (fail)
  refine (HNUM.out _ _).mono ?_
  rintro e w5 ⟨rfl, hb5⟩
  replace hb := hb.trans (hb5.mono hb.size)
  clear hb5
  go_wp2_with (fail)
  refine (HNUM.out _ _).mono ?_
  rintro e w6 ⟨rfl, hb6⟩
  replace hb := hb.trans (hb6.mono hb.size)
  clear hb6
  go_wp2_with (fail)
  refine (HM.out _ hb).mono ?_
  rintro e w7 ⟨rfl, hb7⟩
  replace hb := hb.trans (hb7.mono hb.size)
  clear hb7
  go_wp2_with (fail)
  refine (HNUM.out _ _).mono ?_
  rintro e w8 ⟨rfl, hb8⟩
  replace hb := hb.trans (hb8.mono hb.size)
  clear hb8
  go_wp2_with (fail)
  refine (HNUM.out _ _).mono ?_
  rintro e w9 ⟨rfl, hb9⟩
  replace hb := hb.trans (hb9.mono hb.size)
  clear hb9
  go_wp2_with (fail)
  refine (HD.out _ hb).mono ?_
  rintro e w10 ⟨rfl, hb10⟩
  replace hb := hb.trans (hb10.mono hb.size)
  clear hb10
  go_upto_region 4 with (fail)
  have kq : (((w10.alloc (Obj.cells #[.int .i64 1, .int .i64 0, .string ⟨#[]⟩] 26)).alloc (Obj.cells #[.int .i64 1, .int .i64 0, .string ⟨#[]⟩] 26)).alloc (Obj.cells #[.int .i64 1, .int .i64 0, .string ⟨#[]⟩] 26)).heap[w10.heap.size]? = some (.cells #[.int .i64 1, .int .i64 0, .string ⟨#[]⟩] 26 (0, 0)) := (heap_alloc_old _ _ (by simp; omega)).trans ((heap_alloc_old _ _ (by simp)).trans (heap_alloc_new _ _))
  have km : (((w10.alloc (Obj.cells #[.int .i64 1, .int .i64 0, .string ⟨#[]⟩] 26)).alloc (Obj.cells #[.int .i64 1, .int .i64 0, .string ⟨#[]⟩] 26)).alloc (Obj.cells #[.int .i64 1, .int .i64 0, .string ⟨#[]⟩] 26)).heap[w10.heap.size + 1]? = some (.cells #[.int .i64 1, .int .i64 0, .string ⟨#[]⟩] 26 (0, 0)) := (heap_alloc_old _ _ (by simp)).trans (by rw [show w10.heap.size + 1 = (w10.alloc (Obj.cells #[.int .i64 1, .int .i64 0, .string ⟨#[]⟩] 26)).heap.size by simp]; exact heap_alloc_new _ _)
  have kd : (((w10.alloc (Obj.cells #[.int .i64 1, .int .i64 0, .string ⟨#[]⟩] 26)).alloc (Obj.cells #[.int .i64 1, .int .i64 0, .string ⟨#[]⟩] 26)).alloc (Obj.cells #[.int .i64 1, .int .i64 0, .string ⟨#[]⟩] 26)).heap[w10.heap.size + 1 + 1]? = some (.cells #[.int .i64 1, .int .i64 0, .string ⟨#[]⟩] 26 (0, 0)) := by rw [show w10.heap.size + 1 + 1 = ((w10.alloc (Obj.cells #[.int .i64 1, .int .i64 0, .string ⟨#[]⟩] 26)).alloc (Obj.cells #[.int .i64 1, .int .i64 0, .string ⟨#[]⟩] 26)).heap.size by simp]; exact heap_alloc_new _ _
  replace hb : Below w.heap.size w (((w10.alloc (Obj.cells #[.int .i64 1, .int .i64 0, .string ⟨#[]⟩] 26)).alloc (Obj.cells #[.int .i64 1, .int .i64 0, .string ⟨#[]⟩] 26)).alloc (Obj.cells #[.int .i64 1, .int .i64 0, .string ⟨#[]⟩] 26)) := ((hb.alloc hb.size _).alloc (by have := hb.size; simp; omega) _).alloc (by have := hb.size; simp; omega) _
  generalize (((w10.alloc (Obj.cells #[.int .i64 1, .int .i64 0, .string ⟨#[]⟩] 26)).alloc (Obj.cells #[.int .i64 1, .int .i64 0, .string ⟨#[]⟩] 26)).alloc (Obj.cells #[.int .i64 1, .int .i64 0, .string ⟨#[]⟩] 26)) = W0 at *
  generalize w10.heap.size = B at *
  obtain ⟨q0, q1, q2⟩ := val_cells kq
  obtain ⟨m0, m1, m2⟩ := val_cells km
  obtain ⟨d0, d1, d2⟩ := val_cells kd
  have v0 : IntKind.i64.wrap (-9223372036854775808) = -9223372036854775808 := by decide
  have v1 : IntKind.i64.wrap 0 = 0 := by decide
  go_wp2_with (fail)
  refine (HNUM.out _ _).mono ?_
  rintro e w11 ⟨rfl, hb11⟩
  replace kq := (hb11.block _ (Array.getElem?_eq_some_iff.1 kq).1).trans kq
  replace km := (hb11.block _ (Array.getElem?_eq_some_iff.1 km).1).trans km
  replace kd := (hb11.block _ (Array.getElem?_eq_some_iff.1 kd).1).trans kd
  replace hb := hb.trans (hb11.mono hb.size)
  clear hb11
  go_wp2_with (fail)
  refine (HNUM.out _ _).mono ?_
  rintro e w12 ⟨rfl, hb12⟩
  replace kq := (hb12.block _ (Array.getElem?_eq_some_iff.1 kq).1).trans kq
  replace km := (hb12.block _ (Array.getElem?_eq_some_iff.1 km).1).trans km
  replace kd := (hb12.block _ (Array.getElem?_eq_some_iff.1 kd).1).trans kd
  replace hb := hb.trans (hb12.mono hb.size)
  clear hb12
  go_wp2_with (fail)
  refine (HG.out _ hb).mono ?_
  rintro e w13 ⟨rfl, hb13⟩
  replace kq := (hb13.block _ (Array.getElem?_eq_some_iff.1 kq).1).trans kq
  replace km := (hb13.block _ (Array.getElem?_eq_some_iff.1 km).1).trans km
  replace kd := (hb13.block _ (Array.getElem?_eq_some_iff.1 kd).1).trans kd
  replace hb := hb.trans (hb13.mono hb.size)
  clear hb13
  go_upto_region 18 with (fail)
  have kg : (w13.alloc (Obj.cells #[.int .i64 4, .int .i64 2, .string ⟨#[]⟩] 26)).heap[w13.heap.size]? = some (.cells #[.int .i64 4, .int .i64 2, .string ⟨#[]⟩] 26 (0, 0)) := heap_alloc_new _ _
  replace kq := (heap_alloc_old _ (Obj.cells #[.int .i64 4, .int .i64 2, .string ⟨#[]⟩] 26) (Array.getElem?_eq_some_iff.1 kq).1).trans kq
  replace km := (heap_alloc_old _ (Obj.cells #[.int .i64 4, .int .i64 2, .string ⟨#[]⟩] 26) (Array.getElem?_eq_some_iff.1 km).1).trans km
  replace kd := (heap_alloc_old _ (Obj.cells #[.int .i64 4, .int .i64 2, .string ⟨#[]⟩] 26) (Array.getElem?_eq_some_iff.1 kd).1).trans kd
  replace hb := hb.alloc hb.size (Obj.cells #[.int .i64 4, .int .i64 2, .string ⟨#[]⟩] 26)
  generalize (w13.alloc (Obj.cells #[.int .i64 4, .int .i64 2, .string ⟨#[]⟩] 26)) = Wkg at *
  generalize w13.heap.size = Bkg at *
  obtain ⟨g0, g1, g2⟩ := val_cells kg
  go_upto_region 19 with (fail)
  have hS : Wkg.cell? ⟨Bkg, 0, none⟩ = some (.int .i64 4) ∧ Wkg.cell? ⟨Bkg, 1, none⟩ = some (.int .i64 2) ∧ Wkg.cell? ⟨Bkg, 2, none⟩ = some (.string ⟨#[]⟩) := ⟨g0, g1, g2⟩
  clear g0 g1 g2
  have hB : Below Wkg.heap.size Wkg Wkg.drew := (Below.refl _ _).drew
  refine wp_region_held_drew (S := fun w' => w'.cell? ⟨Bkg, 0, none⟩ = some (.int .i64 4) ∧ w'.cell? ⟨Bkg, 1, none⟩ = some (.int .i64 2) ∧ w'.cell? ⟨Bkg, 2, none⟩ = some (.string ⟨#[]⟩)) (by kernel_rfl) (by (try dsimp only); exact ⟨(hB.cell (p := ⟨Bkg, 0, none⟩) (Array.getElem?_eq_some_iff.1 kg).1).trans hS.1, (hB.cell (p := ⟨Bkg, 1, none⟩) (Array.getElem?_eq_some_iff.1 kg).1).trans hS.2.1, (hB.cell (p := ⟨Bkg, 2, none⟩) (Array.getElem?_eq_some_iff.1 kg).1).trans hS.2.2⟩) (fun hh => ?_)
  refine wpAnyH_take (i := 0) (v := ?_) rfl (by kernel_rfl) (by kernel_rfl) (by kernel_rfl) (fun _ _ _ h => h) (Or.inl ⟨by rfl, ?_⟩) (by assumption) ?_
  rotate_left
  · (intro w hSw; (try dsimp only at hSw); go_simp; try with_reducible rfl)
  try simp only [List.getElem_toArray, List.getElem_cons_zero, List.getElem_cons_succ, Act.put, List.setIfInBounds_toArray, List.set_cons_zero, List.set_cons_succ]
  refine wpAnyH_ready (rs := [1]) (by kernel_rfl) (by simp) ?_
  refine AllReadyH.cons rfl (fun K hK => ?_) AllReadyH.nil
  go_simp
  (go_at_call 14; with_reducible refine (HBAD.out _ _).mono ?_; rintro e v ⟨rfl, hbn⟩; replace hB := hB.trans (hbn.mono hB.size); clear hbn)
  try go_wp2_with (fail)
  refine hK.out _ _ (by (try dsimp only); first | exact ⟨(hB.cell (p := ⟨Bkg, 0, none⟩) (Array.getElem?_eq_some_iff.1 kg).1).trans hS.1, (hB.cell (p := ⟨Bkg, 1, none⟩) (Array.getElem?_eq_some_iff.1 kg).1).trans hS.2.1, (hB.cell (p := ⟨Bkg, 2, none⟩) (Array.getElem?_eq_some_iff.1 kg).1).trans hS.2.2⟩ | exact ⟨((hB.alloc hB.size _).cell (p := ⟨Bkg, 0, none⟩) (Array.getElem?_eq_some_iff.1 kg).1).trans hS.1, ((hB.alloc hB.size _).cell (p := ⟨Bkg, 1, none⟩) (Array.getElem?_eq_some_iff.1 kg).1).trans hS.2.1, ((hB.alloc hB.size _).cell (p := ⟨Bkg, 2, none⟩) (Array.getElem?_eq_some_iff.1 kg).1).trans hS.2.2⟩) (fun hh2 => ?_)
  clear hK K hh
  have hh := hh2
  clear hh2
  try simp only [List.getElem_toArray, List.getElem_cons_zero, List.getElem_cons_succ, Act.put, List.setIfInBounds_toArray, List.set_cons_zero, List.set_cons_succ]
  refine wpAnyH_take (i := 2) (v := ?_) rfl (by kernel_rfl) (by kernel_rfl) (by kernel_rfl) (fun _ _ _ h => h) (Or.inl ⟨by rfl, ?_⟩) (by assumption) ?_
  rotate_left
  · (intro w hSw; (try dsimp only at hSw); go_simp; try with_reducible rfl)
  try simp only [List.getElem_toArray, List.getElem_cons_zero, List.getElem_cons_succ, Act.put, List.setIfInBounds_toArray, List.set_cons_zero, List.set_cons_succ]
  refine wpAnyH_take (i := 3) (v := ?_) rfl (by kernel_rfl) (by kernel_rfl) (by kernel_rfl) (fun _ _ _ h => h) (Or.inl ⟨by rfl, ?_⟩) (by assumption) ?_
  rotate_left
  · (intro w hSw; (try dsimp only at hSw); go_simp; try with_reducible rfl)
  try simp only [List.getElem_toArray, List.getElem_cons_zero, List.getElem_cons_succ, Act.put, List.setIfInBounds_toArray, List.set_cons_zero, List.set_cons_succ]
  refine wpAnyH_take (i := 4) (v := ?_) rfl (by kernel_rfl) (by kernel_rfl) (by kernel_rfl) (fun _ _ _ h => h) (Or.inl ⟨by rfl, ?_⟩) (by assumption) ?_
  rotate_left
  · (intro w hSw; (try dsimp only at hSw); go_simp; try with_reducible rfl)
  try simp only [List.getElem_toArray, List.getElem_cons_zero, List.getElem_cons_succ, Act.put, List.setIfInBounds_toArray, List.set_cons_zero, List.set_cons_succ]
  refine wpAnyH_take (i := 5) (v := ?_) rfl (by kernel_rfl) (by kernel_rfl) (by kernel_rfl) (fun _ _ _ h => h) (Or.inl ⟨by rfl, ?_⟩) (by assumption) ?_
  rotate_left
  · (intro w hSw; (try dsimp only at hSw); go_simp; try with_reducible rfl)
  try simp only [List.getElem_toArray, List.getElem_cons_zero, List.getElem_cons_succ, Act.put, List.setIfInBounds_toArray, List.set_cons_zero, List.set_cons_succ]
  refine wpAnyH_take (i := 6) (v := ?_) rfl (by kernel_rfl) (by kernel_rfl) (by kernel_rfl) (fun _ _ _ h => h) (Or.inl ⟨by rfl, ?_⟩) (by assumption) ?_
  rotate_left
  · (intro w hSw; (try dsimp only at hSw); go_simp; try with_reducible rfl)
  try simp only [List.getElem_toArray, List.getElem_cons_zero, List.getElem_cons_succ, Act.put, List.setIfInBounds_toArray, List.set_cons_zero, List.set_cons_succ]
  refine wpAnyH_take (i := 7) (v := ?_) rfl (by kernel_rfl) (by kernel_rfl) (by kernel_rfl) (fun _ _ _ h => h) (Or.inl ⟨by rfl, ?_⟩) (by assumption) ?_
  rotate_left
  · (intro w hSw; (try dsimp only at hSw); go_simp; try with_reducible rfl)
  try simp only [List.getElem_toArray, List.getElem_cons_zero, List.getElem_cons_succ, Act.put, List.setIfInBounds_toArray, List.set_cons_zero, List.set_cons_succ]
  refine wpAnyH_take (i := 8) (v := ?_) rfl (by kernel_rfl) (by kernel_rfl) (by kernel_rfl) (fun _ _ _ h => h) (Or.inl ⟨by rfl, ?_⟩) (by assumption) ?_
  rotate_left
  · (intro w hSw; (try dsimp only at hSw); go_simp; try with_reducible rfl)
  try simp only [List.getElem_toArray, List.getElem_cons_zero, List.getElem_cons_succ, Act.put, List.setIfInBounds_toArray, List.set_cons_zero, List.set_cons_succ]
  refine wpAnyH_take (i := 9) (v := ?_) rfl (by kernel_rfl) (by kernel_rfl) (by kernel_rfl) (fun _ _ _ h => h) (Or.inl ⟨by rfl, ?_⟩) (by assumption) ?_
  rotate_left
  · (intro w hSw; (try dsimp only at hSw); go_simp; try with_reducible rfl)
  try simp only [List.getElem_toArray, List.getElem_cons_zero, List.getElem_cons_succ, Act.put, List.setIfInBounds_toArray, List.set_cons_zero, List.set_cons_succ]
  refine wpAnyH_take (i := 10) (v := ?_) rfl (by kernel_rfl) (by kernel_rfl) (by kernel_rfl) (fun _ _ _ h => h) (Or.inl ⟨by rfl, ?_⟩) (by assumption) ?_
  rotate_left
  · (intro w hSw; (try dsimp only at hSw); go_simp; try with_reducible rfl)
  try simp only [List.getElem_toArray, List.getElem_cons_zero, List.getElem_cons_succ, Act.put, List.setIfInBounds_toArray, List.set_cons_zero, List.set_cons_succ]
  refine wpAnyH_take (i := 11) (v := ?_) rfl (by kernel_rfl) (by kernel_rfl) (by kernel_rfl) (fun _ _ _ h => h) (Or.inl ⟨by rfl, ?_⟩) (by assumption) ?_
  rotate_left
  · (intro w hSw; (try dsimp only at hSw); go_simp; try with_reducible rfl)
  try simp only [List.getElem_toArray, List.getElem_cons_zero, List.getElem_cons_succ, Act.put, List.setIfInBounds_toArray, List.set_cons_zero, List.set_cons_succ]
  refine wpAnyH_take (i := 12) (v := ?_) rfl (by kernel_rfl) (by kernel_rfl) (by kernel_rfl) (fun _ _ _ h => h) (Or.inl ⟨by rfl, ?_⟩) (by assumption) ?_
  rotate_left
  · (intro w hSw; (try dsimp only at hSw); go_simp; try with_reducible rfl)
  try simp only [List.getElem_toArray, List.getElem_cons_zero, List.getElem_cons_succ, Act.put, List.setIfInBounds_toArray, List.set_cons_zero, List.set_cons_succ]
  refine wpAnyH_take (i := 13) (v := ?_) rfl (by kernel_rfl) (by kernel_rfl) (by kernel_rfl) (fun _ _ _ h => h) (Or.inl ⟨by rfl, ?_⟩) (by assumption) ?_
  rotate_left
  · (intro w hSw; (try dsimp only at hSw); go_simp; try with_reducible rfl)
  try simp only [List.getElem_toArray, List.getElem_cons_zero, List.getElem_cons_succ, Act.put, List.setIfInBounds_toArray, List.set_cons_zero, List.set_cons_succ]
  refine wpAnyH_take (i := 14) (v := ?_) rfl (by kernel_rfl) (by kernel_rfl) (by kernel_rfl) (fun _ _ _ h => h) (Or.inl ⟨by rfl, ?_⟩) (by assumption) ?_
  rotate_left
  · (intro w hSw; (try dsimp only at hSw); go_simp; try with_reducible rfl)
  try simp only [List.getElem_toArray, List.getElem_cons_zero, List.getElem_cons_succ, Act.put, List.setIfInBounds_toArray, List.set_cons_zero, List.set_cons_succ]
  refine wpAnyH_take (i := 15) (v := ?_) rfl (by kernel_rfl) (by kernel_rfl) (by kernel_rfl) (fun _ _ _ h => h) (Or.inl ⟨by rfl, ?_⟩) (by assumption) ?_
  rotate_left
  · (intro w hSw; (try dsimp only at hSw); go_simp; try with_reducible rfl)
  try simp only [List.getElem_toArray, List.getElem_cons_zero, List.getElem_cons_succ, Act.put, List.setIfInBounds_toArray, List.set_cons_zero, List.set_cons_succ]
  refine wpAnyH_done (by kernel_rfl) ?_ _
  go_wp2
  go_ret
  exact ⟨rfl, hb.trans (hB.mono hb.size)⟩
end Go.Proofs.YtpiiemneelkpkaaGreatDoor
