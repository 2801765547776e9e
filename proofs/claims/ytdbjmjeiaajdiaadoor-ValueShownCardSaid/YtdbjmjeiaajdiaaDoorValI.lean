/- What every statement on values asks ahead (quadrillelaw4.begun): it answers true. -/
import Derived.Test.YtdbjmjeiaajdiaaDoorValD
import Derived.Test.YtdbjmjeiaajdiaaDoorValH
namespace Go.Proofs.YtdbjmjeiaajdiaaDoor
open Go.RowKit
set_option linter.unusedVariables false
theorem itoa5 : Lib.itoa 5 = [53] := by
  have e : Lib.decDigits 5 = [53] := by rw [Dec.dec_small (by omega)]; rfl
  unfold Lib.itoa
  rw [if_neg (by omega)]
  exact e
set_option maxRecDepth 100000 in
set_option maxHeartbeats 2000000 in
theorem begun4 (w : World) (hN : NumW w) :
    Calls Tryd.prog 6 #[] w fun e w' => e = .returned (.bool true) ∧ Below w.heap.size w w' := by
  have B5 : VB ⟨1, 5, ⟨#[]⟩⟩ := ⟨by decide, by decide, by decide⟩
  have H1 := Lib.hid (fun w hN => number_any ⟨3, 0, ⟨#[45, 55]⟩⟩ w ⟨by decide, by decide, by decide⟩ hN)
  rw [show Val.number ⟨3, 0, ⟨#[45, 55]⟩⟩ = (-7, 0) by kernel_rfl] at H1
  have H2 := Lib.hid (fun w hN => astext_any ⟨1, 5, ⟨#[]⟩⟩ w B5 hN)
  rw [show Val.asText ⟨1, 5, ⟨#[]⟩⟩ = (⟨(Lib.itoa 5).toArray⟩, 0) by kernel_rfl, itoa5] at H2
  have H3 := Lib.hid (fun w => truth_any ⟨1, 5, ⟨#[]⟩⟩ w)
  rw [show Val.truth ⟨1, 5, ⟨#[]⟩⟩ = (true, 0) by kernel_rfl] at H3
  have H4 := Lib.hid (fun w hN => lit_any ⟨#[39, 61, 49]⟩ w (by decide) hN)
  rw [show Val.lit ⟨#[39, 61, 49]⟩ = (⟨3, 0, ⟨#[61, 49]⟩⟩, true) by kernel_rfl] at H4
  have H5 := Lib.hid (fun w hN => lit_any ⟨#[61, 49]⟩ w (by decide) hN)
  rw [show Val.lit ⟨#[61, 49]⟩ = (⟨0, 0, ⟨#[]⟩⟩, false) by kernel_rfl] at H5
  have H6 := Lib.hid (fun w hN => number_any ⟨3, 0, ⟨#[48, 55]⟩⟩ w ⟨by decide, by decide, by decide⟩ hN)
  rw [show Val.number ⟨3, 0, ⟨#[48, 55]⟩⟩ = (0, 4) by kernel_rfl] at H6
  have H7 := Lib.hid (fun w => vmay_any ⟨1, 5, ⟨#[]⟩⟩ w)
  rw [show Val.mayB ⟨1, 5, ⟨#[]⟩⟩ = true by kernel_rfl] at H7
  have H8 := Lib.hid (fun w => vmay_any ⟨9, 0, ⟨#[]⟩⟩ w)
  rw [show Val.mayB ⟨9, 0, ⟨#[]⟩⟩ = false by kernel_rfl] at H8
  have H9 := Lib.hid (fun w hN => show_any ⟨4, 7, ⟨#[]⟩⟩ w ⟨by decide, by decide, by decide⟩ hN)
  rw [show Val.show ⟨4, 7, ⟨#[]⟩⟩ = ⟨#[35, 67, 89, 67, 76, 69, 33]⟩ by kernel_rfl] at H9
  have H10 := Lib.hid (fun w => vcompare_any ⟨1, 5, ⟨#[]⟩⟩ ⟨3, 0, ⟨#[]⟩⟩ w)
  rw [show Val.cmpG (Val.good ⟨1, 5, ⟨#[]⟩⟩) (Val.good ⟨3, 0, ⟨#[]⟩⟩) = -1 by kernel_rfl] at H10
  have H11 := Lib.hid (fun w => same_any ⟨1, 5, ⟨#[]⟩⟩ ⟨1, 5, ⟨#[]⟩⟩ w)
  rw [show Val.same ⟨1, 5, ⟨#[]⟩⟩ ⟨1, 5, ⟨#[]⟩⟩ = true by kernel_rfl] at H11
  have H12 := Lib.hid (fun w => same_any ⟨1, 5, ⟨#[]⟩⟩ ⟨3, 0, ⟨#[61, 49]⟩⟩ w)
  rw [show Val.same ⟨1, 5, ⟨#[]⟩⟩ ⟨3, 0, ⟨#[61, 49]⟩⟩ = false by kernel_rfl] at H12
  go_enter Tryd.func6, Tryd.ntmps6
  go_upto_region 2 with (fail)
  have hx : (w.alloc (Obj.cells #[.int .i64 1, .int .i64 5, .string ⟨#[]⟩] 26)).heap[w.heap.size]? = some (.cells #[.int .i64 1, .int .i64 5, .string ⟨#[]⟩] 26 (0, 0)) := heap_alloc_new _ _
  have hb : Below w.heap.size w (w.alloc (Obj.cells #[.int .i64 1, .int .i64 5, .string ⟨#[]⟩] 26)) := (Below.refl _ _).alloc (Nat.le_refl _) _
  have hl : w.heap.size < (w.alloc (Obj.cells #[.int .i64 1, .int .i64 5, .string ⟨#[]⟩] 26)).heap.size := by simp
  generalize (w.alloc (Obj.cells #[.int .i64 1, .int .i64 5, .string ⟨#[]⟩] 26)) = W0 at *
  have hN0 := hN.below hb
  obtain ⟨x0, x1, x2⟩ := val_cells hx
  go_wp2_with (fail)
  refine (H1.out _ hN0).mono ?_
  rintro e w1 ⟨rfl, hb1⟩
  replace hx := (hb1.block w.heap.size hl).trans hx
  replace hb := hb.trans (hb1.mono hb.size)
  replace hl := Nat.lt_of_lt_of_le hl hb1.size
  clear hb1 x0 x1 x2
  have hN1 := hN.below hb
  obtain ⟨x0, x1, x2⟩ := val_cells hx
  go_wp2_with (fail)
  refine (H2.out _ hN1).mono ?_
  rintro e w2 ⟨rfl, hb2⟩
  replace hx := (hb2.block w.heap.size hl).trans hx
  replace hb := hb.trans (hb2.mono hb.size)
  replace hl := Nat.lt_of_lt_of_le hl hb2.size
  clear hb2 x0 x1 x2
  have hN2 := hN.below hb
  obtain ⟨x0, x1, x2⟩ := val_cells hx
  go_wp2_with (fail)
  refine (H3.out _).mono ?_
  rintro e w3 ⟨rfl, hb3⟩
  replace hx := (hb3.block w.heap.size hl).trans hx
  replace hb := hb.trans (hb3.mono hb.size)
  replace hl := Nat.lt_of_lt_of_le hl hb3.size
  clear hb3 x0 x1 x2
  have hN3 := hN.below hb
  obtain ⟨x0, x1, x2⟩ := val_cells hx
  go_wp2_with (fail)
  refine (H4.out _ hN3).mono ?_
  rintro e w4 ⟨rfl, hb4⟩
  replace hx := (hb4.block w.heap.size hl).trans hx
  replace hb := hb.trans (hb4.mono hb.size)
  replace hl := Nat.lt_of_lt_of_le hl hb4.size
  clear hb4 x0 x1 x2
  have hN4 := hN.below hb
  obtain ⟨x0, x1, x2⟩ := val_cells hx
  go_upto_region 6 with (fail)
  have hv : (w4.alloc (Obj.cells #[.int .i64 3, .int .i64 0, .string ⟨#[61, 49]⟩] 26)).heap[w4.heap.size]? = some (.cells #[.int .i64 3, .int .i64 0, .string ⟨#[61, 49]⟩] 26 (0, 0)) := heap_alloc_new _ _
  have hlv : w4.heap.size < (w4.alloc (Obj.cells #[.int .i64 3, .int .i64 0, .string ⟨#[61, 49]⟩] 26)).heap.size := by simp
  replace hx : (w4.alloc (Obj.cells #[.int .i64 3, .int .i64 0, .string ⟨#[61, 49]⟩] 26)).heap[w.heap.size]? = some (.cells #[.int .i64 1, .int .i64 5, .string ⟨#[]⟩] 26 (0, 0)) := (Below.heap_alloc _ _ w.heap.size hl).trans hx
  replace hb := hb.alloc hb.size (Obj.cells #[.int .i64 3, .int .i64 0, .string ⟨#[61, 49]⟩] 26)
  replace hl : w.heap.size < (w4.alloc (Obj.cells #[.int .i64 3, .int .i64 0, .string ⟨#[61, 49]⟩] 26)).heap.size := by simp; omega
  generalize (w4.alloc (Obj.cells #[.int .i64 3, .int .i64 0, .string ⟨#[61, 49]⟩] 26)) = W4 at hx hv hb hl hlv ⊢
  have hN44 := hN.below hb
  obtain ⟨y0, y1, y2⟩ := val_cells hv
  go_wp2_with (fail)
  refine (H5.out _ hN44).mono ?_
  rintro e w5 ⟨rfl, hb5⟩
  replace hx := (hb5.block w.heap.size hl).trans hx
  replace hb := hb.trans (hb5.mono hb.size)
  replace hl := Nat.lt_of_lt_of_le hl hb5.size
  replace hv := (hb5.block w4.heap.size hlv).trans hv
  replace hlv := Nat.lt_of_lt_of_le hlv hb5.size
  clear hb5 x0 x1 x2 y0 y1 y2
  have hN5 := hN.below hb
  obtain ⟨x0, x1, x2⟩ := val_cells hx
  obtain ⟨y0, y1, y2⟩ := val_cells hv
  go_upto_region 7 with (fail)
  replace hx := (Below.heap_alloc _ (Obj.cells #[.int .i64 0, .int .i64 0, .string ⟨#[]⟩] 26) w.heap.size hl).trans hx
  replace hv := (Below.heap_alloc _ (Obj.cells #[.int .i64 0, .int .i64 0, .string ⟨#[]⟩] 26) w4.heap.size hlv).trans hv
  replace hb := hb.alloc hb.size (Obj.cells #[.int .i64 0, .int .i64 0, .string ⟨#[]⟩] 26)
  replace hl : w.heap.size < (w5.alloc (Obj.cells #[.int .i64 0, .int .i64 0, .string ⟨#[]⟩] 26)).heap.size := by simp; omega
  replace hlv : w4.heap.size < (w5.alloc (Obj.cells #[.int .i64 0, .int .i64 0, .string ⟨#[]⟩] 26)).heap.size := by simp; omega
  generalize (w5.alloc (Obj.cells #[.int .i64 0, .int .i64 0, .string ⟨#[]⟩] 26)) = W5 at hx hv hb hl hlv ⊢
  have hN55 := hN.below hb
  go_wp2_with (fail)
  refine (H6.out _ hN55).mono ?_
  rintro e w6 ⟨rfl, hb6⟩
  replace hx := (hb6.block w.heap.size hl).trans hx
  replace hb := hb.trans (hb6.mono hb.size)
  replace hl := Nat.lt_of_lt_of_le hl hb6.size
  replace hv := (hb6.block w4.heap.size hlv).trans hv
  replace hlv := Nat.lt_of_lt_of_le hlv hb6.size
  clear hb6 x0 x1 x2 y0 y1 y2
  have hN6 := hN.below hb
  obtain ⟨x0, x1, x2⟩ := val_cells hx
  obtain ⟨y0, y1, y2⟩ := val_cells hv
  go_wp2_with (fail)
  refine (H7.out _).mono ?_
  rintro e w7 ⟨rfl, hb7⟩
  replace hx := (hb7.block w.heap.size hl).trans hx
  replace hb := hb.trans (hb7.mono hb.size)
  replace hl := Nat.lt_of_lt_of_le hl hb7.size
  replace hv := (hb7.block w4.heap.size hlv).trans hv
  replace hlv := Nat.lt_of_lt_of_le hlv hb7.size
  clear hb7 x0 x1 x2 y0 y1 y2
  have hN7 := hN.below hb
  obtain ⟨x0, x1, x2⟩ := val_cells hx
  obtain ⟨y0, y1, y2⟩ := val_cells hv
  go_wp2_with (fail)
  refine (H8.out _).mono ?_
  rintro e w8 ⟨rfl, hb8⟩
  replace hx := (hb8.block w.heap.size hl).trans hx
  replace hb := hb.trans (hb8.mono hb.size)
  replace hl := Nat.lt_of_lt_of_le hl hb8.size
  replace hv := (hb8.block w4.heap.size hlv).trans hv
  replace hlv := Nat.lt_of_lt_of_le hlv hb8.size
  clear hb8 x0 x1 x2 y0 y1 y2
  have hN8 := hN.below hb
  obtain ⟨x0, x1, x2⟩ := val_cells hx
  obtain ⟨y0, y1, y2⟩ := val_cells hv
  go_wp2_with (fail)
  refine (H9.out _ hN8).mono ?_
  rintro e w9 ⟨rfl, hb9⟩
  replace hx := (hb9.block w.heap.size hl).trans hx
  replace hb := hb.trans (hb9.mono hb.size)
  replace hl := Nat.lt_of_lt_of_le hl hb9.size
  replace hv := (hb9.block w4.heap.size hlv).trans hv
  replace hlv := Nat.lt_of_lt_of_le hlv hb9.size
  clear hb9 x0 x1 x2 y0 y1 y2
  have hN9 := hN.below hb
  obtain ⟨x0, x1, x2⟩ := val_cells hx
  obtain ⟨y0, y1, y2⟩ := val_cells hv
  go_wp2_with (fail)
  refine (H10.out _).mono ?_
  rintro e w10 ⟨rfl, hb10⟩
  replace hx := (hb10.block w.heap.size hl).trans hx
  replace hb := hb.trans (hb10.mono hb.size)
  replace hl := Nat.lt_of_lt_of_le hl hb10.size
  replace hv := (hb10.block w4.heap.size hlv).trans hv
  replace hlv := Nat.lt_of_lt_of_le hlv hb10.size
  clear hb10 x0 x1 x2 y0 y1 y2
  have hN10 := hN.below hb
  obtain ⟨x0, x1, x2⟩ := val_cells hx
  obtain ⟨y0, y1, y2⟩ := val_cells hv
  go_wp2_with (fail)
  refine (H11.out _).mono ?_
  rintro e w11 ⟨rfl, hb11⟩
  replace hx := (hb11.block w.heap.size hl).trans hx
  replace hb := hb.trans (hb11.mono hb.size)
  replace hl := Nat.lt_of_lt_of_le hl hb11.size
  replace hv := (hb11.block w4.heap.size hlv).trans hv
  replace hlv := Nat.lt_of_lt_of_le hlv hb11.size
  clear hb11 x0 x1 x2 y0 y1 y2
  have hN11 := hN.below hb
  obtain ⟨x0, x1, x2⟩ := val_cells hx
  obtain ⟨y0, y1, y2⟩ := val_cells hv
  go_wp2_with (fail)
  refine (H12.out _).mono ?_
  rintro e w12 ⟨rfl, hb12⟩
  replace hx := (hb12.block w.heap.size hl).trans hx
  replace hb := hb.trans (hb12.mono hb.size)
  replace hl := Nat.lt_of_lt_of_le hl hb12.size
  replace hv := (hb12.block w4.heap.size hlv).trans hv
  replace hlv := Nat.lt_of_lt_of_le hlv hb12.size
  clear hb12 x0 x1 x2 y0 y1 y2
  have hN12 := hN.below hb
  obtain ⟨x0, x1, x2⟩ := val_cells hx
  obtain ⟨y0, y1, y2⟩ := val_cells hv
  go_wp2
  go_ret
  exact ⟨rfl, hb⟩
end Go.Proofs.YtdbjmjeiaajdiaaDoor
