/- The walks of quadrillelaw4.plays: each call answers what the reference answers. -/
import Derived.Test.YtdbjmjeiaajdiaaDoorValI
import Derived.Deep.DeepCutAuto
import Derived.Deep.RegionHeld3
namespace Go.Proofs.YtdbjmjeiaajdiaaDoor
open Go.RowKit
set_option linter.unusedVariables false

theorem box8_of {w1 : World} {B : Nat} {K vk vn uk un : Int} {vt ut s : ByteArray} {T : TypeId} (h : w1.heap[B]? = some (.cells #[.int .i64 K, .int .i64 vk, .int .i64 vn, .string vt, .int .i64 uk, .int .i64 un, .string ut, .string s] T (0, 0))) :
    w1.cell? ⟨B, 0, none⟩ = some (.int .i64 K) ∧ w1.cell? ⟨B, 1, none⟩ = some (.int .i64 vk) ∧ w1.cell? ⟨B, 2, none⟩ = some (.int .i64 vn) ∧ w1.cell? ⟨B, 3, none⟩ = some (.string vt) ∧ w1.cell? ⟨B, 4, none⟩ = some (.int .i64 uk) ∧ w1.cell? ⟨B, 5, none⟩ = some (.int .i64 un) ∧ w1.cell? ⟨B, 6, none⟩ = some (.string ut) ∧ w1.cell? ⟨B, 7, none⟩ = some (.string s) :=
  ⟨Lib.cell_of_heap h 0, Lib.cell_of_heap h 1, Lib.cell_of_heap h 2, Lib.cell_of_heap h 3, Lib.cell_of_heap h 4, Lib.cell_of_heap h 5, Lib.cell_of_heap h 6, Lib.cell_of_heap h 7⟩
theorem box8_cells {w w1 : World} {K vk vn uk un : Int} {vt ut s : ByteArray} {T : TypeId} (hb : Below (w.alloc (.cells #[.int .i64 K, .int .i64 vk, .int .i64 vn, .string vt, .int .i64 uk, .int .i64 un, .string ut, .string s] T)).heap.size (w.alloc (.cells #[.int .i64 K, .int .i64 vk, .int .i64 vn, .string vt, .int .i64 uk, .int .i64 un, .string ut, .string s] T)) w1) :
    w1.cell? ⟨w.heap.size, 0, none⟩ = some (.int .i64 K) ∧ w1.cell? ⟨w.heap.size, 1, none⟩ = some (.int .i64 vk) ∧ w1.cell? ⟨w.heap.size, 2, none⟩ = some (.int .i64 vn) ∧ w1.cell? ⟨w.heap.size, 3, none⟩ = some (.string vt) ∧ w1.cell? ⟨w.heap.size, 4, none⟩ = some (.int .i64 uk) ∧ w1.cell? ⟨w.heap.size, 5, none⟩ = some (.int .i64 un) ∧ w1.cell? ⟨w.heap.size, 6, none⟩ = some (.string ut) ∧ w1.cell? ⟨w.heap.size, 7, none⟩ = some (.string s) := by
  have h : w1.heap[w.heap.size]? = _ := (hb.block w.heap.size (by simp)).trans (heap_alloc_new _ _)
  exact ⟨Lib.cell_of_heap h 0, Lib.cell_of_heap h 1, Lib.cell_of_heap h 2, Lib.cell_of_heap h 3, Lib.cell_of_heap h 4, Lib.cell_of_heap h 5, Lib.cell_of_heap h 6, Lib.cell_of_heap h 7⟩

set_option maxRecDepth 100000 in
theorem vplays_1 (vk vn uk un : Int) (vt ut s : ByteArray) (r : Bool) (w : World)
    (HA0 : ∀ w', Below w.heap.size w w' → Calls Tryd.prog 9 #[.agg #[.int .i64 vk, .int .i64 vn, .string vt]] w' fun e w'' => e = .returned (.bool r) ∧ Below w'.heap.size w' w'')
    (HB0 : ∀ w', Below w.heap.size w w' → Calls Tryd.prog 18 #[.agg #[.int .i64 vk, .int .i64 vn, .string vt]] w' fun e w'' => e = .returned (.bool r) ∧ Below w'.heap.size w' w'')
    : Calls Tryd.prog 7 #[.agg #[.int .i64 1, .int .i64 vk, .int .i64 vn, .string vt, .int .i64 uk, .int .i64 un, .string ut, .string s]] w fun e w' => e = .returned (.bool true) ∧ Below w.heap.size w w' := by
  have HA := Lib.hid HA0
  have HB := Lib.hid HB0
  clear HA0 HB0
  go_enter Tryd.func7, Tryd.ntmps7
  go_upto_region 3 with (fail)
  have hx : (w.alloc (Obj.cells #[.int .i64 1, .int .i64 vk, .int .i64 vn, .string vt, .int .i64 uk, .int .i64 un, .string ut, .string s] 28)).heap[w.heap.size]? = some (.cells #[.int .i64 1, .int .i64 vk, .int .i64 vn, .string vt, .int .i64 uk, .int .i64 un, .string ut, .string s] 28 (0, 0)) := heap_alloc_new _ _
  have hb : Below w.heap.size w (w.alloc (Obj.cells #[.int .i64 1, .int .i64 vk, .int .i64 vn, .string vt, .int .i64 uk, .int .i64 un, .string ut, .string s] 28)) := (Below.refl _ _).alloc (Nat.le_refl w.heap.size) _
  have hl : w.heap.size < (w.alloc (Obj.cells #[.int .i64 1, .int .i64 vk, .int .i64 vn, .string vt, .int .i64 uk, .int .i64 un, .string ut, .string s] 28)).heap.size := by simp
  generalize (w.alloc (Obj.cells #[.int .i64 1, .int .i64 vk, .int .i64 vn, .string vt, .int .i64 uk, .int .i64 un, .string ut, .string s] 28)) = W0 at *
  obtain ⟨c0, c1, c2, c3, c4, c5, c6, c7⟩ := box8_of hx
  go_region_held3 (fun w' => w'.cell? ⟨w.heap.size, 0, none⟩ = some (.int .i64 1) ∧ w'.cell? ⟨w.heap.size, 1, none⟩ = some (.int .i64 vk) ∧ w'.cell? ⟨w.heap.size, 2, none⟩ = some (.int .i64 vn) ∧ w'.cell? ⟨w.heap.size, 3, none⟩ = some (.string vt) ∧ w'.cell? ⟨w.heap.size, 4, none⟩ = some (.int .i64 uk) ∧ w'.cell? ⟨w.heap.size, 5, none⟩ = some (.int .i64 un) ∧ w'.cell? ⟨w.heap.size, 6, none⟩ = some (.string ut) ∧ w'.cell? ⟨w.heap.size, 7, none⟩ = some (.string s))
    (first | go_keep | exact ⟨c0, c1, c2, c3, c4, c5, c6, c7⟩)
    (((first | (go_at_call 9; refine (HA.out _ ?_).mono ?_; (first | exact hb | exact hb.drew)) | (go_at_call 18; refine (HB.out _ ?_).mono ?_; (first | exact hb | exact hb.drew))); rintro e v ⟨rfl, hbn⟩; clear c0 c1 c2 c3 c4 c5 c6 c7; replace hx := (hbn.block w.heap.size hl).trans hx; replace hb : Below w.heap.size w v := (by first | exact hb.trans (hbn.mono hb.size) | exact hb.drew.trans (hbn.mono hb.size)); replace hl := Nat.lt_of_lt_of_le hl hbn.size; clear hbn; obtain ⟨c0, c1, c2, c3, c4, c5, c6, c7⟩ := box8_of hx))
  all_goals
    go_wp2
    go_ret
    exact ⟨by simp, hb⟩

set_option maxRecDepth 100000 in
theorem vplays_2 (vk vn uk un : Int) (vt ut s : ByteArray) (r : Bool) (w : World)
    (HA0 : ∀ w', Below w.heap.size w w' → Calls Tryd.prog 17 #[.agg #[.int .i64 vk, .int .i64 vn, .string vt], .agg #[.int .i64 uk, .int .i64 un, .string ut]] w' fun e w'' => e = .returned (.bool r) ∧ Below w'.heap.size w' w'')
    (HB0 : ∀ w', Below w.heap.size w w' → Calls Tryd.prog 19 #[.agg #[.int .i64 vk, .int .i64 vn, .string vt], .agg #[.int .i64 uk, .int .i64 un, .string ut]] w' fun e w'' => e = .returned (.bool r) ∧ Below w'.heap.size w' w'')
    : Calls Tryd.prog 7 #[.agg #[.int .i64 2, .int .i64 vk, .int .i64 vn, .string vt, .int .i64 uk, .int .i64 un, .string ut, .string s]] w fun e w' => e = .returned (.bool true) ∧ Below w.heap.size w w' := by
  have HA := Lib.hid HA0
  have HB := Lib.hid HB0
  clear HA0 HB0
  go_enter Tryd.func7, Tryd.ntmps7
  go_upto_region 5 with (fail)
  have hx : (w.alloc (Obj.cells #[.int .i64 2, .int .i64 vk, .int .i64 vn, .string vt, .int .i64 uk, .int .i64 un, .string ut, .string s] 28)).heap[w.heap.size]? = some (.cells #[.int .i64 2, .int .i64 vk, .int .i64 vn, .string vt, .int .i64 uk, .int .i64 un, .string ut, .string s] 28 (0, 0)) := heap_alloc_new _ _
  have hb : Below w.heap.size w (w.alloc (Obj.cells #[.int .i64 2, .int .i64 vk, .int .i64 vn, .string vt, .int .i64 uk, .int .i64 un, .string ut, .string s] 28)) := (Below.refl _ _).alloc (Nat.le_refl w.heap.size) _
  have hl : w.heap.size < (w.alloc (Obj.cells #[.int .i64 2, .int .i64 vk, .int .i64 vn, .string vt, .int .i64 uk, .int .i64 un, .string ut, .string s] 28)).heap.size := by simp
  generalize (w.alloc (Obj.cells #[.int .i64 2, .int .i64 vk, .int .i64 vn, .string vt, .int .i64 uk, .int .i64 un, .string ut, .string s] 28)) = W0 at *
  obtain ⟨c0, c1, c2, c3, c4, c5, c6, c7⟩ := box8_of hx
  go_region_held3 (fun w' => w'.cell? ⟨w.heap.size, 0, none⟩ = some (.int .i64 2) ∧ w'.cell? ⟨w.heap.size, 1, none⟩ = some (.int .i64 vk) ∧ w'.cell? ⟨w.heap.size, 2, none⟩ = some (.int .i64 vn) ∧ w'.cell? ⟨w.heap.size, 3, none⟩ = some (.string vt) ∧ w'.cell? ⟨w.heap.size, 4, none⟩ = some (.int .i64 uk) ∧ w'.cell? ⟨w.heap.size, 5, none⟩ = some (.int .i64 un) ∧ w'.cell? ⟨w.heap.size, 6, none⟩ = some (.string ut) ∧ w'.cell? ⟨w.heap.size, 7, none⟩ = some (.string s))
    (first | go_keep | exact ⟨c0, c1, c2, c3, c4, c5, c6, c7⟩)
    (((first | (go_at_call 17; refine (HA.out _ ?_).mono ?_; (first | exact hb | exact hb.drew)) | (go_at_call 19; refine (HB.out _ ?_).mono ?_; (first | exact hb | exact hb.drew))); rintro e v ⟨rfl, hbn⟩; clear c0 c1 c2 c3 c4 c5 c6 c7; replace hx := (hbn.block w.heap.size hl).trans hx; replace hb : Below w.heap.size w v := (by first | exact hb.trans (hbn.mono hb.size) | exact hb.drew.trans (hbn.mono hb.size)); replace hl := Nat.lt_of_lt_of_le hl hbn.size; clear hbn; obtain ⟨c0, c1, c2, c3, c4, c5, c6, c7⟩ := box8_of hx))
  all_goals
    go_wp2
    go_ret
    exact ⟨by simp, hb⟩

set_option maxRecDepth 100000 in
theorem vplays_3 (vk vn uk un : Int) (vt ut s : ByteArray) (n er : Int) (w : World)
    (HA0 : ∀ w', Below w.heap.size w w' → Calls Tryd.prog 14 #[.agg #[.int .i64 vk, .int .i64 vn, .string vt]] w' fun e w'' => e = .returned (.tuple #[.int .i64 n, .int .i64 er]) ∧ Below w'.heap.size w' w'')
    (HB0 : ∀ w', Below w.heap.size w w' → Calls Tryd.prog 20 #[.agg #[.int .i64 vk, .int .i64 vn, .string vt]] w' fun e w'' => e = .returned (.tuple #[.int .i64 n, .int .i64 er]) ∧ Below w'.heap.size w' w'')
    : Calls Tryd.prog 7 #[.agg #[.int .i64 3, .int .i64 vk, .int .i64 vn, .string vt, .int .i64 uk, .int .i64 un, .string ut, .string s]] w fun e w' => e = .returned (.bool true) ∧ Below w.heap.size w w' := by
  have HA := Lib.hid HA0
  have HB := Lib.hid HB0
  clear HA0 HB0
  go_enter Tryd.func7, Tryd.ntmps7
  go_wp2_with (fail)
  refine (HA.out _ ((Below.refl _ _).alloc (Nat.le_refl _) _)).mono ?_
  rintro e w1 ⟨rfl, hb1⟩
  obtain ⟨c0, c1, c2, c3, c4, c5, c6, c7⟩ := box8_cells hb1
  replace hb1 := alloc_below hb1
  go_wp2_with (fail)
  refine (HB.out _ hb1).mono ?_
  rintro e w2 ⟨rfl, hb2⟩
  replace hb2 := hb1.trans (hb2.mono hb1.size)
  clear hb1 c0 c1 c2 c3 c4 c5 c6 c7
  go_wp2
  go_ret
  exact ⟨by simp, hb2⟩

set_option maxRecDepth 100000 in
theorem vplays_4 (vk vn uk un : Int) (vt ut s : ByteArray) (t : ByteArray) (er : Int) (w : World)
    (HA0 : ∀ w', Below w.heap.size w w' → Calls Tryd.prog 10 #[.agg #[.int .i64 vk, .int .i64 vn, .string vt]] w' fun e w'' => e = .returned (.tuple #[.string t, .int .i64 er]) ∧ Below w'.heap.size w' w'')
    (HB0 : ∀ w', Below w.heap.size w w' → Calls Tryd.prog 21 #[.agg #[.int .i64 vk, .int .i64 vn, .string vt]] w' fun e w'' => e = .returned (.tuple #[.string t, .int .i64 er]) ∧ Below w'.heap.size w' w'')
    : Calls Tryd.prog 7 #[.agg #[.int .i64 4, .int .i64 vk, .int .i64 vn, .string vt, .int .i64 uk, .int .i64 un, .string ut, .string s]] w fun e w' => e = .returned (.bool true) ∧ Below w.heap.size w w' := by
  have HA := Lib.hid HA0
  have HB := Lib.hid HB0
  clear HA0 HB0
  go_enter Tryd.func7, Tryd.ntmps7
  go_wp2_with (fail)
  refine (HA.out _ ((Below.refl _ _).alloc (Nat.le_refl _) _)).mono ?_
  rintro e w1 ⟨rfl, hb1⟩
  obtain ⟨c0, c1, c2, c3, c4, c5, c6, c7⟩ := box8_cells hb1
  replace hb1 := alloc_below hb1
  go_wp2_with (fail)
  refine (HB.out _ hb1).mono ?_
  rintro e w2 ⟨rfl, hb2⟩
  replace hb2 := hb1.trans (hb2.mono hb1.size)
  clear hb1 c0 c1 c2 c3 c4 c5 c6 c7
  go_wp2
  go_ret
  exact ⟨by simp, hb2⟩

set_option maxRecDepth 100000 in
theorem vplays_5 (vk vn uk un : Int) (vt ut s : ByteArray) (b : Bool) (er : Int) (w : World)
    (HA0 : ∀ w', Below w.heap.size w w' → Calls Tryd.prog 15 #[.agg #[.int .i64 vk, .int .i64 vn, .string vt]] w' fun e w'' => e = .returned (.tuple #[.bool b, .int .i64 er]) ∧ Below w'.heap.size w' w'')
    (HB0 : ∀ w', Below w.heap.size w w' → Calls Tryd.prog 22 #[.agg #[.int .i64 vk, .int .i64 vn, .string vt]] w' fun e w'' => e = .returned (.tuple #[.bool b, .int .i64 er]) ∧ Below w'.heap.size w' w'')
    : Calls Tryd.prog 7 #[.agg #[.int .i64 5, .int .i64 vk, .int .i64 vn, .string vt, .int .i64 uk, .int .i64 un, .string ut, .string s]] w fun e w' => e = .returned (.bool true) ∧ Below w.heap.size w w' := by
  have HA := Lib.hid HA0
  have HB := Lib.hid HB0
  clear HA0 HB0
  go_enter Tryd.func7, Tryd.ntmps7
  go_wp2_with (fail)
  refine (HA.out _ ((Below.refl _ _).alloc (Nat.le_refl _) _)).mono ?_
  rintro e w1 ⟨rfl, hb1⟩
  obtain ⟨c0, c1, c2, c3, c4, c5, c6, c7⟩ := box8_cells hb1
  replace hb1 := alloc_below hb1
  go_wp2_with (fail)
  refine (HB.out _ hb1).mono ?_
  rintro e w2 ⟨rfl, hb2⟩
  replace hb2 := hb1.trans (hb2.mono hb1.size)
  clear hb1 c0 c1 c2 c3 c4 c5 c6 c7
  go_wp2
  go_ret
  exact ⟨by simp, hb2⟩

set_option maxRecDepth 100000 in
theorem vplays_6 (vk vn uk un : Int) (vt ut s : ByteArray) (r : Int) (w : World)
    (HA0 : ∀ w', Below w.heap.size w w' → Calls Tryd.prog 16 #[.agg #[.int .i64 vk, .int .i64 vn, .string vt], .agg #[.int .i64 uk, .int .i64 un, .string ut]] w' fun e w'' => e = .returned (.int .i64 r) ∧ Below w'.heap.size w' w'')
    (HB0 : ∀ w', Below w.heap.size w w' → Calls Tryd.prog 23 #[.agg #[.int .i64 vk, .int .i64 vn, .string vt], .agg #[.int .i64 uk, .int .i64 un, .string ut]] w' fun e w'' => e = .returned (.int .i64 r) ∧ Below w'.heap.size w' w'')
    : Calls Tryd.prog 7 #[.agg #[.int .i64 6, .int .i64 vk, .int .i64 vn, .string vt, .int .i64 uk, .int .i64 un, .string ut, .string s]] w fun e w' => e = .returned (.bool true) ∧ Below w.heap.size w w' := by
  have HA := Lib.hid HA0
  have HB := Lib.hid HB0
  clear HA0 HB0
  go_enter Tryd.func7, Tryd.ntmps7
  go_upto_region 19 with (fail)
  have hx : (w.alloc (Obj.cells #[.int .i64 6, .int .i64 vk, .int .i64 vn, .string vt, .int .i64 uk, .int .i64 un, .string ut, .string s] 28)).heap[w.heap.size]? = some (.cells #[.int .i64 6, .int .i64 vk, .int .i64 vn, .string vt, .int .i64 uk, .int .i64 un, .string ut, .string s] 28 (0, 0)) := heap_alloc_new _ _
  have hb : Below w.heap.size w (w.alloc (Obj.cells #[.int .i64 6, .int .i64 vk, .int .i64 vn, .string vt, .int .i64 uk, .int .i64 un, .string ut, .string s] 28)) := (Below.refl _ _).alloc (Nat.le_refl w.heap.size) _
  have hl : w.heap.size < (w.alloc (Obj.cells #[.int .i64 6, .int .i64 vk, .int .i64 vn, .string vt, .int .i64 uk, .int .i64 un, .string ut, .string s] 28)).heap.size := by simp
  generalize (w.alloc (Obj.cells #[.int .i64 6, .int .i64 vk, .int .i64 vn, .string vt, .int .i64 uk, .int .i64 un, .string ut, .string s] 28)) = W0 at *
  obtain ⟨c0, c1, c2, c3, c4, c5, c6, c7⟩ := box8_of hx
  go_region_held3 (fun w' => w'.cell? ⟨w.heap.size, 0, none⟩ = some (.int .i64 6) ∧ w'.cell? ⟨w.heap.size, 1, none⟩ = some (.int .i64 vk) ∧ w'.cell? ⟨w.heap.size, 2, none⟩ = some (.int .i64 vn) ∧ w'.cell? ⟨w.heap.size, 3, none⟩ = some (.string vt) ∧ w'.cell? ⟨w.heap.size, 4, none⟩ = some (.int .i64 uk) ∧ w'.cell? ⟨w.heap.size, 5, none⟩ = some (.int .i64 un) ∧ w'.cell? ⟨w.heap.size, 6, none⟩ = some (.string ut) ∧ w'.cell? ⟨w.heap.size, 7, none⟩ = some (.string s))
    (first | go_keep | exact ⟨c0, c1, c2, c3, c4, c5, c6, c7⟩)
    (((first | (go_at_call 16; refine (HA.out _ ?_).mono ?_; (first | exact hb | exact hb.drew)) | (go_at_call 23; refine (HB.out _ ?_).mono ?_; (first | exact hb | exact hb.drew))); rintro e v ⟨rfl, hbn⟩; clear c0 c1 c2 c3 c4 c5 c6 c7; replace hx := (hbn.block w.heap.size hl).trans hx; replace hb : Below w.heap.size w v := (by first | exact hb.trans (hbn.mono hb.size) | exact hb.drew.trans (hbn.mono hb.size)); replace hl := Nat.lt_of_lt_of_le hl hbn.size; clear hbn; obtain ⟨c0, c1, c2, c3, c4, c5, c6, c7⟩ := box8_of hx))
  all_goals
    go_wp2
    go_ret
    exact ⟨by simp, hb⟩

set_option maxRecDepth 100000 in
theorem vplays_7 (vk vn uk un : Int) (vt ut s : ByteArray) (r : ByteArray) (w : World)
    (HA0 : ∀ w', Below w.heap.size w w' → Calls Tryd.prog 8 #[.agg #[.int .i64 vk, .int .i64 vn, .string vt]] w' fun e w'' => e = .returned (.string r) ∧ Below w'.heap.size w' w'')
    (HB0 : ∀ w', Below w.heap.size w w' → Calls Tryd.prog 24 #[.agg #[.int .i64 vk, .int .i64 vn, .string vt]] w' fun e w'' => e = .returned (.string r) ∧ Below w'.heap.size w' w'')
    : Calls Tryd.prog 7 #[.agg #[.int .i64 7, .int .i64 vk, .int .i64 vn, .string vt, .int .i64 uk, .int .i64 un, .string ut, .string s]] w fun e w' => e = .returned (.bool true) ∧ Below w.heap.size w w' := by
  have HA := Lib.hid HA0
  have HB := Lib.hid HB0
  clear HA0 HB0
  go_enter Tryd.func7, Tryd.ntmps7
  go_upto_region 21 with (fail)
  have hx : (w.alloc (Obj.cells #[.int .i64 7, .int .i64 vk, .int .i64 vn, .string vt, .int .i64 uk, .int .i64 un, .string ut, .string s] 28)).heap[w.heap.size]? = some (.cells #[.int .i64 7, .int .i64 vk, .int .i64 vn, .string vt, .int .i64 uk, .int .i64 un, .string ut, .string s] 28 (0, 0)) := heap_alloc_new _ _
  have hb : Below w.heap.size w (w.alloc (Obj.cells #[.int .i64 7, .int .i64 vk, .int .i64 vn, .string vt, .int .i64 uk, .int .i64 un, .string ut, .string s] 28)) := (Below.refl _ _).alloc (Nat.le_refl w.heap.size) _
  have hl : w.heap.size < (w.alloc (Obj.cells #[.int .i64 7, .int .i64 vk, .int .i64 vn, .string vt, .int .i64 uk, .int .i64 un, .string ut, .string s] 28)).heap.size := by simp
  generalize (w.alloc (Obj.cells #[.int .i64 7, .int .i64 vk, .int .i64 vn, .string vt, .int .i64 uk, .int .i64 un, .string ut, .string s] 28)) = W0 at *
  obtain ⟨c0, c1, c2, c3, c4, c5, c6, c7⟩ := box8_of hx
  go_region_held3 (fun w' => w'.cell? ⟨w.heap.size, 0, none⟩ = some (.int .i64 7) ∧ w'.cell? ⟨w.heap.size, 1, none⟩ = some (.int .i64 vk) ∧ w'.cell? ⟨w.heap.size, 2, none⟩ = some (.int .i64 vn) ∧ w'.cell? ⟨w.heap.size, 3, none⟩ = some (.string vt) ∧ w'.cell? ⟨w.heap.size, 4, none⟩ = some (.int .i64 uk) ∧ w'.cell? ⟨w.heap.size, 5, none⟩ = some (.int .i64 un) ∧ w'.cell? ⟨w.heap.size, 6, none⟩ = some (.string ut) ∧ w'.cell? ⟨w.heap.size, 7, none⟩ = some (.string s))
    (first | go_keep | exact ⟨c0, c1, c2, c3, c4, c5, c6, c7⟩)
    (((first | (go_at_call 8; refine (HA.out _ ?_).mono ?_; (first | exact hb | exact hb.drew)) | (go_at_call 24; refine (HB.out _ ?_).mono ?_; (first | exact hb | exact hb.drew))); rintro e v ⟨rfl, hbn⟩; clear c0 c1 c2 c3 c4 c5 c6 c7; replace hx := (hbn.block w.heap.size hl).trans hx; replace hb : Below w.heap.size w v := (by first | exact hb.trans (hbn.mono hb.size) | exact hb.drew.trans (hbn.mono hb.size)); replace hl := Nat.lt_of_lt_of_le hl hbn.size; clear hbn; obtain ⟨c0, c1, c2, c3, c4, c5, c6, c7⟩ := box8_of hx))
  all_goals
    go_wp2
    go_ret
    exact ⟨by simp, hb⟩

set_option maxRecDepth 100000 in
theorem vplays_8 (vk vn uk un : Int) (vt ut s : ByteArray) (ak an : Int) (at' : ByteArray) (b : Bool) (w : World)
    (HA0 : ∀ w', Below w.heap.size w w' → Calls Tryd.prog 11 #[.string s] w' fun e w'' => e = .returned (.tuple #[.agg #[.int .i64 ak, .int .i64 an, .string at'], .bool b]) ∧ Below w'.heap.size w' w'')
    (HB0 : ∀ w', Below w.heap.size w w' → Calls Tryd.prog 25 #[.string s] w' fun e w'' => e = .returned (.tuple #[.agg #[.int .i64 ak, .int .i64 an, .string at'], .bool b]) ∧ Below w'.heap.size w' w'')
    : Calls Tryd.prog 7 #[.agg #[.int .i64 8, .int .i64 vk, .int .i64 vn, .string vt, .int .i64 uk, .int .i64 un, .string ut, .string s]] w fun e w' => e = .returned (.bool true) ∧ Below w.heap.size w w' := by
  have HA := Lib.hid HA0
  have HB := Lib.hid HB0
  clear HA0 HB0
  go_enter Tryd.func7, Tryd.ntmps7
  go_wp2_with (fail)
  refine (HA.out _ ((Below.refl _ _).alloc (Nat.le_refl _) _)).mono ?_
  rintro e w1 ⟨rfl, hb1⟩
  obtain ⟨c0, c1, c2, c3, c4, c5, c6, c7⟩ := box8_cells hb1
  have hbx := hb1
  replace hb1 := alloc_below hb1
  have hl : w.heap.size < w1.heap.size := Nat.lt_of_lt_of_le (by simp) hbx.size
  clear hbx
  go_upto_region 24 with (fail)
  replace c7 := (Below.cell ((Below.refl w1.heap.size w1).alloc (Nat.le_refl _) (Obj.cells #[.int .i64 ak, .int .i64 an, .string at'] 26)) (p := ⟨w.heap.size, 7, none⟩) hl).trans c7
  have hq : (w1.alloc (Obj.cells #[.int .i64 ak, .int .i64 an, .string at'] 26)).heap[w1.heap.size]? = some (.cells #[.int .i64 ak, .int .i64 an, .string at'] 26 (0, 0)) := heap_alloc_new _ _
  have hl1 : w1.heap.size < (w1.alloc (Obj.cells #[.int .i64 ak, .int .i64 an, .string at'] 26)).heap.size := by simp
  replace hb1 := hb1.alloc hb1.size (Obj.cells #[.int .i64 ak, .int .i64 an, .string at'] 26)
  clear c0 c1 c2 c3 c4 c5 c6
  generalize (w1.alloc (Obj.cells #[.int .i64 ak, .int .i64 an, .string at'] 26)) = W1 at c7 hq hl1 hb1 ⊢
  go_wp2_with (fail)
  refine (HB.out _ hb1).mono ?_
  rintro e w2 ⟨rfl, hb2⟩
  replace hq := (hb2.block w1.heap.size hl1).trans hq
  replace hl1 := Nat.lt_of_lt_of_le hl1 hb2.size
  replace hb2 := hb1.trans (hb2.mono hb1.size)
  clear hb1 c7
  go_upto_region 25 with (fail)
  replace hq := (Below.heap_alloc _ (Obj.cells #[.int .i64 ak, .int .i64 an, .string at'] 26) w1.heap.size hl1).trans hq
  have hr : (w2.alloc (Obj.cells #[.int .i64 ak, .int .i64 an, .string at'] 26)).heap[w2.heap.size]? = some (.cells #[.int .i64 ak, .int .i64 an, .string at'] 26 (0, 0)) := heap_alloc_new _ _
  replace hb2 := hb2.alloc hb2.size (Obj.cells #[.int .i64 ak, .int .i64 an, .string at'] 26)
  generalize (w2.alloc (Obj.cells #[.int .i64 ak, .int .i64 an, .string at'] 26)) = W2 at hq hr hb2 ⊢
  obtain ⟨x0, x1, x2⟩ := val_cells hq
  obtain ⟨y0, y1, y2⟩ := val_cells hr
  go_wp2
  go_ret
  exact ⟨by simp, hb2⟩

set_option maxRecDepth 100000 in
theorem vplays_other (K : Int) (vk vn uk un : Int) (vt ut s : ByteArray) (w : World) (t1 : (K == 1) = false) (t2 : (K == 2) = false) (t3 : (K == 3) = false) (t4 : (K == 4) = false) (t5 : (K == 5) = false) (t6 : (K == 6) = false) (t7 : (K == 7) = false) (t8 : (K == 8) = false) :
    Calls Tryd.prog 7 #[.agg #[.int .i64 K, .int .i64 vk, .int .i64 vn, .string vt, .int .i64 uk, .int .i64 un, .string ut, .string s]] w fun e w' => e = .returned (.bool true) ∧ Below w.heap.size w w' := by
  go_enter Tryd.func7, Tryd.ntmps7
  go_wp2
  go_ret
  exact ⟨rfl, (Below.refl _ _).alloc (Nat.le_refl _) _⟩

end Go.Proofs.YtdbjmjeiaajdiaaDoor
