/- The walks of quadrillelaw1.sums and plays: each call answers what the reference answers. -/
import Derived.Test.YtedcfddbfpgeaaaDoorRefF
import Derived.Test.YtedcfddbfpgeaaaDoorNumC
import Derived.Test.YtedcfddbfpgeaaaDoorNumE
namespace Go.Proofs.YtedcfddbfpgeaaaDoor
open Go.RowKit
set_option linter.unusedVariables false
/-- f at x and y answers u and v, and turns nothing that was there. -/
def Bin (f : FuncId) (x y : Int) (u v : Value) : Prop := ∀ w, Calls Tryd.prog f #[.int .i64 x, .int .i64 y] w fun e w' => e = .returned (.tuple #[u, v]) ∧ Below w.heap.size w w'
theorem box_cells {w w1 : World} {K : Int} {x y : Int} {t : ByteArray} {T : TypeId} (hb : Below (w.alloc (.cells #[.int .i64 K, .int .i64 x, .int .i64 y, .string t] T)).heap.size (w.alloc (.cells #[.int .i64 K, .int .i64 x, .int .i64 y, .string t] T)) w1) :
    w1.cell? ⟨w.heap.size, 0, none⟩ = some (.int .i64 K) ∧ w1.cell? ⟨w.heap.size, 1, none⟩ = some (.int .i64 x) ∧ w1.cell? ⟨w.heap.size, 2, none⟩ = some (.int .i64 y) ∧ w1.cell? ⟨w.heap.size, 3, none⟩ = some (.string t) := by
  have h : w1.heap[w.heap.size]? = _ := (hb.block w.heap.size (by simp)).trans (heap_alloc_new _ _)
  exact ⟨Lib.cell_of_heap h 0, Lib.cell_of_heap h 1, Lib.cell_of_heap h 2, Lib.cell_of_heap h 3⟩
theorem box_below {w w1 : World} {o : Obj} (hb : Below (w.alloc o).heap.size (w.alloc o) w1) : Below w.heap.size w w1 := ((Below.refl _ _).alloc (Nat.le_refl _) _).trans (hb.mono (by simp))

set_option maxRecDepth 100000 in
theorem sums_1 (x y v : Int) (b : Bool) (t : ByteArray) (w : World) (hA : Bin 42 x y (.int .i64 v) (.bool b)) (hB : Bin 93 x y (.int .i64 v) (.bool b)) :
    Calls Tryd.prog 67 #[.agg #[.int .i64 1, .int .i64 x, .int .i64 y, .string t]] w fun e w' => e = .returned (.bool true) ∧ Below w.heap.size w w' := by
  have HA := Lib.hid hA
  have HB := Lib.hid hB
  clear hA hB
  unfold Bin at HA HB
  go_enter Tryd.func67, Tryd.ntmps67
  go_wp2_with (fail)
  refine (HA.out _).mono ?_
  rintro e w1 ⟨rfl, hb1⟩
  obtain ⟨c0, c1, c2, c3⟩ := box_cells hb1
  replace hb1 := box_below hb1
  go_wp2_with (fail)
  refine (HB.out _).mono ?_
  rintro e w2 ⟨rfl, hb2⟩
  replace hb2 := hb1.trans (hb2.mono hb1.size)
  clear hb1 c0 c1 c2 c3
  go_wp2
  go_ret
  exact ⟨by simp, hb2⟩

set_option maxRecDepth 100000 in
theorem plays_1 (x y v : Int) (b : Bool) (t : ByteArray) (w : World) (hA : Bin 42 x y (.int .i64 v) (.bool b)) (hB : Bin 93 x y (.int .i64 v) (.bool b)) :
    Calls Tryd.prog 50 #[.agg #[.int .i64 1, .int .i64 x, .int .i64 y, .string t]] w fun e w' => e = .returned (.bool true) ∧ Below w.heap.size w w' := by
  have H := Lib.hid (fun w => sums_1 x y v b t w hA hB)
  clear hA hB
  go_enter Tryd.func50, Tryd.ntmps50
  go_wp2_with (fail)
  refine (H.out _).mono ?_
  rintro e w1 ⟨rfl, hb1⟩
  replace hb1 := box_below hb1
  go_wp2
  go_ret
  exact ⟨rfl, hb1⟩

set_option maxRecDepth 100000 in
theorem sums_2 (x y v : Int) (b : Bool) (t : ByteArray) (w : World) (hA : Bin 44 x y (.int .i64 v) (.bool b)) (hB : Bin 94 x y (.int .i64 v) (.bool b)) :
    Calls Tryd.prog 67 #[.agg #[.int .i64 2, .int .i64 x, .int .i64 y, .string t]] w fun e w' => e = .returned (.bool true) ∧ Below w.heap.size w w' := by
  have HA := Lib.hid hA
  have HB := Lib.hid hB
  clear hA hB
  unfold Bin at HA HB
  go_enter Tryd.func67, Tryd.ntmps67
  go_wp2_with (fail)
  refine (HA.out _).mono ?_
  rintro e w1 ⟨rfl, hb1⟩
  obtain ⟨c0, c1, c2, c3⟩ := box_cells hb1
  replace hb1 := box_below hb1
  go_wp2_with (fail)
  refine (HB.out _).mono ?_
  rintro e w2 ⟨rfl, hb2⟩
  replace hb2 := hb1.trans (hb2.mono hb1.size)
  clear hb1 c0 c1 c2 c3
  go_wp2
  go_ret
  exact ⟨by simp, hb2⟩

set_option maxRecDepth 100000 in
theorem plays_2 (x y v : Int) (b : Bool) (t : ByteArray) (w : World) (hA : Bin 44 x y (.int .i64 v) (.bool b)) (hB : Bin 94 x y (.int .i64 v) (.bool b)) :
    Calls Tryd.prog 50 #[.agg #[.int .i64 2, .int .i64 x, .int .i64 y, .string t]] w fun e w' => e = .returned (.bool true) ∧ Below w.heap.size w w' := by
  have H := Lib.hid (fun w => sums_2 x y v b t w hA hB)
  clear hA hB
  go_enter Tryd.func50, Tryd.ntmps50
  go_wp2_with (fail)
  refine (H.out _).mono ?_
  rintro e w1 ⟨rfl, hb1⟩
  replace hb1 := box_below hb1
  go_wp2
  go_ret
  exact ⟨rfl, hb1⟩

set_option maxRecDepth 100000 in
theorem sums_3 (x y v : Int) (b : Bool) (t : ByteArray) (w : World) (hA : Bin 46 x y (.int .i64 v) (.bool b)) (hB : Bin 95 x y (.int .i64 v) (.bool b)) :
    Calls Tryd.prog 67 #[.agg #[.int .i64 3, .int .i64 x, .int .i64 y, .string t]] w fun e w' => e = .returned (.bool true) ∧ Below w.heap.size w w' := by
  have HA := Lib.hid hA
  have HB := Lib.hid hB
  clear hA hB
  unfold Bin at HA HB
  go_enter Tryd.func67, Tryd.ntmps67
  go_wp2_with (fail)
  refine (HA.out _).mono ?_
  rintro e w1 ⟨rfl, hb1⟩
  obtain ⟨c0, c1, c2, c3⟩ := box_cells hb1
  replace hb1 := box_below hb1
  go_wp2_with (fail)
  refine (HB.out _).mono ?_
  rintro e w2 ⟨rfl, hb2⟩
  replace hb2 := hb1.trans (hb2.mono hb1.size)
  clear hb1 c0 c1 c2 c3
  go_wp2
  go_ret
  exact ⟨by simp, hb2⟩

set_option maxRecDepth 100000 in
theorem plays_3 (x y v : Int) (b : Bool) (t : ByteArray) (w : World) (hA : Bin 46 x y (.int .i64 v) (.bool b)) (hB : Bin 95 x y (.int .i64 v) (.bool b)) :
    Calls Tryd.prog 50 #[.agg #[.int .i64 3, .int .i64 x, .int .i64 y, .string t]] w fun e w' => e = .returned (.bool true) ∧ Below w.heap.size w w' := by
  have H := Lib.hid (fun w => sums_3 x y v b t w hA hB)
  clear hA hB
  go_enter Tryd.func50, Tryd.ntmps50
  go_wp2_with (fail)
  refine (H.out _).mono ?_
  rintro e w1 ⟨rfl, hb1⟩
  replace hb1 := box_below hb1
  go_wp2
  go_ret
  exact ⟨rfl, hb1⟩

set_option maxRecDepth 100000 in
theorem plays_4 (x y v z : Int) (t : ByteArray) (w : World) (hA : Bin 30 x y (.int .i64 v) (.int .i64 z)) (hB : Bin 68 x y (.int .i64 v) (.int .i64 z)) :
    Calls Tryd.prog 50 #[.agg #[.int .i64 4, .int .i64 x, .int .i64 y, .string t]] w fun e w' => e = .returned (.bool true) ∧ Below w.heap.size w w' := by
  have HA := Lib.hid hA
  have HB := Lib.hid hB
  clear hA hB
  unfold Bin at HA HB
  go_enter Tryd.func50, Tryd.ntmps50
  go_wp2_with (fail)
  refine (HA.out _).mono ?_
  rintro e w1 ⟨rfl, hb1⟩
  obtain ⟨c0, c1, c2, c3⟩ := box_cells hb1
  replace hb1 := box_below hb1
  go_wp2_with (fail)
  refine (HB.out _).mono ?_
  rintro e w2 ⟨rfl, hb2⟩
  replace hb2 := hb1.trans (hb2.mono hb1.size)
  clear hb1 c0 c1 c2 c3
  go_wp2
  go_ret
  exact ⟨by simp, hb2⟩

set_option maxRecDepth 100000 in
theorem plays_5 (x y v z : Int) (t : ByteArray) (w : World) (hA : Bin 31 x y (.int .i64 v) (.int .i64 z)) (hB : Bin 69 x y (.int .i64 v) (.int .i64 z)) :
    Calls Tryd.prog 50 #[.agg #[.int .i64 5, .int .i64 x, .int .i64 y, .string t]] w fun e w' => e = .returned (.bool true) ∧ Below w.heap.size w w' := by
  have HA := Lib.hid hA
  have HB := Lib.hid hB
  clear hA hB
  unfold Bin at HA HB
  go_enter Tryd.func50, Tryd.ntmps50
  go_wp2_with (fail)
  refine (HA.out _).mono ?_
  rintro e w1 ⟨rfl, hb1⟩
  obtain ⟨c0, c1, c2, c3⟩ := box_cells hb1
  replace hb1 := box_below hb1
  go_wp2_with (fail)
  refine (HB.out _).mono ?_
  rintro e w2 ⟨rfl, hb2⟩
  replace hb2 := hb1.trans (hb2.mono hb1.size)
  clear hb1 c0 c1 c2 c3
  go_wp2
  go_ret
  exact ⟨by simp, hb2⟩

set_option maxRecDepth 100000 in
theorem plays_6 (x y v z : Int) (t : ByteArray) (w : World) (hA : Bin 47 x y (.int .i64 v) (.int .i64 z)) (hB : Bin 70 x y (.int .i64 v) (.int .i64 z)) :
    Calls Tryd.prog 50 #[.agg #[.int .i64 6, .int .i64 x, .int .i64 y, .string t]] w fun e w' => e = .returned (.bool true) ∧ Below w.heap.size w w' := by
  have HA := Lib.hid hA
  have HB := Lib.hid hB
  clear hA hB
  unfold Bin at HA HB
  go_enter Tryd.func50, Tryd.ntmps50
  go_wp2_with (fail)
  refine (HA.out _).mono ?_
  rintro e w1 ⟨rfl, hb1⟩
  obtain ⟨c0, c1, c2, c3⟩ := box_cells hb1
  replace hb1 := box_below hb1
  go_wp2_with (fail)
  refine (HB.out _).mono ?_
  rintro e w2 ⟨rfl, hb2⟩
  replace hb2 := hb1.trans (hb2.mono hb1.size)
  clear hb1 c0 c1 c2 c3
  go_wp2
  go_ret
  exact ⟨by simp, hb2⟩

set_option maxRecDepth 100000 in
theorem plays_7 (x y v z : Int) (t : ByteArray) (w : World) (hA : Bin 48 x y (.int .i64 v) (.int .i64 z)) (hB : Bin 71 x y (.int .i64 v) (.int .i64 z)) :
    Calls Tryd.prog 50 #[.agg #[.int .i64 7, .int .i64 x, .int .i64 y, .string t]] w fun e w' => e = .returned (.bool true) ∧ Below w.heap.size w w' := by
  have HA := Lib.hid hA
  have HB := Lib.hid hB
  clear hA hB
  unfold Bin at HA HB
  go_enter Tryd.func50, Tryd.ntmps50
  go_wp2_with (fail)
  refine (HA.out _).mono ?_
  rintro e w1 ⟨rfl, hb1⟩
  obtain ⟨c0, c1, c2, c3⟩ := box_cells hb1
  replace hb1 := box_below hb1
  go_wp2_with (fail)
  refine (HB.out _).mono ?_
  rintro e w2 ⟨rfl, hb2⟩
  replace hb2 := hb1.trans (hb2.mono hb1.size)
  clear hb1 c0 c1 c2 c3
  go_wp2
  go_ret
  exact ⟨by simp, hb2⟩

set_option maxRecDepth 100000 in
theorem plays_8 (x y v z : Int) (t : ByteArray) (w : World) (hA : Bin 49 x y (.int .i64 v) (.int .i64 z)) (hB : Bin 72 x y (.int .i64 v) (.int .i64 z)) :
    Calls Tryd.prog 50 #[.agg #[.int .i64 8, .int .i64 x, .int .i64 y, .string t]] w fun e w' => e = .returned (.bool true) ∧ Below w.heap.size w w' := by
  have HA := Lib.hid hA
  have HB := Lib.hid hB
  clear hA hB
  unfold Bin at HA HB
  go_enter Tryd.func50, Tryd.ntmps50
  go_wp2_with (fail)
  refine (HA.out _).mono ?_
  rintro e w1 ⟨rfl, hb1⟩
  obtain ⟨c0, c1, c2, c3⟩ := box_cells hb1
  replace hb1 := box_below hb1
  go_wp2_with (fail)
  refine (HB.out _).mono ?_
  rintro e w2 ⟨rfl, hb2⟩
  replace hb2 := hb1.trans (hb2.mono hb1.size)
  clear hb1 c0 c1 c2 c3
  go_wp2
  go_ret
  exact ⟨by simp, hb2⟩

set_option maxRecDepth 100000 in
theorem plays_9 (x y : Int) (t : ByteArray) (w : World) (h0 : -9223372036854775808 ≤ x) (h1 : x ≤ 9223372036854775807) (hN : NumW w) :
    Calls Tryd.prog 50 #[.agg #[.int .i64 9, .int .i64 x, .int .i64 y, .string t]] w fun e w' => e = .returned (.bool true) ∧ Below w.heap.size w w' := by
  have HA := Lib.hid (fun w hN => text_any x w h0 h1 hN)
  have HB := Lib.hid (fun w => rtext_any x w h0 h1)
  generalize (⟨(Lib.itoa x).toArray⟩ : ByteArray) = S at *
  go_enter Tryd.func50, Tryd.ntmps50
  go_wp2_with (fail)
  refine (HA.out _ (hN.below ((Below.refl _ _).alloc (Nat.le_refl _) _))).mono ?_
  rintro e w1 ⟨rfl, hb1⟩
  obtain ⟨c0, c1, c2, c3⟩ := box_cells hb1
  replace hb1 := box_below hb1
  go_wp2_with (fail)
  refine (HB.out _).mono ?_
  rintro e w2 ⟨rfl, hb2⟩
  replace hb2 := hb1.trans (hb2.mono hb1.size)
  clear hb1 c0 c1 c2 c3
  go_wp2
  go_ret
  exact ⟨by simp, hb2⟩
set_option maxRecDepth 100000 in
set_option maxHeartbeats 1000000 in
theorem plays_10 (x y : Int) (t : ByteArray) (w : World) (ht : t.size ≤ 140737488351232) (hN : NumW w) :
    Calls Tryd.prog 50 #[.agg #[.int .i64 10, .int .i64 x, .int .i64 y, .string t]] w fun e w' => e = .returned (.bool true) ∧ Below w.heap.size w w' := by
  obtain ⟨v, z, hr⟩ : ∃ v z, Dec.readS t.data.toList = (v, z) := ⟨_, _, rfl⟩
  have HA := Lib.hid (fun w hN => read_any t v z w ht hN hr)
  have HB := Lib.hid (fun w => rread_any t v z w ht hr)
  clear hr
  go_enter Tryd.func50, Tryd.ntmps50
  go_wp2_with (fail)
  refine (HA.out _ (hN.below ((Below.refl _ _).alloc (Nat.le_refl _) _))).mono ?_
  rintro e w1 ⟨rfl, hb1⟩
  obtain ⟨c0, c1, c2, c3⟩ := box_cells hb1
  replace hb1 := box_below hb1
  go_wp2_with (fail)
  refine (HB.out _).mono ?_
  rintro e w2 ⟨rfl, hb2⟩
  replace hb2 := hb1.trans (hb2.mono hb1.size)
  clear hb1 c0 c1 c2 c3
  go_wp2
  go_ret
  exact ⟨by simp, hb2⟩
set_option maxRecDepth 100000 in
set_option maxHeartbeats 1000000 in
theorem plays_other (K x y : Int) (t : ByteArray) (w : World) (t1 : (K == 1) = false) (t2 : (K == 2) = false) (t3 : (K == 3) = false) (t4 : (K == 4) = false) (t5 : (K == 5) = false) (t6 : (K == 6) = false) (t7 : (K == 7) = false) (t8 : (K == 8) = false) (t9 : (K == 9) = false) (t10 : (K == 10) = false) :
    Calls Tryd.prog 50 #[.agg #[.int .i64 K, .int .i64 x, .int .i64 y, .string t]] w fun e w' => e = .returned (.bool true) ∧ Below w.heap.size w w' := by
  go_enter Tryd.func50, Tryd.ntmps50
  go_wp2
  go_ret
  exact ⟨rfl, (Below.refl _ _).alloc (Nat.le_refl _) _⟩

end Go.Proofs.YtedcfddbfpgeaaaDoor
