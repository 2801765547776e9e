/- Number, AsText, Truth: package value and its reference. -/
import Derived.Test.YtdbjmjeiaajdiaaDoorValA
import Derived.Test.YtdbjmjeiaajdiaaDoorNumF
import Derived.Test.YtdbjmjeiaajdiaaDoorRefF
import Derived.Deep.QuietTactic
import Derived.BigQuiet
namespace Go.Proofs.YtdbjmjeiaajdiaaDoor
open Go.RowKit
set_option linter.unusedVariables false
theorem below_drewN' (B : Nat) (w : World) (n : Nat) : Below B w (w.drewN n) := ⟨rfl, rfl, rfl, Nat.le_refl _, fun _ _ => rfl⟩
/-- What a value that came in keeps. -/
structure VB (v : Val.V) : Prop where
  n0 : -9223372036854775808 ≤ v.n
  n1 : v.n ≤ 9223372036854775807
  sz : v.t.size ≤ 140737488351232
theorem VB.good {v : Val.V} (h : VB v) : VB (Val.good v) := by
  unfold Val.good
  cases Val.mayB v
  · exact (show VB (Val.err 4) from ⟨by decide, by decide, by decide⟩)
  · exact h
theorem fix_vv {g : Val.V} {k : Int} (h : g.k = k) : vv g = .agg #[.int .i64 k, .int .i64 g.n, .string g.t] := by rw [← h]

theorem truth_e (k n gn : Int) (t gt : ByteArray) (w : World) (HG0 : ∀ w, Calls Tryd.prog 28 #[.agg #[.int .i64 k, .int .i64 n, .string t]] w fun e w' => e = .returned (.agg #[.int .i64 4, .int .i64 gn, .string gt]) ∧ Below w.heap.size w w') : Calls Tryd.prog 15 #[.agg #[.int .i64 k, .int .i64 n, .string t]] w fun e w' => e = .returned (.tuple #[.bool false, .int .i64 gn]) ∧ Below w.heap.size w w' := by
  have HG := Lib.hid HG0
  clear HG0
  go_enter Tryd.func15, Tryd.ntmps15
  go_wp2_with (fail)
  refine (HG.out _).mono ?_
  rintro e w1 ⟨rfl, hb1⟩
  have hx := (hb1.block w.heap.size (by simp)).trans (heap_alloc_new _ _)
  have hs : Below w.heap.size w w1 := alloc_below hb1
  clear hb1
  have hx2 := fun k' n' t' => val_set (k' := k') (n' := n') (t' := t') hx
  obtain ⟨f0, f1, f2⟩ := val_frozen hx
  obtain ⟨x0, x1, x2⟩ := val_cells hx
  have hs2 : ∀ k' n' t', Below w.heap.size w (((w1.setCell ⟨w.heap.size, 0, none⟩ (.int .i64 k')).setCell ⟨w.heap.size, 1, none⟩ (.int .i64 n')).setCell ⟨w.heap.size, 2, none⟩ (.string t')) := fun k' n' t' => ((hs.setCell (p := ⟨w.heap.size, 0, none⟩) (by simp) _).setCell (p := ⟨w.heap.size, 1, none⟩) (by simp) _).setCell (p := ⟨w.heap.size, 2, none⟩) (by simp) _
  clear hx hs
  go_wp2
  have hx3 := hx2 4 gn gt
  have hs3 := hs2 4 gn gt
  clear hx2 hs2 f0 f1 f2 x0 x1 x2
  generalize (((w1.setCell ⟨w.heap.size, 0, none⟩ (.int .i64 4)).setCell ⟨w.heap.size, 1, none⟩ (.int .i64 gn)).setCell ⟨w.heap.size, 2, none⟩ (.string gt)) = w2 at hx3 hs3 ⊢
  obtain ⟨y0, y1, y2⟩ := val_cells hx3
  clear hx3
  go_quiet (fail)
  go_wp2
  go_ret2
  exact ⟨rfl, hs3.trans (below_drewN' _ _ _)⟩

theorem truth_tT (k n gn : Int) (t gt : ByteArray) (w : World) (HG0 : ∀ w, Calls Tryd.prog 28 #[.agg #[.int .i64 k, .int .i64 n, .string t]] w fun e w' => e = .returned (.agg #[.int .i64 3, .int .i64 gn, .string gt]) ∧ Below w.heap.size w w') (tt : (gt.toList == [84, 82, 85, 69]) = true) : Calls Tryd.prog 15 #[.agg #[.int .i64 k, .int .i64 n, .string t]] w fun e w' => e = .returned (.tuple #[.bool true, .int .i64 0]) ∧ Below w.heap.size w w' := by
  have HG := Lib.hid HG0
  clear HG0
  go_enter Tryd.func15, Tryd.ntmps15
  go_wp2_with (fail)
  refine (HG.out _).mono ?_
  rintro e w1 ⟨rfl, hb1⟩
  have hx := (hb1.block w.heap.size (by simp)).trans (heap_alloc_new _ _)
  have hs : Below w.heap.size w w1 := alloc_below hb1
  clear hb1
  have hx2 := fun k' n' t' => val_set (k' := k') (n' := n') (t' := t') hx
  obtain ⟨f0, f1, f2⟩ := val_frozen hx
  obtain ⟨x0, x1, x2⟩ := val_cells hx
  have hs2 : ∀ k' n' t', Below w.heap.size w (((w1.setCell ⟨w.heap.size, 0, none⟩ (.int .i64 k')).setCell ⟨w.heap.size, 1, none⟩ (.int .i64 n')).setCell ⟨w.heap.size, 2, none⟩ (.string t')) := fun k' n' t' => ((hs.setCell (p := ⟨w.heap.size, 0, none⟩) (by simp) _).setCell (p := ⟨w.heap.size, 1, none⟩) (by simp) _).setCell (p := ⟨w.heap.size, 2, none⟩) (by simp) _
  clear hx hs
  go_wp2
  go_ret2
  exact ⟨rfl, hs2 _ _ _⟩

theorem truth_tF (k n gn : Int) (t gt : ByteArray) (w : World) (HG0 : ∀ w, Calls Tryd.prog 28 #[.agg #[.int .i64 k, .int .i64 n, .string t]] w fun e w' => e = .returned (.agg #[.int .i64 3, .int .i64 gn, .string gt]) ∧ Below w.heap.size w w') (tt : (gt.toList == [84, 82, 85, 69]) = false) (tf : (gt.toList == [70, 65, 76, 83, 69]) = true) : Calls Tryd.prog 15 #[.agg #[.int .i64 k, .int .i64 n, .string t]] w fun e w' => e = .returned (.tuple #[.bool false, .int .i64 0]) ∧ Below w.heap.size w w' := by
  have HG := Lib.hid HG0
  clear HG0
  go_enter Tryd.func15, Tryd.ntmps15
  go_wp2_with (fail)
  refine (HG.out _).mono ?_
  rintro e w1 ⟨rfl, hb1⟩
  have hx := (hb1.block w.heap.size (by simp)).trans (heap_alloc_new _ _)
  have hs : Below w.heap.size w w1 := alloc_below hb1
  clear hb1
  have hx2 := fun k' n' t' => val_set (k' := k') (n' := n') (t' := t') hx
  obtain ⟨f0, f1, f2⟩ := val_frozen hx
  obtain ⟨x0, x1, x2⟩ := val_cells hx
  have hs2 : ∀ k' n' t', Below w.heap.size w (((w1.setCell ⟨w.heap.size, 0, none⟩ (.int .i64 k')).setCell ⟨w.heap.size, 1, none⟩ (.int .i64 n')).setCell ⟨w.heap.size, 2, none⟩ (.string t')) := fun k' n' t' => ((hs.setCell (p := ⟨w.heap.size, 0, none⟩) (by simp) _).setCell (p := ⟨w.heap.size, 1, none⟩) (by simp) _).setCell (p := ⟨w.heap.size, 2, none⟩) (by simp) _
  clear hx hs
  go_wp2
  go_ret2
  exact ⟨rfl, hs2 _ _ _⟩

theorem truth_tN (k n gn : Int) (t gt : ByteArray) (w : World) (HG0 : ∀ w, Calls Tryd.prog 28 #[.agg #[.int .i64 k, .int .i64 n, .string t]] w fun e w' => e = .returned (.agg #[.int .i64 3, .int .i64 gn, .string gt]) ∧ Below w.heap.size w w') (tt : (gt.toList == [84, 82, 85, 69]) = false) (tf : (gt.toList == [70, 65, 76, 83, 69]) = false) : Calls Tryd.prog 15 #[.agg #[.int .i64 k, .int .i64 n, .string t]] w fun e w' => e = .returned (.tuple #[.bool false, .int .i64 4]) ∧ Below w.heap.size w w' := by
  have HG := Lib.hid HG0
  clear HG0
  go_enter Tryd.func15, Tryd.ntmps15
  go_wp2_with (fail)
  refine (HG.out _).mono ?_
  rintro e w1 ⟨rfl, hb1⟩
  have hx := (hb1.block w.heap.size (by simp)).trans (heap_alloc_new _ _)
  have hs : Below w.heap.size w w1 := alloc_below hb1
  clear hb1
  have hx2 := fun k' n' t' => val_set (k' := k') (n' := n') (t' := t') hx
  obtain ⟨f0, f1, f2⟩ := val_frozen hx
  obtain ⟨x0, x1, x2⟩ := val_cells hx
  have hs2 : ∀ k' n' t', Below w.heap.size w (((w1.setCell ⟨w.heap.size, 0, none⟩ (.int .i64 k')).setCell ⟨w.heap.size, 1, none⟩ (.int .i64 n')).setCell ⟨w.heap.size, 2, none⟩ (.string t')) := fun k' n' t' => ((hs.setCell (p := ⟨w.heap.size, 0, none⟩) (by simp) _).setCell (p := ⟨w.heap.size, 1, none⟩) (by simp) _).setCell (p := ⟨w.heap.size, 2, none⟩) (by simp) _
  clear hx hs
  go_wp2
  go_ret2
  exact ⟨rfl, hs2 _ _ _⟩

theorem truth_o (gk : Int) (k n gn : Int) (t gt : ByteArray) (w : World) (HG0 : ∀ w, Calls Tryd.prog 28 #[.agg #[.int .i64 k, .int .i64 n, .string t]] w fun e w' => e = .returned (.agg #[.int .i64 gk, .int .i64 gn, .string gt]) ∧ Below w.heap.size w w') (g3 : (gk == 3) = false) (m3 : (gk != 3) = true) (g4 : (gk == 4) = false) (m4 : (gk != 4) = true) : Calls Tryd.prog 15 #[.agg #[.int .i64 k, .int .i64 n, .string t]] w fun e w' => e = .returned (.tuple #[.bool (gn != 0), .int .i64 0]) ∧ Below w.heap.size w w' := by
  have HG := Lib.hid HG0
  clear HG0
  go_enter Tryd.func15, Tryd.ntmps15
  go_wp2_with (fail)
  refine (HG.out _).mono ?_
  rintro e w1 ⟨rfl, hb1⟩
  have hx := (hb1.block w.heap.size (by simp)).trans (heap_alloc_new _ _)
  have hs : Below w.heap.size w w1 := alloc_below hb1
  clear hb1
  have hx2 := fun k' n' t' => val_set (k' := k') (n' := n') (t' := t') hx
  obtain ⟨f0, f1, f2⟩ := val_frozen hx
  obtain ⟨x0, x1, x2⟩ := val_cells hx
  have hs2 : ∀ k' n' t', Below w.heap.size w (((w1.setCell ⟨w.heap.size, 0, none⟩ (.int .i64 k')).setCell ⟨w.heap.size, 1, none⟩ (.int .i64 n')).setCell ⟨w.heap.size, 2, none⟩ (.string t')) := fun k' n' t' => ((hs.setCell (p := ⟨w.heap.size, 0, none⟩) (by simp) _).setCell (p := ⟨w.heap.size, 1, none⟩) (by simp) _).setCell (p := ⟨w.heap.size, 2, none⟩) (by simp) _
  clear hx hs
  go_wp2
  go_ret2
  exact ⟨rfl, hs2 _ _ _⟩

theorem truth_any (v : Val.V) (w : World) : Calls Tryd.prog 15 #[vv v] w fun e w' => e = .returned (.tuple #[.bool (Val.truth v).1, .int .i64 (Val.truth v).2]) ∧ Below w.heap.size w w' := by
  have HG := fun w => vgood_any v w
  unfold Val.truth
  generalize Val.good v = g at HG ⊢
  obtain ⟨gk, gn, gt⟩ := g
  obtain ⟨k, n, t⟩ := v
  unfold Val.truthG Val.isT Val.isF
  simp only
  by_cases h4 : gk = 4
  · subst h4
    exact truth_e k n gn t gt w HG
  rw [show (gk == 4) = false by simpa using h4]
  by_cases h3 : gk = 3
  · subst h3
    cases tt : (gt.toList == [84, 82, 85, 69]) with
    | true => exact truth_tT k n gn t gt w HG tt
    | false =>
      cases tf : (gt.toList == [70, 65, 76, 83, 69]) with
      | true => exact truth_tF k n gn t gt w HG tt tf
      | false => exact truth_tN k n gn t gt w HG tt tf
  rw [show (gk == 3) = false by simpa using h3]
  exact truth_o gk k n gn t gt w HG (by simpa using h3) (by simpa using h3) (by simpa using h4) (by simpa using h4)

theorem number_e (k n gn : Int) (t gt : ByteArray) (w : World) (HG0 : ∀ w, Calls Tryd.prog 28 #[.agg #[.int .i64 k, .int .i64 n, .string t]] w fun e w' => e = .returned (.agg #[.int .i64 4, .int .i64 gn, .string gt]) ∧ Below w.heap.size w w') : Calls Tryd.prog 14 #[.agg #[.int .i64 k, .int .i64 n, .string t]] w fun e w' => e = .returned (.tuple #[.int .i64 0, .int .i64 gn]) ∧ Below w.heap.size w w' := by
  have HG := Lib.hid HG0
  clear HG0
  go_enter Tryd.func14, Tryd.ntmps14
  go_wp2_with (fail)
  refine (HG.out _).mono ?_
  rintro e w1 ⟨rfl, hb1⟩
  have hx := (hb1.block w.heap.size (by simp)).trans (heap_alloc_new _ _)
  have hs : Below w.heap.size w w1 := alloc_below hb1
  clear hb1
  have hx2 := fun k' n' t' => val_set (k' := k') (n' := n') (t' := t') hx
  obtain ⟨f0, f1, f2⟩ := val_frozen hx
  obtain ⟨x0, x1, x2⟩ := val_cells hx
  have hs2 : ∀ k' n' t', Below w.heap.size w (((w1.setCell ⟨w.heap.size, 0, none⟩ (.int .i64 k')).setCell ⟨w.heap.size, 1, none⟩ (.int .i64 n')).setCell ⟨w.heap.size, 2, none⟩ (.string t')) := fun k' n' t' => ((hs.setCell (p := ⟨w.heap.size, 0, none⟩) (by simp) _).setCell (p := ⟨w.heap.size, 1, none⟩) (by simp) _).setCell (p := ⟨w.heap.size, 2, none⟩) (by simp) _
  clear hx hs
  go_wp2
  have hx3 := hx2 4 gn gt
  have hs3 := hs2 4 gn gt
  clear hx2 hs2 f0 f1 f2 x0 x1 x2
  generalize (((w1.setCell ⟨w.heap.size, 0, none⟩ (.int .i64 4)).setCell ⟨w.heap.size, 1, none⟩ (.int .i64 gn)).setCell ⟨w.heap.size, 2, none⟩ (.string gt)) = w2 at hx3 hs3 ⊢
  obtain ⟨y0, y1, y2⟩ := val_cells hx3
  clear hx3
  go_quiet (fail)
  go_wp2
  go_ret2
  exact ⟨rfl, hs3.trans (below_drewN' _ _ _)⟩

theorem number_tN (k n gn : Int) (t gt : ByteArray) (w : World) (HG0 : ∀ w, Calls Tryd.prog 28 #[.agg #[.int .i64 k, .int .i64 n, .string t]] w fun e w' => e = .returned (.agg #[.int .i64 3, .int .i64 gn, .string gt]) ∧ Below w.heap.size w w') (x y : Int) (HR : ∀ w', Below w.heap.size w w' → Calls Tryd.prog 31 #[.string gt] w' fun e w'' => e = .returned (.tuple #[.int .i64 x, .int .i64 y]) ∧ Below w'.heap.size w' w'') (ty : (y != 0) = true) : Calls Tryd.prog 14 #[.agg #[.int .i64 k, .int .i64 n, .string t]] w fun e w' => e = .returned (.tuple #[.int .i64 0, .int .i64 4]) ∧ Below w.heap.size w w' := by
  have HG := Lib.hid HG0
  clear HG0
  go_enter Tryd.func14, Tryd.ntmps14
  go_wp2_with (fail)
  refine (HG.out _).mono ?_
  rintro e w1 ⟨rfl, hb1⟩
  have hx := (hb1.block w.heap.size (by simp)).trans (heap_alloc_new _ _)
  have hs : Below w.heap.size w w1 := alloc_below hb1
  clear hb1
  have hx2 := fun k' n' t' => val_set (k' := k') (n' := n') (t' := t') hx
  obtain ⟨f0, f1, f2⟩ := val_frozen hx
  obtain ⟨x0, x1, x2⟩ := val_cells hx
  have hs2 : ∀ k' n' t', Below w.heap.size w (((w1.setCell ⟨w.heap.size, 0, none⟩ (.int .i64 k')).setCell ⟨w.heap.size, 1, none⟩ (.int .i64 n')).setCell ⟨w.heap.size, 2, none⟩ (.string t')) := fun k' n' t' => ((hs.setCell (p := ⟨w.heap.size, 0, none⟩) (by simp) _).setCell (p := ⟨w.heap.size, 1, none⟩) (by simp) _).setCell (p := ⟨w.heap.size, 2, none⟩) (by simp) _
  clear hx hs
  have HC := Lib.hid HR
  clear HR
  go_wp2_with (fail)
  refine (HC.out _ (hs2 _ _ _)).mono ?_
  rintro e w2 ⟨rfl, hb2⟩
  have hs3 := (hs2 _ _ _).trans (hb2.mono (hs2 _ _ _).size)
  clear hb2 hs2 hx2
  go_wp2
  go_ret2
  exact ⟨rfl, hs3⟩

theorem number_tO (k n gn : Int) (t gt : ByteArray) (w : World) (HG0 : ∀ w, Calls Tryd.prog 28 #[.agg #[.int .i64 k, .int .i64 n, .string t]] w fun e w' => e = .returned (.agg #[.int .i64 3, .int .i64 gn, .string gt]) ∧ Below w.heap.size w w') (x y : Int) (HR : ∀ w', Below w.heap.size w w' → Calls Tryd.prog 31 #[.string gt] w' fun e w'' => e = .returned (.tuple #[.int .i64 x, .int .i64 y]) ∧ Below w'.heap.size w' w'') (ty : (y != 0) = false) : Calls Tryd.prog 14 #[.agg #[.int .i64 k, .int .i64 n, .string t]] w fun e w' => e = .returned (.tuple #[.int .i64 x, .int .i64 0]) ∧ Below w.heap.size w w' := by
  have HG := Lib.hid HG0
  clear HG0
  go_enter Tryd.func14, Tryd.ntmps14
  go_wp2_with (fail)
  refine (HG.out _).mono ?_
  rintro e w1 ⟨rfl, hb1⟩
  have hx := (hb1.block w.heap.size (by simp)).trans (heap_alloc_new _ _)
  have hs : Below w.heap.size w w1 := alloc_below hb1
  clear hb1
  have hx2 := fun k' n' t' => val_set (k' := k') (n' := n') (t' := t') hx
  obtain ⟨f0, f1, f2⟩ := val_frozen hx
  obtain ⟨x0, x1, x2⟩ := val_cells hx
  have hs2 : ∀ k' n' t', Below w.heap.size w (((w1.setCell ⟨w.heap.size, 0, none⟩ (.int .i64 k')).setCell ⟨w.heap.size, 1, none⟩ (.int .i64 n')).setCell ⟨w.heap.size, 2, none⟩ (.string t')) := fun k' n' t' => ((hs.setCell (p := ⟨w.heap.size, 0, none⟩) (by simp) _).setCell (p := ⟨w.heap.size, 1, none⟩) (by simp) _).setCell (p := ⟨w.heap.size, 2, none⟩) (by simp) _
  clear hx hs
  have HC := Lib.hid HR
  clear HR
  go_wp2_with (fail)
  refine (HC.out _ (hs2 _ _ _)).mono ?_
  rintro e w2 ⟨rfl, hb2⟩
  have hs3 := (hs2 _ _ _).trans (hb2.mono (hs2 _ _ _).size)
  clear hb2 hs2 hx2
  go_wp2
  go_ret2
  exact ⟨rfl, hs3⟩

theorem number_o (gk : Int) (k n gn : Int) (t gt : ByteArray) (w : World) (HG0 : ∀ w, Calls Tryd.prog 28 #[.agg #[.int .i64 k, .int .i64 n, .string t]] w fun e w' => e = .returned (.agg #[.int .i64 gk, .int .i64 gn, .string gt]) ∧ Below w.heap.size w w') (g3 : (gk == 3) = false) (m3 : (gk != 3) = true) (g4 : (gk == 4) = false) (m4 : (gk != 4) = true) : Calls Tryd.prog 14 #[.agg #[.int .i64 k, .int .i64 n, .string t]] w fun e w' => e = .returned (.tuple #[.int .i64 gn, .int .i64 0]) ∧ Below w.heap.size w w' := by
  have HG := Lib.hid HG0
  clear HG0
  go_enter Tryd.func14, Tryd.ntmps14
  go_wp2_with (fail)
  refine (HG.out _).mono ?_
  rintro e w1 ⟨rfl, hb1⟩
  have hx := (hb1.block w.heap.size (by simp)).trans (heap_alloc_new _ _)
  have hs : Below w.heap.size w w1 := alloc_below hb1
  clear hb1
  have hx2 := fun k' n' t' => val_set (k' := k') (n' := n') (t' := t') hx
  obtain ⟨f0, f1, f2⟩ := val_frozen hx
  obtain ⟨x0, x1, x2⟩ := val_cells hx
  have hs2 : ∀ k' n' t', Below w.heap.size w (((w1.setCell ⟨w.heap.size, 0, none⟩ (.int .i64 k')).setCell ⟨w.heap.size, 1, none⟩ (.int .i64 n')).setCell ⟨w.heap.size, 2, none⟩ (.string t')) := fun k' n' t' => ((hs.setCell (p := ⟨w.heap.size, 0, none⟩) (by simp) _).setCell (p := ⟨w.heap.size, 1, none⟩) (by simp) _).setCell (p := ⟨w.heap.size, 2, none⟩) (by simp) _
  clear hx hs
  go_wp2
  go_ret2
  exact ⟨rfl, hs2 _ _ _⟩

theorem number_any (v : Val.V) (w : World) (hv : VB v) (hN : NumW w) : Calls Tryd.prog 14 #[vv v] w fun e w' => e = .returned (.tuple #[.int .i64 (Val.number v).1, .int .i64 (Val.number v).2]) ∧ Below w.heap.size w w' := by
  have HG := fun w => vgood_any v w
  have HB := hv.good
  unfold Val.number
  generalize Val.good v = g at HG HB ⊢
  obtain ⟨gk, gn, gt⟩ := g
  obtain ⟨k, n, t⟩ := v
  unfold Val.numG
  simp only
  by_cases h3 : gk = 3
  · subst h3
    rcases hxy : Dec.readS gt.data.toList with ⟨x, y⟩
    have HR : ∀ w', Below w.heap.size w w' → Calls Tryd.prog 31 #[.string gt] w' fun e w'' => e = .returned (.tuple #[.int .i64 x, .int .i64 y]) ∧ Below w'.heap.size w' w'' := fun w' hb => read_any gt x y w' HB.sz (hN.below hb) hxy
    by_cases h0 : y = 0
    · subst h0
      exact number_tO k n gn t gt w HG x 0 HR rfl
    · have ty : (y == 0) = false := by simpa using h0
      simp only [ty]
      exact number_tN k n gn t gt w HG x y HR (by simpa using h0)
  rw [show (gk == 3) = false by simpa using h3]
  by_cases h4 : gk = 4
  · subst h4
    exact number_e k n gn t gt w HG
  rw [show (gk == 4) = false by simpa using h4]
  exact number_o gk k n gn t gt w HG (by simpa using h3) (by simpa using h3) (by simpa using h4) (by simpa using h4)

theorem astext_e (k n gn : Int) (t gt : ByteArray) (w : World) (HG0 : ∀ w, Calls Tryd.prog 28 #[.agg #[.int .i64 k, .int .i64 n, .string t]] w fun e w' => e = .returned (.agg #[.int .i64 4, .int .i64 gn, .string gt]) ∧ Below w.heap.size w w') : Calls Tryd.prog 10 #[.agg #[.int .i64 k, .int .i64 n, .string t]] w fun e w' => e = .returned (.tuple #[.string ⟨#[]⟩, .int .i64 gn]) ∧ Below w.heap.size w w' := by
  have HG := Lib.hid HG0
  clear HG0
  go_enter Tryd.func10, Tryd.ntmps10
  go_wp2_with (fail)
  refine (HG.out _).mono ?_
  rintro e w1 ⟨rfl, hb1⟩
  have hx := (hb1.block w.heap.size (by simp)).trans (heap_alloc_new _ _)
  have hs : Below w.heap.size w w1 := alloc_below hb1
  clear hb1
  have hx2 := fun k' n' t' => val_set (k' := k') (n' := n') (t' := t') hx
  obtain ⟨f0, f1, f2⟩ := val_frozen hx
  obtain ⟨x0, x1, x2⟩ := val_cells hx
  have hs2 : ∀ k' n' t', Below w.heap.size w (((w1.setCell ⟨w.heap.size, 0, none⟩ (.int .i64 k')).setCell ⟨w.heap.size, 1, none⟩ (.int .i64 n')).setCell ⟨w.heap.size, 2, none⟩ (.string t')) := fun k' n' t' => ((hs.setCell (p := ⟨w.heap.size, 0, none⟩) (by simp) _).setCell (p := ⟨w.heap.size, 1, none⟩) (by simp) _).setCell (p := ⟨w.heap.size, 2, none⟩) (by simp) _
  clear hx hs
  go_wp2
  have hx3 := hx2 4 gn gt
  have hs3 := hs2 4 gn gt
  clear hx2 hs2 f0 f1 f2 x0 x1 x2
  generalize (((w1.setCell ⟨w.heap.size, 0, none⟩ (.int .i64 4)).setCell ⟨w.heap.size, 1, none⟩ (.int .i64 gn)).setCell ⟨w.heap.size, 2, none⟩ (.string gt)) = w2 at hx3 hs3 ⊢
  obtain ⟨y0, y1, y2⟩ := val_cells hx3
  clear hx3
  go_quiet (fail)
  go_wp2
  go_ret2
  exact ⟨rfl, hs3.trans (below_drewN' _ _ _)⟩

theorem astext_i (k n gn : Int) (t gt : ByteArray) (w : World) (HG0 : ∀ w, Calls Tryd.prog 28 #[.agg #[.int .i64 k, .int .i64 n, .string t]] w fun e w' => e = .returned (.agg #[.int .i64 1, .int .i64 gn, .string gt]) ∧ Below w.heap.size w w') (HR : ∀ w', Below w.heap.size w w' → Calls Tryd.prog 29 #[.int .i64 gn] w' fun e w'' => e = .returned (.string ⟨(Lib.itoa gn).toArray⟩) ∧ Below w'.heap.size w' w'') : Calls Tryd.prog 10 #[.agg #[.int .i64 k, .int .i64 n, .string t]] w fun e w' => e = .returned (.tuple #[.string ⟨(Lib.itoa gn).toArray⟩, .int .i64 0]) ∧ Below w.heap.size w w' := by
  have HG := Lib.hid HG0
  clear HG0
  go_enter Tryd.func10, Tryd.ntmps10
  go_wp2_with (fail)
  refine (HG.out _).mono ?_
  rintro e w1 ⟨rfl, hb1⟩
  have hx := (hb1.block w.heap.size (by simp)).trans (heap_alloc_new _ _)
  have hs : Below w.heap.size w w1 := alloc_below hb1
  clear hb1
  have hx2 := fun k' n' t' => val_set (k' := k') (n' := n') (t' := t') hx
  obtain ⟨f0, f1, f2⟩ := val_frozen hx
  obtain ⟨x0, x1, x2⟩ := val_cells hx
  have hs2 : ∀ k' n' t', Below w.heap.size w (((w1.setCell ⟨w.heap.size, 0, none⟩ (.int .i64 k')).setCell ⟨w.heap.size, 1, none⟩ (.int .i64 n')).setCell ⟨w.heap.size, 2, none⟩ (.string t')) := fun k' n' t' => ((hs.setCell (p := ⟨w.heap.size, 0, none⟩) (by simp) _).setCell (p := ⟨w.heap.size, 1, none⟩) (by simp) _).setCell (p := ⟨w.heap.size, 2, none⟩) (by simp) _
  clear hx hs
  have HC := Lib.hid HR
  clear HR
  go_wp2_with (fail)
  refine (HC.out _ (hs2 _ _ _)).mono ?_
  rintro e w2 ⟨rfl, hb2⟩
  have hs3 := (hs2 _ _ _).trans (hb2.mono (hs2 _ _ _).size)
  clear hb2 hs2 hx2
  go_wp2
  go_ret2
  exact ⟨rfl, hs3⟩

theorem astext_b (k n gn : Int) (t gt : ByteArray) (w : World) (HG0 : ∀ w, Calls Tryd.prog 28 #[.agg #[.int .i64 k, .int .i64 n, .string t]] w fun e w' => e = .returned (.agg #[.int .i64 2, .int .i64 gn, .string gt]) ∧ Below w.heap.size w w') (HW : ∀ w', Below w.heap.size w w' → Calls Tryd.prog 30 #[.int .i64 gn] w' fun e w'' => e = .returned (.string (Val.word gn)) ∧ Below w'.heap.size w' w'') : Calls Tryd.prog 10 #[.agg #[.int .i64 k, .int .i64 n, .string t]] w fun e w' => e = .returned (.tuple #[.string (Val.word gn), .int .i64 0]) ∧ Below w.heap.size w w' := by
  have HG := Lib.hid HG0
  clear HG0
  go_enter Tryd.func10, Tryd.ntmps10
  go_wp2_with (fail)
  refine (HG.out _).mono ?_
  rintro e w1 ⟨rfl, hb1⟩
  have hx := (hb1.block w.heap.size (by simp)).trans (heap_alloc_new _ _)
  have hs : Below w.heap.size w w1 := alloc_below hb1
  clear hb1
  have hx2 := fun k' n' t' => val_set (k' := k') (n' := n') (t' := t') hx
  obtain ⟨f0, f1, f2⟩ := val_frozen hx
  obtain ⟨x0, x1, x2⟩ := val_cells hx
  have hs2 : ∀ k' n' t', Below w.heap.size w (((w1.setCell ⟨w.heap.size, 0, none⟩ (.int .i64 k')).setCell ⟨w.heap.size, 1, none⟩ (.int .i64 n')).setCell ⟨w.heap.size, 2, none⟩ (.string t')) := fun k' n' t' => ((hs.setCell (p := ⟨w.heap.size, 0, none⟩) (by simp) _).setCell (p := ⟨w.heap.size, 1, none⟩) (by simp) _).setCell (p := ⟨w.heap.size, 2, none⟩) (by simp) _
  clear hx hs
  have HC := Lib.hid HW
  clear HW
  go_wp2_with (fail)
  refine (HC.out _ (hs2 _ _ _)).mono ?_
  rintro e w2 ⟨rfl, hb2⟩
  have hs3 := (hs2 _ _ _).trans (hb2.mono (hs2 _ _ _).size)
  clear hb2 hs2 hx2
  go_wp2
  go_ret2
  exact ⟨rfl, hs3⟩

theorem astext_o (gk : Int) (k n gn : Int) (t gt : ByteArray) (w : World) (HG0 : ∀ w, Calls Tryd.prog 28 #[.agg #[.int .i64 k, .int .i64 n, .string t]] w fun e w' => e = .returned (.agg #[.int .i64 gk, .int .i64 gn, .string gt]) ∧ Below w.heap.size w w') (g1 : (gk == 1) = false) (m1 : (gk != 1) = true) (g2 : (gk == 2) = false) (m2 : (gk != 2) = true) (g4 : (gk == 4) = false) (m4 : (gk != 4) = true) : Calls Tryd.prog 10 #[.agg #[.int .i64 k, .int .i64 n, .string t]] w fun e w' => e = .returned (.tuple #[.string gt, .int .i64 0]) ∧ Below w.heap.size w w' := by
  have HG := Lib.hid HG0
  clear HG0
  go_enter Tryd.func10, Tryd.ntmps10
  go_wp2_with (fail)
  refine (HG.out _).mono ?_
  rintro e w1 ⟨rfl, hb1⟩
  have hx := (hb1.block w.heap.size (by simp)).trans (heap_alloc_new _ _)
  have hs : Below w.heap.size w w1 := alloc_below hb1
  clear hb1
  have hx2 := fun k' n' t' => val_set (k' := k') (n' := n') (t' := t') hx
  obtain ⟨f0, f1, f2⟩ := val_frozen hx
  obtain ⟨x0, x1, x2⟩ := val_cells hx
  have hs2 : ∀ k' n' t', Below w.heap.size w (((w1.setCell ⟨w.heap.size, 0, none⟩ (.int .i64 k')).setCell ⟨w.heap.size, 1, none⟩ (.int .i64 n')).setCell ⟨w.heap.size, 2, none⟩ (.string t')) := fun k' n' t' => ((hs.setCell (p := ⟨w.heap.size, 0, none⟩) (by simp) _).setCell (p := ⟨w.heap.size, 1, none⟩) (by simp) _).setCell (p := ⟨w.heap.size, 2, none⟩) (by simp) _
  clear hx hs
  go_wp2
  go_ret2
  exact ⟨rfl, hs2 _ _ _⟩

theorem astext_any (v : Val.V) (w : World) (hv : VB v) (hN : NumW w) : Calls Tryd.prog 10 #[vv v] w fun e w' => e = .returned (.tuple #[.string (Val.asText v).1, .int .i64 (Val.asText v).2]) ∧ Below w.heap.size w w' := by
  have HG := fun w => vgood_any v w
  have HB := hv.good
  unfold Val.asText
  generalize Val.good v = g at HG HB ⊢
  obtain ⟨gk, gn, gt⟩ := g
  obtain ⟨k, n, t⟩ := v
  unfold Val.textG
  simp only
  by_cases h1 : gk = 1
  · subst h1
    exact astext_i k n gn t gt w HG (fun w' hb => text_any gn w' HB.n0 HB.n1 (hN.below hb))
  rw [show (gk == 1) = false by simpa using h1]
  by_cases h2 : gk = 2
  · subst h2
    exact astext_b k n gn t gt w HG (fun w' _ => (word_any gn w').mono fun e w2 h => ⟨h.1, h.2 ▸ Below.refl _ _⟩)
  rw [show (gk == 2) = false by simpa using h2]
  by_cases h4 : gk = 4
  · subst h4
    exact astext_e k n gn t gt w HG
  rw [show (gk == 4) = false by simpa using h4]
  exact astext_o gk k n gn t gt w HG (by simpa using h1) (by simpa using h1) (by simpa using h2) (by simpa using h2) (by simpa using h4) (by simpa using h4)

theorem rtruth_e (k n gn : Int) (t gt : ByteArray) (w : World) (HG0 : ∀ w, Calls Tryd.prog 53 #[.agg #[.int .i64 k, .int .i64 n, .string t]] w fun e w' => e = .returned (.agg #[.int .i64 4, .int .i64 gn, .string gt]) ∧ Below w.heap.size w w') : Calls Tryd.prog 22 #[.agg #[.int .i64 k, .int .i64 n, .string t]] w fun e w' => e = .returned (.tuple #[.bool false, .int .i64 gn]) ∧ Below w.heap.size w w' := by
  have HG := Lib.hid HG0
  clear HG0
  go_enter Tryd.func22, Tryd.ntmps22
  go_wp2_with (fail)
  refine (HG.out _).mono ?_
  rintro e w1 ⟨rfl, hb1⟩
  have hx := (hb1.block w.heap.size (by simp)).trans (heap_alloc_new _ _)
  have hs : Below w.heap.size w w1 := alloc_below hb1
  clear hb1
  have hx2 := fun k' n' t' => val_set (k' := k') (n' := n') (t' := t') hx
  obtain ⟨f0, f1, f2⟩ := val_frozen hx
  obtain ⟨x0, x1, x2⟩ := val_cells hx
  have hs2 : ∀ k' n' t', Below w.heap.size w (((w1.setCell ⟨w.heap.size, 0, none⟩ (.int .i64 k')).setCell ⟨w.heap.size, 1, none⟩ (.int .i64 n')).setCell ⟨w.heap.size, 2, none⟩ (.string t')) := fun k' n' t' => ((hs.setCell (p := ⟨w.heap.size, 0, none⟩) (by simp) _).setCell (p := ⟨w.heap.size, 1, none⟩) (by simp) _).setCell (p := ⟨w.heap.size, 2, none⟩) (by simp) _
  clear hx hs
  go_wp2
  have hx3 := hx2 4 gn gt
  have hs3 := hs2 4 gn gt
  clear hx2 hs2 f0 f1 f2 x0 x1 x2
  generalize (((w1.setCell ⟨w.heap.size, 0, none⟩ (.int .i64 4)).setCell ⟨w.heap.size, 1, none⟩ (.int .i64 gn)).setCell ⟨w.heap.size, 2, none⟩ (.string gt)) = w2 at hx3 hs3 ⊢
  obtain ⟨y0, y1, y2⟩ := val_cells hx3
  clear hx3
  go_quiet (fail)
  go_wp2
  go_ret2
  exact ⟨rfl, hs3.trans (below_drewN' _ _ _)⟩

theorem rtruth_tT (k n gn : Int) (t gt : ByteArray) (w : World) (HG0 : ∀ w, Calls Tryd.prog 53 #[.agg #[.int .i64 k, .int .i64 n, .string t]] w fun e w' => e = .returned (.agg #[.int .i64 3, .int .i64 gn, .string gt]) ∧ Below w.heap.size w w') (tt : (gt.toList == [84, 82, 85, 69]) = true) : Calls Tryd.prog 22 #[.agg #[.int .i64 k, .int .i64 n, .string t]] w fun e w' => e = .returned (.tuple #[.bool true, .int .i64 0]) ∧ Below w.heap.size w w' := by
  have HG := Lib.hid HG0
  clear HG0
  go_enter Tryd.func22, Tryd.ntmps22
  go_wp2_with (fail)
  refine (HG.out _).mono ?_
  rintro e w1 ⟨rfl, hb1⟩
  have hx := (hb1.block w.heap.size (by simp)).trans (heap_alloc_new _ _)
  have hs : Below w.heap.size w w1 := alloc_below hb1
  clear hb1
  have hx2 := fun k' n' t' => val_set (k' := k') (n' := n') (t' := t') hx
  obtain ⟨f0, f1, f2⟩ := val_frozen hx
  obtain ⟨x0, x1, x2⟩ := val_cells hx
  have hs2 : ∀ k' n' t', Below w.heap.size w (((w1.setCell ⟨w.heap.size, 0, none⟩ (.int .i64 k')).setCell ⟨w.heap.size, 1, none⟩ (.int .i64 n')).setCell ⟨w.heap.size, 2, none⟩ (.string t')) := fun k' n' t' => ((hs.setCell (p := ⟨w.heap.size, 0, none⟩) (by simp) _).setCell (p := ⟨w.heap.size, 1, none⟩) (by simp) _).setCell (p := ⟨w.heap.size, 2, none⟩) (by simp) _
  clear hx hs
  go_wp2
  go_ret2
  exact ⟨rfl, hs2 _ _ _⟩

theorem rtruth_tF (k n gn : Int) (t gt : ByteArray) (w : World) (HG0 : ∀ w, Calls Tryd.prog 53 #[.agg #[.int .i64 k, .int .i64 n, .string t]] w fun e w' => e = .returned (.agg #[.int .i64 3, .int .i64 gn, .string gt]) ∧ Below w.heap.size w w') (tt : (gt.toList == [84, 82, 85, 69]) = false) (tf : (gt.toList == [70, 65, 76, 83, 69]) = true) : Calls Tryd.prog 22 #[.agg #[.int .i64 k, .int .i64 n, .string t]] w fun e w' => e = .returned (.tuple #[.bool false, .int .i64 0]) ∧ Below w.heap.size w w' := by
  have HG := Lib.hid HG0
  clear HG0
  go_enter Tryd.func22, Tryd.ntmps22
  go_wp2_with (fail)
  refine (HG.out _).mono ?_
  rintro e w1 ⟨rfl, hb1⟩
  have hx := (hb1.block w.heap.size (by simp)).trans (heap_alloc_new _ _)
  have hs : Below w.heap.size w w1 := alloc_below hb1
  clear hb1
  have hx2 := fun k' n' t' => val_set (k' := k') (n' := n') (t' := t') hx
  obtain ⟨f0, f1, f2⟩ := val_frozen hx
  obtain ⟨x0, x1, x2⟩ := val_cells hx
  have hs2 : ∀ k' n' t', Below w.heap.size w (((w1.setCell ⟨w.heap.size, 0, none⟩ (.int .i64 k')).setCell ⟨w.heap.size, 1, none⟩ (.int .i64 n')).setCell ⟨w.heap.size, 2, none⟩ (.string t')) := fun k' n' t' => ((hs.setCell (p := ⟨w.heap.size, 0, none⟩) (by simp) _).setCell (p := ⟨w.heap.size, 1, none⟩) (by simp) _).setCell (p := ⟨w.heap.size, 2, none⟩) (by simp) _
  clear hx hs
  go_wp2
  go_ret2
  exact ⟨rfl, hs2 _ _ _⟩

theorem rtruth_tN (k n gn : Int) (t gt : ByteArray) (w : World) (HG0 : ∀ w, Calls Tryd.prog 53 #[.agg #[.int .i64 k, .int .i64 n, .string t]] w fun e w' => e = .returned (.agg #[.int .i64 3, .int .i64 gn, .string gt]) ∧ Below w.heap.size w w') (tt : (gt.toList == [84, 82, 85, 69]) = false) (tf : (gt.toList == [70, 65, 76, 83, 69]) = false) : Calls Tryd.prog 22 #[.agg #[.int .i64 k, .int .i64 n, .string t]] w fun e w' => e = .returned (.tuple #[.bool false, .int .i64 4]) ∧ Below w.heap.size w w' := by
  have HG := Lib.hid HG0
  clear HG0
  go_enter Tryd.func22, Tryd.ntmps22
  go_wp2_with (fail)
  refine (HG.out _).mono ?_
  rintro e w1 ⟨rfl, hb1⟩
  have hx := (hb1.block w.heap.size (by simp)).trans (heap_alloc_new _ _)
  have hs : Below w.heap.size w w1 := alloc_below hb1
  clear hb1
  have hx2 := fun k' n' t' => val_set (k' := k') (n' := n') (t' := t') hx
  obtain ⟨f0, f1, f2⟩ := val_frozen hx
  obtain ⟨x0, x1, x2⟩ := val_cells hx
  have hs2 : ∀ k' n' t', Below w.heap.size w (((w1.setCell ⟨w.heap.size, 0, none⟩ (.int .i64 k')).setCell ⟨w.heap.size, 1, none⟩ (.int .i64 n')).setCell ⟨w.heap.size, 2, none⟩ (.string t')) := fun k' n' t' => ((hs.setCell (p := ⟨w.heap.size, 0, none⟩) (by simp) _).setCell (p := ⟨w.heap.size, 1, none⟩) (by simp) _).setCell (p := ⟨w.heap.size, 2, none⟩) (by simp) _
  clear hx hs
  go_wp2
  go_ret2
  exact ⟨rfl, hs2 _ _ _⟩

theorem rtruth_o (gk : Int) (k n gn : Int) (t gt : ByteArray) (w : World) (HG0 : ∀ w, Calls Tryd.prog 53 #[.agg #[.int .i64 k, .int .i64 n, .string t]] w fun e w' => e = .returned (.agg #[.int .i64 gk, .int .i64 gn, .string gt]) ∧ Below w.heap.size w w') (g3 : (gk == 3) = false) (m3 : (gk != 3) = true) (g4 : (gk == 4) = false) (m4 : (gk != 4) = true) : Calls Tryd.prog 22 #[.agg #[.int .i64 k, .int .i64 n, .string t]] w fun e w' => e = .returned (.tuple #[.bool (gn != 0), .int .i64 0]) ∧ Below w.heap.size w w' := by
  have HG := Lib.hid HG0
  clear HG0
  go_enter Tryd.func22, Tryd.ntmps22
  go_wp2_with (fail)
  refine (HG.out _).mono ?_
  rintro e w1 ⟨rfl, hb1⟩
  have hx := (hb1.block w.heap.size (by simp)).trans (heap_alloc_new _ _)
  have hs : Below w.heap.size w w1 := alloc_below hb1
  clear hb1
  have hx2 := fun k' n' t' => val_set (k' := k') (n' := n') (t' := t') hx
  obtain ⟨f0, f1, f2⟩ := val_frozen hx
  obtain ⟨x0, x1, x2⟩ := val_cells hx
  have hs2 : ∀ k' n' t', Below w.heap.size w (((w1.setCell ⟨w.heap.size, 0, none⟩ (.int .i64 k')).setCell ⟨w.heap.size, 1, none⟩ (.int .i64 n')).setCell ⟨w.heap.size, 2, none⟩ (.string t')) := fun k' n' t' => ((hs.setCell (p := ⟨w.heap.size, 0, none⟩) (by simp) _).setCell (p := ⟨w.heap.size, 1, none⟩) (by simp) _).setCell (p := ⟨w.heap.size, 2, none⟩) (by simp) _
  clear hx hs
  go_wp2
  go_ret2
  exact ⟨rfl, hs2 _ _ _⟩

theorem rtruth_any (v : Val.V) (w : World) : Calls Tryd.prog 22 #[vv v] w fun e w' => e = .returned (.tuple #[.bool (Val.truth v).1, .int .i64 (Val.truth v).2]) ∧ Below w.heap.size w w' := by
  have HG := fun w => fit_any v w
  unfold Val.truth
  generalize Val.good v = g at HG ⊢
  obtain ⟨gk, gn, gt⟩ := g
  obtain ⟨k, n, t⟩ := v
  unfold Val.truthG Val.isT Val.isF
  simp only
  by_cases h4 : gk = 4
  · subst h4
    exact rtruth_e k n gn t gt w HG
  rw [show (gk == 4) = false by simpa using h4]
  by_cases h3 : gk = 3
  · subst h3
    cases tt : (gt.toList == [84, 82, 85, 69]) with
    | true => exact rtruth_tT k n gn t gt w HG tt
    | false =>
      cases tf : (gt.toList == [70, 65, 76, 83, 69]) with
      | true => exact rtruth_tF k n gn t gt w HG tt tf
      | false => exact rtruth_tN k n gn t gt w HG tt tf
  rw [show (gk == 3) = false by simpa using h3]
  exact rtruth_o gk k n gn t gt w HG (by simpa using h3) (by simpa using h3) (by simpa using h4) (by simpa using h4)

theorem rnumber_e (k n gn : Int) (t gt : ByteArray) (w : World) (HG0 : ∀ w, Calls Tryd.prog 53 #[.agg #[.int .i64 k, .int .i64 n, .string t]] w fun e w' => e = .returned (.agg #[.int .i64 4, .int .i64 gn, .string gt]) ∧ Below w.heap.size w w') : Calls Tryd.prog 20 #[.agg #[.int .i64 k, .int .i64 n, .string t]] w fun e w' => e = .returned (.tuple #[.int .i64 0, .int .i64 gn]) ∧ Below w.heap.size w w' := by
  have HG := Lib.hid HG0
  clear HG0
  go_enter Tryd.func20, Tryd.ntmps20
  go_wp2_with (fail)
  refine (HG.out _).mono ?_
  rintro e w1 ⟨rfl, hb1⟩
  have hx := (hb1.block w.heap.size (by simp)).trans (heap_alloc_new _ _)
  have hs : Below w.heap.size w w1 := alloc_below hb1
  clear hb1
  have hx2 := fun k' n' t' => val_set (k' := k') (n' := n') (t' := t') hx
  obtain ⟨f0, f1, f2⟩ := val_frozen hx
  obtain ⟨x0, x1, x2⟩ := val_cells hx
  have hs2 : ∀ k' n' t', Below w.heap.size w (((w1.setCell ⟨w.heap.size, 0, none⟩ (.int .i64 k')).setCell ⟨w.heap.size, 1, none⟩ (.int .i64 n')).setCell ⟨w.heap.size, 2, none⟩ (.string t')) := fun k' n' t' => ((hs.setCell (p := ⟨w.heap.size, 0, none⟩) (by simp) _).setCell (p := ⟨w.heap.size, 1, none⟩) (by simp) _).setCell (p := ⟨w.heap.size, 2, none⟩) (by simp) _
  clear hx hs
  go_wp2
  have hx3 := hx2 4 gn gt
  have hs3 := hs2 4 gn gt
  clear hx2 hs2 f0 f1 f2 x0 x1 x2
  generalize (((w1.setCell ⟨w.heap.size, 0, none⟩ (.int .i64 4)).setCell ⟨w.heap.size, 1, none⟩ (.int .i64 gn)).setCell ⟨w.heap.size, 2, none⟩ (.string gt)) = w2 at hx3 hs3 ⊢
  obtain ⟨y0, y1, y2⟩ := val_cells hx3
  clear hx3
  go_quiet (fail)
  go_wp2
  go_ret2
  exact ⟨rfl, hs3.trans (below_drewN' _ _ _)⟩

theorem rnumber_tN (k n gn : Int) (t gt : ByteArray) (w : World) (HG0 : ∀ w, Calls Tryd.prog 53 #[.agg #[.int .i64 k, .int .i64 n, .string t]] w fun e w' => e = .returned (.agg #[.int .i64 3, .int .i64 gn, .string gt]) ∧ Below w.heap.size w w') (x y : Int) (HR : ∀ w', Below w.heap.size w w' → Calls Tryd.prog 54 #[.string gt] w' fun e w'' => e = .returned (.tuple #[.int .i64 x, .int .i64 y]) ∧ Below w'.heap.size w' w'') (ty : (y != 0) = true) : Calls Tryd.prog 20 #[.agg #[.int .i64 k, .int .i64 n, .string t]] w fun e w' => e = .returned (.tuple #[.int .i64 0, .int .i64 4]) ∧ Below w.heap.size w w' := by
  have HG := Lib.hid HG0
  clear HG0
  go_enter Tryd.func20, Tryd.ntmps20
  go_wp2_with (fail)
  refine (HG.out _).mono ?_
  rintro e w1 ⟨rfl, hb1⟩
  have hx := (hb1.block w.heap.size (by simp)).trans (heap_alloc_new _ _)
  have hs : Below w.heap.size w w1 := alloc_below hb1
  clear hb1
  have hx2 := fun k' n' t' => val_set (k' := k') (n' := n') (t' := t') hx
  obtain ⟨f0, f1, f2⟩ := val_frozen hx
  obtain ⟨x0, x1, x2⟩ := val_cells hx
  have hs2 : ∀ k' n' t', Below w.heap.size w (((w1.setCell ⟨w.heap.size, 0, none⟩ (.int .i64 k')).setCell ⟨w.heap.size, 1, none⟩ (.int .i64 n')).setCell ⟨w.heap.size, 2, none⟩ (.string t')) := fun k' n' t' => ((hs.setCell (p := ⟨w.heap.size, 0, none⟩) (by simp) _).setCell (p := ⟨w.heap.size, 1, none⟩) (by simp) _).setCell (p := ⟨w.heap.size, 2, none⟩) (by simp) _
  clear hx hs
  have HC := Lib.hid HR
  clear HR
  go_wp2_with (fail)
  refine (HC.out _ (hs2 _ _ _)).mono ?_
  rintro e w2 ⟨rfl, hb2⟩
  have hs3 := (hs2 _ _ _).trans (hb2.mono (hs2 _ _ _).size)
  clear hb2 hs2 hx2
  go_wp2
  go_ret2
  exact ⟨rfl, hs3⟩

theorem rnumber_tO (k n gn : Int) (t gt : ByteArray) (w : World) (HG0 : ∀ w, Calls Tryd.prog 53 #[.agg #[.int .i64 k, .int .i64 n, .string t]] w fun e w' => e = .returned (.agg #[.int .i64 3, .int .i64 gn, .string gt]) ∧ Below w.heap.size w w') (x y : Int) (HR : ∀ w', Below w.heap.size w w' → Calls Tryd.prog 54 #[.string gt] w' fun e w'' => e = .returned (.tuple #[.int .i64 x, .int .i64 y]) ∧ Below w'.heap.size w' w'') (ty : (y != 0) = false) : Calls Tryd.prog 20 #[.agg #[.int .i64 k, .int .i64 n, .string t]] w fun e w' => e = .returned (.tuple #[.int .i64 x, .int .i64 0]) ∧ Below w.heap.size w w' := by
  have HG := Lib.hid HG0
  clear HG0
  go_enter Tryd.func20, Tryd.ntmps20
  go_wp2_with (fail)
  refine (HG.out _).mono ?_
  rintro e w1 ⟨rfl, hb1⟩
  have hx := (hb1.block w.heap.size (by simp)).trans (heap_alloc_new _ _)
  have hs : Below w.heap.size w w1 := alloc_below hb1
  clear hb1
  have hx2 := fun k' n' t' => val_set (k' := k') (n' := n') (t' := t') hx
  obtain ⟨f0, f1, f2⟩ := val_frozen hx
  obtain ⟨x0, x1, x2⟩ := val_cells hx
  have hs2 : ∀ k' n' t', Below w.heap.size w (((w1.setCell ⟨w.heap.size, 0, none⟩ (.int .i64 k')).setCell ⟨w.heap.size, 1, none⟩ (.int .i64 n')).setCell ⟨w.heap.size, 2, none⟩ (.string t')) := fun k' n' t' => ((hs.setCell (p := ⟨w.heap.size, 0, none⟩) (by simp) _).setCell (p := ⟨w.heap.size, 1, none⟩) (by simp) _).setCell (p := ⟨w.heap.size, 2, none⟩) (by simp) _
  clear hx hs
  have HC := Lib.hid HR
  clear HR
  go_wp2_with (fail)
  refine (HC.out _ (hs2 _ _ _)).mono ?_
  rintro e w2 ⟨rfl, hb2⟩
  have hs3 := (hs2 _ _ _).trans (hb2.mono (hs2 _ _ _).size)
  clear hb2 hs2 hx2
  go_wp2
  go_ret2
  exact ⟨rfl, hs3⟩

theorem rnumber_o (gk : Int) (k n gn : Int) (t gt : ByteArray) (w : World) (HG0 : ∀ w, Calls Tryd.prog 53 #[.agg #[.int .i64 k, .int .i64 n, .string t]] w fun e w' => e = .returned (.agg #[.int .i64 gk, .int .i64 gn, .string gt]) ∧ Below w.heap.size w w') (g3 : (gk == 3) = false) (m3 : (gk != 3) = true) (g4 : (gk == 4) = false) (m4 : (gk != 4) = true) : Calls Tryd.prog 20 #[.agg #[.int .i64 k, .int .i64 n, .string t]] w fun e w' => e = .returned (.tuple #[.int .i64 gn, .int .i64 0]) ∧ Below w.heap.size w w' := by
  have HG := Lib.hid HG0
  clear HG0
  go_enter Tryd.func20, Tryd.ntmps20
  go_wp2_with (fail)
  refine (HG.out _).mono ?_
  rintro e w1 ⟨rfl, hb1⟩
  have hx := (hb1.block w.heap.size (by simp)).trans (heap_alloc_new _ _)
  have hs : Below w.heap.size w w1 := alloc_below hb1
  clear hb1
  have hx2 := fun k' n' t' => val_set (k' := k') (n' := n') (t' := t') hx
  obtain ⟨f0, f1, f2⟩ := val_frozen hx
  obtain ⟨x0, x1, x2⟩ := val_cells hx
  have hs2 : ∀ k' n' t', Below w.heap.size w (((w1.setCell ⟨w.heap.size, 0, none⟩ (.int .i64 k')).setCell ⟨w.heap.size, 1, none⟩ (.int .i64 n')).setCell ⟨w.heap.size, 2, none⟩ (.string t')) := fun k' n' t' => ((hs.setCell (p := ⟨w.heap.size, 0, none⟩) (by simp) _).setCell (p := ⟨w.heap.size, 1, none⟩) (by simp) _).setCell (p := ⟨w.heap.size, 2, none⟩) (by simp) _
  clear hx hs
  go_wp2
  go_ret2
  exact ⟨rfl, hs2 _ _ _⟩

theorem rnumber_any (v : Val.V) (w : World) (hv : VB v) : Calls Tryd.prog 20 #[vv v] w fun e w' => e = .returned (.tuple #[.int .i64 (Val.number v).1, .int .i64 (Val.number v).2]) ∧ Below w.heap.size w w' := by
  have HG := fun w => fit_any v w
  have HB := hv.good
  unfold Val.number
  generalize Val.good v = g at HG HB ⊢
  obtain ⟨gk, gn, gt⟩ := g
  obtain ⟨k, n, t⟩ := v
  unfold Val.numG
  simp only
  by_cases h3 : gk = 3
  · subst h3
    rcases hxy : Dec.readS gt.data.toList with ⟨x, y⟩
    have HR : ∀ w', Below w.heap.size w w' → Calls Tryd.prog 54 #[.string gt] w' fun e w'' => e = .returned (.tuple #[.int .i64 x, .int .i64 y]) ∧ Below w'.heap.size w' w'' := fun w' hb => rread_any gt x y w' HB.sz hxy
    by_cases h0 : y = 0
    · subst h0
      exact rnumber_tO k n gn t gt w HG x 0 HR rfl
    · have ty : (y == 0) = false := by simpa using h0
      simp only [ty]
      exact rnumber_tN k n gn t gt w HG x y HR (by simpa using h0)
  rw [show (gk == 3) = false by simpa using h3]
  by_cases h4 : gk = 4
  · subst h4
    exact rnumber_e k n gn t gt w HG
  rw [show (gk == 4) = false by simpa using h4]
  exact rnumber_o gk k n gn t gt w HG (by simpa using h3) (by simpa using h3) (by simpa using h4) (by simpa using h4)

theorem rastext_e (k n gn : Int) (t gt : ByteArray) (w : World) (HG0 : ∀ w, Calls Tryd.prog 53 #[.agg #[.int .i64 k, .int .i64 n, .string t]] w fun e w' => e = .returned (.agg #[.int .i64 4, .int .i64 gn, .string gt]) ∧ Below w.heap.size w w') : Calls Tryd.prog 21 #[.agg #[.int .i64 k, .int .i64 n, .string t]] w fun e w' => e = .returned (.tuple #[.string ⟨#[]⟩, .int .i64 gn]) ∧ Below w.heap.size w w' := by
  have HG := Lib.hid HG0
  clear HG0
  go_enter Tryd.func21, Tryd.ntmps21
  go_wp2_with (fail)
  refine (HG.out _).mono ?_
  rintro e w1 ⟨rfl, hb1⟩
  have hx := (hb1.block w.heap.size (by simp)).trans (heap_alloc_new _ _)
  have hs : Below w.heap.size w w1 := alloc_below hb1
  clear hb1
  have hx2 := fun k' n' t' => val_set (k' := k') (n' := n') (t' := t') hx
  obtain ⟨f0, f1, f2⟩ := val_frozen hx
  obtain ⟨x0, x1, x2⟩ := val_cells hx
  have hs2 : ∀ k' n' t', Below w.heap.size w (((w1.setCell ⟨w.heap.size, 0, none⟩ (.int .i64 k')).setCell ⟨w.heap.size, 1, none⟩ (.int .i64 n')).setCell ⟨w.heap.size, 2, none⟩ (.string t')) := fun k' n' t' => ((hs.setCell (p := ⟨w.heap.size, 0, none⟩) (by simp) _).setCell (p := ⟨w.heap.size, 1, none⟩) (by simp) _).setCell (p := ⟨w.heap.size, 2, none⟩) (by simp) _
  clear hx hs
  go_wp2
  have hx3 := hx2 4 gn gt
  have hs3 := hs2 4 gn gt
  clear hx2 hs2 f0 f1 f2 x0 x1 x2
  generalize (((w1.setCell ⟨w.heap.size, 0, none⟩ (.int .i64 4)).setCell ⟨w.heap.size, 1, none⟩ (.int .i64 gn)).setCell ⟨w.heap.size, 2, none⟩ (.string gt)) = w2 at hx3 hs3 ⊢
  obtain ⟨y0, y1, y2⟩ := val_cells hx3
  clear hx3
  go_quiet (fail)
  go_wp2
  go_ret2
  exact ⟨rfl, hs3.trans (below_drewN' _ _ _)⟩

theorem rastext_i (k n gn : Int) (t gt : ByteArray) (w : World) (HG0 : ∀ w, Calls Tryd.prog 53 #[.agg #[.int .i64 k, .int .i64 n, .string t]] w fun e w' => e = .returned (.agg #[.int .i64 1, .int .i64 gn, .string gt]) ∧ Below w.heap.size w w') (HR : ∀ w', Below w.heap.size w w' → Calls Tryd.prog 55 #[.int .i64 gn] w' fun e w'' => e = .returned (.string ⟨(Lib.itoa gn).toArray⟩) ∧ Below w'.heap.size w' w'') : Calls Tryd.prog 21 #[.agg #[.int .i64 k, .int .i64 n, .string t]] w fun e w' => e = .returned (.tuple #[.string ⟨(Lib.itoa gn).toArray⟩, .int .i64 0]) ∧ Below w.heap.size w w' := by
  have HG := Lib.hid HG0
  clear HG0
  go_enter Tryd.func21, Tryd.ntmps21
  go_wp2_with (fail)
  refine (HG.out _).mono ?_
  rintro e w1 ⟨rfl, hb1⟩
  have hx := (hb1.block w.heap.size (by simp)).trans (heap_alloc_new _ _)
  have hs : Below w.heap.size w w1 := alloc_below hb1
  clear hb1
  have hx2 := fun k' n' t' => val_set (k' := k') (n' := n') (t' := t') hx
  obtain ⟨f0, f1, f2⟩ := val_frozen hx
  obtain ⟨x0, x1, x2⟩ := val_cells hx
  have hs2 : ∀ k' n' t', Below w.heap.size w (((w1.setCell ⟨w.heap.size, 0, none⟩ (.int .i64 k')).setCell ⟨w.heap.size, 1, none⟩ (.int .i64 n')).setCell ⟨w.heap.size, 2, none⟩ (.string t')) := fun k' n' t' => ((hs.setCell (p := ⟨w.heap.size, 0, none⟩) (by simp) _).setCell (p := ⟨w.heap.size, 1, none⟩) (by simp) _).setCell (p := ⟨w.heap.size, 2, none⟩) (by simp) _
  clear hx hs
  have HC := Lib.hid HR
  clear HR
  go_wp2_with (fail)
  refine (HC.out _ (hs2 _ _ _)).mono ?_
  rintro e w2 ⟨rfl, hb2⟩
  have hs3 := (hs2 _ _ _).trans (hb2.mono (hs2 _ _ _).size)
  clear hb2 hs2 hx2
  go_wp2
  go_ret2
  exact ⟨rfl, hs3⟩

theorem rastext_bT (k n gn : Int) (t gt : ByteArray) (w : World) (HG0 : ∀ w, Calls Tryd.prog 53 #[.agg #[.int .i64 k, .int .i64 n, .string t]] w fun e w' => e = .returned (.agg #[.int .i64 2, .int .i64 gn, .string gt]) ∧ Below w.heap.size w w') (h1 : (gn == 1) = true) : Calls Tryd.prog 21 #[.agg #[.int .i64 k, .int .i64 n, .string t]] w fun e w' => e = .returned (.tuple #[.string ⟨#[84, 82, 85, 69]⟩, .int .i64 0]) ∧ Below w.heap.size w w' := by
  have HG := Lib.hid HG0
  clear HG0
  go_enter Tryd.func21, Tryd.ntmps21
  go_wp2_with (fail)
  refine (HG.out _).mono ?_
  rintro e w1 ⟨rfl, hb1⟩
  have hx := (hb1.block w.heap.size (by simp)).trans (heap_alloc_new _ _)
  have hs : Below w.heap.size w w1 := alloc_below hb1
  clear hb1
  have hx2 := fun k' n' t' => val_set (k' := k') (n' := n') (t' := t') hx
  obtain ⟨f0, f1, f2⟩ := val_frozen hx
  obtain ⟨x0, x1, x2⟩ := val_cells hx
  have hs2 : ∀ k' n' t', Below w.heap.size w (((w1.setCell ⟨w.heap.size, 0, none⟩ (.int .i64 k')).setCell ⟨w.heap.size, 1, none⟩ (.int .i64 n')).setCell ⟨w.heap.size, 2, none⟩ (.string t')) := fun k' n' t' => ((hs.setCell (p := ⟨w.heap.size, 0, none⟩) (by simp) _).setCell (p := ⟨w.heap.size, 1, none⟩) (by simp) _).setCell (p := ⟨w.heap.size, 2, none⟩) (by simp) _
  clear hx hs
  go_wp2
  go_ret2
  exact ⟨rfl, hs2 _ _ _⟩

theorem rastext_bF (k n gn : Int) (t gt : ByteArray) (w : World) (HG0 : ∀ w, Calls Tryd.prog 53 #[.agg #[.int .i64 k, .int .i64 n, .string t]] w fun e w' => e = .returned (.agg #[.int .i64 2, .int .i64 gn, .string gt]) ∧ Below w.heap.size w w') (h1 : (gn == 1) = false) : Calls Tryd.prog 21 #[.agg #[.int .i64 k, .int .i64 n, .string t]] w fun e w' => e = .returned (.tuple #[.string ⟨#[70, 65, 76, 83, 69]⟩, .int .i64 0]) ∧ Below w.heap.size w w' := by
  have HG := Lib.hid HG0
  clear HG0
  go_enter Tryd.func21, Tryd.ntmps21
  go_wp2_with (fail)
  refine (HG.out _).mono ?_
  rintro e w1 ⟨rfl, hb1⟩
  have hx := (hb1.block w.heap.size (by simp)).trans (heap_alloc_new _ _)
  have hs : Below w.heap.size w w1 := alloc_below hb1
  clear hb1
  have hx2 := fun k' n' t' => val_set (k' := k') (n' := n') (t' := t') hx
  obtain ⟨f0, f1, f2⟩ := val_frozen hx
  obtain ⟨x0, x1, x2⟩ := val_cells hx
  have hs2 : ∀ k' n' t', Below w.heap.size w (((w1.setCell ⟨w.heap.size, 0, none⟩ (.int .i64 k')).setCell ⟨w.heap.size, 1, none⟩ (.int .i64 n')).setCell ⟨w.heap.size, 2, none⟩ (.string t')) := fun k' n' t' => ((hs.setCell (p := ⟨w.heap.size, 0, none⟩) (by simp) _).setCell (p := ⟨w.heap.size, 1, none⟩) (by simp) _).setCell (p := ⟨w.heap.size, 2, none⟩) (by simp) _
  clear hx hs
  go_wp2
  go_ret2
  exact ⟨rfl, hs2 _ _ _⟩

theorem rastext_o (gk : Int) (k n gn : Int) (t gt : ByteArray) (w : World) (HG0 : ∀ w, Calls Tryd.prog 53 #[.agg #[.int .i64 k, .int .i64 n, .string t]] w fun e w' => e = .returned (.agg #[.int .i64 gk, .int .i64 gn, .string gt]) ∧ Below w.heap.size w w') (g1 : (gk == 1) = false) (m1 : (gk != 1) = true) (g2 : (gk == 2) = false) (m2 : (gk != 2) = true) (g4 : (gk == 4) = false) (m4 : (gk != 4) = true) : Calls Tryd.prog 21 #[.agg #[.int .i64 k, .int .i64 n, .string t]] w fun e w' => e = .returned (.tuple #[.string gt, .int .i64 0]) ∧ Below w.heap.size w w' := by
  have HG := Lib.hid HG0
  clear HG0
  go_enter Tryd.func21, Tryd.ntmps21
  go_wp2_with (fail)
  refine (HG.out _).mono ?_
  rintro e w1 ⟨rfl, hb1⟩
  have hx := (hb1.block w.heap.size (by simp)).trans (heap_alloc_new _ _)
  have hs : Below w.heap.size w w1 := alloc_below hb1
  clear hb1
  have hx2 := fun k' n' t' => val_set (k' := k') (n' := n') (t' := t') hx
  obtain ⟨f0, f1, f2⟩ := val_frozen hx
  obtain ⟨x0, x1, x2⟩ := val_cells hx
  have hs2 : ∀ k' n' t', Below w.heap.size w (((w1.setCell ⟨w.heap.size, 0, none⟩ (.int .i64 k')).setCell ⟨w.heap.size, 1, none⟩ (.int .i64 n')).setCell ⟨w.heap.size, 2, none⟩ (.string t')) := fun k' n' t' => ((hs.setCell (p := ⟨w.heap.size, 0, none⟩) (by simp) _).setCell (p := ⟨w.heap.size, 1, none⟩) (by simp) _).setCell (p := ⟨w.heap.size, 2, none⟩) (by simp) _
  clear hx hs
  go_wp2
  go_ret2
  exact ⟨rfl, hs2 _ _ _⟩

theorem rastext_any (v : Val.V) (w : World) (hv : VB v) : Calls Tryd.prog 21 #[vv v] w fun e w' => e = .returned (.tuple #[.string (Val.asText v).1, .int .i64 (Val.asText v).2]) ∧ Below w.heap.size w w' := by
  have HG := fun w => fit_any v w
  have HB := hv.good
  unfold Val.asText
  generalize Val.good v = g at HG HB ⊢
  obtain ⟨gk, gn, gt⟩ := g
  obtain ⟨k, n, t⟩ := v
  unfold Val.textG
  simp only
  by_cases h1 : gk = 1
  · subst h1
    exact rastext_i k n gn t gt w HG (fun w' hb => rtext_any gn w' HB.n0 HB.n1)
  rw [show (gk == 1) = false by simpa using h1]
  by_cases h2 : gk = 2
  · subst h2
    unfold Val.word
    cases h1 : (gn == 1) with
    | true => exact rastext_bT k n gn t gt w HG h1
    | false => exact rastext_bF k n gn t gt w HG h1
  rw [show (gk == 2) = false by simpa using h2]
  by_cases h4 : gk = 4
  · subst h4
    exact rastext_e k n gn t gt w HG
  rw [show (gk == 4) = false by simpa using h4]
  exact rastext_o gk k n gn t gt w HG (by simpa using h1) (by simpa using h1) (by simpa using h2) (by simpa using h2) (by simpa using h4) (by simpa using h4)
end Go.Proofs.YtdbjmjeiaajdiaaDoor
