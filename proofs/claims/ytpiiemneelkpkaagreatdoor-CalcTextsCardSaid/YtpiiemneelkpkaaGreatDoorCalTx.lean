/- The walk of quadrillelaw14.CalcTexts. -/
import Derived.Test.YtpiiemneelkpkaaGreatDoorGcb
import Derived.Test.YtpiiemneelkpkaaGreatDoorGcp
import Derived.Test.YtpiiemneelkpkaaGreatDoorRegV
import Derived.Test.YtpiiemneelkpkaaGreatDoorGr5
import Derived.Deep.DeepCutAuto
namespace Go.Proofs.YtpiiemneelkpkaaGreatDoor
open Go.RowKit
set_option linter.unusedVariables false
set_option linter.unusedSimpArgs false
theorem set3_other (W : World) (B k : Nat) (x y z : Value) (h : k ≠ B) : (((W.setCell ⟨B, 0, none⟩ x).setCell ⟨B, 1, none⟩ y).setCell ⟨B, 2, none⟩ z).heap[k]? = W.heap[k]? :=
  (heap_setCell_other _ _ _ _ h).trans ((heap_setCell_other _ _ _ _ h).trans (heap_setCell_other _ _ _ _ h))
theorem is_at (f : Int) (l : List Val.V) (r : Val.V) (hr : Cal.callM f l.length (Cal.arg l) = (r, 0)) (hvb : ∀ k, k < l.length → VB (Cal.arg l k)) (w0 w : World) (b : Nat) (hk : w.heap[b]? = some (.cells (Cal.argC l).toArray 26 (0, 0))) (hb : Below w0.heap.size w0 w) (hN : NumW w0) (hT : TxtW w0) :
    Calls Tryz.prog 11 #[.int .i64 f, .slice (some ⟨b, 0, none⟩) l.length l.length] w fun e w' => e = .returned (vv r) ∧ Below w.heap.size w w' := by
  have hc : HCellP w (some ⟨b, 0, none⟩) l.length (Cal.arg l) := by
    intro k hk2
    obtain ⟨h0, h1, h2⟩ := argC_get l k hk2
    refine ⟨b, 0, rfl, (Array.getElem?_eq_some_iff.1 hk).1, ?_, ?_, ?_⟩ <;> (rw [Nat.zero_add])
    · rw [Lib.cell_of_heap hk]; simpa using h0
    · rw [Lib.cell_of_heap hk]; simpa using h1
    · rw [Lib.cell_of_heap hk]; simpa using h2
  refine is_zero f l.length l.length _ r _ (Lib.hid fun v hv => ?_)
  have := call_any f l.length (Cal.arg l) (some ⟨b, 0, none⟩) l.length v (hc.below rfl hv) hvb (hN.below (hb.trans (hv.mono hb.size))) (hT.below rfl (hb.trans (hv.mono hb.size)))
  rw [hr] at this
  exact this
set_option maxRecDepth 100000 in
theorem texts_out0 (s wi : ByteArray) (n : Int) (w : World) (g0 : decide (10000 < (s.size : Int)) = true) (g0' : decide (10000 < s.size) = true) (HBEG : Hid (∀ v, Below w.heap.size w v → Calls Tryz.prog 8 #[] v fun e w' => e = .returned (.bool true) ∧ Below v.heap.size v w')) :
    Calls Tryz.prog 6 #[.string s, .int .i64 n, .string wi] w fun e w' => e = .returned (.bool true) ∧ Below w.heap.size w w' := by
  go_enter Tryz.func6, Tryz.ntmps6
  go_wp2_with (fail)
  refine (HBEG.out _ (Below.refl _ _)).mono ?_
  rintro e w1 ⟨rfl, hb⟩
  go_wp2
  go_ret
  exact ⟨rfl, hb⟩
set_option maxRecDepth 100000 in
theorem texts_out1 (s wi : ByteArray) (n : Int) (w : World) (g0 : decide (10000 < (s.size : Int)) = false) (g0' : decide (10000 < s.size) = false) (g1 : decide (10000 < (wi.size : Int)) = true) (g1' : decide (10000 < wi.size) = true) (HBEG : Hid (∀ v, Below w.heap.size w v → Calls Tryz.prog 8 #[] v fun e w' => e = .returned (.bool true) ∧ Below v.heap.size v w')) :
    Calls Tryz.prog 6 #[.string s, .int .i64 n, .string wi] w fun e w' => e = .returned (.bool true) ∧ Below w.heap.size w w' := by
  go_enter Tryz.func6, Tryz.ntmps6
  go_wp2_with (fail)
  refine (HBEG.out _ (Below.refl _ _)).mono ?_
  rintro e w1 ⟨rfl, hb⟩
  go_wp2
  go_ret
  exact ⟨rfl, hb⟩
set_option maxRecDepth 100000 in
theorem texts_out2 (s wi : ByteArray) (n : Int) (w : World) (g0 : decide (10000 < (s.size : Int)) = false) (g0' : decide (10000 < s.size) = false) (g1 : decide (10000 < (wi.size : Int)) = false) (g1' : decide (10000 < wi.size) = false) (g2 : decide (n < 0) = true) (HBEG : Hid (∀ v, Below w.heap.size w v → Calls Tryz.prog 8 #[] v fun e w' => e = .returned (.bool true) ∧ Below v.heap.size v w')) :
    Calls Tryz.prog 6 #[.string s, .int .i64 n, .string wi] w fun e w' => e = .returned (.bool true) ∧ Below w.heap.size w w' := by
  go_enter Tryz.func6, Tryz.ntmps6
  go_wp2_with (fail)
  refine (HBEG.out _ (Below.refl _ _)).mono ?_
  rintro e w1 ⟨rfl, hb⟩
  go_wp2
  go_ret
  exact ⟨rfl, hb⟩
set_option maxRecDepth 100000 in
theorem texts_out3 (s wi : ByteArray) (n : Int) (w : World) (g0 : decide (10000 < (s.size : Int)) = false) (g0' : decide (10000 < s.size) = false) (g1 : decide (10000 < (wi.size : Int)) = false) (g1' : decide (10000 < wi.size) = false) (g2 : decide (n < 0) = false) (g3 : decide (20000 < n) = true) (HBEG : Hid (∀ v, Below w.heap.size w v → Calls Tryz.prog 8 #[] v fun e w' => e = .returned (.bool true) ∧ Below v.heap.size v w')) :
    Calls Tryz.prog 6 #[.string s, .int .i64 n, .string wi] w fun e w' => e = .returned (.bool true) ∧ Below w.heap.size w w' := by
  go_enter Tryz.func6, Tryz.ntmps6
  go_wp2_with (fail)
  refine (HBEG.out _ (Below.refl _ _)).mono ?_
  rintro e w1 ⟨rfl, hb⟩
  go_wp2
  go_ret
  exact ⟨rfl, hb⟩

set_option maxRecDepth 100000 in
set_option maxHeartbeats 8000000 in
theorem texts_all (s wi a b l p u x1 x2 rt : ByteArray) (n m c q m1 g r8 pz rk rn : Int) (z : Bool) (w : World)
    (g1 : decide (10000 < (s.size : Int)) = false) (g2 : decide (10000 < (wi.size : Int)) = false) (g1' : decide (10000 < s.size) = false) (g2' : decide (10000 < wi.size) = false) (g3 : decide (n < 0) = false) (g4 : decide (20000 < n) = false)
    (c1 : decide (c < 0) = false) (c2 : decide ((s.size : Int) < c) = false) (hmin : min n c = m) (e1 : IntKind.i64.wrap (c - m) = q) (e2 : IntKind.i64.wrap (m + 1) = m1)
    (z1 : a.size ≤ 100000) (z2 : b.size ≤ 100000) (z3 : wi.size ≤ 100000) (z4 : s.size ≤ 100000) (hab : a ++ b = s) (hx1 : a ++ wi ++ b = x1) (hx2 : wi ++ b = x2)
    (f1 : decide (m1 < g) = false) (f2 : decide (g < 1) = false) (e3 : n.tmod 8 = r8) (e4 : IntKind.i64.wrap ((s.size : Int) * r8) = pz) (HO : Hid ((decide (32767 < pz) = true ∧ rk = 4 ∧ rn = 4 ∧ rt = ⟨#[]⟩) ∨ (decide (32767 < pz) = false ∧ rk = 3 ∧ ((rt.size : Int) == pz) = true)))
    (HBEG : Hid (∀ v, Below w.heap.size w v → Calls Tryz.prog 8 #[] v fun e w' => e = .returned (.bool true) ∧ Below v.heap.size v w'))
    (HSO : Hid (∀ v, Calls Tryz.prog 21 #[.string s] v fun e w' => e = .returned (.bool z) ∧ Below v.heap.size v w'))
    (HJ : Hid (∀ v, Below w.heap.size w v → Calls Tryz.prog 13 #[.int .i64 6, .agg #[.int .i64 3, .int .i64 0, .string a], .agg #[.int .i64 3, .int .i64 0, .string b]] v fun e w' => e = .returned (.agg #[.int .i64 3, .int .i64 0, .string s]) ∧ Below v.heap.size v w'))
    (H17 : Hid (∀ v k, Below w.heap.size w v → v.heap[k]? = some (.cells #[.int .i64 3, .int .i64 0, .string s, .int .i64 1, .int .i64 m, .string ⟨#[]⟩] 26 (0, 0)) → Calls Tryz.prog 11 #[.int .i64 17, .slice (some ⟨k, 0, none⟩) 2 2] v fun e w' => e = .returned (.agg #[.int .i64 3, .int .i64 0, .string a]) ∧ Below v.heap.size v w'))
    (H18 : Hid (∀ v k, Below w.heap.size w v → v.heap[k]? = some (.cells #[.int .i64 3, .int .i64 0, .string s, .int .i64 1, .int .i64 q, .string ⟨#[]⟩] 26 (0, 0)) → Calls Tryz.prog 11 #[.int .i64 18, .slice (some ⟨k, 0, none⟩) 2 2] v fun e w' => e = .returned (.agg #[.int .i64 3, .int .i64 0, .string b]) ∧ Below v.heap.size v w'))
    (H19a : Hid (∀ v k, Below w.heap.size w v → v.heap[k]? = some (.cells #[.int .i64 3, .int .i64 0, .string s, .int .i64 1, .int .i64 1, .string ⟨#[]⟩, .int .i64 1, .int .i64 m, .string ⟨#[]⟩] 26 (0, 0)) → Calls Tryz.prog 11 #[.int .i64 19, .slice (some ⟨k, 0, none⟩) 3 3] v fun e w' => e = .returned (.agg #[.int .i64 3, .int .i64 0, .string a]) ∧ Below v.heap.size v w'))
    (H19b : Hid (∀ v k, Below w.heap.size w v → v.heap[k]? = some (.cells #[.int .i64 3, .int .i64 0, .string s, .int .i64 1, .int .i64 m1, .string ⟨#[]⟩, .int .i64 1, .int .i64 c, .string ⟨#[]⟩] 26 (0, 0)) → Calls Tryz.prog 11 #[.int .i64 19, .slice (some ⟨k, 0, none⟩) 3 3] v fun e w' => e = .returned (.agg #[.int .i64 3, .int .i64 0, .string b]) ∧ Below v.heap.size v w'))
    (H26a : Hid (∀ v k, Below w.heap.size w v → v.heap[k]? = some (.cells #[.int .i64 3, .int .i64 0, .string s, .int .i64 1, .int .i64 m1, .string ⟨#[]⟩, .int .i64 1, .int .i64 0, .string ⟨#[]⟩, .int .i64 3, .int .i64 0, .string wi] 26 (0, 0)) → Calls Tryz.prog 11 #[.int .i64 26, .slice (some ⟨k, 0, none⟩) 4 4] v fun e w' => e = .returned (.agg #[.int .i64 3, .int .i64 0, .string x1]) ∧ Below v.heap.size v w'))
    (H26b : Hid (∀ v k, Below w.heap.size w v → v.heap[k]? = some (.cells #[.int .i64 3, .int .i64 0, .string s, .int .i64 1, .int .i64 1, .string ⟨#[]⟩, .int .i64 1, .int .i64 m, .string ⟨#[]⟩, .int .i64 3, .int .i64 0, .string wi] 26 (0, 0)) → Calls Tryz.prog 11 #[.int .i64 26, .slice (some ⟨k, 0, none⟩) 4 4] v fun e w' => e = .returned (.agg #[.int .i64 3, .int .i64 0, .string x2]) ∧ Below v.heap.size v w'))
    (H23a : Hid (z = true → ∀ v k, Below w.heap.size w v → v.heap[k]? = some (.cells #[.int .i64 3, .int .i64 0, .string s] 26 (0, 0)) → Calls Tryz.prog 11 #[.int .i64 23, .slice (some ⟨k, 0, none⟩) 1 1] v fun e w' => e = .returned (.agg #[.int .i64 3, .int .i64 0, .string u]) ∧ Below v.heap.size v w'))
    (H23b : Hid (z = true → ∀ v k, Below w.heap.size w v → v.heap[k]? = some (.cells #[.int .i64 3, .int .i64 0, .string u] 26 (0, 0)) → Calls Tryz.prog 11 #[.int .i64 23, .slice (some ⟨k, 0, none⟩) 1 1] v fun e w' => e = .returned (.agg #[.int .i64 3, .int .i64 0, .string s]) ∧ Below v.heap.size v w'))
    (H21 : Hid (∀ v k, Below w.heap.size w v → v.heap[k]? = some (.cells #[.int .i64 3, .int .i64 0, .string s] 26 (0, 0)) → Calls Tryz.prog 11 #[.int .i64 21, .slice (some ⟨k, 0, none⟩) 1 1] v fun e w' => e = .returned (.agg #[.int .i64 3, .int .i64 0, .string l]) ∧ Below v.heap.size v w'))
    (H20a : Hid (∀ v k, Below w.heap.size w v → v.heap[k]? = some (.cells #[.int .i64 3, .int .i64 0, .string l] 26 (0, 0)) → Calls Tryz.prog 11 #[.int .i64 20, .slice (some ⟨k, 0, none⟩) 1 1] v fun e w' => e = .returned (.agg #[.int .i64 3, .int .i64 0, .string p]) ∧ Below v.heap.size v w'))
    (H20b : Hid (∀ v k, Below w.heap.size w v → v.heap[k]? = some (.cells #[.int .i64 3, .int .i64 0, .string s] 26 (0, 0)) → Calls Tryz.prog 11 #[.int .i64 20, .slice (some ⟨k, 0, none⟩) 1 1] v fun e w' => e = .returned (.agg #[.int .i64 3, .int .i64 0, .string p]) ∧ Below v.heap.size v w'))
    (H24 : Hid (∀ v k, Below w.heap.size w v → v.heap[k]? = some (.cells #[.int .i64 3, .int .i64 0, .string b, .int .i64 3, .int .i64 0, .string s] 26 (0, 0)) → Calls Tryz.prog 11 #[.int .i64 24, .slice (some ⟨k, 0, none⟩) 2 2] v fun e w' => e = .returned (.agg #[.int .i64 1, .int .i64 g, .string ⟨#[]⟩]) ∧ Below v.heap.size v w'))
    (H27 : Hid (∀ v k, Below w.heap.size w v → v.heap[k]? = some (.cells #[.int .i64 3, .int .i64 0, .string s, .int .i64 1, .int .i64 r8, .string ⟨#[]⟩] 26 (0, 0)) → Calls Tryz.prog 11 #[.int .i64 27, .slice (some ⟨k, 0, none⟩) 2 2] v fun e w' => e = .returned (.agg #[.int .i64 rk, .int .i64 rn, .string rt]) ∧ Below v.heap.size v w'))
    (H16 : Hid (∀ v k, Below w.heap.size w v → v.heap[k]? = some (.cells #[.int .i64 3, .int .i64 0, .string s] 26 (0, 0)) → Calls Tryz.prog 11 #[.int .i64 16, .slice (some ⟨k, 0, none⟩) 1 1] v fun e w' => e = .returned (.agg #[.int .i64 1, .int .i64 c, .string ⟨#[]⟩]) ∧ Below v.heap.size v w')) :
    Calls Tryz.prog 6 #[.string s, .int .i64 n, .string wi] w fun e w' => e = .returned (.bool true) ∧ Below w.heap.size w w' := by
  have HNUM := Lib.hid lnum_any
  have HTXT := Lib.hid ltext_any
  have HBAD := Lib.hid lbad_any
  have hb : Below w.heap.size w w := Below.refl _ _
  have n1 : ¬ 9223372036854775807 < a.size + b.size := by omega
  have n2 : ¬ 9223372036854775807 < a.size + wi.size := by omega
  have n3 : ¬ 9223372036854775807 < a.size + wi.size + b.size := by omega
  have n4 : ¬ 9223372036854775807 < wi.size + b.size := by omega
  go_enter Tryz.func6, Tryz.ntmps6
  go_wp2_with (fail)
  refine (HBEG.out _ hb).mono ?_
  rintro e w1 ⟨rfl, hb1⟩
  replace hb := hb.trans (hb1.mono hb.size)
  clear hb1
  go_wp2_with (fail)
  refine (HTXT.out _ _).mono ?_
  rintro e w2 ⟨rfl, hb2⟩
  replace hb := hb.trans (hb2.mono hb.size)
  clear hb2
  go_upto_region 6 with (fail)
  have k7 : (w2.alloc (Obj.cells #[.int .i64 3, .int .i64 0, .string s] 26)).heap[w2.heap.size]? = some (.cells #[.int .i64 3, .int .i64 0, .string s] 26 (0, 0)) := heap_alloc_new _ _
  replace hb := hb.alloc hb.size (Obj.cells #[.int .i64 3, .int .i64 0, .string s] 26)
  generalize (w2.alloc (Obj.cells #[.int .i64 3, .int .i64 0, .string s] 26)) = Wk7 at *
  generalize w2.heap.size = Bk7 at *
  obtain ⟨c70, c71, c72⟩ := val_cells k7
  go_wp2_with (fail)
  refine (H16.out _ _ (hb.alloc hb.size _) (heap_alloc_new _ _)).mono ?_
  rintro e w3 ⟨rfl, hb3⟩
  replace k7 := (hb3.block _ (Nat.lt_of_lt_of_le (Array.getElem?_eq_some_iff.1 k7).1 (by simp))).trans ((heap_alloc_old _ _ (Array.getElem?_eq_some_iff.1 k7).1).trans k7)
  replace hb := (hb.alloc hb.size _).trans (hb3.mono (by have := hb.size; simp; omega))
  clear hb3
  clear c70 c71 c72
  go_upto_region 7 with (fail)
  have k8 : (w3.alloc (Obj.cells #[.int .i64 1, .int .i64 c, .string ⟨#[]⟩] 26)).heap[w3.heap.size]? = some (.cells #[.int .i64 1, .int .i64 c, .string ⟨#[]⟩] 26 (0, 0)) := heap_alloc_new _ _
  replace k7 := (heap_alloc_old _ (Obj.cells #[.int .i64 1, .int .i64 c, .string ⟨#[]⟩] 26) (Array.getElem?_eq_some_iff.1 k7).1).trans k7
  replace hb := hb.alloc hb.size (Obj.cells #[.int .i64 1, .int .i64 c, .string ⟨#[]⟩] 26)
  generalize (w3.alloc (Obj.cells #[.int .i64 1, .int .i64 c, .string ⟨#[]⟩] 26)) = Wk8 at *
  generalize w3.heap.size = Bk8 at *
  obtain ⟨c70, c71, c72⟩ := val_cells k7
  obtain ⟨c80, c81, c82⟩ := val_cells k8
  go_upto_region 10 with (fail)
  clear c70 c71 c72 c80 c81 c82
  refine Drw.region_values 15 ?A10 (fun w' => w'.heap[Bk7]? = some (.cells #[.int .i64 3, .int .i64 0, .string s] 26 (0, 0)) ∧ w'.heap[Bk8]? = some (.cells #[.int .i64 1, .int .i64 c, .string ⟨#[]⟩] 26 (0, 0)) ∧ Below w.heap.size w w') (fun i => match i with | 0 => fun v _ => v = .agg #[.int .i64 3, .int .i64 0, .string s] | 1 => fun v _ => v = .int .i64 m | 2 => fun v _ => v = .agg #[.int .i64 1, .int .i64 m, .string ⟨#[]⟩] | 3 => Drw.Blk (fun b => .slice (some ⟨b, 0, none⟩) 2 2) (.cells #[.int .i64 3, .int .i64 0, .string s, .int .i64 1, .int .i64 m, .string ⟨#[]⟩] 26 (0, 0)) | 4 => fun v _ => v = .agg #[.int .i64 3, .int .i64 0, .string a] | 5 => fun v _ => v = .agg #[.int .i64 3, .int .i64 0, .string s] | 6 => fun v _ => v = .pointer (some ⟨Bk8, 1, none⟩) | 7 => fun v _ => v = .int .i64 c | 8 => fun v _ => v = .int .i64 m | 9 => fun v _ => v = .int .i64 q | 10 => fun v _ => v = .agg #[.int .i64 1, .int .i64 q, .string ⟨#[]⟩] | 11 => Drw.Blk (fun b => .slice (some ⟨b, 0, none⟩) 2 2) (.cells #[.int .i64 3, .int .i64 0, .string s, .int .i64 1, .int .i64 q, .string ⟨#[]⟩] 26 (0, 0)) | 12 => fun v _ => v = .agg #[.int .i64 3, .int .i64 0, .string b] | 13 => Drw.Blk (fun b => .pointer (some ⟨b, 0, none⟩)) (.cells #[.int .i64 0, .int .i64 0, .string ⟨#[]⟩] 26 (0, 0)) | 14 => Drw.Blk (fun b => .pointer (some ⟨b, 0, none⟩)) (.cells #[.int .i64 0, .int .i64 0, .string ⟨#[]⟩] 26 (0, 0)) | _ => fun _ _ => True) (fun i => i == 3 || i == 11 || i == 13 || i == 14) ?hA10 (by kernel_rfl) (by kernel_rfl) ⟨k7, k8, hb.drew⟩ (fun w1 w2 h hS => ⟨(h.block _ (Array.getElem?_eq_some_iff.1 hS.1).1).trans hS.1, (h.block _ (Array.getElem?_eq_some_iff.1 hS.2.1).1).trans hS.2.1, hS.2.2.trans (h.mono hS.2.2.size)⟩) (Drw.lt_succ (Drw.lt_succ (Drw.lt_succ (Drw.lt_succ (Drw.lt_succ (Drw.lt_succ (Drw.lt_succ (Drw.lt_succ (Drw.lt_succ (Drw.lt_succ (Drw.lt_succ (Drw.lt_succ (Drw.lt_succ (Drw.lt_succ (Drw.lt_succ Drw.lt_nil Drw.st) Drw.st) Drw.st) Drw.stb) Drw.st) Drw.st) Drw.st) Drw.st) Drw.st) Drw.st) Drw.st) Drw.stb) Drw.st) Drw.stb) Drw.stb) ?_ ?_
  case hA10 =>
    intro f
    symm
    simp only [Drw.putAll, Drw.dst, List.range, List.range.loop, List.getElem?_toArray, List.getElem?_cons_zero, List.getElem?_cons_succ, Option.bind_some, Act.put, List.setIfInBounds_toArray, List.set_cons_zero, List.set_cons_succ]
    exact rfl
  refine Drw.Obs.cons ?_ ?_
  · intro f w hS hV K hK; obtain ⟨s0, -, -⟩ := hS; obtain ⟨s0c0, s0c1, s0c2⟩ := val_cells s0; unfold Drw.Give; go_simp; exact hK.out _ _ rfl (Below.refl _ _) (Drw.no rfl)
  refine Drw.Obs.cons ?_ ?_
  · intro f w _ hV K hK; unfold Drw.Give; go_simp; exact hK.out _ _ rfl (Below.refl _ _) (Drw.no rfl)
  refine Drw.Obs.cons ?_ ?_
  · intro f w hS hV K hK; obtain ⟨-, -, hsb⟩ := hS; have v1 := Drw.val (hV 1 rfl); clear hV; unfold Drw.Give; go_simp; unfold Drw.giveUpon; with_reducible refine (HNUM.out _ _).mono ?_; rintro e w2 ⟨rfl, hb2⟩; exact ⟨_, rfl, hK.out _ _ rfl hb2 (Drw.no rfl)⟩
  refine Drw.Obs.cons ?_ ?_
  · intro f w _ hV K hK; have v0 := Drw.val (hV 0 rfl); have v2 := Drw.val (hV 2 rfl); clear hV; unfold Drw.Give; go_simp; exact hK.out _ _ (Drw.bk ⟨_, rfl, heap_alloc_new _ _⟩) ((Below.refl _ _).alloc (Nat.le_refl _) _) (fun _ => ⟨_, rfl, Nat.le_refl _, by simp⟩)
  refine Drw.Obs.cons ?_ ?_
  · intro f w hS hV K hK; obtain ⟨-, -, hsb⟩ := hS; obtain ⟨b3, v3, k3⟩ := Drw.own (hV 3 rfl); clear hV; unfold Drw.Give; go_simp; unfold Drw.giveUpon; with_reducible refine (H17.out _ _ hsb k3).mono ?_; rintro e w2 ⟨rfl, hb2⟩; exact ⟨_, rfl, hK.out _ _ rfl hb2 (Drw.no rfl)⟩
  refine Drw.Obs.cons ?_ ?_
  · intro f w hS hV K hK; obtain ⟨s0, -, -⟩ := hS; obtain ⟨s0c0, s0c1, s0c2⟩ := val_cells s0; unfold Drw.Give; go_simp; exact hK.out _ _ rfl (Below.refl _ _) (Drw.no rfl)
  refine Drw.Obs.cons ?_ ?_
  · intro f w _ hV K hK; unfold Drw.Give; go_simp; exact hK.out _ _ rfl (Below.refl _ _) (Drw.no rfl)
  refine Drw.Obs.cons ?_ ?_
  · intro f w hS hV K hK; obtain ⟨-, s1, -⟩ := hS; obtain ⟨s1c0, s1c1, s1c2⟩ := val_cells s1; have v6 := Drw.val (hV 6 rfl); clear hV; unfold Drw.Give; go_simp; exact hK.out _ _ rfl (Below.refl _ _) (Drw.no rfl)
  refine Drw.Obs.cons ?_ ?_
  · intro f w _ hV K hK; unfold Drw.Give; go_simp; exact hK.out _ _ rfl (Below.refl _ _) (Drw.no rfl)
  refine Drw.Obs.cons ?_ ?_
  · intro f w _ hV K hK; have v7 := Drw.val (hV 7 rfl); have v8 := Drw.val (hV 8 rfl); clear hV; unfold Drw.Give; go_simp; exact hK.out _ _ rfl (Below.refl _ _) (Drw.no rfl)
  refine Drw.Obs.cons ?_ ?_
  · intro f w hS hV K hK; obtain ⟨-, -, hsb⟩ := hS; have v9 := Drw.val (hV 9 rfl); clear hV; unfold Drw.Give; go_simp; unfold Drw.giveUpon; with_reducible refine (HNUM.out _ _).mono ?_; rintro e w2 ⟨rfl, hb2⟩; exact ⟨_, rfl, hK.out _ _ rfl hb2 (Drw.no rfl)⟩
  refine Drw.Obs.cons ?_ ?_
  · intro f w _ hV K hK; have v5 := Drw.val (hV 5 rfl); have v10 := Drw.val (hV 10 rfl); clear hV; unfold Drw.Give; go_simp; exact hK.out _ _ (Drw.bk ⟨_, rfl, heap_alloc_new _ _⟩) ((Below.refl _ _).alloc (Nat.le_refl _) _) (fun _ => ⟨_, rfl, Nat.le_refl _, by simp⟩)
  refine Drw.Obs.cons ?_ ?_
  · intro f w hS hV K hK; obtain ⟨-, -, hsb⟩ := hS; obtain ⟨b11, v11, k11⟩ := Drw.own (hV 11 rfl); clear hV; unfold Drw.Give; go_simp; unfold Drw.giveUpon; with_reducible refine (H18.out _ _ hsb k11).mono ?_; rintro e w2 ⟨rfl, hb2⟩; exact ⟨_, rfl, hK.out _ _ rfl hb2 (Drw.no rfl)⟩
  refine Drw.Obs.cons ?_ ?_
  · intro f w _ hV K hK; unfold Drw.Give; go_simp; exact hK.out _ _ (Drw.bk ⟨_, rfl, heap_alloc_new _ _⟩) ((Below.refl _ _).alloc (Nat.le_refl _) _) (fun _ => ⟨_, rfl, Nat.le_refl _, by simp⟩)
  refine Drw.Obs.cons ?_ ?_
  · intro f w _ hV K hK; unfold Drw.Give; go_simp; exact hK.out _ _ (Drw.bk ⟨_, rfl, heap_alloc_new _ _⟩) ((Below.refl _ _).alloc (Nat.le_refl _) _) (fun _ => ⟨_, rfl, Nat.le_refl _, by simp⟩)
  exact Drw.Obs.nil
  intro f w4 hS hV hD hZ
  obtain ⟨s0, s1, hb4⟩ := hS
  have v4 : f 4 = .agg #[.int .i64 3, .int .i64 0, .string a] := hV 4 (by decide)
  have v12 : f 12 = .agg #[.int .i64 3, .int .i64 0, .string b] := hV 12 (by decide)
  obtain ⟨b13, v13, y13⟩ : Drw.Blk (fun b => .pointer (some ⟨b, 0, none⟩)) (.cells #[.int .i64 0, .int .i64 0, .string ⟨#[]⟩] 26 (0, 0)) (f 13) w4 := hV 13 (by decide)
  simp only at v13
  obtain ⟨b14, v14, y14⟩ : Drw.Blk (fun b => .pointer (some ⟨b, 0, none⟩)) (.cells #[.int .i64 0, .int .i64 0, .string ⟨#[]⟩] 26 (0, 0)) (f 14) w4 := hV 14 (by decide)
  simp only at v14
  have hne : b13 ≠ b14 := by
    have := hD 13 14 (by decide) (by decide) rfl rfl (by decide)
    rw [v13, v14] at this
    exact fun e => this (by rw [e])
  have hg13 : Wk8.heap.size ≤ b13 := by
    obtain ⟨b, h1, h2⟩ := hZ 13 (by decide) rfl
    rw [v13] at h1
    cases h1
    exact h2
  have hg14 : Wk8.heap.size ≤ b14 := by
    obtain ⟨b, h1, h2⟩ := hZ 14 (by decide) rfl
    rw [v14] at h1
    cases h1
    exact h2
  have l7 := (Array.getElem?_eq_some_iff.1 k7).1
  have l8 := (Array.getElem?_eq_some_iff.1 k8).1
  have lw := hb.size
  clear hD hZ hV
  simp only [v4, v12, v13, v14]
  clear v4 v12 v13 v14
  obtain ⟨p0, p1, p2⟩ := val_cells y13
  obtain ⟨q0, q1, q2⟩ := val_frozen y13
  refine Drw.wpAny_one (i := 15) (by kernel_rfl) rfl (fun K hK => ?_)
  go_simp
  refine hK.out _ _ ?_
  clear hK K p0 p1 p2 q0 q1 q2
  have y13' := val_set (k' := 3) (n' := 0) (t' := a) y13
  replace y14 := (set3_other w4 b13 b14 (.int .i64 3) (.int .i64 0) (.string a) (fun e => hne e.symm)).trans y14
  replace s0 := (set3_other w4 b13 Bk7 (.int .i64 3) (.int .i64 0) (.string a) (by omega)).trans s0
  replace s1 := (set3_other w4 b13 Bk8 (.int .i64 3) (.int .i64 0) (.string a) (by omega)).trans s1
  replace hb4 : Below w.heap.size w (((w4.setCell ⟨b13, 0, none⟩ (.int .i64 3)).setCell ⟨b13, 1, none⟩ (.int .i64 0)).setCell ⟨b13, 2, none⟩ (.string a)) := ((hb4.setCell (p := ⟨b13, 0, none⟩) (by simp; omega) _).setCell (p := ⟨b13, 1, none⟩) (by simp; omega) _).setCell (p := ⟨b13, 2, none⟩) (by simp; omega) _
  clear y13
  generalize (((w4.setCell ⟨b13, 0, none⟩ (.int .i64 3)).setCell ⟨b13, 1, none⟩ (.int .i64 0)).setCell ⟨b13, 2, none⟩ (.string a)) = w5 at *
  obtain ⟨p0, p1, p2⟩ := val_cells y14
  obtain ⟨q0, q1, q2⟩ := val_frozen y14
  refine Drw.wpAny_one (i := 16) (by kernel_rfl) rfl (fun K hK => ?_)
  go_simp
  refine hK.out _ _ ?_
  clear hK K p0 p1 p2 q0 q1 q2
  have y14' := val_set (k' := 3) (n' := 0) (t' := b) y14
  replace y13' := (set3_other w5 b14 b13 (.int .i64 3) (.int .i64 0) (.string b) hne).trans y13'
  replace s0 := (set3_other w5 b14 Bk7 (.int .i64 3) (.int .i64 0) (.string b) (by omega)).trans s0
  replace s1 := (set3_other w5 b14 Bk8 (.int .i64 3) (.int .i64 0) (.string b) (by omega)).trans s1
  replace hb4 : Below w.heap.size w (((w5.setCell ⟨b14, 0, none⟩ (.int .i64 3)).setCell ⟨b14, 1, none⟩ (.int .i64 0)).setCell ⟨b14, 2, none⟩ (.string b)) := ((hb4.setCell (p := ⟨b14, 0, none⟩) (by simp; omega) _).setCell (p := ⟨b14, 1, none⟩) (by simp; omega) _).setCell (p := ⟨b14, 2, none⟩) (by simp; omega) _
  clear y14 k7 k8 hb l7 l8 lw hg13 hg14 hne
  generalize (((w5.setCell ⟨b14, 0, none⟩ (.int .i64 3)).setCell ⟨b14, 1, none⟩ (.int .i64 0)).setCell ⟨b14, 2, none⟩ (.string b)) = w6 at *
  clear w4 w5
  refine ⟨by kernel_rfl, ?_⟩
  go_upto_region 11 with (fail)
  refine Drw.region_values_all 40 ?A11 (fun w' => w'.heap[Bk7]? = some (.cells #[.int .i64 3, .int .i64 0, .string s] 26 (0, 0)) ∧ w'.heap[Bk8]? = some (.cells #[.int .i64 1, .int .i64 c, .string ⟨#[]⟩] 26 (0, 0)) ∧ w'.heap[b13]? = some (.cells #[.int .i64 3, .int .i64 0, .string a] 26 (0, 0)) ∧ w'.heap[b14]? = some (.cells #[.int .i64 3, .int .i64 0, .string b] 26 (0, 0)) ∧ Below w.heap.size w w') (fun i => match i with | 0 => fun v _ => v = .pointer (some ⟨b13, 0, none⟩) | 1 => fun v _ => v = .int .i64 3 | 2 => fun v _ => v = .bool false | 3 => fun v _ => v = .bool false | 4 => fun v _ => v = .pointer (some ⟨b14, 0, none⟩) | 5 => fun v _ => v = .int .i64 3 | 6 => fun v _ => v = .bool false | 7 => fun v _ => v = .bool false | 8 => fun v _ => v = .bool false | 9 => fun v _ => v = .pointer (some ⟨b13, 2, none⟩) | 10 => fun v _ => v = .string a | 11 => fun v _ => v = .pointer (some ⟨b14, 2, none⟩) | 12 => fun v _ => v = .string b | 13 => fun v _ => v = .string s | 14 => fun v _ => v = .string s | 15 => fun v _ => v = .bool false | 16 => fun v _ => v = .bool false | 17 => fun v _ => v = .bool false | 18 => fun v _ => v = .agg #[.int .i64 3, .int .i64 0, .string s] | 19 => fun v _ => v = .agg #[.int .i64 1, .int .i64 1, .string ⟨#[]⟩] | 20 => fun v _ => v = .int .i64 m | 21 => fun v _ => v = .agg #[.int .i64 1, .int .i64 m, .string ⟨#[]⟩] | 22 => Drw.Blk (fun b => .slice (some ⟨b, 0, none⟩) 3 3) (.cells #[.int .i64 3, .int .i64 0, .string s, .int .i64 1, .int .i64 1, .string ⟨#[]⟩, .int .i64 1, .int .i64 m, .string ⟨#[]⟩] 26 (0, 0)) | 23 => fun v _ => v = .agg #[.int .i64 3, .int .i64 0, .string a] | 24 => fun v _ => v = .agg #[.int .i64 3, .int .i64 0, .string a] | 25 => fun v _ => v = .bool false | 26 => fun v _ => v = .bool false | 27 => fun v _ => v = .bool false | 28 => fun v _ => v = .agg #[.int .i64 3, .int .i64 0, .string s] | 29 => fun v _ => v = .int .i64 m | 30 => fun v _ => v = .int .i64 m1 | 31 => fun v _ => v = .agg #[.int .i64 1, .int .i64 m1, .string ⟨#[]⟩] | 32 => fun v _ => v = .pointer (some ⟨Bk8, 1, none⟩) | 33 => fun v _ => v = .int .i64 c | 34 => fun v _ => v = .agg #[.int .i64 1, .int .i64 c, .string ⟨#[]⟩] | 35 => Drw.Blk (fun b => .slice (some ⟨b, 0, none⟩) 3 3) (.cells #[.int .i64 3, .int .i64 0, .string s, .int .i64 1, .int .i64 m1, .string ⟨#[]⟩, .int .i64 1, .int .i64 c, .string ⟨#[]⟩] 26 (0, 0)) | 36 => fun v _ => v = .agg #[.int .i64 3, .int .i64 0, .string b] | 37 => fun v _ => v = .agg #[.int .i64 3, .int .i64 0, .string b] | 38 => fun v _ => v = .bool false | 39 => fun v _ => v = .bool false | _ => fun _ _ => True) (fun i => i == 22 || i == 35) ?hA11 (by kernel_rfl) (by kernel_rfl) rfl ⟨s0, s1, y13', y14', hb4.drew⟩ (fun w1 w2 h hS => ⟨(h.block _ (Array.getElem?_eq_some_iff.1 hS.1).1).trans hS.1, (h.block _ (Array.getElem?_eq_some_iff.1 hS.2.1).1).trans hS.2.1, (h.block _ (Array.getElem?_eq_some_iff.1 hS.2.2.1).1).trans hS.2.2.1, (h.block _ (Array.getElem?_eq_some_iff.1 hS.2.2.2.1).1).trans hS.2.2.2.1, hS.2.2.2.2.trans (h.mono hS.2.2.2.2.size)⟩) (Drw.lt_succ (Drw.lt_succ (Drw.lt_succ (Drw.lt_succ (Drw.lt_succ (Drw.lt_succ (Drw.lt_succ (Drw.lt_succ (Drw.lt_succ (Drw.lt_succ (Drw.lt_succ (Drw.lt_succ (Drw.lt_succ (Drw.lt_succ (Drw.lt_succ (Drw.lt_succ (Drw.lt_succ (Drw.lt_succ (Drw.lt_succ (Drw.lt_succ (Drw.lt_succ (Drw.lt_succ (Drw.lt_succ (Drw.lt_succ (Drw.lt_succ (Drw.lt_succ (Drw.lt_succ (Drw.lt_succ (Drw.lt_succ (Drw.lt_succ (Drw.lt_succ (Drw.lt_succ (Drw.lt_succ (Drw.lt_succ (Drw.lt_succ (Drw.lt_succ (Drw.lt_succ (Drw.lt_succ (Drw.lt_succ (Drw.lt_succ Drw.lt_nil Drw.st) Drw.st) Drw.st) Drw.st) Drw.st) Drw.st) Drw.st) Drw.st) Drw.st) Drw.st) Drw.st) Drw.st) Drw.st) Drw.st) Drw.st) Drw.st) Drw.st) Drw.st) Drw.st) Drw.st) Drw.st) Drw.st) Drw.stb) Drw.st) Drw.st) Drw.st) Drw.st) Drw.st) Drw.st) Drw.st) Drw.st) Drw.st) Drw.st) Drw.st) Drw.st) Drw.stb) Drw.st) Drw.st) Drw.st) Drw.st) ?_ ?_
  case hA11 =>
    intro f
    symm
    simp only [Drw.putAll, Drw.dst, List.range, List.range.loop, List.getElem?_toArray, List.getElem?_cons_zero, List.getElem?_cons_succ, Option.bind_some, Act.put, List.setIfInBounds_toArray, List.set_cons_zero, List.set_cons_succ]
    exact rfl
  refine Drw.Obs.cons ?_ ?_
  · intro f w _ hV K hK; unfold Drw.Give; go_simp; exact hK.out _ _ rfl (Below.refl _ _) (Drw.no rfl)
  refine Drw.Obs.cons ?_ ?_
  · intro f w hS hV K hK; obtain ⟨-, -, s2, -, -⟩ := hS; obtain ⟨s2c0, s2c1, s2c2⟩ := val_cells s2; have v0 := Drw.val (hV 0 rfl); clear hV; unfold Drw.Give; go_simp; exact hK.out _ _ rfl (Below.refl _ _) (Drw.no rfl)
  refine Drw.Obs.cons ?_ ?_
  · intro f w _ hV K hK; have v1 := Drw.val (hV 1 rfl); clear hV; unfold Drw.Give; go_simp; exact hK.out _ _ rfl (Below.refl _ _) (Drw.no rfl)
  refine Drw.Obs.cons ?_ ?_
  · intro f w _ hV K hK; have v2 := Drw.val (hV 2 rfl); clear hV; unfold Drw.Give; go_simp; exact hK.out _ _ rfl (Below.refl _ _) (Drw.no rfl)
  refine Drw.Obs.cons ?_ ?_
  · intro f w _ hV K hK; have v3 := Drw.val (hV 3 rfl); clear hV; unfold Drw.Give; go_simp; exact hK.out _ _ rfl (Below.refl _ _) (Drw.no rfl)
  refine Drw.Obs.cons ?_ ?_
  · intro f w hS hV K hK; obtain ⟨-, -, -, s3, -⟩ := hS; obtain ⟨s3c0, s3c1, s3c2⟩ := val_cells s3; have v4 := Drw.val (hV 4 rfl); have v3 := Drw.val (hV 3 rfl); clear hV; unfold Drw.Give; go_simp; exact hK.out _ _ rfl (Below.refl _ _) (Drw.no rfl)
  refine Drw.Obs.cons ?_ ?_
  · intro f w _ hV K hK; have v5 := Drw.val (hV 5 rfl); have v3 := Drw.val (hV 3 rfl); clear hV; unfold Drw.Give; go_simp; exact hK.out _ _ rfl (Below.refl _ _) (Drw.no rfl)
  refine Drw.Obs.cons ?_ ?_
  · intro f w _ hV K hK; have v3 := Drw.val (hV 3 rfl); have v6 := Drw.val (hV 6 rfl); clear hV; unfold Drw.Give; go_simp; exact hK.out _ _ rfl (Below.refl _ _) (Drw.no rfl)
  refine Drw.Obs.cons ?_ ?_
  · intro f w _ hV K hK; have v7 := Drw.val (hV 7 rfl); clear hV; unfold Drw.Give; go_simp; exact hK.out _ _ rfl (Below.refl _ _) (Drw.no rfl)
  refine Drw.Obs.cons ?_ ?_
  · intro f w _ hV K hK; have v8 := Drw.val (hV 8 rfl); clear hV; unfold Drw.Give; go_simp; exact hK.out _ _ rfl (Below.refl _ _) (Drw.no rfl)
  refine Drw.Obs.cons ?_ ?_
  · intro f w hS hV K hK; obtain ⟨-, -, s2, -, -⟩ := hS; obtain ⟨s2c0, s2c1, s2c2⟩ := val_cells s2; have v9 := Drw.val (hV 9 rfl); have v8 := Drw.val (hV 8 rfl); clear hV; unfold Drw.Give; go_simp; exact hK.out _ _ rfl (Below.refl _ _) (Drw.no rfl)
  refine Drw.Obs.cons ?_ ?_
  · intro f w _ hV K hK; have v8 := Drw.val (hV 8 rfl); clear hV; unfold Drw.Give; go_simp; exact hK.out _ _ rfl (Below.refl _ _) (Drw.no rfl)
  refine Drw.Obs.cons ?_ ?_
  · intro f w hS hV K hK; obtain ⟨-, -, -, s3, -⟩ := hS; obtain ⟨s3c0, s3c1, s3c2⟩ := val_cells s3; have v11 := Drw.val (hV 11 rfl); have v8 := Drw.val (hV 8 rfl); clear hV; unfold Drw.Give; go_simp; exact hK.out _ _ rfl (Below.refl _ _) (Drw.no rfl)
  refine Drw.Obs.cons ?_ ?_
  · intro f w _ hV K hK; have v10 := Drw.val (hV 10 rfl); have v12 := Drw.val (hV 12 rfl); have v8 := Drw.val (hV 8 rfl); clear hV; unfold Drw.Give; go_simp; exact hK.out _ _ rfl (Below.refl _ _) (Drw.no rfl)
  refine Drw.Obs.cons ?_ ?_
  · intro f w _ hV K hK; have v8 := Drw.val (hV 8 rfl); clear hV; unfold Drw.Give; go_simp; exact hK.out _ _ rfl (Below.refl _ _) (Drw.no rfl)
  refine Drw.Obs.cons ?_ ?_
  · intro f w _ hV K hK; have v13 := Drw.val (hV 13 rfl); have v14 := Drw.val (hV 14 rfl); have v8 := Drw.val (hV 8 rfl); clear hV; unfold Drw.Give; go_simp; exact hK.out _ _ rfl (Below.refl _ _) (Drw.no rfl)
  refine Drw.Obs.cons ?_ ?_
  · intro f w _ hV K hK; have v8 := Drw.val (hV 8 rfl); have v15 := Drw.val (hV 15 rfl); clear hV; unfold Drw.Give; go_simp; exact hK.out _ _ rfl (Below.refl _ _) (Drw.no rfl)
  refine Drw.Obs.cons ?_ ?_
  · intro f w _ hV K hK; have v16 := Drw.val (hV 16 rfl); clear hV; unfold Drw.Give; go_simp; exact hK.out _ _ rfl (Below.refl _ _) (Drw.no rfl)
  refine Drw.Obs.cons ?_ ?_
  · intro f w hS hV K hK; obtain ⟨s0, -, -, -, -⟩ := hS; obtain ⟨s0c0, s0c1, s0c2⟩ := val_cells s0; have v17 := Drw.val (hV 17 rfl); clear hV; unfold Drw.Give; go_simp; exact hK.out _ _ rfl (Below.refl _ _) (Drw.no rfl)
  refine Drw.Obs.cons ?_ ?_
  · intro f w hS hV K hK; obtain ⟨-, -, -, -, hsb⟩ := hS; have v17 := Drw.val (hV 17 rfl); clear hV; unfold Drw.Give; go_simp; unfold Drw.giveUpon; with_reducible refine (HNUM.out _ _).mono ?_; rintro e w2 ⟨rfl, hb2⟩; exact ⟨_, rfl, hK.out _ _ rfl hb2 (Drw.no rfl)⟩
  refine Drw.Obs.cons ?_ ?_
  · intro f w _ hV K hK; have v17 := Drw.val (hV 17 rfl); clear hV; unfold Drw.Give; go_simp; exact hK.out _ _ rfl (Below.refl _ _) (Drw.no rfl)
  refine Drw.Obs.cons ?_ ?_
  · intro f w hS hV K hK; obtain ⟨-, -, -, -, hsb⟩ := hS; have v20 := Drw.val (hV 20 rfl); have v17 := Drw.val (hV 17 rfl); clear hV; unfold Drw.Give; go_simp; unfold Drw.giveUpon; with_reducible refine (HNUM.out _ _).mono ?_; rintro e w2 ⟨rfl, hb2⟩; exact ⟨_, rfl, hK.out _ _ rfl hb2 (Drw.no rfl)⟩
  refine Drw.Obs.cons ?_ ?_
  · intro f w _ hV K hK; have v18 := Drw.val (hV 18 rfl); have v19 := Drw.val (hV 19 rfl); have v21 := Drw.val (hV 21 rfl); have v17 := Drw.val (hV 17 rfl); clear hV; unfold Drw.Give; go_simp; exact hK.out _ _ (Drw.bk ⟨_, rfl, heap_alloc_new _ _⟩) ((Below.refl _ _).alloc (Nat.le_refl _) _) (fun _ => ⟨_, rfl, Nat.le_refl _, by simp⟩)
  refine Drw.Obs.cons ?_ ?_
  · intro f w hS hV K hK; obtain ⟨-, -, -, -, hsb⟩ := hS; obtain ⟨b22, v22, k22⟩ := Drw.own (hV 22 rfl); have v17 := Drw.val (hV 17 rfl); clear hV; unfold Drw.Give; go_simp; unfold Drw.giveUpon; with_reducible refine (H19a.out _ _ hsb k22).mono ?_; rintro e w2 ⟨rfl, hb2⟩; exact ⟨_, rfl, hK.out _ _ rfl hb2 (Drw.no rfl)⟩
  refine Drw.Obs.cons ?_ ?_
  · intro f w hS hV K hK; obtain ⟨-, -, s2, -, -⟩ := hS; obtain ⟨s2c0, s2c1, s2c2⟩ := val_cells s2; have v17 := Drw.val (hV 17 rfl); clear hV; unfold Drw.Give; go_simp; exact hK.out _ _ rfl (Below.refl _ _) (Drw.no rfl)
  refine Drw.Obs.cons ?_ ?_
  · intro f w _ hV K hK; have v23 := Drw.val (hV 23 rfl); have v24 := Drw.val (hV 24 rfl); have v17 := Drw.val (hV 17 rfl); clear hV; unfold Drw.Give; go_simp; exact hK.out _ _ rfl (Below.refl _ _) (Drw.no rfl)
  refine Drw.Obs.cons ?_ ?_
  · intro f w _ hV K hK; have v17 := Drw.val (hV 17 rfl); have v25 := Drw.val (hV 25 rfl); clear hV; unfold Drw.Give; go_simp; exact hK.out _ _ rfl (Below.refl _ _) (Drw.no rfl)
  refine Drw.Obs.cons ?_ ?_
  · intro f w _ hV K hK; have v26 := Drw.val (hV 26 rfl); clear hV; unfold Drw.Give; go_simp; exact hK.out _ _ rfl (Below.refl _ _) (Drw.no rfl)
  refine Drw.Obs.cons ?_ ?_
  · intro f w hS hV K hK; obtain ⟨s0, -, -, -, -⟩ := hS; obtain ⟨s0c0, s0c1, s0c2⟩ := val_cells s0; have v27 := Drw.val (hV 27 rfl); clear hV; unfold Drw.Give; go_simp; exact hK.out _ _ rfl (Below.refl _ _) (Drw.no rfl)
  refine Drw.Obs.cons ?_ ?_
  · intro f w _ hV K hK; have v27 := Drw.val (hV 27 rfl); clear hV; unfold Drw.Give; go_simp; exact hK.out _ _ rfl (Below.refl _ _) (Drw.no rfl)
  refine Drw.Obs.cons ?_ ?_
  · intro f w _ hV K hK; have v29 := Drw.val (hV 29 rfl); have v27 := Drw.val (hV 27 rfl); clear hV; unfold Drw.Give; go_simp; exact hK.out _ _ rfl (Below.refl _ _) (Drw.no rfl)
  refine Drw.Obs.cons ?_ ?_
  · intro f w hS hV K hK; obtain ⟨-, -, -, -, hsb⟩ := hS; have v30 := Drw.val (hV 30 rfl); have v27 := Drw.val (hV 27 rfl); clear hV; unfold Drw.Give; go_simp; unfold Drw.giveUpon; with_reducible refine (HNUM.out _ _).mono ?_; rintro e w2 ⟨rfl, hb2⟩; exact ⟨_, rfl, hK.out _ _ rfl hb2 (Drw.no rfl)⟩
  refine Drw.Obs.cons ?_ ?_
  · intro f w _ hV K hK; have v27 := Drw.val (hV 27 rfl); clear hV; unfold Drw.Give; go_simp; exact hK.out _ _ rfl (Below.refl _ _) (Drw.no rfl)
  refine Drw.Obs.cons ?_ ?_
  · intro f w hS hV K hK; obtain ⟨-, s1, -, -, -⟩ := hS; obtain ⟨s1c0, s1c1, s1c2⟩ := val_cells s1; have v32 := Drw.val (hV 32 rfl); have v27 := Drw.val (hV 27 rfl); clear hV; unfold Drw.Give; go_simp; exact hK.out _ _ rfl (Below.refl _ _) (Drw.no rfl)
  refine Drw.Obs.cons ?_ ?_
  · intro f w hS hV K hK; obtain ⟨-, -, -, -, hsb⟩ := hS; have v33 := Drw.val (hV 33 rfl); have v27 := Drw.val (hV 27 rfl); clear hV; unfold Drw.Give; go_simp; unfold Drw.giveUpon; with_reducible refine (HNUM.out _ _).mono ?_; rintro e w2 ⟨rfl, hb2⟩; exact ⟨_, rfl, hK.out _ _ rfl hb2 (Drw.no rfl)⟩
  refine Drw.Obs.cons ?_ ?_
  · intro f w _ hV K hK; have v28 := Drw.val (hV 28 rfl); have v31 := Drw.val (hV 31 rfl); have v34 := Drw.val (hV 34 rfl); have v27 := Drw.val (hV 27 rfl); clear hV; unfold Drw.Give; go_simp; exact hK.out _ _ (Drw.bk ⟨_, rfl, heap_alloc_new _ _⟩) ((Below.refl _ _).alloc (Nat.le_refl _) _) (fun _ => ⟨_, rfl, Nat.le_refl _, by simp⟩)
  refine Drw.Obs.cons ?_ ?_
  · intro f w hS hV K hK; obtain ⟨-, -, -, -, hsb⟩ := hS; obtain ⟨b35, v35, k35⟩ := Drw.own (hV 35 rfl); have v27 := Drw.val (hV 27 rfl); clear hV; unfold Drw.Give; go_simp; unfold Drw.giveUpon; with_reducible refine (H19b.out _ _ hsb k35).mono ?_; rintro e w2 ⟨rfl, hb2⟩; exact ⟨_, rfl, hK.out _ _ rfl hb2 (Drw.no rfl)⟩
  refine Drw.Obs.cons ?_ ?_
  · intro f w hS hV K hK; obtain ⟨-, -, -, s3, -⟩ := hS; obtain ⟨s3c0, s3c1, s3c2⟩ := val_cells s3; have v27 := Drw.val (hV 27 rfl); clear hV; unfold Drw.Give; go_simp; exact hK.out _ _ rfl (Below.refl _ _) (Drw.no rfl)
  refine Drw.Obs.cons ?_ ?_
  · intro f w _ hV K hK; have v36 := Drw.val (hV 36 rfl); have v37 := Drw.val (hV 37 rfl); have v27 := Drw.val (hV 27 rfl); clear hV; unfold Drw.Give; go_simp; exact hK.out _ _ rfl (Below.refl _ _) (Drw.no rfl)
  refine Drw.Obs.cons ?_ ?_
  · intro f w _ hV K hK; have v27 := Drw.val (hV 27 rfl); have v38 := Drw.val (hV 38 rfl); clear hV; unfold Drw.Give; go_simp; exact hK.out _ _ rfl (Below.refl _ _) (Drw.no rfl)
  exact Drw.Obs.nil
  intro f w7 hS hV hD hZ
  clear hD hZ
  have v39 : f 39 = .bool false := hV 39 (by decide)
  clear hV
  simp only [v39]
  clear v39
  clear s0 s1 y13' y14' hb4
  obtain ⟨s0, s1, y13', y14', hb4⟩ := hS
  go_upto_region 13 with (fail)
  refine Drw.region_values_all 34 ?A13 (fun w' => w'.heap[Bk7]? = some (.cells #[.int .i64 3, .int .i64 0, .string s] 26 (0, 0)) ∧ w'.heap[Bk8]? = some (.cells #[.int .i64 1, .int .i64 c, .string ⟨#[]⟩] 26 (0, 0)) ∧ w'.heap[b13]? = some (.cells #[.int .i64 3, .int .i64 0, .string a] 26 (0, 0)) ∧ w'.heap[b14]? = some (.cells #[.int .i64 3, .int .i64 0, .string b] 26 (0, 0)) ∧ Below w.heap.size w w') (fun i => match i with | 0 => fun v _ => v = .agg #[.int .i64 3, .int .i64 0, .string s] | 1 => fun v _ => v = .int .i64 m | 2 => fun v _ => v = .int .i64 m1 | 3 => fun v _ => v = .agg #[.int .i64 1, .int .i64 m1, .string ⟨#[]⟩] | 4 => fun v _ => v = .agg #[.int .i64 1, .int .i64 0, .string ⟨#[]⟩] | 5 => fun v _ => v = .string wi | 6 => fun v _ => v = .agg #[.int .i64 3, .int .i64 0, .string wi] | 7 => Drw.Blk (fun b => .slice (some ⟨b, 0, none⟩) 4 4) (.cells #[.int .i64 3, .int .i64 0, .string s, .int .i64 1, .int .i64 m1, .string ⟨#[]⟩, .int .i64 1, .int .i64 0, .string ⟨#[]⟩, .int .i64 3, .int .i64 0, .string wi] 26 (0, 0)) | 8 => fun v _ => v = .agg #[.int .i64 3, .int .i64 0, .string x1] | 9 => fun v _ => v = .pointer (some ⟨b13, 2, none⟩) | 10 => fun v _ => v = .string a | 11 => fun v _ => v = .string wi | 12 => fun v _ => v = .string (a ++ wi) | 13 => fun v _ => v = .pointer (some ⟨b14, 2, none⟩) | 14 => fun v _ => v = .string b | 15 => fun v _ => v = .string x1 | 16 => fun v _ => v = .agg #[.int .i64 3, .int .i64 0, .string x1] | 17 => fun v _ => v = .bool false | 18 => fun v _ => v = .bool false | 19 => fun v _ => v = .agg #[.int .i64 3, .int .i64 0, .string s] | 20 => fun v _ => v = .agg #[.int .i64 1, .int .i64 1, .string ⟨#[]⟩] | 21 => fun v _ => v = .int .i64 m | 22 => fun v _ => v = .agg #[.int .i64 1, .int .i64 m, .string ⟨#[]⟩] | 23 => fun v _ => v = .string wi | 24 => fun v _ => v = .agg #[.int .i64 3, .int .i64 0, .string wi] | 25 => Drw.Blk (fun b => .slice (some ⟨b, 0, none⟩) 4 4) (.cells #[.int .i64 3, .int .i64 0, .string s, .int .i64 1, .int .i64 1, .string ⟨#[]⟩, .int .i64 1, .int .i64 m, .string ⟨#[]⟩, .int .i64 3, .int .i64 0, .string wi] 26 (0, 0)) | 26 => fun v _ => v = .agg #[.int .i64 3, .int .i64 0, .string x2] | 27 => fun v _ => v = .string wi | 28 => fun v _ => v = .pointer (some ⟨b14, 2, none⟩) | 29 => fun v _ => v = .string b | 30 => fun v _ => v = .string x2 | 31 => fun v _ => v = .agg #[.int .i64 3, .int .i64 0, .string x2] | 32 => fun v _ => v = .bool false | 33 => fun v _ => v = .bool false | _ => fun _ _ => True) (fun i => i == 7 || i == 25) ?hA13 (by kernel_rfl) (by kernel_rfl) rfl ⟨s0, s1, y13', y14', hb4.drew⟩ (fun w1 w2 h hS => ⟨(h.block _ (Array.getElem?_eq_some_iff.1 hS.1).1).trans hS.1, (h.block _ (Array.getElem?_eq_some_iff.1 hS.2.1).1).trans hS.2.1, (h.block _ (Array.getElem?_eq_some_iff.1 hS.2.2.1).1).trans hS.2.2.1, (h.block _ (Array.getElem?_eq_some_iff.1 hS.2.2.2.1).1).trans hS.2.2.2.1, hS.2.2.2.2.trans (h.mono hS.2.2.2.2.size)⟩) (Drw.lt_succ (Drw.lt_succ (Drw.lt_succ (Drw.lt_succ (Drw.lt_succ (Drw.lt_succ (Drw.lt_succ (Drw.lt_succ (Drw.lt_succ (Drw.lt_succ (Drw.lt_succ (Drw.lt_succ (Drw.lt_succ (Drw.lt_succ (Drw.lt_succ (Drw.lt_succ (Drw.lt_succ (Drw.lt_succ (Drw.lt_succ (Drw.lt_succ (Drw.lt_succ (Drw.lt_succ (Drw.lt_succ (Drw.lt_succ (Drw.lt_succ (Drw.lt_succ (Drw.lt_succ (Drw.lt_succ (Drw.lt_succ (Drw.lt_succ (Drw.lt_succ (Drw.lt_succ (Drw.lt_succ (Drw.lt_succ Drw.lt_nil Drw.st) Drw.st) Drw.st) Drw.st) Drw.st) Drw.st) Drw.st) Drw.stb) Drw.st) Drw.st) Drw.st) Drw.st) Drw.st) Drw.st) Drw.st) Drw.st) Drw.st) Drw.st) Drw.st) Drw.st) Drw.st) Drw.st) Drw.st) Drw.st) Drw.st) Drw.stb) Drw.st) Drw.st) Drw.st) Drw.st) Drw.st) Drw.st) Drw.st) Drw.st) ?_ ?_
  case hA13 =>
    intro f
    symm
    simp only [Drw.putAll, Drw.dst, List.range, List.range.loop, List.getElem?_toArray, List.getElem?_cons_zero, List.getElem?_cons_succ, Option.bind_some, Act.put, List.setIfInBounds_toArray, List.set_cons_zero, List.set_cons_succ]
    exact rfl
  refine Drw.Obs.cons ?_ ?_
  · intro f w hS hV K hK; obtain ⟨s0, -, -, -, -⟩ := hS; obtain ⟨s0c0, s0c1, s0c2⟩ := val_cells s0; unfold Drw.Give; go_simp; exact hK.out _ _ rfl (Below.refl _ _) (Drw.no rfl)
  refine Drw.Obs.cons ?_ ?_
  · intro f w _ hV K hK; unfold Drw.Give; go_simp; exact hK.out _ _ rfl (Below.refl _ _) (Drw.no rfl)
  refine Drw.Obs.cons ?_ ?_
  · intro f w _ hV K hK; have v1 := Drw.val (hV 1 rfl); clear hV; unfold Drw.Give; go_simp; exact hK.out _ _ rfl (Below.refl _ _) (Drw.no rfl)
  refine Drw.Obs.cons ?_ ?_
  · intro f w hS hV K hK; obtain ⟨-, -, -, -, hsb⟩ := hS; have v2 := Drw.val (hV 2 rfl); clear hV; unfold Drw.Give; go_simp; unfold Drw.giveUpon; with_reducible refine (HNUM.out _ _).mono ?_; rintro e w2 ⟨rfl, hb2⟩; exact ⟨_, rfl, hK.out _ _ rfl hb2 (Drw.no rfl)⟩
  refine Drw.Obs.cons ?_ ?_
  · intro f w hS hV K hK; obtain ⟨-, -, -, -, hsb⟩ := hS; unfold Drw.Give; go_simp; unfold Drw.giveUpon; with_reducible refine (HNUM.out _ _).mono ?_; rintro e w2 ⟨rfl, hb2⟩; exact ⟨_, rfl, hK.out _ _ rfl hb2 (Drw.no rfl)⟩
  refine Drw.Obs.cons ?_ ?_
  · intro f w _ hV K hK; unfold Drw.Give; go_simp; exact hK.out _ _ rfl (Below.refl _ _) (Drw.no rfl)
  refine Drw.Obs.cons ?_ ?_
  · intro f w hS hV K hK; obtain ⟨-, -, -, -, hsb⟩ := hS; have v5 := Drw.val (hV 5 rfl); clear hV; unfold Drw.Give; go_simp; unfold Drw.giveUpon; with_reducible refine (HTXT.out _ _).mono ?_; rintro e w2 ⟨rfl, hb2⟩; exact ⟨_, rfl, hK.out _ _ rfl hb2 (Drw.no rfl)⟩
  refine Drw.Obs.cons ?_ ?_
  · intro f w _ hV K hK; have v0 := Drw.val (hV 0 rfl); have v3 := Drw.val (hV 3 rfl); have v4 := Drw.val (hV 4 rfl); have v6 := Drw.val (hV 6 rfl); clear hV; unfold Drw.Give; go_simp; exact hK.out _ _ (Drw.bk ⟨_, rfl, heap_alloc_new _ _⟩) ((Below.refl _ _).alloc (Nat.le_refl _) _) (fun _ => ⟨_, rfl, Nat.le_refl _, by simp⟩)
  refine Drw.Obs.cons ?_ ?_
  · intro f w hS hV K hK; obtain ⟨-, -, -, -, hsb⟩ := hS; obtain ⟨b7, v7, k7⟩ := Drw.own (hV 7 rfl); clear hV; unfold Drw.Give; go_simp; unfold Drw.giveUpon; with_reducible refine (H26a.out _ _ hsb k7).mono ?_; rintro e w2 ⟨rfl, hb2⟩; exact ⟨_, rfl, hK.out _ _ rfl hb2 (Drw.no rfl)⟩
  refine Drw.Obs.cons ?_ ?_
  · intro f w _ hV K hK; unfold Drw.Give; go_simp; exact hK.out _ _ rfl (Below.refl _ _) (Drw.no rfl)
  refine Drw.Obs.cons ?_ ?_
  · intro f w hS hV K hK; obtain ⟨-, -, s2, -, -⟩ := hS; obtain ⟨s2c0, s2c1, s2c2⟩ := val_cells s2; have v9 := Drw.val (hV 9 rfl); clear hV; unfold Drw.Give; go_simp; exact hK.out _ _ rfl (Below.refl _ _) (Drw.no rfl)
  refine Drw.Obs.cons ?_ ?_
  · intro f w _ hV K hK; unfold Drw.Give; go_simp; exact hK.out _ _ rfl (Below.refl _ _) (Drw.no rfl)
  refine Drw.Obs.cons ?_ ?_
  · intro f w _ hV K hK; have v10 := Drw.val (hV 10 rfl); have v11 := Drw.val (hV 11 rfl); clear hV; unfold Drw.Give; go_simp; exact hK.out _ _ rfl (Below.refl _ _) (Drw.no rfl)
  refine Drw.Obs.cons ?_ ?_
  · intro f w _ hV K hK; unfold Drw.Give; go_simp; exact hK.out _ _ rfl (Below.refl _ _) (Drw.no rfl)
  refine Drw.Obs.cons ?_ ?_
  · intro f w hS hV K hK; obtain ⟨-, -, -, s3, -⟩ := hS; obtain ⟨s3c0, s3c1, s3c2⟩ := val_cells s3; have v13 := Drw.val (hV 13 rfl); clear hV; unfold Drw.Give; go_simp; exact hK.out _ _ rfl (Below.refl _ _) (Drw.no rfl)
  refine Drw.Obs.cons ?_ ?_
  · intro f w _ hV K hK; have v12 := Drw.val (hV 12 rfl); have v14 := Drw.val (hV 14 rfl); clear hV; unfold Drw.Give; go_simp; exact hK.out _ _ rfl (Below.refl _ _) (Drw.no rfl)
  refine Drw.Obs.cons ?_ ?_
  · intro f w hS hV K hK; obtain ⟨-, -, -, -, hsb⟩ := hS; have v15 := Drw.val (hV 15 rfl); clear hV; unfold Drw.Give; go_simp; unfold Drw.giveUpon; with_reducible refine (HTXT.out _ _).mono ?_; rintro e w2 ⟨rfl, hb2⟩; exact ⟨_, rfl, hK.out _ _ rfl hb2 (Drw.no rfl)⟩
  refine Drw.Obs.cons ?_ ?_
  · intro f w _ hV K hK; have v8 := Drw.val (hV 8 rfl); have v16 := Drw.val (hV 16 rfl); clear hV; unfold Drw.Give; go_simp; exact hK.out _ _ rfl (Below.refl _ _) (Drw.no rfl)
  refine Drw.Obs.cons ?_ ?_
  · intro f w _ hV K hK; have v17 := Drw.val (hV 17 rfl); clear hV; unfold Drw.Give; go_simp; exact hK.out _ _ rfl (Below.refl _ _) (Drw.no rfl)
  refine Drw.Obs.cons ?_ ?_
  · intro f w hS hV K hK; obtain ⟨s0, -, -, -, -⟩ := hS; obtain ⟨s0c0, s0c1, s0c2⟩ := val_cells s0; have v18 := Drw.val (hV 18 rfl); clear hV; unfold Drw.Give; go_simp; exact hK.out _ _ rfl (Below.refl _ _) (Drw.no rfl)
  refine Drw.Obs.cons ?_ ?_
  · intro f w hS hV K hK; obtain ⟨-, -, -, -, hsb⟩ := hS; have v18 := Drw.val (hV 18 rfl); clear hV; unfold Drw.Give; go_simp; unfold Drw.giveUpon; with_reducible refine (HNUM.out _ _).mono ?_; rintro e w2 ⟨rfl, hb2⟩; exact ⟨_, rfl, hK.out _ _ rfl hb2 (Drw.no rfl)⟩
  refine Drw.Obs.cons ?_ ?_
  · intro f w _ hV K hK; have v18 := Drw.val (hV 18 rfl); clear hV; unfold Drw.Give; go_simp; exact hK.out _ _ rfl (Below.refl _ _) (Drw.no rfl)
  refine Drw.Obs.cons ?_ ?_
  · intro f w hS hV K hK; obtain ⟨-, -, -, -, hsb⟩ := hS; have v21 := Drw.val (hV 21 rfl); have v18 := Drw.val (hV 18 rfl); clear hV; unfold Drw.Give; go_simp; unfold Drw.giveUpon; with_reducible refine (HNUM.out _ _).mono ?_; rintro e w2 ⟨rfl, hb2⟩; exact ⟨_, rfl, hK.out _ _ rfl hb2 (Drw.no rfl)⟩
  refine Drw.Obs.cons ?_ ?_
  · intro f w _ hV K hK; have v18 := Drw.val (hV 18 rfl); clear hV; unfold Drw.Give; go_simp; exact hK.out _ _ rfl (Below.refl _ _) (Drw.no rfl)
  refine Drw.Obs.cons ?_ ?_
  · intro f w hS hV K hK; obtain ⟨-, -, -, -, hsb⟩ := hS; have v23 := Drw.val (hV 23 rfl); have v18 := Drw.val (hV 18 rfl); clear hV; unfold Drw.Give; go_simp; unfold Drw.giveUpon; with_reducible refine (HTXT.out _ _).mono ?_; rintro e w2 ⟨rfl, hb2⟩; exact ⟨_, rfl, hK.out _ _ rfl hb2 (Drw.no rfl)⟩
  refine Drw.Obs.cons ?_ ?_
  · intro f w _ hV K hK; have v19 := Drw.val (hV 19 rfl); have v20 := Drw.val (hV 20 rfl); have v22 := Drw.val (hV 22 rfl); have v24 := Drw.val (hV 24 rfl); have v18 := Drw.val (hV 18 rfl); clear hV; unfold Drw.Give; go_simp; exact hK.out _ _ (Drw.bk ⟨_, rfl, heap_alloc_new _ _⟩) ((Below.refl _ _).alloc (Nat.le_refl _) _) (fun _ => ⟨_, rfl, Nat.le_refl _, by simp⟩)
  refine Drw.Obs.cons ?_ ?_
  · intro f w hS hV K hK; obtain ⟨-, -, -, -, hsb⟩ := hS; obtain ⟨b25, v25, k25⟩ := Drw.own (hV 25 rfl); have v18 := Drw.val (hV 18 rfl); clear hV; unfold Drw.Give; go_simp; unfold Drw.giveUpon; with_reducible refine (H26b.out _ _ hsb k25).mono ?_; rintro e w2 ⟨rfl, hb2⟩; exact ⟨_, rfl, hK.out _ _ rfl hb2 (Drw.no rfl)⟩
  refine Drw.Obs.cons ?_ ?_
  · intro f w _ hV K hK; have v18 := Drw.val (hV 18 rfl); clear hV; unfold Drw.Give; go_simp; exact hK.out _ _ rfl (Below.refl _ _) (Drw.no rfl)
  refine Drw.Obs.cons ?_ ?_
  · intro f w _ hV K hK; have v18 := Drw.val (hV 18 rfl); clear hV; unfold Drw.Give; go_simp; exact hK.out _ _ rfl (Below.refl _ _) (Drw.no rfl)
  refine Drw.Obs.cons ?_ ?_
  · intro f w hS hV K hK; obtain ⟨-, -, -, s3, -⟩ := hS; obtain ⟨s3c0, s3c1, s3c2⟩ := val_cells s3; have v28 := Drw.val (hV 28 rfl); have v18 := Drw.val (hV 18 rfl); clear hV; unfold Drw.Give; go_simp; exact hK.out _ _ rfl (Below.refl _ _) (Drw.no rfl)
  refine Drw.Obs.cons ?_ ?_
  · intro f w _ hV K hK; have v27 := Drw.val (hV 27 rfl); have v29 := Drw.val (hV 29 rfl); have v18 := Drw.val (hV 18 rfl); clear hV; unfold Drw.Give; go_simp; exact hK.out _ _ rfl (Below.refl _ _) (Drw.no rfl)
  refine Drw.Obs.cons ?_ ?_
  · intro f w hS hV K hK; obtain ⟨-, -, -, -, hsb⟩ := hS; have v30 := Drw.val (hV 30 rfl); have v18 := Drw.val (hV 18 rfl); clear hV; unfold Drw.Give; go_simp; unfold Drw.giveUpon; with_reducible refine (HTXT.out _ _).mono ?_; rintro e w2 ⟨rfl, hb2⟩; exact ⟨_, rfl, hK.out _ _ rfl hb2 (Drw.no rfl)⟩
  refine Drw.Obs.cons ?_ ?_
  · intro f w _ hV K hK; have v26 := Drw.val (hV 26 rfl); have v31 := Drw.val (hV 31 rfl); have v18 := Drw.val (hV 18 rfl); clear hV; unfold Drw.Give; go_simp; exact hK.out _ _ rfl (Below.refl _ _) (Drw.no rfl)
  refine Drw.Obs.cons ?_ ?_
  · intro f w _ hV K hK; have v18 := Drw.val (hV 18 rfl); have v32 := Drw.val (hV 32 rfl); clear hV; unfold Drw.Give; go_simp; exact hK.out _ _ rfl (Below.refl _ _) (Drw.no rfl)
  exact Drw.Obs.nil
  intro f w8 hS hV hD hZ
  clear hD hZ
  have v33 : f 33 = .bool false := hV 33 (by decide)
  clear hV
  simp only [v33]
  clear v33
  clear s0 s1 y13' y14' hb4
  obtain ⟨s0, s1, y13', y14', hb4⟩ := hS
  go_upto_region 15 with (fail)
  refine Drw.region_values_all 29 ?A15 (fun w' => w'.heap[Bk7]? = some (.cells #[.int .i64 3, .int .i64 0, .string s] 26 (0, 0)) ∧ w'.heap[Bk8]? = some (.cells #[.int .i64 1, .int .i64 c, .string ⟨#[]⟩] 26 (0, 0)) ∧ w'.heap[b13]? = some (.cells #[.int .i64 3, .int .i64 0, .string a] 26 (0, 0)) ∧ w'.heap[b14]? = some (.cells #[.int .i64 3, .int .i64 0, .string b] 26 (0, 0)) ∧ Below w.heap.size w w') (fun i => match i with | 0 => fun v _ => v = .string s | 1 => fun v _ => v = .bool z | 2 => fun v _ => v = .bool z | 3 => Drw.May z (fun v _ => v = .agg #[.int .i64 3, .int .i64 0, .string s]) | 4 => Drw.May z (Drw.Blk (fun b => .slice (some ⟨b, 0, none⟩) 1 1) (.cells #[.int .i64 3, .int .i64 0, .string s] 26 (0, 0))) | 5 => Drw.May z (fun v _ => v = .agg #[.int .i64 3, .int .i64 0, .string u]) | 6 => Drw.May z (Drw.Blk (fun b => .slice (some ⟨b, 0, none⟩) 1 1) (.cells #[.int .i64 3, .int .i64 0, .string u] 26 (0, 0))) | 7 => Drw.May z (fun v _ => v = .agg #[.int .i64 3, .int .i64 0, .string s]) | 8 => Drw.May z (fun v _ => v = .agg #[.int .i64 3, .int .i64 0, .string s]) | 9 => Drw.May z (fun v _ => v = .bool false) | 10 => fun v _ => v = .bool false | 11 => fun v _ => v = .bool false | 12 => fun v _ => v = .agg #[.int .i64 3, .int .i64 0, .string s] | 13 => Drw.Blk (fun b => .slice (some ⟨b, 0, none⟩) 1 1) (.cells #[.int .i64 3, .int .i64 0, .string s] 26 (0, 0)) | 14 => fun v _ => v = .agg #[.int .i64 3, .int .i64 0, .string l] | 15 => Drw.Blk (fun b => .slice (some ⟨b, 0, none⟩) 1 1) (.cells #[.int .i64 3, .int .i64 0, .string l] 26 (0, 0)) | 16 => fun v _ => v = .agg #[.int .i64 3, .int .i64 0, .string p] | 17 => fun v _ => v = .agg #[.int .i64 3, .int .i64 0, .string s] | 18 => Drw.Blk (fun b => .slice (some ⟨b, 0, none⟩) 1 1) (.cells #[.int .i64 3, .int .i64 0, .string s] 26 (0, 0)) | 19 => fun v _ => v = .agg #[.int .i64 3, .int .i64 0, .string p] | 20 => fun v _ => v = .bool false | 21 => fun v _ => v = .bool false | 22 => fun v _ => v = .bool false | 23 => fun v _ => v = .agg #[.int .i64 3, .int .i64 0, .string a] | 24 => fun v _ => v = .agg #[.int .i64 3, .int .i64 0, .string b] | 25 => fun v _ => v = .agg #[.int .i64 3, .int .i64 0, .string s] | 26 => fun v _ => v = .agg #[.int .i64 3, .int .i64 0, .string s] | 27 => fun v _ => v = .bool false | 28 => fun v _ => v = .bool false | _ => fun _ _ => True) (fun i => i == 13 || i == 15 || i == 18) ?hA15 (by kernel_rfl) (by kernel_rfl) rfl ⟨s0, s1, y13', y14', hb4.drew⟩ (fun w1 w2 h hS => ⟨(h.block _ (Array.getElem?_eq_some_iff.1 hS.1).1).trans hS.1, (h.block _ (Array.getElem?_eq_some_iff.1 hS.2.1).1).trans hS.2.1, (h.block _ (Array.getElem?_eq_some_iff.1 hS.2.2.1).1).trans hS.2.2.1, (h.block _ (Array.getElem?_eq_some_iff.1 hS.2.2.2.1).1).trans hS.2.2.2.1, hS.2.2.2.2.trans (h.mono hS.2.2.2.2.size)⟩) (Drw.lt_succ (Drw.lt_succ (Drw.lt_succ (Drw.lt_succ (Drw.lt_succ (Drw.lt_succ (Drw.lt_succ (Drw.lt_succ (Drw.lt_succ (Drw.lt_succ (Drw.lt_succ (Drw.lt_succ (Drw.lt_succ (Drw.lt_succ (Drw.lt_succ (Drw.lt_succ (Drw.lt_succ (Drw.lt_succ (Drw.lt_succ (Drw.lt_succ (Drw.lt_succ (Drw.lt_succ (Drw.lt_succ (Drw.lt_succ (Drw.lt_succ (Drw.lt_succ (Drw.lt_succ (Drw.lt_succ (Drw.lt_succ Drw.lt_nil Drw.st) Drw.st) Drw.st) Drw.st) Drw.stm) Drw.st) Drw.stm) Drw.st) Drw.st) Drw.st) Drw.st) Drw.st) Drw.st) Drw.stb) Drw.st) Drw.stb) Drw.st) Drw.st) Drw.stb) Drw.st) Drw.st) Drw.st) Drw.st) Drw.st) Drw.st) Drw.st) Drw.st) Drw.st) Drw.st) ?_ ?_
  case hA15 =>
    intro f
    symm
    simp only [Drw.putAll, Drw.dst, List.range, List.range.loop, List.getElem?_toArray, List.getElem?_cons_zero, List.getElem?_cons_succ, Option.bind_some, Act.put, List.setIfInBounds_toArray, List.set_cons_zero, List.set_cons_succ]
    exact rfl
  refine Drw.Obs.cons ?_ ?_
  · intro f w _ hV K hK; unfold Drw.Give; go_simp; exact hK.out _ _ rfl (Below.refl _ _) (Drw.no rfl)
  refine Drw.Obs.cons ?_ ?_
  · intro f w hS hV K hK; obtain ⟨-, -, -, -, hsb⟩ := hS; have v0 := Drw.val (hV 0 rfl); clear hV; unfold Drw.Give; go_simp; unfold Drw.giveUpon; with_reducible refine (HSO.out _).mono ?_; rintro e w2 ⟨rfl, hb2⟩; exact ⟨_, rfl, hK.out _ _ rfl hb2 (Drw.no rfl)⟩
  refine Drw.Obs.cons ?_ ?_
  · intro f w _ hV K hK; have v1 := Drw.val (hV 1 rfl); clear hV; unfold Drw.Give; go_simp; exact hK.out _ _ rfl (Below.refl _ _) (Drw.no rfl)
  refine Drw.Obs.cons ?_ ?_
  · intro f w hS hV K hK; obtain ⟨s0, -, -, -, -⟩ := hS; obtain ⟨s0c0, s0c1, s0c2⟩ := val_cells s0; cases z
    · have v2 := Drw.val (hV 2 rfl); clear hV; unfold Drw.Give; go_simp; exact hK.out _ _ rfl (Below.refl _ _) (Drw.no rfl)
    · have v2 := Drw.val (hV 2 rfl); clear hV; unfold Drw.Give; go_simp; exact hK.out _ _ rfl (Below.refl _ _) (Drw.no rfl)
  refine Drw.Obs.cons ?_ ?_
  · intro f w _ hV K hK; cases z
    · have v2 := Drw.val (hV 2 rfl); clear hV; unfold Drw.Give; go_simp; exact hK.out _ _ rfl (Below.refl _ _) (Drw.no rfl)
    · have v3 := Drw.val (hV 3 rfl); have v2 := Drw.val (hV 2 rfl); clear hV; unfold Drw.Give; go_simp; exact hK.out _ _ (Drw.bk ⟨_, rfl, heap_alloc_new _ _⟩) ((Below.refl _ _).alloc (Nat.le_refl _) _) (Drw.no rfl)
  refine Drw.Obs.cons ?_ ?_
  · intro f w hS hV K hK; obtain ⟨-, -, -, -, hsb⟩ := hS; cases z
    · have v2 := Drw.val (hV 2 rfl); clear hV; unfold Drw.Give; go_simp; exact hK.out _ _ rfl (Below.refl _ _) (Drw.no rfl)
    · obtain ⟨b4, v4, k4⟩ := Drw.own (hV 4 rfl); have v2 := Drw.val (hV 2 rfl); clear hV; unfold Drw.Give; go_simp; unfold Drw.giveUpon; with_reducible refine (H23a.out rfl _ _ hsb k4).mono ?_; rintro e w2 ⟨rfl, hb2⟩; exact ⟨_, rfl, hK.out _ _ (Drw.mk_may rfl) hb2 (Drw.no rfl)⟩
  refine Drw.Obs.cons ?_ ?_
  · intro f w _ hV K hK; cases z
    · have v2 := Drw.val (hV 2 rfl); clear hV; unfold Drw.Give; go_simp; exact hK.out _ _ rfl (Below.refl _ _) (Drw.no rfl)
    · have v5 := Drw.val (hV 5 rfl); have v2 := Drw.val (hV 2 rfl); clear hV; unfold Drw.Give; go_simp; exact hK.out _ _ (Drw.bk ⟨_, rfl, heap_alloc_new _ _⟩) ((Below.refl _ _).alloc (Nat.le_refl _) _) (Drw.no rfl)
  refine Drw.Obs.cons ?_ ?_
  · intro f w hS hV K hK; obtain ⟨-, -, -, -, hsb⟩ := hS; cases z
    · have v2 := Drw.val (hV 2 rfl); clear hV; unfold Drw.Give; go_simp; exact hK.out _ _ rfl (Below.refl _ _) (Drw.no rfl)
    · obtain ⟨b6, v6, k6⟩ := Drw.own (hV 6 rfl); have v2 := Drw.val (hV 2 rfl); clear hV; unfold Drw.Give; go_simp; unfold Drw.giveUpon; with_reducible refine (H23b.out rfl _ _ hsb k6).mono ?_; rintro e w2 ⟨rfl, hb2⟩; exact ⟨_, rfl, hK.out _ _ (Drw.mk_may rfl) hb2 (Drw.no rfl)⟩
  refine Drw.Obs.cons ?_ ?_
  · intro f w hS hV K hK; obtain ⟨s0, -, -, -, -⟩ := hS; obtain ⟨s0c0, s0c1, s0c2⟩ := val_cells s0; cases z
    · have v2 := Drw.val (hV 2 rfl); clear hV; unfold Drw.Give; go_simp; exact hK.out _ _ rfl (Below.refl _ _) (Drw.no rfl)
    · have v2 := Drw.val (hV 2 rfl); clear hV; unfold Drw.Give; go_simp; exact hK.out _ _ rfl (Below.refl _ _) (Drw.no rfl)
  refine Drw.Obs.cons ?_ ?_
  · intro f w _ hV K hK; cases z
    · have v2 := Drw.val (hV 2 rfl); clear hV; unfold Drw.Give; go_simp; exact hK.out _ _ rfl (Below.refl _ _) (Drw.no rfl)
    · have v7 := Drw.val (hV 7 rfl); have v8 := Drw.val (hV 8 rfl); have v2 := Drw.val (hV 2 rfl); clear hV; unfold Drw.Give; go_simp; exact hK.out _ _ rfl (Below.refl _ _) (Drw.no rfl)
  refine Drw.Obs.cons ?_ ?_
  · intro f w _ hV K hK; cases z
    · have v2 := Drw.val (hV 2 rfl); have v9 := Drw.val (hV 9 rfl); clear hV; unfold Drw.Give; go_simp; exact hK.out _ _ rfl (Below.refl _ _) (Drw.no rfl)
    · have v2 := Drw.val (hV 2 rfl); have v9 := Drw.val (hV 9 rfl); clear hV; unfold Drw.Give; go_simp; exact hK.out _ _ rfl (Below.refl _ _) (Drw.no rfl)
  refine Drw.Obs.cons ?_ ?_
  · intro f w _ hV K hK; have v10 := Drw.val (hV 10 rfl); clear hV; unfold Drw.Give; go_simp; exact hK.out _ _ rfl (Below.refl _ _) (Drw.no rfl)
  refine Drw.Obs.cons ?_ ?_
  · intro f w hS hV K hK; obtain ⟨s0, -, -, -, -⟩ := hS; obtain ⟨s0c0, s0c1, s0c2⟩ := val_cells s0; have v11 := Drw.val (hV 11 rfl); clear hV; unfold Drw.Give; go_simp; exact hK.out _ _ rfl (Below.refl _ _) (Drw.no rfl)
  refine Drw.Obs.cons ?_ ?_
  · intro f w _ hV K hK; have v12 := Drw.val (hV 12 rfl); have v11 := Drw.val (hV 11 rfl); clear hV; unfold Drw.Give; go_simp; exact hK.out _ _ (Drw.bk ⟨_, rfl, heap_alloc_new _ _⟩) ((Below.refl _ _).alloc (Nat.le_refl _) _) (fun _ => ⟨_, rfl, Nat.le_refl _, by simp⟩)
  refine Drw.Obs.cons ?_ ?_
  · intro f w hS hV K hK; obtain ⟨-, -, -, -, hsb⟩ := hS; obtain ⟨b13, v13, k13⟩ := Drw.own (hV 13 rfl); have v11 := Drw.val (hV 11 rfl); clear hV; unfold Drw.Give; go_simp; unfold Drw.giveUpon; with_reducible refine (H21.out _ _ hsb k13).mono ?_; rintro e w2 ⟨rfl, hb2⟩; exact ⟨_, rfl, hK.out _ _ rfl hb2 (Drw.no rfl)⟩
  refine Drw.Obs.cons ?_ ?_
  · intro f w _ hV K hK; have v14 := Drw.val (hV 14 rfl); have v11 := Drw.val (hV 11 rfl); clear hV; unfold Drw.Give; go_simp; exact hK.out _ _ (Drw.bk ⟨_, rfl, heap_alloc_new _ _⟩) ((Below.refl _ _).alloc (Nat.le_refl _) _) (fun _ => ⟨_, rfl, Nat.le_refl _, by simp⟩)
  refine Drw.Obs.cons ?_ ?_
  · intro f w hS hV K hK; obtain ⟨-, -, -, -, hsb⟩ := hS; obtain ⟨b15, v15, k15⟩ := Drw.own (hV 15 rfl); have v11 := Drw.val (hV 11 rfl); clear hV; unfold Drw.Give; go_simp; unfold Drw.giveUpon; with_reducible refine (H20a.out _ _ hsb k15).mono ?_; rintro e w2 ⟨rfl, hb2⟩; exact ⟨_, rfl, hK.out _ _ rfl hb2 (Drw.no rfl)⟩
  refine Drw.Obs.cons ?_ ?_
  · intro f w hS hV K hK; obtain ⟨s0, -, -, -, -⟩ := hS; obtain ⟨s0c0, s0c1, s0c2⟩ := val_cells s0; have v11 := Drw.val (hV 11 rfl); clear hV; unfold Drw.Give; go_simp; exact hK.out _ _ rfl (Below.refl _ _) (Drw.no rfl)
  refine Drw.Obs.cons ?_ ?_
  · intro f w _ hV K hK; have v17 := Drw.val (hV 17 rfl); have v11 := Drw.val (hV 11 rfl); clear hV; unfold Drw.Give; go_simp; exact hK.out _ _ (Drw.bk ⟨_, rfl, heap_alloc_new _ _⟩) ((Below.refl _ _).alloc (Nat.le_refl _) _) (fun _ => ⟨_, rfl, Nat.le_refl _, by simp⟩)
  refine Drw.Obs.cons ?_ ?_
  · intro f w hS hV K hK; obtain ⟨-, -, -, -, hsb⟩ := hS; obtain ⟨b18, v18, k18⟩ := Drw.own (hV 18 rfl); have v11 := Drw.val (hV 11 rfl); clear hV; unfold Drw.Give; go_simp; unfold Drw.giveUpon; with_reducible refine (H20b.out _ _ hsb k18).mono ?_; rintro e w2 ⟨rfl, hb2⟩; exact ⟨_, rfl, hK.out _ _ rfl hb2 (Drw.no rfl)⟩
  refine Drw.Obs.cons ?_ ?_
  · intro f w _ hV K hK; have v16 := Drw.val (hV 16 rfl); have v19 := Drw.val (hV 19 rfl); have v11 := Drw.val (hV 11 rfl); clear hV; unfold Drw.Give; go_simp; exact hK.out _ _ rfl (Below.refl _ _) (Drw.no rfl)
  refine Drw.Obs.cons ?_ ?_
  · intro f w _ hV K hK; have v11 := Drw.val (hV 11 rfl); have v20 := Drw.val (hV 20 rfl); clear hV; unfold Drw.Give; go_simp; exact hK.out _ _ rfl (Below.refl _ _) (Drw.no rfl)
  refine Drw.Obs.cons ?_ ?_
  · intro f w _ hV K hK; have v21 := Drw.val (hV 21 rfl); clear hV; unfold Drw.Give; go_simp; exact hK.out _ _ rfl (Below.refl _ _) (Drw.no rfl)
  refine Drw.Obs.cons ?_ ?_
  · intro f w hS hV K hK; obtain ⟨-, -, s2, -, -⟩ := hS; obtain ⟨s2c0, s2c1, s2c2⟩ := val_cells s2; have v22 := Drw.val (hV 22 rfl); clear hV; unfold Drw.Give; go_simp; exact hK.out _ _ rfl (Below.refl _ _) (Drw.no rfl)
  refine Drw.Obs.cons ?_ ?_
  · intro f w hS hV K hK; obtain ⟨-, -, -, s3, -⟩ := hS; obtain ⟨s3c0, s3c1, s3c2⟩ := val_cells s3; have v22 := Drw.val (hV 22 rfl); clear hV; unfold Drw.Give; go_simp; exact hK.out _ _ rfl (Below.refl _ _) (Drw.no rfl)
  refine Drw.Obs.cons ?_ ?_
  · intro f w hS hV K hK; obtain ⟨-, -, -, -, hsb⟩ := hS; have v23 := Drw.val (hV 23 rfl); have v24 := Drw.val (hV 24 rfl); have v22 := Drw.val (hV 22 rfl); clear hV; unfold Drw.Give; go_simp; unfold Drw.giveUpon; with_reducible refine (HJ.out _ hsb).mono ?_; rintro e w2 ⟨rfl, hb2⟩; exact ⟨_, rfl, hK.out _ _ rfl hb2 (Drw.no rfl)⟩
  refine Drw.Obs.cons ?_ ?_
  · intro f w hS hV K hK; obtain ⟨s0, -, -, -, -⟩ := hS; obtain ⟨s0c0, s0c1, s0c2⟩ := val_cells s0; have v22 := Drw.val (hV 22 rfl); clear hV; unfold Drw.Give; go_simp; exact hK.out _ _ rfl (Below.refl _ _) (Drw.no rfl)
  refine Drw.Obs.cons ?_ ?_
  · intro f w _ hV K hK; have v25 := Drw.val (hV 25 rfl); have v26 := Drw.val (hV 26 rfl); have v22 := Drw.val (hV 22 rfl); clear hV; unfold Drw.Give; go_simp; exact hK.out _ _ rfl (Below.refl _ _) (Drw.no rfl)
  refine Drw.Obs.cons ?_ ?_
  · intro f w _ hV K hK; have v22 := Drw.val (hV 22 rfl); have v27 := Drw.val (hV 27 rfl); clear hV; unfold Drw.Give; go_simp; exact hK.out _ _ rfl (Below.refl _ _) (Drw.no rfl)
  exact Drw.Obs.nil
  intro f w9 hS hV hD hZ
  clear hD hZ
  have v28 : f 28 = .bool false := hV 28 (by decide)
  clear hV
  simp only [v28]
  clear v28
  clear s0 s1 y13' y14' hb4
  obtain ⟨s0, s1, y13', y14', hb4⟩ := hS
  clear y13'
  have hb := hb4
  clear hb4
  obtain ⟨p0, p1, p2⟩ := val_cells y14'
  obtain ⟨q0, q1, q2⟩ := val_cells s0
  go_wp2_with (fail)
  refine (H24.out _ _ (hb.alloc hb.size _) (heap_alloc_new _ _)).mono ?_
  rintro e w10 ⟨rfl, hb10⟩
  replace s0 := (hb10.block _ (Nat.lt_of_lt_of_le (Array.getElem?_eq_some_iff.1 s0).1 (by simp))).trans ((heap_alloc_old _ _ (Array.getElem?_eq_some_iff.1 s0).1).trans s0)
  replace s1 := (hb10.block _ (Nat.lt_of_lt_of_le (Array.getElem?_eq_some_iff.1 s1).1 (by simp))).trans ((heap_alloc_old _ _ (Array.getElem?_eq_some_iff.1 s1).1).trans s1)
  replace y14' := (hb10.block _ (Nat.lt_of_lt_of_le (Array.getElem?_eq_some_iff.1 y14').1 (by simp))).trans ((heap_alloc_old _ _ (Array.getElem?_eq_some_iff.1 y14').1).trans y14')
  replace hb := (hb.alloc hb.size _).trans (hb10.mono (by have := hb.size; simp; omega))
  clear hb10
  clear p0 p1 p2 q0 q1 q2
  go_upto_region 18 with (fail)
  have k12 : (w10.alloc (Obj.cells #[.int .i64 1, .int .i64 g, .string ⟨#[]⟩] 26)).heap[w10.heap.size]? = some (.cells #[.int .i64 1, .int .i64 g, .string ⟨#[]⟩] 26 (0, 0)) := heap_alloc_new _ _
  replace s0 := (heap_alloc_old _ (Obj.cells #[.int .i64 1, .int .i64 g, .string ⟨#[]⟩] 26) (Array.getElem?_eq_some_iff.1 s0).1).trans s0
  replace s1 := (heap_alloc_old _ (Obj.cells #[.int .i64 1, .int .i64 g, .string ⟨#[]⟩] 26) (Array.getElem?_eq_some_iff.1 s1).1).trans s1
  replace y14' := (heap_alloc_old _ (Obj.cells #[.int .i64 1, .int .i64 g, .string ⟨#[]⟩] 26) (Array.getElem?_eq_some_iff.1 y14').1).trans y14'
  replace hb := hb.alloc hb.size (Obj.cells #[.int .i64 1, .int .i64 g, .string ⟨#[]⟩] 26)
  generalize (w10.alloc (Obj.cells #[.int .i64 1, .int .i64 g, .string ⟨#[]⟩] 26)) = Wk12 at *
  generalize w10.heap.size = Bk12 at *
  obtain ⟨p0, p1, p2⟩ := val_cells k12
  go_upto_region 20 with (fail)
  clear p0 p1 p2
  refine Drw.region_values 7 ?A20 (fun w' => w'.heap[Bk7]? = some (.cells #[.int .i64 3, .int .i64 0, .string s] 26 (0, 0)) ∧ Below w.heap.size w w') (fun i => match i with | 0 => fun v _ => v = .agg #[.int .i64 3, .int .i64 0, .string s] | 1 => fun v _ => v = .int .i64 n | 2 => fun v _ => v = .int .i64 r8 | 3 => fun v _ => v = .agg #[.int .i64 1, .int .i64 r8, .string ⟨#[]⟩] | 4 => Drw.Blk (fun b => .slice (some ⟨b, 0, none⟩) 2 2) (.cells #[.int .i64 3, .int .i64 0, .string s, .int .i64 1, .int .i64 r8, .string ⟨#[]⟩] 26 (0, 0)) | 5 => fun v _ => v = .agg #[.int .i64 rk, .int .i64 rn, .string rt] | 6 => Drw.Blk (fun b => .pointer (some ⟨b, 0, none⟩)) (.cells #[.int .i64 0, .int .i64 0, .string ⟨#[]⟩] 26 (0, 0)) | _ => fun _ _ => True) (fun i => i == 4 || i == 6) ?hA20 (by kernel_rfl) (by kernel_rfl) ⟨s0, hb.drew⟩ (fun w1 w2 h hS => ⟨(h.block _ (Array.getElem?_eq_some_iff.1 hS.1).1).trans hS.1, hS.2.trans (h.mono hS.2.size)⟩) (Drw.lt_succ (Drw.lt_succ (Drw.lt_succ (Drw.lt_succ (Drw.lt_succ (Drw.lt_succ (Drw.lt_succ Drw.lt_nil Drw.st) Drw.st) Drw.st) Drw.st) Drw.stb) Drw.st) Drw.stb) ?_ ?_
  case hA20 =>
    intro f
    symm
    simp only [Drw.putAll, Drw.dst, List.range, List.range.loop, List.getElem?_toArray, List.getElem?_cons_zero, List.getElem?_cons_succ, Option.bind_some, Act.put, List.setIfInBounds_toArray, List.set_cons_zero, List.set_cons_succ]
    exact rfl
  refine Drw.Obs.cons ?_ ?_
  · intro f w hS hV K hK; obtain ⟨s0, -⟩ := hS; obtain ⟨s0c0, s0c1, s0c2⟩ := val_cells s0; unfold Drw.Give; go_simp; exact hK.out _ _ rfl (Below.refl _ _) (Drw.no rfl)
  refine Drw.Obs.cons ?_ ?_
  · intro f w _ hV K hK; unfold Drw.Give; go_simp; exact hK.out _ _ rfl (Below.refl _ _) (Drw.no rfl)
  refine Drw.Obs.cons ?_ ?_
  · intro f w _ hV K hK; have v1 := Drw.val (hV 1 rfl); clear hV; unfold Drw.Give; go_simp; exact hK.out _ _ rfl (Below.refl _ _) (Drw.no rfl)
  refine Drw.Obs.cons ?_ ?_
  · intro f w hS hV K hK; obtain ⟨-, hsb⟩ := hS; have v2 := Drw.val (hV 2 rfl); clear hV; unfold Drw.Give; go_simp; unfold Drw.giveUpon; with_reducible refine (HNUM.out _ _).mono ?_; rintro e w2 ⟨rfl, hb2⟩; exact ⟨_, rfl, hK.out _ _ rfl hb2 (Drw.no rfl)⟩
  refine Drw.Obs.cons ?_ ?_
  · intro f w _ hV K hK; have v0 := Drw.val (hV 0 rfl); have v3 := Drw.val (hV 3 rfl); clear hV; unfold Drw.Give; go_simp; exact hK.out _ _ (Drw.bk ⟨_, rfl, heap_alloc_new _ _⟩) ((Below.refl _ _).alloc (Nat.le_refl _) _) (fun _ => ⟨_, rfl, Nat.le_refl _, by simp⟩)
  refine Drw.Obs.cons ?_ ?_
  · intro f w hS hV K hK; obtain ⟨-, hsb⟩ := hS; obtain ⟨b4, v4, k4⟩ := Drw.own (hV 4 rfl); clear hV; unfold Drw.Give; go_simp; unfold Drw.giveUpon; with_reducible refine (H27.out _ _ hsb k4).mono ?_; rintro e w2 ⟨rfl, hb2⟩; exact ⟨_, rfl, hK.out _ _ rfl hb2 (Drw.no rfl)⟩
  refine Drw.Obs.cons ?_ ?_
  · intro f w _ hV K hK; unfold Drw.Give; go_simp; exact hK.out _ _ (Drw.bk ⟨_, rfl, heap_alloc_new _ _⟩) ((Below.refl _ _).alloc (Nat.le_refl _) _) (fun _ => ⟨_, rfl, Nat.le_refl _, by simp⟩)
  exact Drw.Obs.nil
  intro f w12 hS hV hD hZ
  have v5 : f 5 = .agg #[.int .i64 rk, .int .i64 rn, .string rt] := hV 5 (by decide)
  obtain ⟨b6, v6, y6⟩ : Drw.Blk (fun b => .pointer (some ⟨b, 0, none⟩)) (.cells #[.int .i64 0, .int .i64 0, .string ⟨#[]⟩] 26 (0, 0)) (f 6) w12 := hV 6 (by decide)
  simp only at v6
  have hg6 : Wk12.heap.size ≤ b6 := by
    obtain ⟨b, h1, h2⟩ := hZ 6 (by decide) rfl
    rw [v6] at h1
    cases h1
    exact h2
  have lw := hb.size
  clear hD hZ hV hb
  obtain ⟨-, hb⟩ := hS
  simp only [v5, v6]
  clear v5 v6 s0 s1 y14' k12
  obtain ⟨p0, p1, p2⟩ := val_cells y6
  obtain ⟨q0, q1, q2⟩ := val_frozen y6
  refine Drw.wpAny_one (i := 7) (by kernel_rfl) rfl (fun K hK => ?_)
  go_simp
  refine hK.out _ _ ?_
  clear hK K p0 p1 p2 q0 q1 q2
  replace y6 := val_set (k' := rk) (n' := rn) (t' := rt) y6
  replace hb : Below w.heap.size w (((w12.setCell ⟨b6, 0, none⟩ (.int .i64 rk)).setCell ⟨b6, 1, none⟩ (.int .i64 rn)).setCell ⟨b6, 2, none⟩ (.string rt)) := ((hb.setCell (p := ⟨b6, 0, none⟩) (by simp; omega) _).setCell (p := ⟨b6, 1, none⟩) (by simp; omega) _).setCell (p := ⟨b6, 2, none⟩) (by simp; omega) _
  clear hg6 lw
  generalize (((w12.setCell ⟨b6, 0, none⟩ (.int .i64 rk)).setCell ⟨b6, 1, none⟩ (.int .i64 rn)).setCell ⟨b6, 2, none⟩ (.string rt)) = w13 at *
  refine ⟨by kernel_rfl, ?_⟩
  rcases HO.out with ⟨o1, rfl, rfl, rfl⟩ | ⟨o1, rfl, o2⟩
  rotate_left
  · clear HO
    obtain ⟨p0, p1, p2⟩ := val_cells y6
    go_wp2
    go_ret
    exact ⟨rfl, hb⟩
  clear HO
  go_upto_region 22 with (fail)
  refine Drw.region_values_all 4 ?A22 (fun w' => w'.heap[b6]? = some (.cells #[.int .i64 4, .int .i64 4, .string ⟨#[]⟩] 26 (0, 0)) ∧ Below w.heap.size w w') (fun i => match i with | 0 => fun v _ => v = .agg #[.int .i64 4, .int .i64 4, .string ⟨#[]⟩] | 1 => fun v _ => v = .agg #[.int .i64 4, .int .i64 4, .string ⟨#[]⟩] | 2 => fun v _ => v = .bool true | 3 => fun v _ => v = .bool true | _ => fun _ _ => True) (fun i => false) ?hA22 (by kernel_rfl) (by kernel_rfl) rfl ⟨y6, hb.drew⟩ (fun w1 w2 h hS => ⟨(h.block _ (Array.getElem?_eq_some_iff.1 hS.1).1).trans hS.1, hS.2.trans (h.mono hS.2.size)⟩) (Drw.lt_succ (Drw.lt_succ (Drw.lt_succ (Drw.lt_succ Drw.lt_nil Drw.st) Drw.st) Drw.st) Drw.st) ?_ ?_
  case hA22 =>
    intro f
    symm
    simp only [Drw.putAll, Drw.dst, List.range, List.range.loop, List.getElem?_toArray, List.getElem?_cons_zero, List.getElem?_cons_succ, Option.bind_some, Act.put, List.setIfInBounds_toArray, List.set_cons_zero, List.set_cons_succ]
    exact rfl
  refine Drw.Obs.cons ?_ ?_
  · intro f w hS hV K hK; obtain ⟨s0, -⟩ := hS; obtain ⟨s0c0, s0c1, s0c2⟩ := val_cells s0; unfold Drw.Give; go_simp; exact hK.out _ _ rfl (Below.refl _ _) (Drw.no rfl)
  refine Drw.Obs.cons ?_ ?_
  · intro f w hS hV K hK; obtain ⟨-, hsb⟩ := hS; unfold Drw.Give; go_simp; unfold Drw.giveUpon; with_reducible refine (HBAD.out _ _).mono ?_; rintro e w2 ⟨rfl, hb2⟩; exact ⟨_, rfl, hK.out _ _ rfl hb2 (Drw.no rfl)⟩
  refine Drw.Obs.cons ?_ ?_
  · intro f w _ hV K hK; have v0 := Drw.val (hV 0 rfl); have v1 := Drw.val (hV 1 rfl); clear hV; unfold Drw.Give; go_simp; exact hK.out _ _ rfl (Below.refl _ _) (Drw.no rfl)
  refine Drw.Obs.cons ?_ ?_
  · intro f w _ hV K hK; have v2 := Drw.val (hV 2 rfl); clear hV; unfold Drw.Give; go_simp; exact hK.out _ _ rfl (Below.refl _ _) (Drw.no rfl)
  exact Drw.Obs.nil
  intro f w14 hS hV hD hZ
  have v3 : f 3 = .bool true := hV 3 (by decide)
  clear hV hD hZ hb
  obtain ⟨-, hb⟩ := hS
  simp only [v3]
  go_wp2
  go_ret
  exact ⟨rfl, hb⟩
end Go.Proofs.YtpiiemneelkpkaaGreatDoor
