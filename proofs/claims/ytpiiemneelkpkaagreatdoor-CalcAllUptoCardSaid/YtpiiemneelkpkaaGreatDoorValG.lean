import Derived.Test.YtpiiemneelkpkaaGreatDoorGva
import Derived.Deep.DeepCutAuto
set_option maxRecDepth 100000
namespace Go.Proofs.YtpiiemneelkpkaaGreatDoor
open Go.RowKit
set_option linter.unusedVariables false
theorem two_setr {w v : World} {T : Nat} {k n k' n' : Int} {t t' : ByteArray} {i m i' m' : Int} {s s' : ByteArray} (hx : v.heap[w.heap.size]? = some (.cells #[.int .i64 k, .int .i64 n, .string t] T (0, 0))) (hy : v.heap[w.heap.size + 1]? = some (.cells #[.int .i64 i, .int .i64 m, .string s] T (0, 0))) (hb : Below w.heap.size w v) (hl : w.heap.size + 1 < v.heap.size) :
  Below w.heap.size w ((((((v.setCell ⟨w.heap.size, 0, none⟩ (.int .i64 k')).setCell ⟨w.heap.size, 1, none⟩ (.int .i64 n')).setCell ⟨w.heap.size, 2, none⟩ (.string t')).setCell ⟨w.heap.size + 1, 0, none⟩ (.int .i64 i')).setCell ⟨w.heap.size + 1, 1, none⟩ (.int .i64 m')).setCell ⟨w.heap.size + 1, 2, none⟩ (.string s')) ∧
  ((((((v.setCell ⟨w.heap.size, 0, none⟩ (.int .i64 k')).setCell ⟨w.heap.size, 1, none⟩ (.int .i64 n')).setCell ⟨w.heap.size, 2, none⟩ (.string t')).setCell ⟨w.heap.size + 1, 0, none⟩ (.int .i64 i')).setCell ⟨w.heap.size + 1, 1, none⟩ (.int .i64 m')).setCell ⟨w.heap.size + 1, 2, none⟩ (.string s')).heap[w.heap.size]? = some (.cells #[.int .i64 k', .int .i64 n', .string t'] T (0, 0)) ∧
  ((((((v.setCell ⟨w.heap.size, 0, none⟩ (.int .i64 k')).setCell ⟨w.heap.size, 1, none⟩ (.int .i64 n')).setCell ⟨w.heap.size, 2, none⟩ (.string t')).setCell ⟨w.heap.size + 1, 0, none⟩ (.int .i64 i')).setCell ⟨w.heap.size + 1, 1, none⟩ (.int .i64 m')).setCell ⟨w.heap.size + 1, 2, none⟩ (.string s')).heap[w.heap.size + 1]? = some (.cells #[.int .i64 i', .int .i64 m', .string s'] T (0, 0)) ∧
  w.heap.size + 1 < ((((((v.setCell ⟨w.heap.size, 0, none⟩ (.int .i64 k')).setCell ⟨w.heap.size, 1, none⟩ (.int .i64 n')).setCell ⟨w.heap.size, 2, none⟩ (.string t')).setCell ⟨w.heap.size + 1, 0, none⟩ (.int .i64 i')).setCell ⟨w.heap.size + 1, 1, none⟩ (.int .i64 m')).setCell ⟨w.heap.size + 1, 2, none⟩ (.string s')).heap.size := by
 have h1 := val_set (k' := k') (n' := n') (t' := t') hx
 have h2 : (((v.setCell ⟨w.heap.size, 0, none⟩ (.int .i64 k')).setCell ⟨w.heap.size, 1, none⟩ (.int .i64 n')).setCell ⟨w.heap.size, 2, none⟩ (.string t')).heap[w.heap.size + 1]? = some (.cells #[.int .i64 i, .int .i64 m, .string s] T (0, 0)) := by
  rw [heap_setCell_other _ _ _ _ (by simp), heap_setCell_other _ _ _ _ (by simp), heap_setCell_other _ _ _ _ (by simp)]
  exact hy
 have b1 := ((hb.setCell (p := ⟨w.heap.size, 0, none⟩) (by simp) (.int .i64 k')).setCell (p := ⟨w.heap.size, 1, none⟩) (by simp) (.int .i64 n')).setCell (p := ⟨w.heap.size, 2, none⟩) (by simp) (.string t')
 have l1 : w.heap.size + 1 < (((v.setCell ⟨w.heap.size, 0, none⟩ (.int .i64 k')).setCell ⟨w.heap.size, 1, none⟩ (.int .i64 n')).setCell ⟨w.heap.size, 2, none⟩ (.string t')).heap.size := (Array.getElem?_eq_some_iff.1 h2).1
 refine ⟨set3 b1 (by simp), ?_, val_set h2, (Array.getElem?_eq_some_iff.1 (val_set h2)).1⟩
 rw [heap_setCell_other _ _ _ _ (by simp), heap_setCell_other _ _ _ _ (by simp), heap_setCell_other _ _ _ _ (by simp)]
 exact h1
theorem one_setx {w v : World} {T : Nat} {k n k' : Int} {t : ByteArray} {i m : Int} {s : ByteArray} (hx : v.heap[w.heap.size]? = some (.cells #[.int .i64 k, .int .i64 n, .string t] T (0, 0))) (hy : v.heap[w.heap.size + 1]? = some (.cells #[.int .i64 i, .int .i64 m, .string s] T (0, 0))) (hb : Below w.heap.size w v) (hl : w.heap.size + 1 < v.heap.size) :
  Below w.heap.size w (v.setCell ⟨w.heap.size, 0, none⟩ (.int .i64 k')) ∧ (v.setCell ⟨w.heap.size, 0, none⟩ (.int .i64 k')).heap[w.heap.size]? = some (.cells #[.int .i64 k', .int .i64 n, .string t] T (0, 0)) ∧ (v.setCell ⟨w.heap.size, 0, none⟩ (.int .i64 k')).heap[w.heap.size + 1]? = some (.cells #[.int .i64 i, .int .i64 m, .string s] T (0, 0)) ∧ w.heap.size + 1 < (v.setCell ⟨w.heap.size, 0, none⟩ (.int .i64 k')).heap.size := by
 have h2 : (v.setCell ⟨w.heap.size, 0, none⟩ (.int .i64 k')).heap[w.heap.size + 1]? = some (.cells #[.int .i64 i, .int .i64 m, .string s] T (0, 0)) := by
  rw [heap_setCell_other _ _ _ _ (by simp)]
  exact hy
 exact ⟨hb.setCell (p := ⟨w.heap.size, 0, none⟩) (by simp) _, heap_setCell_same v w.heap.size 0 _ T (.int .i64 k') hx, h2, (Array.getElem?_eq_some_iff.1 h2).1⟩
theorem one_sety {w v : World} {T : Nat} {k n k' : Int} {t : ByteArray} {i m : Int} {s : ByteArray} (hx : v.heap[w.heap.size]? = some (.cells #[.int .i64 k, .int .i64 n, .string t] T (0, 0))) (hy : v.heap[w.heap.size + 1]? = some (.cells #[.int .i64 i, .int .i64 m, .string s] T (0, 0))) (hb : Below w.heap.size w v) (hl : w.heap.size + 1 < v.heap.size) :
  Below w.heap.size w (v.setCell ⟨w.heap.size + 1, 0, none⟩ (.int .i64 k')) ∧ (v.setCell ⟨w.heap.size + 1, 0, none⟩ (.int .i64 k')).heap[w.heap.size]? = some (.cells #[.int .i64 k, .int .i64 n, .string t] T (0, 0)) ∧ (v.setCell ⟨w.heap.size + 1, 0, none⟩ (.int .i64 k')).heap[w.heap.size + 1]? = some (.cells #[.int .i64 k', .int .i64 m, .string s] T (0, 0)) ∧ w.heap.size + 1 < (v.setCell ⟨w.heap.size + 1, 0, none⟩ (.int .i64 k')).heap.size := by
 have h1 : (v.setCell ⟨w.heap.size + 1, 0, none⟩ (.int .i64 k')).heap[w.heap.size]? = some (.cells #[.int .i64 k, .int .i64 n, .string t] T (0, 0)) := by
  rw [heap_setCell_other _ _ _ _ (by simp)]
  exact hx
 have h2 : (v.setCell ⟨w.heap.size + 1, 0, none⟩ (.int .i64 k')).heap[w.heap.size + 1]? = some (.cells #[.int .i64 k', .int .i64 m, .string s] T (0, 0)) := heap_setCell_same v (w.heap.size + 1) 0 _ T (.int .i64 k') hy
 exact ⟨hb.setCell (p := ⟨w.heap.size + 1, 0, none⟩) (by simp) _, h1, h2, (Array.getElem?_eq_some_iff.1 h2).1⟩
def Val.rcmp (p q n m : Int) (t s : ByteArray) : Int := cond (decide (p < q) || (p == q && (decide (n < m) || Op.bytesLess t.toList s.toList))) (-1) (cond (decide (q < p) || decide (m < n) || (!Op.bytesLess t.toList s.toList && !(t.toList == s.toList))) 1 0)
set_option maxHeartbeats 3200000 in
theorem rcompare_at (ak an bk bn ck cn dk dn xk yk p q : Int) (at' bt ct dt : ByteArray) (w : World)
  (HA0 : ∀ w, Ret 88 #[.agg #[.int .i64 ak, .int .i64 an, .string at']] w (.agg #[.int .i64 ck, .int .i64 cn, .string ct]))
  (HB0 : ∀ w, Ret 88 #[.agg #[.int .i64 bk, .int .i64 bn, .string bt]] w (.agg #[.int .i64 dk, .int .i64 dn, .string dt]))
  (z1 z2 : Bool) (hz1 : (ck == 0 && dk != 4) = z1) (hxk : cond z1 dk ck = xk) (hz2 : (dk == 0 && xk != 4) = z2) (hyk : cond z2 xk dk = yk)
  (HC0 : ∀ w, Ret 92 #[.agg #[.int .i64 xk, .int .i64 cn, .string ct]] w (.int .i64 p))
  (HD0 : ∀ w, Ret 92 #[.agg #[.int .i64 yk, .int .i64 dn, .string dt]] w (.int .i64 q)) :
  Ret 59 #[.agg #[.int .i64 ak, .int .i64 an, .string at'], .agg #[.int .i64 bk, .int .i64 bn, .string bt]] w (.int .i64 (Val.rcmp p q cn dn ct dt)) := by
 have HA := Lib.hid HA0
 have HB := Lib.hid HB0
 have HC := Lib.hid HC0
 have HD := Lib.hid HD0
 have HX := Lib.hid hxk
 have HY := Lib.hid hyk
 have HZ1 := Lib.hid hz1
 have HZ2 := Lib.hid hz2
 clear hz1 hz2
 clear HA0 HB0 HC0 HD0 hxk hyk
 go_enter Tryz.func59, Tryz.ntmps59
 go_upto_region 1 with (fail)
 have hx : ((w.alloc (Obj.cells #[.int .i64 ak, .int .i64 an, .string at'] 26)).alloc (Obj.cells #[.int .i64 bk, .int .i64 bn, .string bt] 26)).heap[w.heap.size]? = some (.cells #[.int .i64 ak, .int .i64 an, .string at'] 26 (0, 0)) := (Below.heap_alloc _ _ w.heap.size (by simp)).trans (heap_alloc_new _ _)
 have hy : ((w.alloc (Obj.cells #[.int .i64 ak, .int .i64 an, .string at'] 26)).alloc (Obj.cells #[.int .i64 bk, .int .i64 bn, .string bt] 26)).heap[w.heap.size + 1]? = some (.cells #[.int .i64 bk, .int .i64 bn, .string bt] 26 (0, 0)) := by
   rw [show w.heap.size + 1 = (w.alloc (Obj.cells #[.int .i64 ak, .int .i64 an, .string at'] 26)).heap.size by simp]; exact heap_alloc_new _ _
 have hb : Below w.heap.size w ((w.alloc (Obj.cells #[.int .i64 ak, .int .i64 an, .string at'] 26)).alloc (Obj.cells #[.int .i64 bk, .int .i64 bn, .string bt] 26)) := ((Below.refl _ _).alloc (Nat.le_refl w.heap.size) _).alloc (by simp) _
 have hl : w.heap.size + 1 < ((w.alloc (Obj.cells #[.int .i64 ak, .int .i64 an, .string at'] 26)).alloc (Obj.cells #[.int .i64 bk, .int .i64 bn, .string bt] 26)).heap.size := by simp
 generalize ((w.alloc (Obj.cells #[.int .i64 ak, .int .i64 an, .string at'] 26)).alloc (Obj.cells #[.int .i64 bk, .int .i64 bn, .string bt] 26)) = W0 at *
 go_cut [7] (fun s wx => Below w.heap.size w wx ∧ wx.heap[w.heap.size]? = some (.cells #[.int .i64 ck, .int .i64 cn, .string ct] 26 (0, 0)) ∧ wx.heap[w.heap.size + 1]? = some (.cells #[.int .i64 dk, .int .i64 dn, .string dt] 26 (0, 0)) ∧ w.heap.size + 1 < wx.heap.size)
 case first =>
  obtain ⟨x0, x1, x2⟩ := val_cells hx
  obtain ⟨y0, y1, y2⟩ := val_cells hy
  obtain ⟨f0, f1, f2⟩ := val_frozen hx
  obtain ⟨g0, g1, g2⟩ := val_frozen hy
  go_region_with (go_at_call 88; (first | with_reducible refine (HA.out _).mono ?_ | with_reducible refine (HB.out _).mono ?_); rintro e v ⟨rfl, hbn⟩; clear x0 x1 x2 y0 y1 y2 f0 f1 f2 g0 g1 g2; replace hx := (hbn.block w.heap.size (Nat.lt_of_succ_lt hl)).trans hx; replace hy := (hbn.block (w.heap.size + 1) hl).trans hy; replace hb : Below w.heap.size w v := (by first | exact hb.trans (hbn.mono hb.size) | exact hb.drew.trans (hbn.mono hb.size)); replace hl := Nat.lt_of_lt_of_le hl hbn.size; clear hbn; obtain ⟨x0, x1, x2⟩ := val_cells hx; obtain ⟨y0, y1, y2⟩ := val_cells hy; obtain ⟨f0, f1, f2⟩ := val_frozen hx; obtain ⟨g0, g1, g2⟩ := val_frozen hy)
  all_goals
   go_wp2_with (fail)
   go_meet
   exact two_setr hx hy hb hl
 case rest =>
 clear hx hy hb hl HA HB
 obtain ⟨hb, hx, hy, hl⟩ := hcut
 go_upto_region 2 with (fail)
 go_cut [18] (fun s wx => s = .bool z1 ∧ wx = wc)
 case first =>
  obtain ⟨x0, x1, x2⟩ := val_cells hx
  obtain ⟨y0, y1, y2⟩ := val_cells hy
  clear hx hy hb hl
  cases h1 : (ck == 0) with
  | false =>
   go_wp2
   go_meet
   exact ⟨by rw [← HZ1.out, h1]; rfl, rfl⟩
  | true =>
   cases h2 : (dk != 4) with
   | true =>
    go_wp2
    go_meet
    exact ⟨by rw [← HZ1.out, h1, h2]; rfl, rfl⟩
   | false =>
    go_wp2
    go_meet
    exact ⟨by rw [← HZ1.out, h1, h2]; rfl, rfl⟩
 case rest =>
 obtain ⟨rfl, rfl⟩ := hcut
 clear HZ1
 go_upto_if 18 with (fail)
 go_cut [19] (fun s wx => Below w.heap.size w wx ∧ wx.heap[w.heap.size]? = some (.cells #[.int .i64 xk, .int .i64 cn, .string ct] 26 (0, 0)) ∧ wx.heap[w.heap.size + 1]? = some (.cells #[.int .i64 dk, .int .i64 dn, .string dt] 26 (0, 0)) ∧ w.heap.size + 1 < wx.heap.size)
 case first =>
  obtain ⟨x0, x1, x2⟩ := val_cells hx
  obtain ⟨y0, y1, y2⟩ := val_cells hy
  obtain ⟨f0, f1, f2⟩ := val_frozen hx
  obtain ⟨g0, g1, g2⟩ := val_frozen hy
  cases z1 with
  | true =>
   have e := HX.out
   clear HX
   simp only [cond_true] at e
   subst e
   go_wp2
   go_meet
   exact one_setx hx hy hb hl
  | false =>
   have e := HX.out
   clear HX
   simp only [cond_false] at e
   subst e
   go_wp2
   go_meet
   exact ⟨hb, hx, hy, hl⟩
 case rest =>
 clear hx hy hb hl HX
 obtain ⟨hb, hx, hy, hl⟩ := hcut
 go_upto_region 4 with (fail)
 go_cut [29] (fun s wx => s = .bool z2 ∧ wx = wc)
 case first =>
  obtain ⟨x0, x1, x2⟩ := val_cells hx
  obtain ⟨y0, y1, y2⟩ := val_cells hy
  clear hx hy hb hl
  cases h1 : (dk == 0) with
  | false =>
   go_wp2
   go_meet
   exact ⟨by rw [← HZ2.out, h1]; rfl, rfl⟩
  | true =>
   cases h2 : (xk != 4) with
   | true =>
    go_wp2
    go_meet
    exact ⟨by rw [← HZ2.out, h1, h2]; rfl, rfl⟩
   | false =>
    go_wp2
    go_meet
    exact ⟨by rw [← HZ2.out, h1, h2]; rfl, rfl⟩
 case rest =>
 obtain ⟨rfl, rfl⟩ := hcut
 clear HZ2
 go_upto_if 29 with (fail)
 go_cut [30] (fun s wx => Below w.heap.size w wx ∧ wx.heap[w.heap.size]? = some (.cells #[.int .i64 xk, .int .i64 cn, .string ct] 26 (0, 0)) ∧ wx.heap[w.heap.size + 1]? = some (.cells #[.int .i64 yk, .int .i64 dn, .string dt] 26 (0, 0)) ∧ w.heap.size + 1 < wx.heap.size)
 case first =>
  obtain ⟨x0, x1, x2⟩ := val_cells hx
  obtain ⟨y0, y1, y2⟩ := val_cells hy
  obtain ⟨f0, f1, f2⟩ := val_frozen hx
  obtain ⟨g0, g1, g2⟩ := val_frozen hy
  cases z2 with
  | true =>
   have e := HY.out
   clear HY
   simp only [cond_true] at e
   subst e
   go_wp2
   go_meet
   exact one_sety hx hy hb hl
  | false =>
   have e := HY.out
   clear HY
   simp only [cond_false] at e
   subst e
   go_wp2
   go_meet
   exact ⟨hb, hx, hy, hl⟩
 case rest =>
 clear hx hy hb hl HY
 obtain ⟨hb, hx, hy, hl⟩ := hcut
 go_upto_region 6 with (fail)
 go_cut [5, 6] (fun s r wx => s = .int .i64 p ∧ r = .int .i64 q ∧ Below w.heap.size w wx ∧ wx.heap[w.heap.size]? = some (.cells #[.int .i64 xk, .int .i64 cn, .string ct] 26 (0, 0)) ∧ wx.heap[w.heap.size + 1]? = some (.cells #[.int .i64 yk, .int .i64 dn, .string dt] 26 (0, 0)) ∧ w.heap.size + 1 < wx.heap.size)
 case first =>
  obtain ⟨x0, x1, x2⟩ := val_cells hx
  obtain ⟨y0, y1, y2⟩ := val_cells hy
  go_region_held3 (fun w' => w'.cell? ⟨w.heap.size, 0, none⟩ = some (.int .i64 xk) ∧ w'.cell? ⟨w.heap.size, 1, none⟩ = some (.int .i64 cn) ∧ w'.cell? ⟨w.heap.size, 2, none⟩ = some (.string ct) ∧ w'.cell? ⟨w.heap.size + 1, 0, none⟩ = some (.int .i64 yk) ∧ w'.cell? ⟨w.heap.size + 1, 1, none⟩ = some (.int .i64 dn) ∧ w'.cell? ⟨w.heap.size + 1, 2, none⟩ = some (.string dt))
   (first | go_keep | exact ⟨x0, x1, x2, y0, y1, y2⟩)
   ((go_at_call 92; (first | with_reducible refine (HC.out _).mono ?_ | with_reducible refine (HD.out _).mono ?_); rintro e v ⟨rfl, hbn⟩; clear x0 x1 x2 y0 y1 y2; replace hx := (hbn.block w.heap.size (Nat.lt_of_succ_lt hl)).trans hx; replace hy := (hbn.block (w.heap.size + 1) hl).trans hy; replace hb : Below w.heap.size w v := (by first | exact hb.trans (hbn.mono hb.size) | exact hb.drew.trans (hbn.mono hb.size)); replace hl := Nat.lt_of_lt_of_le hl hbn.size; clear hbn; obtain ⟨x0, x1, x2⟩ := val_cells hx; obtain ⟨y0, y1, y2⟩ := val_cells hy))
  all_goals
   go_wp2_with (fail)
   go_meet
   exact ⟨rfl, rfl, hb, hx, hy, hl⟩
 case rest =>
 clear hx hy hb hl HC HD
 obtain ⟨rfl, rfl, hb, hx, hy, hl⟩ := hcut
 obtain ⟨x0, x1, x2⟩ := val_cells hx
 obtain ⟨y0, y1, y2⟩ := val_cells hy
 clear hx hy hl
 by_cases h1 : p < q
 ·have t1 : decide (p < q) = true := decide_eq_true h1
  go_wp2
  go_ret
  exact ⟨by unfold Val.rcmp; rw [t1]; rfl, hb⟩
 by_cases h2 : q < p
 ·have t1 : decide (p < q) = false := decide_eq_false h1
  have t2 : decide (q < p) = true := decide_eq_true h2
  have t3 : (p == q) = false := by rw [beq_eq_false_iff_ne]; omega
  have t4 : ¬ p = q := by omega
  go_wp2
  go_ret
  exact ⟨by unfold Val.rcmp; rw [t1, t3, t2]; rfl, hb⟩
 obtain rfl : p = q := by omega
 clear h2
 have t1 : decide (p < p) = false := decide_eq_false h1
 by_cases h3 : cn < dn
 ·have t3 : decide (cn < dn) = true := decide_eq_true h3
  go_wp2
  go_ret
  exact ⟨by unfold Val.rcmp; simp [h3], hb⟩
 have t3 : decide (cn < dn) = false := decide_eq_false h3
 cases t5 : Op.bytesLess ct.toList dt.toList with
 | true =>
  go_wp2
  go_ret
  exact ⟨by unfold Val.rcmp; simp [t5], hb⟩
 | false =>
 by_cases h6 : dn < cn
 ·have t6 : decide (dn < cn) = true := decide_eq_true h6
  go_wp2
  go_ret
  exact ⟨by unfold Val.rcmp; simp [t3, t5, t6], hb⟩
 have t6 : decide (dn < cn) = false := decide_eq_false h6
 cases t7 : (ct.toList == dt.toList) with
 | true =>
  go_wp2
  go_ret
  exact ⟨by unfold Val.rcmp; simp [t3, t5, t6, t7], hb⟩
 | false =>
  go_wp2
  go_ret
  exact ⟨by unfold Val.rcmp; simp [t3, t5, t6, t7], hb⟩
def Val.rcmpG (g h : Val.V) : Int := Val.rcmp (Val.placeOf (Val.asV g h).k) (Val.placeOf (Val.asV h g).k) g.n h.n g.t h.t
theorem Val.good_kind (v : Val.V) : (Val.good v).k = 0 ∨ (Val.good v).k = 1 ∨ (Val.good v).k = 2 ∨ (Val.good v).k = 3 ∨ (Val.good v).k = 4 := by
 rcases Val.may_cases (Val.good_may v) with ⟨a, b⟩ | ⟨a, b⟩ | ⟨a, b⟩ | ⟨a, b⟩ | ⟨a, b, c, d⟩ <;> omega
theorem Val.as_twice (ck dk : Int) : cond (dk == 0 && (cond (ck == 0 && dk != 4) dk ck) != 4) (cond (ck == 0 && dk != 4) dk ck) dk = cond (dk == 0 && ck != 4) ck dk := by
 by_cases h1 : ck = 0
 ·subst h1
  by_cases h2 : dk = 0
  ·subst h2
   rfl
  ·rw [show (dk == 0) = false by simpa using h2]
   simp only [Bool.false_and, cond_false]
 ·rw [show (ck == 0) = false by simpa using h1]
  simp only [Bool.false_and, cond_false]
theorem rcompare_any (a b : Val.V) (w : World) : Ret 59 #[vv a, vv b] w (.int .i64 (Val.rcmpG (Val.good a) (Val.good b))) := by
 have HA := fun w => fit_any a w
 have HB := fun w => fit_any b w
 have ka := Val.good_kind a
 have kb := Val.good_kind b
 unfold Val.rcmpG Val.asV
 generalize Val.good a = ga at HA ka ⊢
 generalize Val.good b = gb at HB kb ⊢
 obtain ⟨ak, an, at'⟩ := a
 obtain ⟨bk, bn, bt⟩ := b
 obtain ⟨ck, cn, ct⟩ := ga
 obtain ⟨dk, dn, dt⟩ := gb
 simp only at ka kb ⊢
 have hxk : ∃ x, cond (ck == 0 && dk != 4) dk ck = x := ⟨_, rfl⟩
 obtain ⟨xk, hxk⟩ := hxk
 have hyk : ∃ y, cond (dk == 0 && xk != 4) xk dk = y := ⟨_, rfl⟩
 obtain ⟨yk, hyk⟩ := hyk
 have hy2 : cond (dk == 0 && ck != 4) ck dk = yk := by rw [← hyk, ← hxk, Val.as_twice]
 rw [hxk, hy2]
 have kx : xk = 0 ∨ xk = 1 ∨ xk = 2 ∨ xk = 3 ∨ xk = 4 := by
  rw [← hxk]
  cases (ck == 0 && dk != 4)
  ·exact ka
  ·exact kb
 have ky : yk = 0 ∨ yk = 1 ∨ yk = 2 ∨ yk = 3 ∨ yk = 4 := by
  rw [← hy2]
  cases (dk == 0 && ck != 4)
  ·exact kb
  ·exact ka
 exact rcompare_at ak an bk bn ck cn dk dn xk yk (Val.placeOf xk) (Val.placeOf yk) at' bt ct dt w HA HB _ _ rfl hxk rfl hyk (fun w => class_any ⟨xk, cn, ct⟩ w kx) (fun w => class_any ⟨yk, dn, dt⟩ w ky)
end Go.Proofs.YtpiiemneelkpkaaGreatDoor
