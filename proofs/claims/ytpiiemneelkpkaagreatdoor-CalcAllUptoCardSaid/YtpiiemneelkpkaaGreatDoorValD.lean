import Derived.Test.YtpiiemneelkpkaaGreatDoorGva
import Derived.Deep.DeepCutAuto
set_option maxRecDepth 100000
namespace Go.Proofs.YtpiiemneelkpkaaGreatDoor
open Go.RowKit
set_option linter.unusedVariables false
def Val.cmpT (x y : Val.V) : Int := Val.orI (Val.cmpI (Val.placeOf x.k) (Val.placeOf y.k)) (Val.cmpI x.n y.n) (Lib.compareBytes x.t.data.toList y.t.data.toList)
theorem two_set {w v : World} {T : Nat} {k n k' n' : Int} {t t' : ByteArray} {i m i' m' : Int} {s s' : ByteArray} (hx : v.heap[w.heap.size]? = some (.cells #[.int .i64 k, .int .i64 n, .string t] T (0, 0))) (hy : v.heap[w.heap.size + 1]? = some (.cells #[.int .i64 i, .int .i64 m, .string s] T (0, 0))) (hb : Below w.heap.size w v) (hl : w.heap.size + 1 < v.heap.size) :
  Below w.heap.size w ((((((v.setCell ⟨w.heap.size, 0, none⟩ (.int .i64 k')).setCell ⟨w.heap.size, 1, none⟩ (.int .i64 n')).setCell ⟨w.heap.size, 2, none⟩ (.string t')).setCell ⟨w.heap.size + 1, 0, none⟩ (.int .i64 i')).setCell ⟨w.heap.size + 1, 1, none⟩ (.int .i64 m')).setCell ⟨w.heap.size + 1, 2, none⟩ (.string s')) ∧
  ((((((v.setCell ⟨w.heap.size, 0, none⟩ (.int .i64 k')).setCell ⟨w.heap.size, 1, none⟩ (.int .i64 n')).setCell ⟨w.heap.size, 2, none⟩ (.string t')).setCell ⟨w.heap.size + 1, 0, none⟩ (.int .i64 i')).setCell ⟨w.heap.size + 1, 1, none⟩ (.int .i64 m')).setCell ⟨w.heap.size + 1, 2, none⟩ (.string s')).heap[w.heap.size]? = some (.cells #[.int .i64 k', .int .i64 n', .string t'] T (0, 0)) ∧
  ((((((v.setCell ⟨w.heap.size, 0, none⟩ (.int .i64 k')).setCell ⟨w.heap.size, 1, none⟩ (.int .i64 n')).setCell ⟨w.heap.size, 2, none⟩ (.string t')).setCell ⟨w.heap.size + 1, 0, none⟩ (.int .i64 i')).setCell ⟨w.heap.size + 1, 1, none⟩ (.int .i64 m')).setCell ⟨w.heap.size + 1, 2, none⟩ (.string s')).heap[w.heap.size + 1]? = some (.cells #[.int .i64 i', .int .i64 m', .string s'] T (0, 0)) ∧
  w.heap.size + 1 < ((((((v.setCell ⟨w.heap.size, 0, none⟩ (.int .i64 k')).setCell ⟨w.heap.size, 1, none⟩ (.int .i64 n')).setCell ⟨w.heap.size, 2, none⟩ (.string t')).setCell ⟨w.heap.size + 1, 0, none⟩ (.int .i64 i')).setCell ⟨w.heap.size + 1, 1, none⟩ (.int .i64 m')).setCell ⟨w.heap.size + 1, 2, none⟩ (.string s')).heap.size := by
 have h1 := val_set (k' := k') (n' := n') (t' := t') hx
 have h2 : (((v.setCell ⟨w.heap.size, 0, none⟩ (.int .i64 k')).setCell ⟨w.heap.size, 1, none⟩ (.int .i64 n')).setCell ⟨w.heap.size, 2, none⟩ (.string t')).heap[w.heap.size + 1]? = some (.cells #[.int .i64 i, .int .i64 m, .string s] T (0, 0)) := by
  rw [heap_setCell_other _ _ _ _ (by simp), heap_setCell_other _ _ _ _ (by simp), heap_setCell_other _ _ _ _ (by simp)]
  exact hy
 have b1 := ((hb.setCell (p := ⟨w.heap.size, 0, none⟩) (by simp) (.int .i64 k')).setCell (p := ⟨w.heap.size, 1, none⟩) (by simp) (.int .i64 n')).setCell (p := ⟨w.heap.size, 2, none⟩) (by simp) (.string t')
 have l1 : w.heap.size + 1 < (((v.setCell ⟨w.heap.size, 0, none⟩ (.int .i64 k')).setCell ⟨w.heap.size, 1, none⟩ (.int .i64 n')).setCell ⟨w.heap.size, 2, none⟩ (.string t')).heap.size := (Array.getElem?_eq_some_iff.1 h2).1
 refine ⟨set3 b1 (by simp), ?_, val_set h2, (Array.getElem?_eq_some_iff.1 (val_set h2)).1⟩
 rw [heap_setCell_other _ _ _ _ (by simp), heap_setCell_other _ _ _ _ (by simp), heap_setCell_other _ _ _ _ (by simp)]
 exact h1
def Val.cmpG (a b : Val.V) : Int := Val.cmpT (Val.asV a b) (Val.asV b a)
set_option maxHeartbeats 6400000 in
theorem vcompare_at (ak an bk bn ck cn dk dn xk xn yk yn : Int) (at' bt ct dt xt yt : ByteArray) (w : World)
  (HA0 : ∀ w, Ret 67 #[.agg #[.int .i64 ak, .int .i64 an, .string at']] w (.agg #[.int .i64 ck, .int .i64 cn, .string ct]))
  (HB0 : ∀ w, Ret 67 #[.agg #[.int .i64 bk, .int .i64 bn, .string bt]] w (.agg #[.int .i64 dk, .int .i64 dn, .string dt]))
  (HC0 : ∀ w, Ret 71 #[.agg #[.int .i64 ck, .int .i64 cn, .string ct], .agg #[.int .i64 dk, .int .i64 dn, .string dt]] w (.agg #[.int .i64 xk, .int .i64 xn, .string xt]))
  (HD0 : ∀ w, Ret 71 #[.agg #[.int .i64 dk, .int .i64 dn, .string dt], .agg #[.int .i64 ck, .int .i64 cn, .string ct]] w (.agg #[.int .i64 yk, .int .i64 yn, .string yt])) :
  Ret 34 #[.agg #[.int .i64 ak, .int .i64 an, .string at'], .agg #[.int .i64 bk, .int .i64 bn, .string bt]] w (.int .i64 (Val.cmpT ⟨xk, xn, xt⟩ ⟨yk, yn, yt⟩)) := by
 have HA := Lib.hid HA0
 have HB := Lib.hid HB0
 have HC := Lib.hid HC0
 have HD := Lib.hid HD0
 clear HA0 HB0 HC0 HD0
 go_enter Tryz.func34, Tryz.ntmps34
 go_upto_region 1 with (fail)
 have hx : ((w.alloc (Obj.cells #[.int .i64 ak, .int .i64 an, .string at'] 26)).alloc (Obj.cells #[.int .i64 bk, .int .i64 bn, .string bt] 26)).heap[w.heap.size]? = some (.cells #[.int .i64 ak, .int .i64 an, .string at'] 26 (0, 0)) := (Below.heap_alloc _ _ w.heap.size (by simp)).trans (heap_alloc_new _ _)
 have hy : ((w.alloc (Obj.cells #[.int .i64 ak, .int .i64 an, .string at'] 26)).alloc (Obj.cells #[.int .i64 bk, .int .i64 bn, .string bt] 26)).heap[w.heap.size + 1]? = some (.cells #[.int .i64 bk, .int .i64 bn, .string bt] 26 (0, 0)) := by
   rw [show w.heap.size + 1 = (w.alloc (Obj.cells #[.int .i64 ak, .int .i64 an, .string at'] 26)).heap.size by simp]; exact heap_alloc_new _ _
 have hb : Below w.heap.size w ((w.alloc (Obj.cells #[.int .i64 ak, .int .i64 an, .string at'] 26)).alloc (Obj.cells #[.int .i64 bk, .int .i64 bn, .string bt] 26)) := ((Below.refl _ _).alloc (Nat.le_refl w.heap.size) _).alloc (by simp) _
 have hl : w.heap.size + 1 < ((w.alloc (Obj.cells #[.int .i64 ak, .int .i64 an, .string at'] 26)).alloc (Obj.cells #[.int .i64 bk, .int .i64 bn, .string bt] 26)).heap.size := by simp
 generalize ((w.alloc (Obj.cells #[.int .i64 ak, .int .i64 an, .string at'] 26)).alloc (Obj.cells #[.int .i64 bk, .int .i64 bn, .string bt] 26)) = W0 at *
 go_cut [5] (fun s wx => Below w.heap.size w wx ∧ wx.heap[w.heap.size]? = some (.cells #[.int .i64 ck, .int .i64 cn, .string ct] 26 (0, 0)) ∧ wx.heap[w.heap.size + 1]? = some (.cells #[.int .i64 dk, .int .i64 dn, .string dt] 26 (0, 0)) ∧ w.heap.size + 1 < wx.heap.size)
 case first =>
  obtain ⟨x0, x1, x2⟩ := val_cells hx
  obtain ⟨y0, y1, y2⟩ := val_cells hy
  obtain ⟨f0, f1, f2⟩ := val_frozen hx
  obtain ⟨g0, g1, g2⟩ := val_frozen hy
  go_region_with (go_at_call 67; (first | with_reducible refine (HA.out _).mono ?_ | with_reducible refine (HB.out _).mono ?_); rintro e v ⟨rfl, hbn⟩; clear x0 x1 x2 y0 y1 y2 f0 f1 f2 g0 g1 g2; replace hx := (hbn.block w.heap.size (Nat.lt_of_succ_lt hl)).trans hx; replace hy := (hbn.block (w.heap.size + 1) hl).trans hy; replace hb : Below w.heap.size w v := (by first | exact hb.trans (hbn.mono hb.size) | exact hb.drew.trans (hbn.mono hb.size)); replace hl := Nat.lt_of_lt_of_le hl hbn.size; clear hbn; obtain ⟨x0, x1, x2⟩ := val_cells hx; obtain ⟨y0, y1, y2⟩ := val_cells hy; obtain ⟨f0, f1, f2⟩ := val_frozen hx; obtain ⟨g0, g1, g2⟩ := val_frozen hy)
  all_goals
   go_wp2_with (fail)
   go_meet
   exact two_set hx hy hb hl
 case rest =>
 clear hx hy hb hl HA HB
 obtain ⟨hb, hx, hy, hl⟩ := hcut
 go_upto_region 2 with (fail)
 go_cut [9] (fun s wx => Below w.heap.size w wx ∧ wx.heap[w.heap.size]? = some (.cells #[.int .i64 xk, .int .i64 xn, .string xt] 26 (0, 0)) ∧ wx.heap[w.heap.size + 1]? = some (.cells #[.int .i64 yk, .int .i64 yn, .string yt] 26 (0, 0)) ∧ w.heap.size + 1 < wx.heap.size)
 case first =>
  obtain ⟨x0, x1, x2⟩ := val_cells hx
  obtain ⟨y0, y1, y2⟩ := val_cells hy
  obtain ⟨f0, f1, f2⟩ := val_frozen hx
  obtain ⟨g0, g1, g2⟩ := val_frozen hy
  go_region_with (go_at_call 71; (first | with_reducible refine (HC.out _).mono ?_ | with_reducible refine (HD.out _).mono ?_); rintro e v ⟨rfl, hbn⟩; clear x0 x1 x2 y0 y1 y2 f0 f1 f2 g0 g1 g2; replace hx := (hbn.block w.heap.size (Nat.lt_of_succ_lt hl)).trans hx; replace hy := (hbn.block (w.heap.size + 1) hl).trans hy; replace hb : Below w.heap.size w v := (by first | exact hb.trans (hbn.mono hb.size) | exact hb.drew.trans (hbn.mono hb.size)); replace hl := Nat.lt_of_lt_of_le hl hbn.size; clear hbn; obtain ⟨x0, x1, x2⟩ := val_cells hx; obtain ⟨y0, y1, y2⟩ := val_cells hy; obtain ⟨f0, f1, f2⟩ := val_frozen hx; obtain ⟨g0, g1, g2⟩ := val_frozen hy)
  all_goals
   go_wp2_with (fail)
   go_meet
   exact two_set hx hy hb hl
 case rest =>
 clear hx hy hb hl HC HD
 obtain ⟨hb, hx, hy, hl⟩ := hcut
 obtain ⟨x0, x1, x2⟩ := val_cells hx
 obtain ⟨y0, y1, y2⟩ := val_cells hy
 clear hx hy
 go_upto_region 3 with (fail)
 with_reducible refine wp_region_still_tail 17 (by kernel_rfl) (by kernel_rfl) ?_
 simp only [List.take_succ_cons, List.take_zero, List.drop_succ_cons, List.drop_zero]
 iterate 2 ((with_reducible refine wpStill_step (fun K hK => ?_)); go_simp; (with_reducible refine hK _ ?_); clear hK K)
 with_reducible refine wpStill_step (fun K hK => ?_)
 go_simp
 refine ⟨_, ((place_any _ _).mono fun e w2 h => ⟨h.1, h.2.symm⟩), ?_⟩
 with_reducible refine hK _ ?_
 clear hK K
 iterate 2 ((with_reducible refine wpStill_step (fun K hK => ?_)); go_simp; (with_reducible refine hK _ ?_); clear hK K)
 with_reducible refine wpStill_step (fun K hK => ?_)
 go_simp
 refine ⟨_, ((place_any _ _).mono fun e w2 h => ⟨h.1, h.2.symm⟩), ?_⟩
 with_reducible refine hK _ ?_
 clear hK K
 with_reducible refine wpStill_step (fun K hK => ?_)
 go_simp
 refine ⟨_, ((cmp_int _ _ _).mono fun e w2 h => ⟨h.1, h.2.symm⟩), ?_⟩
 with_reducible refine hK _ ?_
 clear hK K
 iterate 4 ((with_reducible refine wpStill_step (fun K hK => ?_)); go_simp; (with_reducible refine hK _ ?_); clear hK K)
 with_reducible refine wpStill_step (fun K hK => ?_)
 go_simp
 refine ⟨_, ((cmp_int64 _ _ _).mono fun e w2 h => ⟨h.1, h.2.symm⟩), ?_⟩
 with_reducible refine hK _ ?_
 clear hK K
 iterate 4 ((with_reducible refine wpStill_step (fun K hK => ?_)); go_simp; (with_reducible refine hK _ ?_); clear hK K)
 with_reducible refine wpStill_step (fun K hK => ?_)
 go_simp
 refine ⟨_, (Tryz.strings_Compare _ _ _), ?_⟩
 with_reducible refine hK _ ?_
 clear hK K
 with_reducible refine wpStill_nil ?_
 change wpList _ _ _ _ _ wc.drew
 replace hb := hb.drew
 generalize wc.drew = W2 at hb ⊢
 clear x0 x1 x2 y0 y1 y2 hl
 go_wp2_with (fail)
 refine (or3_any _ _ _ _ _ (Lib.cell_of_heap (heap_alloc_new _ _) 0) (Lib.cell_of_heap (heap_alloc_new _ _) 1) (Lib.cell_of_heap (heap_alloc_new _ _) 2)).mono ?_
 rintro e w5 ⟨rfl, rfl⟩
 go_wp2
 go_ret
 exact ⟨rfl, hb.alloc hb.size _⟩
theorem vcompare_any (a b : Val.V) (w : World) : Ret 34 #[vv a, vv b] w (.int .i64 (Val.cmpG (Val.good a) (Val.good b))) := by
 have HA := fun w => vgood_any a w
 have HB := fun w => vgood_any b w
 unfold Val.cmpG
 generalize Val.good a = ga at HA ⊢
 generalize Val.good b = gb at HB ⊢
 have HC := fun w => as_any ga gb w
 have HD := fun w => as_any gb ga w
 generalize Val.asV ga gb = x at HC ⊢
 generalize Val.asV gb ga = y at HD ⊢
 obtain ⟨ak, an, at'⟩ := a
 obtain ⟨bk, bn, bt⟩ := b
 obtain ⟨ck, cn, ct⟩ := ga
 obtain ⟨dk, dn, dt⟩ := gb
 obtain ⟨xk, xn, xt⟩ := x
 obtain ⟨yk, yn, yt⟩ := y
 exact vcompare_at ak an bk bn ck cn dk dn xk xn yk yn at' bt ct dt xt yt w HA HB HC HD
end Go.Proofs.YtpiiemneelkpkaaGreatDoor
