import Derived.Test.YtoffmfgaohjjpaaGreatDoorQ00
set_option linter.unusedVariables false
set_option linter.unusedSimpArgs false
open Go.Proofs.Tryz
set_option maxHeartbeats 8000000
variable{jp:Sort _}
set_option maxRecDepth 100000
namespace Go.Proofs.YtoffmfgaohjjpaaGreatDoor
open Go.RowKit
def Val.cmpT(x y:Val.V):Int:=Val.orI (Val.cmpI (Val.placeOf x.k) (Val.placeOf y.k)) (Val.cmpI x.n y.n) (Lib.compareBytes x.t.data.toList y.t.data.toList)
theorem zm1{w v:World}{T:Nat}{k n k' n':Int}{t t':ByteArray}{i m i' m':Int}{s s':ByteArray}(hx:v.heap[w.heap.size]?=some (.cells #[jI k,jI n,jS t] T (0,0)))(hy:v.heap[w.heap.size+1]?=some (.cells #[jI i,jI m,jS s] T (0,0)))(hb:Below w.heap.size w v)(hl:w.heap.size+1<v.heap.size):
 Below w.heap.size w ((((((v.setCell (jA w.heap.size 0) (jI k')).setCell (jA w.heap.size 1) (jI n')).setCell (jA w.heap.size 2) (jS t')).setCell (jA (w.heap.size+1) 0) (jI i')).setCell (jA (w.heap.size+1) 1) (jI m')).setCell (jA (w.heap.size+1) 2) (jS s'))/\
 ((((((v.setCell (jA w.heap.size 0) (jI k')).setCell (jA w.heap.size 1) (jI n')).setCell (jA w.heap.size 2) (jS t')).setCell (jA (w.heap.size+1) 0) (jI i')).setCell (jA (w.heap.size+1) 1) (jI m')).setCell (jA (w.heap.size+1) 2) (jS s')).heap[w.heap.size]?=some (.cells #[jI k',jI n',jS t'] T (0,0))/\
 ((((((v.setCell (jA w.heap.size 0) (jI k')).setCell (jA w.heap.size 1) (jI n')).setCell (jA w.heap.size 2) (jS t')).setCell (jA (w.heap.size+1) 0) (jI i')).setCell (jA (w.heap.size+1) 1) (jI m')).setCell (jA (w.heap.size+1) 2) (jS s')).heap[w.heap.size+1]?=some (.cells #[jI i',jI m',jS s'] T (0,0))/\
 w.heap.size+1<((((((v.setCell (jA w.heap.size 0) (jI k')).setCell (jA w.heap.size 1) (jI n')).setCell (jA w.heap.size 2) (jS t')).setCell (jA (w.heap.size+1) 0) (jI i')).setCell (jA (w.heap.size+1) 1) (jI m')).setCell (jA (w.heap.size+1) 2) (jS s')).heap.size:=by
 have h1:=zei (k':=k') (n':=n') (t':=t') hx;have h2:(((v.setCell (jA w.heap.size 0) (jI k')).setCell (jA w.heap.size 1) (jI n')).setCell (jA w.heap.size 2) (jS t')).heap[w.heap.size+1]?=some (.cells #[jI i,jI m,jS s] T (0,0)):=by
  rw[heap_setCell_other _ _ _ _ B7,heap_setCell_other _ _ _ _ B7,heap_setCell_other _ _ _ _ B7];exact hy
 have b1:=((hb.setCell (p:=(jA w.heap.size 0)) B7 (jI k')).setCell (p:=(jA w.heap.size 1)) B7 (jI n')).setCell (p:=(jA w.heap.size 2)) B7 (jS t');have l1:w.heap.size+1<(((v.setCell (jA w.heap.size 0) (jI k')).setCell (jA w.heap.size 1) (jI n')).setCell (jA w.heap.size 2) (jS t')).heap.size:=(jg h2);refine ⟨set3 b1 B7,?_,zei h2,(jg (zei h2))⟩;rw[heap_setCell_other _ _ _ _ B7,heap_setCell_other _ _ _ _ B7,heap_setCell_other _ _ _ _ B7];exact h1
def Val.cmpG(a b:Val.V):Int:=Val.cmpT (Val.asV a b) (Val.asV b a)
def B158(h:jp:=by first|exact jN hb hbn|exact hb.drew.trans (hbn.mono hb.size)):=h
theorem zm0(ak an bk bn ck cn dk dn xk xn yk yn:Int)(at' bt ct dt xt yt:ByteArray)(w:World)(HA0:∀w,Ret 116 #[.agg #[jI ak,jI an,jS at']] w (.agg #[jI ck,jI cn,jS ct]))(HB0:∀w,Ret 116 #[.agg #[jI bk,jI bn,jS bt]] w (.agg #[jI dk,jI dn,jS dt]))(HC0:∀w,Ret 118 #[.agg #[jI ck,jI cn,jS ct],.agg #[jI dk,jI dn,jS dt]] w (.agg #[jI xk,jI xn,jS xt]))(HD0:∀w,Ret 118 #[.agg #[jI dk,jI dn,jS dt],.agg #[jI ck,jI cn,jS ct]] w (.agg #[jI yk,jI yn,jS yt])):
 Ret 69 #[.agg #[jI ak,jI an,jS at'],.agg #[jI bk,jI bn,jS bt]] w (jI (Val.cmpT ⟨xk,xn,xt⟩ ⟨yk,yn,yt⟩)):=by
 have HA:=jH HA0;have HB:=jH HB0;have HC:=jH HC0;have HD:=jH HD0;clear HA0 HB0 HC0 HD0;go_enter func69,ntmps69;go_upto_region 1 with fail;have hx:((w.alloc (Obj.cells #[jI ak,jI an,jS at'] 41)).alloc (Obj.cells #[jI bk,jI bn,jS bt] 41)).heap[w.heap.size]?=some (.cells #[jI ak,jI an,jS at'] 41 (0,0)):=(Below.heap_alloc _ _ w.heap.size B7).trans Bp4;have hy:((w.alloc (Obj.cells #[jI ak,jI an,jS at'] 41)).alloc (Obj.cells #[jI bk,jI bn,jS bt] 41)).heap[w.heap.size+1]?=some (.cells #[jI bk,jI bn,jS bt] 41 (0,0)):=by
  rw[show w.heap.size+1=(w.alloc (Obj.cells #[jI ak,jI an,jS at'] 41)).heap.size by simp];exact heap_alloc_new _ _
 have hb:Below w.heap.size w ((w.alloc (Obj.cells #[jI ak,jI an,jS at'] 41)).alloc (Obj.cells #[jI bk,jI bn,jS bt] 41)):=(jB.alloc (Nat.le_refl w.heap.size) _).alloc B7 _;have hl:w.heap.size+1<((w.alloc (Obj.cells #[jI ak,jI an,jS at'] 41)).alloc (Obj.cells #[jI bk,jI bn,jS bt] 41)).heap.size:=B7;generalize ((w.alloc (Obj.cells #[jI ak,jI an,jS at'] 41)).alloc (Obj.cells #[jI bk,jI bn,jS bt] 41))=W0 at *;go_cut [5] (fun s wx=>Below w.heap.size w wx/\wx.heap[w.heap.size]?=some (.cells #[jI ck,jI cn,jS ct] 41 (0,0))/\wx.heap[w.heap.size+1]?=some (.cells #[jI dk,jI dn,jS dt] 41 (0,0))/\w.heap.size+1<wx.heap.size)
 case first=>
  obtain ⟨x0,x1,x2⟩:=zaa hx;obtain ⟨y0,y1,y2⟩:=zaa hy;obtain ⟨f0,f1,f2⟩:=zab hx;obtain ⟨g0,g1,g2⟩:=zab hy;go_region_with (go_at_call 116;(first|with_reducible refine (HA.out _).mono ?_|with_reducible refine (HB.out _).mono ?_);rintro e v ⟨rfl,hbn⟩;clear x0 x1 x2 y0 y1 y2 f0 f1 f2 g0 g1 g2;replace hx:=(hbn.block w.heap.size (Nat.lt_of_succ_lt hl)).trans hx;replace hy:=(hbn.block (w.heap.size+1) hl).trans hy;replace hb:Below w.heap.size w v:=B158;replace hl:=jL hl hbn.size;clear hbn;obtain ⟨x0,x1,x2⟩:=zaa hx;obtain ⟨y0,y1,y2⟩:=zaa hy;obtain ⟨f0,f1,f2⟩:=zab hx;obtain ⟨g0,g1,g2⟩:=zab hy)
  all_goals
   go_wp2_with fail;go_meet;exact zm1 hx hy hb hl
 case rest=>
 clear hx hy hb hl HA HB;obtain ⟨hb,hx,hy,hl⟩:=hcut;go_upto_region 2 with fail;go_cut [9] (fun s wx=>Below w.heap.size w wx/\wx.heap[w.heap.size]?=some (.cells #[jI xk,jI xn,jS xt] 41 (0,0))/\wx.heap[w.heap.size+1]?=some (.cells #[jI yk,jI yn,jS yt] 41 (0,0))/\w.heap.size+1<wx.heap.size)
 case first=>
  obtain ⟨x0,x1,x2⟩:=zaa hx;obtain ⟨y0,y1,y2⟩:=zaa hy;obtain ⟨f0,f1,f2⟩:=zab hx;obtain ⟨g0,g1,g2⟩:=zab hy;go_region_with (go_at_call 118;(first|with_reducible refine (HC.out _).mono ?_|with_reducible refine (HD.out _).mono ?_);rintro e v ⟨rfl,hbn⟩;clear x0 x1 x2 y0 y1 y2 f0 f1 f2 g0 g1 g2;replace hx:=(hbn.block w.heap.size (Nat.lt_of_succ_lt hl)).trans hx;replace hy:=(hbn.block (w.heap.size+1) hl).trans hy;replace hb:Below w.heap.size w v:=B158;replace hl:=jL hl hbn.size;clear hbn;obtain ⟨x0,x1,x2⟩:=zaa hx;obtain ⟨y0,y1,y2⟩:=zaa hy;obtain ⟨f0,f1,f2⟩:=zab hx;obtain ⟨g0,g1,g2⟩:=zab hy)
  all_goals
   go_wp2_with fail;go_meet;exact zm1 hx hy hb hl
 case rest=>
 clear hx hy hb hl HC HD;obtain ⟨hb,hx,hy,hl⟩:=hcut;obtain ⟨x0,x1,x2⟩:=zaa hx;obtain ⟨y0,y1,y2⟩:=zaa hy;clear hx hy;go_upto_region 3 with fail
 with_reducible refine wp_region_still_tail 17 (by kernel_rfl) (by kernel_rfl) ?_
 simp only[List.take_succ_cons,List.take_zero,List.drop_succ_cons,List.drop_zero]
 iterate 2 ((with_reducible refine wpStill_step (fun K hK=> ?_));go_simp;(with_reducible refine hK _ ?_);clear hK K)
 with_reducible refine wpStill_step (fun K hK=> ?_)
 go_simp;refine ⟨_,((place_any _ _).mono fun e w2 h=> ⟨h.1,h.2.symm⟩),?_⟩
 with_reducible refine hK _ ?_
 clear hK K
 iterate 2 ((with_reducible refine wpStill_step (fun K hK=> ?_));go_simp;(with_reducible refine hK _ ?_);clear hK K)
 with_reducible refine wpStill_step (fun K hK=> ?_)
 go_simp;refine ⟨_,((place_any _ _).mono fun e w2 h=> ⟨h.1,h.2.symm⟩),?_⟩
 with_reducible refine hK _ ?_
 clear hK K
 with_reducible refine wpStill_step (fun K hK=> ?_)
 go_simp;refine ⟨_,((cmp_int _ _ _).mono fun e w2 h=> ⟨h.1,h.2.symm⟩),?_⟩
 with_reducible refine hK _ ?_
 clear hK K
 iterate 4 ((with_reducible refine wpStill_step (fun K hK=> ?_));go_simp;(with_reducible refine hK _ ?_);clear hK K)
 with_reducible refine wpStill_step (fun K hK=> ?_)
 go_simp;refine ⟨_,((zxl _ _ _).mono fun e w2 h=> ⟨h.1,h.2.symm⟩),?_⟩
 with_reducible refine hK _ ?_
 clear hK K
 iterate 4 ((with_reducible refine wpStill_step (fun K hK=> ?_));go_simp;(with_reducible refine hK _ ?_);clear hK K)
 with_reducible refine wpStill_step (fun K hK=> ?_)
 go_simp;refine ⟨_,(Tryz.strings_Compare _ _ _),?_⟩
 with_reducible refine hK _ ?_
 clear hK K
 with_reducible refine wpStill_nil ?_
 change wpList _ _ _ _ _ wc.drew;replace hb:=hb.drew;generalize wc.drew=W2 at hb ⊢;clear x0 x1 x2 y0 y1 y2 hl;go_wp2_with fail;refine jM (or3_any _ _ _ _ _ (Lib.cell_of_heap Bp4 0) (Lib.cell_of_heap Bp4 1) (Lib.cell_of_heap Bp4 2)) ?_;intro w5 rfl;go_wp2;go_ret;exact ⟨rfl,hb.alloc hb.size _⟩
theorem zdf(a b:Val.V)(w:World):Ret 69 #[vv a,vv b] w (jI (Val.cmpG (Val.good a) (Val.good b))):=by
 have HA:=fun w=>zde a w;have HB:=fun w=>zde b w;unfold Val.cmpG;generalize Val.good a=ga at HA ⊢;generalize Val.good b=gb at HB ⊢;have HC:=fun w=>as_any ga gb w;have HD:=fun w=>as_any gb ga w;generalize Val.asV ga gb=x at HC ⊢;generalize Val.asV gb ga=y at HD ⊢;obtain ⟨ak,an,at'⟩:=a;obtain ⟨bk,bn,bt⟩:=b;obtain ⟨ck,cn,ct⟩:=ga;obtain ⟨dk,dn,dt⟩:=gb;obtain ⟨xk,xn,xt⟩:=x;obtain ⟨yk,yn,yt⟩:=y;exact zm0 ak an bk bn ck cn dk dn xk xn yk yn at' bt ct dt xt yt w HA HB HC HD
