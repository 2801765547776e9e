import Derived.Handy
import Derived.Test.YtoffmfgaohjjpaaGreatDoorQ03
set_option linter.unusedVariables false
set_option linter.unusedSectionVars false
set_option linter.unusedSimpArgs false
open Go.Proofs.Tryz
set_option maxHeartbeats 8000000
variable{jp:Sort _}
set_option maxRecDepth 100000
namespace Go.Proofs.YtoffmfgaohjjpaaGreatDoor
open Go.RowKit
structure Box3(w v:World)(k n:Int)(t:ByteArray)(i m:Int)(s:ByteArray):Prop where
 b:Below w.heap.size w v
 x:v.heap[w.heap.size]?=some (.cells #[jI k,jI n,jS t] 41 (0,0))
 y:v.heap[w.heap.size+1]?=some (.cells #[jI i,jI m,jS s] 41 (0,0))
 z:v.heap[w.heap.size+1+1]?=some (.cells #[jI 0,jI 0,jS ⟨#[]⟩] 41 (0,0))
 l:w.heap.size+1+1<v.heap.size
def B37(h:jp:=by simp[results,results71,go_sem,z0,z1,z2]):=h
theorem Box3.start(w:World)(k n:Int)(t:ByteArray)(i m:Int)(s:ByteArray):Box3 w (((w.alloc (.cells #[jI k,jI n,jS t] 41 (0,0))).alloc (.cells #[jI i,jI m,jS s] 41 (0,0))).alloc (.cells #[jI 0,jI 0,jS ⟨#[]⟩] 41 (0,0))) k n t i m s:=by
 refine ⟨((jB.alloc jE _).alloc B7 _).alloc B14 _,?_,?_,?_,B7⟩
 .exact (heap_alloc_old _ _ B14).trans ((heap_alloc_old _ _ B7).trans Bp4)
 .refine (heap_alloc_old _ _ B7).trans ?_;rw[show w.heap.size+1=(w.alloc (Obj.cells #[jI k,jI n,jS t] 41)).heap.size by simp];exact heap_alloc_new _ _
 .rw[show w.heap.size+1+1=((w.alloc (Obj.cells #[jI k,jI n,jS t] 41)).alloc (.cells #[jI i,jI m,jS s] 41 (0,0))).heap.size by simp];exact heap_alloc_new _ _
section
variable{w v v':World}{k n:Int}{t:ByteArray}{i m:Int}{s:ByteArray}(h:Box3 w v k n t i m s)
include w v v' k n t i m s h
theorem Box3.call(hb:Below v.heap.size v v'):Box3 w v' k n t i m s:=
 ⟨jN h.b hb,(hb.block _ (by have:=h.l;omega)).trans h.x,(hb.block _ (by have:=h.l;omega)).trans h.y,(hb.block _ h.l).trans h.z,jL h.l hb.size⟩
theorem Box3.call2(hb:Below v.drew.heap.size v.drew v'):Box3 w v' k n t i m s:=
 (show Box3 w v.drew k n t i m s from ⟨h.b.drew,h.x,h.y,h.z,h.l⟩).call hb
end
theorem Box3.set{w v:World}{k n k' n':Int}{t t':ByteArray}{i m i' m':Int}{s s':ByteArray}(h:Box3 w v k n t i m s):
 Box3 w ((((((v.setCell (jA w.heap.size 0) (jI k')).setCell (jA w.heap.size 1) (jI n')).setCell (jA w.heap.size 2) (jS t')).setCell (jA (w.heap.size+1) 0) (jI i')).setCell (jA (w.heap.size+1) 1) (jI m')).setCell (jA (w.heap.size+1) 2) (jS s')) k' n' t' i' m' s':=by
 obtain ⟨h1,h2,h3,h4⟩:=zm1 (k':=k') (n':=n') (t':=t') (i':=i') (m':=m') (s':=s') h.x h.y h.b (by have:=h.l;omega);have h5:=h.z;have e:∀(u:World) (b:Nat) (j:Nat) (x:Value),b≠w.heap.size+1+1->(u.setCell (jA b j) x).heap[w.heap.size+1+1]?=u.heap[w.heap.size+1+1]?:=fun u b j x hb=>heap_setCell_other _ _ _ _ (by simpa using hb.symm);have h6:((((((v.setCell (jA w.heap.size 0) (jI k')).setCell (jA w.heap.size 1) (jI n')).setCell (jA w.heap.size 2) (jS t')).setCell (jA (w.heap.size+1) 0) (jI i')).setCell (jA (w.heap.size+1) 1) (jI m')).setCell (jA (w.heap.size+1) 2) (jS s')).heap[w.heap.size+1+1]?=some (.cells #[jI 0,jI 0,jS ⟨#[]⟩] 41 (0,0)):=by
  rw[e _ _ _ _ B1,e _ _ _ _ B1,e _ _ _ _ B1,e _ _ _ _ B1,e _ _ _ _ B1,e _ _ _ _ B1];exact h5
 exact ⟨h1,h2,h3,h6,(jg h6)⟩
theorem bin_out(op k n i m:Int)(t s:ByteArray)(w:World)(h:(decide (op<1)=true)\/(decide (op<1)=false/\decide (12<op)=true)):Ret 71 #[jI op,.agg #[jI k,jI n,jS t],.agg #[jI i,jI m,jS s]] w (.agg #[jI 4,jI 4,jS ⟨#[]⟩]):=by
 have HE:=jH (fun w=>zar 4 w);have HB:=jH (Box3.start w k n t i m s);rcases h with h1|⟨h1,h2⟩
 all_goals
  go_enter func71,ntmps71;go_wp2_with fail;refine jM (HE.out _) ?_;intro w3 hb3;have hB:=HB.out.call hb3;clear hb3 h1;obtain ⟨z0,z1,z2⟩:=zaa hB.z;obtain ⟨h0,h1,h2⟩:=zab hB.z;have hs:=hB.b;clear hB;go_wp2;exact jX (.agg #[jI 4,jI 4,jS ⟨#[]⟩]) B37 ⟨rfl,((hs.setCell (p:=(jA (w.heap.size+1+1) 0)) (show w.heap.size<=w.heap.size+1+1 by omega) _).setCell (p:=(jA (w.heap.size+1+1) 1)) (show w.heap.size<=w.heap.size+1+1 by omega) _).setCell (p:=(jA (w.heap.size+1+1) 2)) (show w.heap.size<=w.heap.size+1+1 by omega) _⟩
def BinJoin(w:World)(gk gn:Int)(gt:ByteArray)(hk hn:Int)(ht:ByteArray)(rk rn:Int)(rt:ByteArray):Prop:=
 ∃(a b:ByteArray) (z y:Int),a.size<=40000/\b.size<=40000/\Hid (∀w',Below w.heap.size w w'->Calls prog 107 #[.agg #[jI gk,jI gn,jS gt]] w' fun e w''=>e=jr (.tuple #[jS a,jI z])/\Below w'.heap.size w' w'')/\Hid (∀w',Below w.heap.size w w'->Calls prog 107 #[.agg #[jI hk,jI hn,jS ht]] w' fun e w''=>e=jr (.tuple #[jS b,jI y])/\Below w'.heap.size w' w'')/\Hid (∀w,Ret 131 #[jS (a++b),jI 0] w (.agg #[jI rk,jI rn,jS rt]))
def BinRel(w:World)(op gk gn:Int)(gt:ByteArray)(hk hn:Int)(ht:ByteArray)(rk rn:Int)(rt:ByteArray):Prop:=
 ∃(c:Int) (b:Bool),Hid (∀w,Ret 69 #[.agg #[jI gk,jI gn,jS gt],.agg #[jI hk,jI hn,jS ht]] w (jI c))/\Hid (∀w,Calls prog 133 #[jI op,jI c] w fun e w'=>e=jr (.bool b)/\w=w')/\Hid (∀w,Ret 132 #[.bool b] w (.agg #[jI rk,jI rn,jS rt]))
def zyl(F:FuncId)(a b rk rn:Int)(rt:ByteArray):Prop:=∃u v:Int,Hid (Bin2 F a b (jI u) (jI v))/\Hid (∀w,Ret 128 #[jI u,jI v] w (.agg #[jI rk,jI rn,jS rt]))
def zow(F:FuncId)(a b rk rn:Int)(rt:ByteArray):Prop:=∃(u:Int) (v:Bool),Hid (Bin2 F a b (jI u) (.bool v))/\Hid (∀w,Ret 126 #[jI u,.bool v] w (.agg #[jI rk,jI rn,jS rt]))
def BinNum(w:World)(op gk gn:Int)(gt:ByteArray)(hk hn:Int)(ht:ByteArray)(rk rn:Int)(rt:ByteArray):Prop:=
 ∃(a b z y:Int),Hid (∀w',Below w.heap.size w w'->Calls prog 68 #[.agg #[jI gk,jI gn,jS gt]] w' fun e w''=>e=jr (.tuple #[jI a,jI z])/\Below w'.heap.size w' w'')/\Hid (∀w',Below w.heap.size w w'->Calls prog 68 #[.agg #[jI hk,jI hn,jS ht]] w' fun e w''=>e=jr (.tuple #[jI b,jI y])/\Below w'.heap.size w' w'')/\
  (((z !=0)=true/\Hid (∀w,Ret 124 #[jI z] w (.agg #[jI rk,jI rn,jS rt])))\/(z=0/\(y !=0)=true/\Hid (∀w,Ret 124 #[jI y] w (.agg #[jI rk,jI rn,jS rt])))\/
   (z=0/\y=0/\((op=1/\zyl 134 a b rk rn rt)\/(op=2/\zow 100 a b rk rn rt)\/(op=3/\zyl 129 a b rk rn rt)\/(op=4/\zow 135 a b rk rn rt)\/(op=5/\zow 127 a b rk rn rt))))
def zym(w:World)(op gk gn:Int)(gt:ByteArray)(hk hn:Int)(ht:ByteArray)(rk rn:Int)(rt:ByteArray):Prop:=
 ((gk==4)=true/\gk=rk/\gn=rn/\gt=rt)\/((gk==4)=false/\(hk==4)=true/\hk=rk/\hn=rn/\ht=rt)\/
 ((gk==4)=false/\(hk==4)=false/\((op=6/\BinJoin w gk gn gt hk hn ht rk rn rt)\/((op=7\/op=8\/op=9\/op=10\/op=11\/op=12)/\BinRel w op gk gn gt hk hn ht rk rn rt)\/((op=1\/op=2\/op=3\/op=4\/op=5)/\BinNum w op gk gn gt hk hn ht rk rn rt)))
def M41(h:jp:=by
 rcases ho with rfl|rfl|rfl|rfl|rfl
 all_goals
  go_wp2_with fail;refine jM (H1.out _ hB.b) ?_;intro wn hbn;replace hB:=hB.call hbn;clear hbn x0 x1 x2 y0 y1 y2;obtain ⟨x0,x1,x2⟩:=zaa hB.x;obtain ⟨y0,y1,y2⟩:=zaa hB.y;go_wp2_with fail;refine jM (H2.out _ hB.b) ?_;intro wn hbn;replace hB:=hB.call hbn;clear hbn x0 x1 x2 y0 y1 y2;obtain ⟨x0,x1,x2⟩:=zaa hB.x;obtain ⟨y0,y1,y2⟩:=zaa hB.y;go_wp2_with fail;refine jM (H3.out _) ?_;intro wn hbn;replace hB:=hB.call hbn;clear hbn x0 x1 x2 y0 y1 y2;obtain ⟨x0,x1,x2⟩:=zaa hB.x;obtain ⟨y0,y1,y2⟩:=zaa hB.y;clear x0 x1 x2 y0 y1 y2;obtain ⟨z0,z1,z2⟩:=zaa hB.z;obtain ⟨h0,h1,h2⟩:=zab hB.z;have hs:=hB.b;clear hB;go_wp2;exact jX (.agg #[jI rk,jI rn,jS rt]) B37 ⟨rfl,((hs.setCell (p:=(jA (w.heap.size+1+1) 0)) (show w.heap.size<=w.heap.size+1+1 by omega) _).setCell (p:=(jA (w.heap.size+1+1) 1)) (show w.heap.size<=w.heap.size+1+1 by omega) _).setCell (p:=(jA (w.heap.size+1+1) 2)) (show w.heap.size<=w.heap.size+1+1 by omega) _⟩):=h
theorem bin_at(op k n i m gk gn hk hn:Int)(t s gt ht:ByteArray)(w:World)(HX0:∀w,Ret 125 #[.agg #[jI k,jI n,jS t]] w (.agg #[jI gk,jI gn,jS gt]))(HY0:∀w,Ret 125 #[.agg #[jI i,jI m,jS s]] w (.agg #[jI hk,jI hn,jS ht]))(o1:decide (op<1)=false)(o2:decide (12<op)=false)(rk rn:Int)(rt:ByteArray)(HC0:zym w op gk gn gt hk hn ht rk rn rt):Ret 71 #[jI op,.agg #[jI k,jI n,jS t],.agg #[jI i,jI m,jS s]] w (.agg #[jI rk,jI rn,jS rt]):=by
 have HC:=jH HC0;clear HC0;have HX:=jH HX0;have HY:=jH HY0;have HB:=jH (Box3.start w k n t i m s);clear HX0 HY0;go_enter func71,ntmps71;go_upto_region 3 with fail;have hB:=HB.out;clear HB;generalize (((w.alloc (.cells #[jI k,jI n,jS t] 41 (0,0))).alloc (.cells #[jI i,jI m,jS s] 41 (0,0))).alloc (.cells #[jI 0,jI 0,jS ⟨#[]⟩] 41 (0,0)))=W0 at *;go_cut [25] (fun s wx=>Box3 w wx gk gn gt hk hn ht)
 case first=>
  obtain ⟨x0,x1,x2⟩:=zaa hB.x;obtain ⟨y0,y1,y2⟩:=zaa hB.y;obtain ⟨f0,f1,f2⟩:=zab hB.x;obtain ⟨g0,g1,g2⟩:=zab hB.y;go_region_with (go_at_call 125;(first|with_reducible refine (HX.out _).mono ?_|with_reducible refine (HY.out _).mono ?_);rintro e v ⟨rfl,hbn⟩;clear x0 x1 x2 y0 y1 y2 f0 f1 f2 g0 g1 g2;(first|replace hB:=hB.call hbn|replace hB:=hB.call2 hbn);clear hbn;obtain ⟨x0,x1,x2⟩:=zaa hB.x;obtain ⟨y0,y1,y2⟩:=zaa hB.y;obtain ⟨f0,f1,f2⟩:=zab hB.x;obtain ⟨g0,g1,g2⟩:=zab hB.y)
  all_goals
   go_wp2_with fail;go_meet;exact hB.set
 case rest=>
 clear hB HX HY;have hB:=hcut;clear hcut;obtain ⟨x0,x1,x2⟩:=zaa hB.x;obtain ⟨y0,y1,y2⟩:=zaa hB.y;go_upto_block 0 with fail;clear x0 x1 x2 y0 y1 y2;have hs:=heap_alloc_new wc (.cells #[jI gk,jI gn,jS gt,jI hk,jI hn,jS ht] 41 (0,0));have hb:=(Below.refl wc.heap.size wc).alloc jE (.cells #[jI gk,jI gn,jS gt,jI hk,jI hn,jS ht] 41 (0,0));have hB1:=hB.call hb;have hlB:=hB.l;clear hB hb;generalize wc.alloc (.cells #[jI gk,jI gn,jS gt,jI hk,jI hn,jS ht] 41 (0,0))=W1 at *;generalize wc.heap.size=B1 at *;have s0:=ch hs 0;have s1:=ch hs 1;have s2:=ch hs 2;have s3:=ch hs 3;have s4:=ch hs 4;have s5:=ch hs 5;simp at s0 s1 s2 s3 s4 s5;have hlt:=(jg hs);clear hs;rcases HC.out with ⟨t1,rfl,rfl,rfl⟩|⟨t1,t2,rfl,rfl,rfl⟩|⟨t1,t2,HC2⟩
 .clear HC;have hA:=fun o=>hB1.call ((Below.refl W1.heap.size W1).alloc jE o);have z0:=fun o=>(zaa (hA o).z).1;have z1:=fun o=>(zaa (hA o).z).2.1;have z2:=fun o=>(zaa (hA o).z).2.2;have h0:=fun o=>(zab (hA o).z).1;have h1:=fun o=>(zab (hA o).z).2.1;have h2:=fun o=>(zab (hA o).z).2.2;have hs:=fun o=>(hA o).b;clear hA hB1;go_wp2_with fail;refine wp_loop_rounds 1 ?_;rw[rounds_succ];go_wp2_with fail;exact jX (.agg #[jI gk,jI gn,jS gt]) B37 ⟨rfl,(((hs _).setCell (p:=(jA (w.heap.size+1+1) 0)) (show w.heap.size<=w.heap.size+1+1 by omega) _).setCell (p:=(jA (w.heap.size+1+1) 1)) (show w.heap.size<=w.heap.size+1+1 by omega) _).setCell (p:=(jA (w.heap.size+1+1) 2)) (show w.heap.size<=w.heap.size+1+1 by omega) _⟩
 .clear HC;have hA:=fun o=>hB1.call ((Below.refl W1.heap.size W1).alloc jE o);have hA2:=fun o o2=>(hA o).call ((Below.refl (W1.alloc o).heap.size (W1.alloc o)).alloc jE o2);have z0:=fun o o2=>(zaa (hA2 o o2).z).1;have z1:=fun o o2=>(zaa (hA2 o o2).z).2.1;have z2:=fun o o2=>(zaa (hA2 o o2).z).2.2;have h0:=fun o o2=>(zab (hA2 o o2).z).1;have h1:=fun o o2=>(zab (hA2 o o2).z).2.1;have h2:=fun o o2=>(zab (hA2 o o2).z).2.2;have hs:=fun o o2=>(hA2 o o2).b;clear hA hA2 hB1;go_wp2_with fail;refine wp_loop_rounds 2 ?_;rw[rounds_succ];go_wp2_with fail;rw[rounds_succ];go_wp2_with fail;exact jX (.agg #[jI hk,jI hn,jS ht]) B37 ⟨rfl,(((hs _ _).setCell (p:=(jA (w.heap.size+1+1) 0)) (show w.heap.size<=w.heap.size+1+1 by omega) _).setCell (p:=(jA (w.heap.size+1+1) 1)) (show w.heap.size<=w.heap.size+1+1 by omega) _).setCell (p:=(jA (w.heap.size+1+1) 2)) (show w.heap.size<=w.heap.size+1+1 by omega) _⟩
 .clear HC;have HC:=jH HC2;clear HC2;go_cut [32] (fun s wx=>Box3 w wx gk gn gt hk hn ht)
  case first=>
   have hA:=fun o=>hB1.call ((Below.refl W1.heap.size W1).alloc jE o);have hA2:=fun o o2=>(hA o).call ((Below.refl (W1.alloc o).heap.size (W1.alloc o)).alloc jE o2);have HA:=jH hA2;clear hA hA2 hB1;go_wp2_with fail;refine wp_loop_rounds 3 ?_;rw[rounds_succ];go_wp2_with fail;rw[rounds_succ];go_wp2_with fail;rw[rounds_succ];go_wp2_with fail;go_meet;exact HA.out _ _
  case rest=>
  clear hB1 s0 s1 s2 s3 s4 s5 hlt hlB;have hB:=hcut;clear hcut;obtain ⟨x0,x1,x2⟩:=zaa hB.x;obtain ⟨y0,y1,y2⟩:=zaa hB.y;rcases HC.out with ⟨rfl,a,b,z,y,ha,hb,H1,H2,H3⟩|⟨ho,c,bl,H1,H2,H3⟩|⟨ho,a,b,z,y,H1,H2,H3⟩
  .clear HC;go_wp2_with fail;refine jM (H1.out _ hB.b) ?_;intro wn hbn;replace hB:=hB.call hbn;clear hbn x0 x1 x2 y0 y1 y2;obtain ⟨x0,x1,x2⟩:=zaa hB.x;obtain ⟨y0,y1,y2⟩:=zaa hB.y;go_wp2_with fail;refine jM (H2.out _ hB.b) ?_;intro wn hbn;replace hB:=hB.call hbn;clear hbn x0 x1 x2 y0 y1 y2;obtain ⟨x0,x1,x2⟩:=zaa hB.x;obtain ⟨y0,y1,y2⟩:=zaa hB.y;go_wp2_with fail;refine jM (H3.out _) ?_;intro wn hbn;replace hB:=hB.call hbn;clear hbn x0 x1 x2 y0 y1 y2;obtain ⟨x0,x1,x2⟩:=zaa hB.x;obtain ⟨y0,y1,y2⟩:=zaa hB.y;clear x0 x1 x2 y0 y1 y2;obtain ⟨z0,z1,z2⟩:=zaa hB.z;obtain ⟨h0,h1,h2⟩:=zab hB.z;have hs:=hB.b;clear hB;go_wp2;exact jX (.agg #[jI rk,jI rn,jS rt]) B37 ⟨rfl,((hs.setCell (p:=(jA (w.heap.size+1+1) 0)) (show w.heap.size<=w.heap.size+1+1 by omega) _).setCell (p:=(jA (w.heap.size+1+1) 1)) (show w.heap.size<=w.heap.size+1+1 by omega) _).setCell (p:=(jA (w.heap.size+1+1) 2)) (show w.heap.size<=w.heap.size+1+1 by omega) _⟩
  .clear HC;rcases ho with rfl|rfl|rfl|rfl|rfl|rfl
   all_goals
    go_wp2_with fail;refine jM (H1.out _) ?_;intro wn hbn;replace hB:=hB.call hbn;clear hbn x0 x1 x2 y0 y1 y2;obtain ⟨x0,x1,x2⟩:=zaa hB.x;obtain ⟨y0,y1,y2⟩:=zaa hB.y;go_wp2_with fail;refine jM (H2.out _) ?_;intro wn rfl;go_wp2_with fail;refine jM (H3.out _) ?_;intro wn hbn;replace hB:=hB.call hbn;clear hbn x0 x1 x2 y0 y1 y2;obtain ⟨x0,x1,x2⟩:=zaa hB.x;obtain ⟨y0,y1,y2⟩:=zaa hB.y;clear x0 x1 x2 y0 y1 y2;obtain ⟨z0,z1,z2⟩:=zaa hB.z;obtain ⟨h0,h1,h2⟩:=zab hB.z;have hs:=hB.b;clear hB;go_wp2;exact jX (.agg #[jI rk,jI rn,jS rt]) B37 ⟨rfl,((hs.setCell (p:=(jA (w.heap.size+1+1) 0)) (show w.heap.size<=w.heap.size+1+1 by omega) _).setCell (p:=(jA (w.heap.size+1+1) 1)) (show w.heap.size<=w.heap.size+1+1 by omega) _).setCell (p:=(jA (w.heap.size+1+1) 2)) (show w.heap.size<=w.heap.size+1+1 by omega) _⟩
  .clear HC;rcases H3 with ⟨t3,H3⟩|⟨rfl,t3,H3⟩|⟨rfl,rfl,H3⟩
   .exact M41
   .exact M41
   .rcases H3 with ⟨rfl,u,v,H3,H4⟩|⟨rfl,u,v,H3,H4⟩|⟨rfl,u,v,H3,H4⟩|⟨rfl,u,v,H3,H4⟩|⟨rfl,u,v,H3,H4⟩
    all_goals
     go_wp2_with fail;refine jM (H1.out _ hB.b) ?_;intro wn hbn;replace hB:=hB.call hbn;clear hbn x0 x1 x2 y0 y1 y2;obtain ⟨x0,x1,x2⟩:=zaa hB.x;obtain ⟨y0,y1,y2⟩:=zaa hB.y;go_wp2_with fail;refine jM (H2.out _ hB.b) ?_;intro wn hbn;replace hB:=hB.call hbn;clear hbn x0 x1 x2 y0 y1 y2;obtain ⟨x0,x1,x2⟩:=zaa hB.x;obtain ⟨y0,y1,y2⟩:=zaa hB.y;go_wp2_with fail;refine jM (H3.out _) ?_;intro wn hbn;replace hB:=hB.call hbn;clear hbn x0 x1 x2 y0 y1 y2;obtain ⟨x0,x1,x2⟩:=zaa hB.x;obtain ⟨y0,y1,y2⟩:=zaa hB.y;go_wp2_with fail;refine jM (H4.out _) ?_;intro wn hbn;replace hB:=hB.call hbn;clear hbn x0 x1 x2 y0 y1 y2;obtain ⟨x0,x1,x2⟩:=zaa hB.x;obtain ⟨y0,y1,y2⟩:=zaa hB.y;clear x0 x1 x2 y0 y1 y2;obtain ⟨z0,z1,z2⟩:=zaa hB.z;obtain ⟨h0,h1,h2⟩:=zab hB.z;have hs:=hB.b;clear hB;go_wp2;exact jX (.agg #[jI rk,jI rn,jS rt]) B37 ⟨rfl,((hs.setCell (p:=(jA (w.heap.size+1+1) 0)) (show w.heap.size<=w.heap.size+1+1 by omega) _).setCell (p:=(jA (w.heap.size+1+1) 1)) (show w.heap.size<=w.heap.size+1+1 by omega) _).setCell (p:=(jA (w.heap.size+1+1) 2)) (show w.heap.size<=w.heap.size+1+1 by omega) _⟩
