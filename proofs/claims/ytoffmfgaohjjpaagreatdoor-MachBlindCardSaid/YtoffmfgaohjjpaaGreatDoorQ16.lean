import Derived.Test.YtoffmfgaohjjpaaGreatDoorQ18
set_option linter.unusedVariables false
set_option linter.unusedSectionVars false
set_option linter.unusedSimpArgs false
open Go.Proofs.Tryz
set_option maxHeartbeats 8000000
variable{jp:Sort _}
set_option maxRecDepth 100000
namespace Go.Proofs.YtoffmfgaohjjpaaGreatDoor
open Go.RowKit
namespace Fd
open Mb
def X142.K32(h:jp:=by
 have K:=jH H1;clear H1;go_enter func164,ntmps164;go_wp2_with fail;refine jM (K.out _ hb1) ?_;intro w2 hq;go_wp2_with fail;exact jX jT (by simp[results,results164,go_sem]) ⟨rfl,hq⟩):=h
def D11(h:jp:=by
 have hb1:Below w.heap.size w (w.alloc (Obj.cells #[jI v.k,jI v.n,jS v.t] 41)):=below1 _ _;have kb:=heap_alloc_new w (Obj.cells #[jI v.k,jI v.n,jS v.t] 41);exact J11):=h
def V31.J11(h:jp:=by
 have hx0:[x0,x1][0]?=some x0:=rfl;have hx1:[x0,x1][1]?=some x1:=rfl;have hcap:=hA.cap;have hX2:=hX.below2 hb1;have hA2:=hA.below hb1;have kF2:=kF.below hb1;have hXl:=hX.lt;go_enter func164,ntmps164;go_upto_region 3 with fail;generalize (w.alloc (Obj.cells #[jI v.k,jI v.n,jS v.t] 41))=w2 at *;obtain ⟨-,-,-,c3,c4,-⟩:=hX2.cells;obtain ⟨-,i1,i2,i3,i4,-,-,-⟩:=hA2.item hx0;simp only[Nat.zero_mul,Nat.zero_add,Nat.one_mul] at i1 i2 i3 i4;obtain ⟨-,j1,j2,j3,j4,-,-,-⟩:=hA2.item hx1;simp only[Nat.zero_mul,Nat.zero_add,Nat.one_mul] at j1 j2 j3 j4;have a0:=hA2.box.cell;have al:=hA2.box.lt;have gl:=hA2.lt;have xl:=hX2.lt;have d0:=kF2.cell;have d1:=kF2.lt;go_still_tail 37,(by kernel_rfl);change wpList _ _ _ _ _ w2.drew;have hbd:Below w2.heap.size w2 w2.drew:=jB.drew;go_wp2_with fail;refine (HW.out _ _ _ _ _ (hX2.below2 hbd)).mono ?_;rintro e w3 ⟨rfl,k1,k2⟩;go_wp2_with fail;exact jY jT (by simp[results,results164,go_sem]) ⟨rfl,k1,(k2.block _ (jg kb) B1).trans kb,zaf k2 (jN hb1 hbd)⟩):=h
def B137(h:jp:=by simp[results,results162,go_sem]):=h
def M155(h:jp:=by
 clear H1 H2 H3;go_enter func162,ntmps162;go_wp2_with fail;refine jM (K.out _ hb1) ?_;intro w2 hq;go_wp2_with fail;exact jY jT B137 ⟨rfl,hq⟩):=h
def X143.K32(h:jp:=by
 cases t4:(v.k==4)
 .cases t1:(v.k==1)
  .have K:=jH (H3 t4 t1);clear H1 H2 H3;go_enter func162,ntmps162;go_wp2_with fail;exact jY jT B137 ⟨rfl,K.out _ hb1⟩
  .have K:=jH (H2 t4 t1);exact M155
 .have K:=jH (H1 t4);exact M155):=h
def B77(h:jp:=by simp[results,results165,go_sem]):=h
def M194(h:jp:=by
 clear H1 H2 H3 H4;go_enter func165,ntmps165;go_wp2_with fail;exact jX jT B77 ⟨rfl,K.out _ hb1⟩):=h
def B76(h:jp:=by simp[results,results161,go_sem]):=h
def M39(h:jp:=by
 have HEq:=jH fun (u:World)=>zdq x1.v v u;have hb1:Below w.heap.size w (w.alloc (Obj.cells #[jI v.k,jI v.n,jS v.t] 41)):=below1 _ _;have kb:=heap_alloc_new w (Obj.cells #[jI v.k,jI v.n,jS v.t] 41);have hcap:=hA.cap;have hX1:=hX.below2 hb1;have hA1:=hA.below hb1;have kF1:=kF.below hb1;have kN1:=kN.below hb1;have kU1:=kU.below hb1;obtain ⟨n',hw⟩:∃n',IntKind.i64.wrap (n+1)=n':=⟨_,rfl⟩;have hl1:w.heap.size<(w.alloc (Obj.cells #[jI v.k,jI v.n,jS v.t] 41)).heap.size:=B7;have hNl:=kN.lt;go_enter func161,ntmps161;go_upto_region 1 with fail;generalize (w.alloc (Obj.cells #[jI v.k,jI v.n,jS v.t] 41))=w1 at *;obtain ⟨v0,v1,v2⟩:=zaa kb;obtain ⟨-,-,-,-,-,q5,q6,q7⟩:=hA1.item (k:=1) (x:=x1) rfl;simp only[Nat.one_mul] at q5 q6 q7;have a0:=hA1.box.cell;have al:=hA1.box.lt;have gl:=hA1.lt;go_still_tail 5,(by kernel_rfl);change wpList _ _ _ _ _ w1.drew;have hbd:Below w1.heap.size w1 w1.drew:=jB.drew;go_wp2_with fail;refine jM (HEq.out _) ?_;intro w2 hb2;have hb12:=hbd.trans hb2;have hbw:=jN hb1 hb12;rw[he];go_wp2_with fail;exact jX jT B76 ⟨rfl,hbw⟩):=h
def Bp55(h:jp:=by exact Foot.set (i:=0) (x:=jI n') (Foot.refl _ w2) rfl):=h
def C5(h:jp:=by
 have hX2:=hX1.below2 hb12;have hA2:=hA1.below hb12;have kF2:=kF1.below hb12;have kN2:=kN1.below hb12;have kU2:=kU1.below hb12;have kb2:=(hb12.block _ hl1).trans kb;have hNX:=kN2.ne_at hX2;have hFN:=kF2.ne kN2 B8;have hAN:=hA2.box.ne kN2 B8;have hbN:w.heap.size≠bN:=B1;clear hX hA kF kU hX1 hA1 kF1 kN1 kU1 hb12 hb2 hbd kb v0 v1 v2 q5 q6 q7 a0 al gl hl1;have d0:=kN2.cell;have d1:=kN2.lt;have d2:=kN2.frozen;go_upto_region 3 with fail;have hf3:Foot (fun k=>k=X\/k=bN) w2 (w2.setCell (jA bN 0) (jI n')):=Foot.set (Foot.refl _ _) (.inr rfl);have hX3:=zbs (x:=jI n') hX2 hNX;have hA3:=hA2.foot (F:=fun k=>k=bN) Bp55 hAN hgN;have kF3:=kF2.set_other (x:=jI n') hFN;have kN3:=kN2.set (jI n');have kU3:=kU2.set_other (x:=jI n') hnU.symm;have kb3:=(heap_setCell_other w2 (jA bN 0) w.heap.size (jI n') hbN).trans kb2;clear hX2 hA2 kF2 kN2 kU2 kb2 d0 d1 d2;generalize w2.setCell (jA bN 0) (jI n')=w3 at *;have hfw:Foot (fun k=>k=X\/k=bN) w w3:=zaf hf3 hbw;exact K5):=h
def X31.K5(h:jp:=by
 have u0:=kU3.cell;have u1:=kU3.lt;have a0:=hA3.box.cell;have al:=hA3.box.lt;have e0:=kF3.cell;have e1:=kF3.lt;go_wp2_with fail;exact jY jT B76 ⟨rfl,hX3,kN3,hfw⟩):=h
def D3(h:jp:=by
 go_enter func161,ntmps161;go_upto_region 1 with fail;generalize (w.alloc (Obj.cells #[jI v.k,jI v.n,jS v.t] 41))=w1 at *;obtain ⟨v0,v1,v2⟩:=zaa kb;obtain ⟨-,-,-,-,-,q5,q6,q7⟩:=hA1.item (k:=1) (x:=x1) rfl;simp only[Nat.one_mul] at q5 q6 q7;have a0:=hA1.box.cell;have al:=hA1.box.lt;have gl:=hA1.lt;go_still_tail 5,(by kernel_rfl);change wpList _ _ _ _ _ w1.drew;have hbd:Below w1.heap.size w1 w1.drew:=jB.drew;go_wp2_with fail;refine jM (HEq.out _) ?_;intro w2 hb2;have hb12:=hbd.trans hb2;have hbw:=jN hb1 hb12;exact J3):=h
def V10.J3(h:jp:=by
 rw[he]
 open X31 in exact C5):=h
def Da1(h:jp:=by
 have HEq:=jH fun (u:World)=>zdq x1.v v u;have hb1:Below w.heap.size w (w.alloc (Obj.cells #[jI v.k,jI v.n,jS v.t] 41)):=below1 _ _;have kb:=heap_alloc_new w (Obj.cells #[jI v.k,jI v.n,jS v.t] 41);have hcap:=hA.cap;have hX1:=hX.below2 hb1;have hA1:=hA.below hb1;have kF1:=kF.below hb1;have kN1:=kN.below hb1;have kU1:=kU.below hb1;obtain ⟨n',hw⟩:∃n',IntKind.i64.wrap (n+1)=n':=⟨_,rfl⟩;have hl1:w.heap.size<(w.alloc (Obj.cells #[jI v.k,jI v.n,jS v.t] 41)).heap.size:=B7;have hNl:=kN.lt;exact Ja1):=h
def Va1.Ja1(h:jp:=by
 rw[hw]
 open V10 in exact D3):=h
def X32.K5(h:jp:=by
 have u0:=kU3.cell;have u1:=kU3.lt;have a0:=hA3.box.cell;have al:=hA3.box.lt;have e0:=kF3.cell;have e1:=kF3.lt;obtain ⟨v0,v1,v2⟩:=zaa kb3;have vl:=(jg kb3);go_wp2_with fail;refine jM (K.out _ hX3 kN3 hfw) ?_;intro w4 hq;go_wp2_with fail;exact jY jT B76 ⟨rfl,hq⟩):=h
def V11.J3(h:jp:=by
 rw[he];rw[hw] at K
 open X32 in exact C5):=h
def Va2.Ja1(h:jp:=by
 open V11 in exact D3):=h
def Bp82(h:jp:=by exact zaf k2 hbd):=h
def X33.K5(h:jp:=by
 have u0:=kU3.cell;have u1:=kU3.lt;have a0:=hA3.box.cell;have al:=hA3.box.lt;have e0:=kF3.cell;have e1:=kF3.lt;obtain ⟨-,-,-,c3,c4,-⟩:=hX3.cells;have xl:=hX3.lt;obtain ⟨-,i1,i2,i3,i4,-,-,-⟩:=hA3.item (k:=0) (x:=x0) rfl;obtain ⟨-,j1,j2,j3,j4,-,-,-⟩:=hA3.item (k:=2) (x:=x2) rfl;simp only[Nat.zero_mul,Nat.zero_add] at i1 i2 i3 i4;have gl:=hA3.lt;go_upto_region 7 with fail;go_still_tail 37,(by kernel_rfl);change wpList _ _ _ _ _ w3.drew;have hbd:Below w3.heap.size w3 w3.drew:=jB.drew;go_wp2_with fail;refine (HW.out _ _ _ _ _ (hX3.below2 hbd)).mono ?_;rintro e w4 ⟨rfl,k1,k2⟩;go_wp2_with fail;exact jY jT B76 ⟨rfl,k1,(kN3.below hbd).foot k2 (fun e=>hNX e.symm),zdo hfw Bp82 fun i e=> .inl e⟩):=h
def V12.J3(h:jp:=by
 rw[he]
 open X33 in exact C5):=h
def Va3.Ja1(h:jp:=by
 rw[hw]
 open V12 in exact D3):=h
theorem zt8(X bF ba bA:Nat)(v:Val.V)(cell:Bool)(w:World)(kF:Box w bF (PT X))(hk:(v.k==4)=true)(Q:World->Prop)(H1:∀u,Below w.heap.size w u->Calls prog 78 #[PT X,VL v] u fun e w'=>e=jr jT/\Q w'):Calls prog 164 #[VL v,.bool cell,PT bF,PT ba,PT bA] w fun e w'=>e=jr jT/\Q w':=by
 open X142 in exact C32
theorem zq8(X bF ba bA g ca:Nat)(h:FH)(x0 x1:Ma.Arg)(s1 s2 s3 s4:Int)(v:Val.V)(cell:Bool)(w:World)(hX:Fd.At w X h)(hA:ArgsAt w ba g 2 ca [x0,x1])(kF:Box w bF (PT X))(hk:(v.k==4)=false)(w1:IntKind.i64.wrap (x1.a.t+h.hr)=s1)(w2:IntKind.i64.wrap (s1-x0.a.t)=s2)(w3:IntKind.i64.wrap (x1.a.l+h.hc)=s3)(w4:IntKind.i64.wrap (s3-x0.a.l)=s4):
 Calls prog 164 #[VL v,.bool cell,PT bF,PT ba,PT bA] w fun e w'=>e=jr jT/\Fd.At w' X (h.want s2 s4 (.func (.func 165) #[] #[PT bF,PT w.heap.size,PT bA]))/\w'.heap[w.heap.size]?=some (.cells #[jI v.k,jI v.n,jS v.t] 41 (0,0))/\Foot (fun k=>k=X) w w':=by
 have HW:=jH fun (r c:Int) (cs bs:Array Value) (u:World) (hX:Fd.At u X h)=>zg2 X h r c 165 cs bs u hX
 open V31 in exact D11
theorem zyh(X bF bA:Nat)(v:Val.V)(w:World)(kF:Box w bF (PT X))(Q:World->Prop)(H1:(v.k==4)=true->∀u,Below w.heap.size w u->Calls prog 78 #[PT X,VL v] u fun e w'=>e=jr jT/\Q w')(H2:(v.k==4)=false->(v.k==1)=true->∀u,Below w.heap.size w u->Calls prog 95 #[PT X,PT bA,jI v.n] u fun e w'=>e=jr jT/\Q w')(H3:(v.k==4)=false->(v.k==1)=false->∀u,Below w.heap.size w u->Q u):Calls prog 162 #[VL v,PT bF,PT bA] w fun e w'=>e=jr jT/\Q w':=by
 open X143 in exact C32
theorem zq9(X bF bv bA:Nat)(v u:Val.V)(w:World)(kF:Box w bF (PT X))(kv:w.heap[bv]?=some (.cells #[jI v.k,jI v.n,jS v.t] 41 (0,0)))(hv1:Ma.Fit v.n)(hv2:Ma.Fit u.n)(Q:World->Prop)(H1:(u.k==4)=true->∀z,Below w.heap.size w z->Calls prog 78 #[PT X,VL u] z fun e w'=>e=jr jT/\Q w')(H2:(u.k==4)=false->(v.k !=1||u.k !=1)=true->∀z,Below w.heap.size w z->Q z)(H3:(u.k==4)=false->(v.k !=1||u.k !=1)=false->Ref.fitB (v.n*u.n)=true->∀z,Below w.heap.size w z->Calls prog 95 #[PT X,PT bA,jI (Ref.fitV (v.n*u.n))] z fun e w'=>e=jr jT/\Q w')(H4:(u.k==4)=false->(v.k !=1||u.k !=1)=false->Ref.fitB (v.n*u.n)=false->∀z,Below w.heap.size w z->Calls prog 101 #[PT X,jI 2] z fun e w'=>e=jr jT/\Q w'):Calls prog 165 #[VL u,PT bF,PT bv,PT bA] w fun e w'=>e=jr jT/\Q w':=by
 have HM:=jH fun (z:World)=>cmul v.n u.n hv1 hv2 z;have c0:=kF.cell;have l0:=kF.lt;have l1:=(jg kv);obtain ⟨v0,v1,v2⟩:=zaa kv;have hb1:Below w.heap.size w (w.alloc (Obj.cells #[jI u.k,jI u.n,jS u.t] 41)):=below1 _ _;cases t4:(u.k==4)
 .cases tv:(v.k !=1)
  .cases tu:(u.k !=1)
   .generalize Ref.fitV (v.n*u.n)=p at *;generalize Ref.fitB (v.n*u.n)=fb at *;cases fb
    .have K:=jH (H4 t4 (by rw[tv,tu];rfl) rfl);clear H1 H2 H3 H4;go_enter func165,ntmps165;go_wp2_with fail;refine jM (HM.out _) ?_;intro w1 hb;have hbw:=jN hb1 hb;have d0:=(kF.below hbw).cell;go_wp2_with fail;refine jM (K.out _ hbw) ?_;intro w2 hq;go_wp2_with fail;exact jX jT B77 ⟨rfl,hq⟩
    .have K:=jH (H3 t4 (by rw[tv,tu];rfl) rfl);clear H1 H2 H3 H4;go_enter func165,ntmps165;go_wp2_with fail;refine jM (HM.out _) ?_;intro w1 hb;have hbw:=jN hb1 hb;have d0:=(kF.below hbw).cell;go_wp2_with fail;refine jM (K.out _ hbw) ?_;intro w2 hq;go_wp2_with fail;exact jY jT B77 ⟨rfl,hq⟩
   .have K:=jH (H2 t4 (by rw[tu];simp));exact M194
  .have K:=jH (H2 t4 (by rw[tv];rfl));exact M194
 .have K:=jH (H1 t4);clear H1 H2 H3 H4;go_enter func165,ntmps165;go_wp2_with fail;refine jM (K.out _ hb1) ?_;intro w2 hq;go_wp2_with fail;exact jX jT B77 ⟨rfl,hq⟩
section
variable(X ba g ca bN bF bA bU:Nat)(h:FH)
include X ba g ca bN bF bA bU h
theorem ifs_no(x0 x1:Ma.Arg)(f n:Int)(v:Val.V)(cell:Bool)(w:World)(hX:Fd.At w X h)(hA:ArgsAt w ba g 2 ca [x0,x1])(kN:Box w bN (jI n))(kF:Box w bF (PT X))(kU:Box w bU (jI f))(hnU:bN≠bU)(hgN:g≠bN)(he:Ma.equal x1.v v=false):Ret 161 #[VL v,.bool cell,PT ba,PT bN,PT bF,PT bA,PT bU] w jT:=by
 exact M39
theorem ifs_no3(x0 x1 x2:Ma.Arg)(f n:Int)(v:Val.V)(cell:Bool)(w:World)(hX:Fd.At w X h)(hA:ArgsAt w ba g 3 ca [x0,x1,x2])(kN:Box w bN (jI n))(kF:Box w bF (PT X))(kU:Box w bU (jI f))(hnU:bN≠bU)(hgN:g≠bN)(he:Ma.equal x1.v v=false):Ret 161 #[VL v,.bool cell,PT ba,PT bN,PT bF,PT bA,PT bU] w jT:=by
 exact M39
section
variable(x0 x1:Ma.Arg)(f n:Int)(v:Val.V)(cell:Bool)(w:World)(hX:Fd.At w X h)(hA:ArgsAt w ba g 2 ca [x0,x1])(kN:Box w bN (jI n))(kF:Box w bF (PT X))(kU:Box w bU (jI f))(hnU:bN≠bU)(hgN:g≠bN)(he:Ma.equal x1.v v=true)
include x0 x1 f n v cell w hX hA kN kF kU hnU hgN he
theorem zv8(hf:(f==74)=true):Calls prog 161 #[VL v,.bool cell,PT ba,PT bN,PT bF,PT bA,PT bU] w fun e w'=>e=jr jT/\Fd.At w' X h/\Box w' bN (jI (IntKind.i64.wrap (n+1)))/\Foot (fun k=>k=X\/k=bN) w w':=by
 open Va1 in exact Da1
theorem ifs_add(hf:(f==74)=false)(Q:World->Prop)(H:∀u,Fd.At u X h->Box u bN (jI (IntKind.i64.wrap (n+1)))->Foot (fun k=>k=X\/k=bN) w u->Calls prog 162 #[VL v,PT bF,PT bA] u fun e w'=>e=jr jT/\Q w'):Calls prog 161 #[VL v,.bool cell,PT ba,PT bN,PT bF,PT bA,PT bU] w fun e w'=>e=jr jT/\Q w':=by
 have K:=jH H;clear H
 open Va2 in exact Da1
end
theorem ifs_want(x0 x1 x2:Ma.Arg)(f n:Int)(v:Val.V)(cell:Bool)(w:World)(hX:Fd.At w X h)(hA:ArgsAt w ba g 3 ca [x0,x1,x2])(kN:Box w bN (jI n))(kF:Box w bF (PT X))(kU:Box w bU (jI f))(hnU:bN≠bU)(hgN:g≠bN)(he:Ma.equal x1.v v=true)(hf:(f==74)=false)(s1 s2 s3 s4:Int)(t1:IntKind.i64.wrap (x2.a.t+h.hr)=s1)(t2:IntKind.i64.wrap (s1-x0.a.t)=s2)(t3:IntKind.i64.wrap (x2.a.l+h.hc)=s3)(t4:IntKind.i64.wrap (s3-x0.a.l)=s4):Calls prog 161 #[VL v,.bool cell,PT ba,PT bN,PT bF,PT bA,PT bU] w fun e w'=>e=jr jT/\Fd.At w' X (h.want s2 s4 (.func (.func 162) #[] #[PT bF,PT bA]))/\Box w' bN (jI (IntKind.i64.wrap (n+1)))/\Foot (fun k=>k=X\/k=bN) w w':=by
 have HW:=jH fun (r c:Int) (cs bs:Array Value) (u:World) (hX:Fd.At u X h)=>zg2 X h r c 162 cs bs u hX
 open Va3 in exact Da1
end
