import Derived.Test.YtoffmfgaohjjpaaGreatDoorQ19
import Derived.Test.YtoffmfgaohjjpaaGreatDoorQ21
set_option linter.unusedVariables false
set_option linter.unusedSectionVars false
set_option linter.unusedSimpArgs false
open Go.Proofs.Tryz
set_option maxHeartbeats 8000000
variable{jp:Sort _}
set_option maxRecDepth 100000
namespace Go.Proofs.YtoffmfgaohjjpaaGreatDoor
section
open Go.RowKit
namespace Fd
open Mb
def B30(h:jp:=by simp[results,results111,go_sem]):=h
def B109(h:jp:=by rw[<-hW4];exact (by repeat (first|exact Foot.refl _ _|refine zck ?_|refine Foot.alloc ?_))):=h
def B173(h:jp:=by rw[<-hW4];exact Box.al (Box.al (Box.al b32 _) _) _):=h
def B174(h:jp:=by rw[<-hW4];exact Box.al (Box.al (Box.al b33 _) _) _):=h
def B175(h:jp:=by rw[<-hW4];exact Box.al (Box.al (Box.al b34 _) _) _):=h
def B188(h:jp:=by rw[<-hW4];exact Box.al (Box.al (box_at rfl) _) _):=h
def B194(h:jp:=by rw[<-hW4];exact at_al (at_al (at_al kX3 _) _) _):=h
def Bp36(h:jp:=by exact at_tk (zfn kX4 (jP w4.heap.size 0 1 1)) (Cl 158 #[PT (w.heap.size+1+1),PT w.heap.size,PT (w3.heap.size+1),PT w3.heap.size,PT (w.heap.size+1)])):=h
def Bp77(h:jp:=by exact Foot.set (i:=12) (x:=v) (B:=X) (Foot.set (i:=0) (x:=u) (B:=X) hf4 rfl) rfl):=h
def Bp88(h:jp:=by exact Foot.set (F:=fun k=>k=X) (Foot.set (Foot.refl _ w4) rfl) rfl):=h
def M71(h:jp:=by
 show LookAt _ _ _ X yl.a yl.f m (yl.arg 1).a _ _;rw[ea,hs.a,hs.f];refine ⟨w.heap.size+1+1,w.heap.size,w3.heap.size+1,w3.heap.size,w.heap.size+1,g,3,c,rfl,rfl,FBox.new (bx b42 B1 _ _ _) B1 B1,FBox.new (bx b45 B1 _ _ _) B1 B1,FBox.new (bx b43 B1 _ _ _) B1 B1,?_,.inr ⟨by omega,by simp;omega,B1⟩,by omega,zgf (bx b44 B1 _ _ _) HN2.out.symm hcap (jL hgl (hff _ _ _).size) (hrow.foot hgl (hff _ _ _) hgX),.inr ⟨by omega,by simp;omega,B1⟩,.inl rfl,hgX⟩;exact ((Foot.alloc Bp88).block _ B1 B1).trans kR):=h
def M73(h:jp:=by
 have EY:=jH (show y=yl.ends ⟨4,code,⟨#[]⟩⟩ by rw[HY.out,ov,tA,tn];rfl);go_wp2_with fail;refine jM (HN.out _ hf2) ?_;intro w3 hb3;have kX3:=kX2.below2 hb3;have b32:=(b22.below hb3).cell;have b33:=(b22.below hb3).lt;go_wp2_with fail;refine (HF.out _ _ _ (at_al kX3 _)).mono ?_;rintro e w4 ⟨rfl,r1,r2⟩;go_wp2_with fail;have r3:=zaf (zaf r2 (below1 w3 _)) hb3;exact jX jT B30 ⟨rfl,OVER.out _ _ _ EY.out r1 (hLk2.ends _) (ends_same _ _).2.2.2 (hf2.trans r3) r3⟩):=h
def M78(h:jp:=by
 have hsm:=Ma.FZ.ends_same yl v;have hz:=hz1.out;have hg2:=l1'.out;rw[hy];exact BQ.mk hF g2 0 1 q1 q2 (by rw[hsm.items,hs.items];exact q3) (by rw[hsm.items,hs.items];exact jE) (by rw[hsm.items,hs.items];exact hig w' q5) (.inr B1) (jL l2 q5.size) (fun e=>absurd (Ma.FZ.zax.symm.trans e) B3) q4 (hsm.f.trans hs.f) (hsm.a.trans hs.a) ((show (yl.ends v).l=yl.l from Ma.FZ.zcg yl v).trans hs.l)):=h
def M90(h:jp:=by
 rw[show hk.over=true by rw[hLk.over,ov]] at d2;go_wp2_with fail;have hz:=hz1.out;have hg2:=l1'.out;exact jX jT B30 ⟨rfl,by
  have ey:y=yl:=by rw[HY.out,ov];rfl
  rw[ey];exact BQ.mk hF g2 0 1 kX2 Bp19 (by rw[hs.items];rfl) (by rw[hs.items];exact jE) (by rw[hs.items];exact hi2) (.inr B1) l2 (fun e=>absurd (ov.symm.trans e) B3) hf2 hs.f hs.a hs.l⟩):=h
def M102(h:jp:=by
 rw[tA] at j0;have EY:=jH (show y=yl.ends ⟨4,4,⟨#[]⟩⟩ by rw[HY.out,ov,tA];rfl);go_wp2_with fail;refine (HF.out _ 4 _ kX2).mono ?_;rintro e w3 ⟨rfl,r1,r2⟩;go_wp2_with fail;exact jX jT B30 ⟨rfl,OVER.out _ _ _ EY.out r1 (hLk2.ends _) (ends_same _ _).2.2.2 (hf2.trans r2) r2⟩):=h
def M113(h:jp:=by
 go_wp2_with fail;refine (HF.out _ 3 _ kX4).mono ?_;rintro e w5 ⟨rfl,r1,r2⟩;go_wp2_with fail;exact jX jT B30 ⟨rfl,OVER.out _ _ _ (BAD.out (by rw[t1,t2];rfl)) r1 (hLk2.ends _) (ends_same _ _).2.2.2 (hf4.trans r2) (hf24.trans r2)⟩):=h
def M116(h:jp:=by
 go_wp2_with fail;refine (HF.out _ 3 _ kX4).mono ?_;rintro e w5 ⟨rfl,r1,r2⟩;go_wp2_with fail;exact jX jT B30 ⟨rfl,OVER.out _ _ _ (BAD.out (by rw[t1];rfl)) r1 (hLk2.ends _) (ends_same _ _).2.2.2 (hf4.trans r2) (hf24.trans r2)⟩):=h
def C10(h:jp:=by
 have hb1:Below w.heap.size w w1:=Bp15;have hz1:=jH (show w1.heap.size=w.heap.size+1+1+1 by rw[<-hW];simp);clear hW;have hgl1:=jL hgl hb1.size;have d0:=b2.cell;have d1:=b2.lt;have d6:w.heap.size≠X:=B1;have d7:X≠w.heap.size:=B1;have d8:=kX.lt;have e3:=b3.cell;have e4:=b3.lt;have e5:=b4.cell;have e6:=b4.lt;obtain ⟨j0,j1,j2,j3,j4,j5,j6,j7⟩:=i0.same Bp22;obtain ⟨q0,q1,q2,q3,q4,q5,q6,q7⟩:=i1.same Bp22;exact K10):=h
def D4(h:jp:=by
 have b24:Box w2 (w.heap.size+1+1) (jP g 0 3 c):=(b4.below hbd).foot k2 B1;have l1':=jH (show w1.heap.size<=g2 from l1);have hm2:=jH (show w1.heap.size<=w2.heap.size from k2.size);clear j0 j1 j2 j3 j4 j5 j6 j7 q0 q1 q2 q3 q4 q5 q6 q7 e5 e6 e3 e4 d0 d1 l1 d8;generalize looked h x0 x1=hk at *;have hLk2:Like {hk with items:=jP g2 0 1 1,fn:=Cl 157 #[]} yl:=Bp19;have d0:=b22.cell;have d1:=b22.lt;have d2:=kX2.cells.c8;have d4:=kX2.lt;have e5:=b24.cell;have e6:=b24.lt;have e7:=jL hgl hf2.size;obtain ⟨j0,-,-,-,-,j5,j6,j7⟩:=i2.same Bp57;obtain ⟨-,q1,q2,q3,q4,-,-,-⟩:=i1.same Bp57;simp only[Nat.zero_add,Nat.one_mul] at j0 j5 j6 j7 q1 q2 q3 q4;have hig:∀w':World,Foot (fun k=>k=X) w2 w'->ItemsO w' g2 0 [x1]:=fun w' hf=>hi2.foot l2 hf (by have:=l1'.out;have:=hz1.out;omega);have OVER:∀(v:Val.V) (h':FH) (w':World),y=yl.ends v->Fd.At w' X h'->Like h' (yl.ends v)->h'.items=jP g2 0 1 1->Foot (fun k=>k=X) w w'->Foot (fun k=>k=X) w2 w'->BQ w X g y w':=fun v h' w' hy q1 q2 q3 q4 q5=>by
  exact M78
 have OVER:=jH OVER;exact J4):=h
def Da2(h:jp:=by
 go_wp2_with fail;refine jM (HN.out _ hf2) ?_;intro w3 hb3;have kX3:=kX2.below2 hb3;have b32:=(b22.below hb3);have b33:=(b23.below hb3);have b34:=(b24.below hb3);have hf3:Foot (fun k=>k=X) w w3:=hf2.trans Bp85;have hf23:Foot (fun k=>k=X) w2 w3:=Foot.of_below hb3;obtain ⟨-,q1,q2,q3,q4,-,-,-⟩:=i1.same (hf3.block g hgl hgX);simp only[Nat.zero_add,Nat.one_mul] at q1 q2 q3 q4;have hm3:=jH hb3.size;clear d0 d1 d2 d4 e5 e6 e7 j0 j5 j6 j7;have d0:=b32.cell;have d1:=b32.lt;have d2:=b34.cell;have d3:=b34.lt;have d4:=b33.cell;have d5:=b33.lt;have e7:=jL hgl hf3.size;have v1:IntKind.i64.wrap (x1.a.r-x1.a.l)=x1.a.r-x1.a.l:=zae B1 B1;have v2:IntKind.i64.wrap (x1.a.r-x1.a.l+1)=x1.a.r-x1.a.l+1:=zae B1 B1;have v3:IntKind.i64.wrap (x1.a.b-x1.a.t)=x1.a.b-x1.a.t:=zae B1 B1;have v4:IntKind.i64.wrap (x1.a.b-x1.a.t+1)=x1.a.b-x1.a.t+1:=zae B1 B1;go_upto_region 9 with fail;exact Ja2):=h
def Db2(h:jp:=by
 have hff:=fun (u v:Value) (o:Obj)=>Foot.alloc (o:=o) Bp77;have bx:∀{b:Nat} {z:Value},Box w4 b z->b≠X->∀u v o,Box (((w4.setCell (jA X 0) u).setCell (jA X 12) v).alloc o) b z:=fun k hk u v o=>Box.al ((k.so hk).so hk) o;have hz:=hz1.out;have hz2:=hm2.out;have hz3:=hm3.out;have hz4:=hf34.size;have hz5:=(jg kR);have ea:yl.arg 1=x1:=zc1 (by rw[hs.a,<-HLL.out];rfl);exact Jb2):=h
def Vb4.Jb2(h:jp:=by
 refine jY jT B30 ⟨rfl,BQ.mk hF w4.heap.size 0 1 hX5 ⟨hLk2.i,hLk2.pos,hLk2.hr,hLk2.hc,hLk2.nr,hLk2.nc,hLk2.wants,hLk2.over.trans ov,hLk2.fk,hLk2.fi,hLk2.ft⟩ rfl jE hi5 (.inr hf4.size) B7 (fun _=>Clos.of_look (.inl hs.f) ⟨?_,fun _=>hth,fun e=>absurd hs.pend e⟩) (hff _ _ _) hs.f hs.a hs.l⟩;exact M71):=h
def Va4.Ja2(h:jp:=by
 go_region;go_upto_region 14 with fail;generalize hW4:World.drew _=w4;have kX4:Fd.At w4 X {hk with items:=jP g2 0 1 1,fn:=Cl 157 #[]}:=B194;have b42:Box w4 (w.heap.size) (PT X):=B173;have b43:Box w4 (w.heap.size+1) (jI 71):=B174;have b44:Box w4 (w.heap.size+1+1) (jP g 0 3 c):=B175;have b45:Box w4 w3.heap.size (jI m):=B188;have kR:w4.heap[w3.heap.size+1]?=some (.cells #[jI x1.a.t,jI x1.a.l,jI x1.a.b,jI x1.a.r] 62 (0,0)):=by rw[<-hW4];exact zai (zgb B7)
 have kf:w4.heap[w3.heap.size+1+1]?=some (.cells #[jI x1.a.t,jI x1.a.l,jI x1.a.b,jI x1.a.l] 62 (0,0)):=by rw[<-hW4];exact zgb B7
 have hf34:Foot (fun k=>k=X) w3 w4:=B109;have hf4:=hf3.trans hf34;have hf24:=hf23.trans hf34;clear hW4 q1 q2 q3 q4 d0 d1 d2 d3 d4 d5 e7;have d0:=b42.cell;have d1:=b42.lt;have d2:=b45.cell;have d3:=b45.lt;have d4:=kX4.lt;have most:cond ((71:Int)==72) (x1.a.b-x1.a.t+1) (x1.a.r-x1.a.l+1)=x1.a.r-x1.a.l+1:=rfl;have BAD:(decide (m<1)||decide (x1.a.r-x1.a.l+1<m))=true->y=yl.ends ⟨4,3,⟨#[]⟩⟩:=fun e=>by rw[HY.out,ov,tA,tn,most,e];rfl
 have GOOD:(decide (m<1)||decide (x1.a.r-x1.a.l+1<m))=false->y={yl with k:=m,items:=[Ma.aArg {x1.a with r:=x1.a.l}]}:=fun e=>by rw[HY.out,ov,tA,tn,most,e];rfl
 have BAD:=jH BAD;have GOOD:=jH GOOD;clear most;cases t1:decide (m<1)
 case true=>
  exact M116
 cases t2:decide (x1.a.r-x1.a.l+1<m)
 case true=>
  exact M113
 have ey:=jH (GOOD.out (by rw[t1,t2];rfl));have f0:=ch kf 0;have f1:=ch kf 1;have f2:=ch kf 2;have f3:=ch kf 3;simp at f0 f1 f2 f3;have f4:=(jg kf);have d5:=kX4.cells.c0;have d9:=kX4.cells.c12;have e5:=kX4.cells.f;go_wp2_with fail;have hX5:=at_al Bp36 (AO (Ma.aArg {x1.a with r:=x1.a.l}));have hi5:=ItemsO.one (x:=Ma.aArg {x1.a with r:=x1.a.l}) (zjx (w:=(w4.setCell (jA X 0) (jP w4.heap.size 0 1 1)).setCell (jA X 12) (Cl 158 #[PT (w.heap.size+1+1),PT w.heap.size,PT (w3.heap.size+1),PT w3.heap.size,PT (w.heap.size+1)])) (k:=w4.heap.size) B7)
 open Vb4 in exact Db2):=h
def V13.J4(h:jp:=by
 cases ov:yl.over
 case true=>
  exact M90
 rw[show hk.over=false by rw[hLk.over,ov]] at d2;obtain ⟨eyl,hA1⟩:=HNO.out ov;have ab:=zgq ok1 hA1;have EYL:=jH eyl;clear eyl HNO;cases tA:x2.isA
 case true=>
  exact M102
 rw[tA] at j0;generalize hnum:Val.number x2.v=nc at *;obtain ⟨m,code⟩:=nc;simp only at HY HN;cases tn:(code !=0)
 case true=>
  exact M73
 open Va4 in exact Da2):=h
def Va7.Ja3(h:jp:=by
 have b23:Box w2 (w.heap.size+1) (jI 71):=(b3.below hbd).foot k2 B1
 open V13 in exact D4):=h
def Vb6.Jb3(h:jp:=by
 open Va7 in exact Da3):=h
def X58.K10(h:jp:=by
 open Vb6 in exact Db3):=h
def D10(h:jp:=by
 have hcap:3<=c:=hF.cap;have HK:=jH fun (u:World) (hX:Fd.At u X h)=>zl0 X h x0 x1 u hX;have HF:=jH fun (h':FH) (e:Int) (u:World) (hX:Fd.At u X h')=>za6 X h' e u hX;have hvb:=(hF.ok x2 B7).val.vb;have HN:=jH fun (u:World) (hu:Foot (fun k=>k=X) w u)=>za8 x2.v u hvb (FEnv.numW (F:=fun _=>False) ⟨hE.num,zao hE.below hu hE.f,fun _ e=>e.elim⟩);have i0:=hF.row 0 x0 rfl;have i1:=hF.row 1 x1 rfl;have i2:=hF.row 2 x2 rfl;have ok1:=hF.ok x1 B7;obtain ⟨l,hl⟩:∃l,[x0,x1,x2]=l:=⟨_,rfl⟩;have HLL:=jH hl;have HN2:=jH (show l.length=3 by rw[<-hl];rfl);rw[hl] at hF ⊢;have hrow:=hF.row;exact J10):=h
def Da7(h:jp:=by
 go_upto_region 1 with fail;generalize hW:World.alloc _ _=w1;have kX:Fd.At w1 X h:=B9;have b2:Box w1 (w.heap.size) (PT X):=Bp7;exact Ja7):=h
def Va17.Ja7(h:jp:=by
 have b3:Box w1 (w.heap.size+1) (jI 71):=Bp7;have b4:Box w1 (w.heap.size+1+1) (jP g 0 3 c):=Bp7
 open X58 in exact C10):=h
def Db4(h:jp:=by
 have hLk:=zif hF.like x0 x1;rw[hyl] at hLk;have hth:=(zl1 h x0 x1).1.trans hF.th;clear hy hl hyl;have hX:=hF.at';have hXl:=hX.lt;have hgl:=hF.lt;have hgX:=hF.ne;have hL:=hF.like;go_enter func111,ntmps111;exact Jb4):=h
def Vb12.Jb4(h:jp:=by
 open Va17 in exact Da7):=h
def V29.J10(h:jp:=by
 obtain ⟨yl,hyl⟩:∃y,(Ma.FZ.blank 71 l).looks x0 x1=y:=⟨_,rfl⟩;obtain ⟨y,hy⟩:∃y,Ma.FZ.begin 71 l=y:=⟨_,rfl⟩;rw[hy];have hs:=zf7 (Ma.FZ.blank 71 l) x0 x1;have HNO:=jH fun (e:yl.over=false)=>zlz (show ((Ma.FZ.blank 71 l).looks x0 x1).over=false by rw[hyl];exact e);rw[hyl] at hs HNO;have HY:=jH (show y=cond yl.over yl (cond x2.isA (yl.fails 4)<|cond ((Val.number x2.v).2 !=0) (yl.fails (Val.number x2.v).2)<|
  cond (decide ((Val.number x2.v).1<1)||decide (cond ((71:Int)==72) (x1.a.b-x1.a.t+1) (x1.a.r-x1.a.l+1)<(Val.number x2.v).1)) (yl.fails 3)
   {yl with k:=(Val.number x2.v).1,items:=[Ma.aArg (cond ((71:Int)==72) {x1.a with b:=x1.a.t} {x1.a with r:=x1.a.l})]}) by rw[<-hy,<-hyl,<-hl];rfl)
 open Vb12 in exact Db4):=h
def Vb5.Jb2(h:jp:=by
 refine jY jT B30 ⟨rfl,BQ.mk hF w4.heap.size 0 1 hX5 ⟨hLk2.i,hLk2.pos,hLk2.hr,hLk2.hc,hLk2.nr,hLk2.nc,hLk2.wants,hLk2.over.trans ov,hLk2.fk,hLk2.fi,hLk2.ft⟩ rfl jE hi5 (.inr hf4.size) B7 (fun _=>Clos.of_look (.inr hs.f) ⟨?_,fun _=>hth,fun e=>absurd hs.pend e⟩) (hff _ _ _) hs.f hs.a hs.l⟩;exact M71):=h
def Va5.Ja2(h:jp:=by
 go_region;go_upto_region 12 with fail;go_region;go_upto_region 14 with fail;generalize hW4:World.drew _=w4;have kX4:Fd.At w4 X {hk with items:=jP g2 0 1 1,fn:=Cl 157 #[]}:=B194;have b42:Box w4 (w.heap.size) (PT X):=B173;have b43:Box w4 (w.heap.size+1) (jI 72):=B174;have b44:Box w4 (w.heap.size+1+1) (jP g 0 3 c):=B175;have b45:Box w4 w3.heap.size (jI m):=B188;have kR:w4.heap[w3.heap.size+1]?=some (.cells #[jI x1.a.t,jI x1.a.l,jI x1.a.b,jI x1.a.r] 62 (0,0)):=by rw[<-hW4];exact zai (zgb B7)
 have kf:w4.heap[w3.heap.size+1+1]?=some (.cells #[jI x1.a.t,jI x1.a.l,jI x1.a.t,jI x1.a.r] 62 (0,0)):=by rw[<-hW4];exact zgb B7
 have hf34:Foot (fun k=>k=X) w3 w4:=B109;have hf4:=hf3.trans hf34;have hf24:=hf23.trans hf34;clear hW4 q1 q2 q3 q4 d0 d1 d2 d3 d4 d5 e7;have d0:=b42.cell;have d1:=b42.lt;have d2:=b45.cell;have d3:=b45.lt;have d4:=kX4.lt;have most:cond ((72:Int)==72) (x1.a.b-x1.a.t+1) (x1.a.r-x1.a.l+1)=x1.a.b-x1.a.t+1:=rfl;have BAD:(decide (m<1)||decide (x1.a.b-x1.a.t+1<m))=true->y=yl.ends ⟨4,3,⟨#[]⟩⟩:=fun e=>by rw[HY.out,ov,tA,tn,most,e];rfl
 have GOOD:(decide (m<1)||decide (x1.a.b-x1.a.t+1<m))=false->y={yl with k:=m,items:=[Ma.aArg {x1.a with b:=x1.a.t}]}:=fun e=>by rw[HY.out,ov,tA,tn,most,e];rfl
 have BAD:=jH BAD;have GOOD:=jH GOOD;clear most;cases t1:decide (m<1)
 case true=>
  exact M116
 cases t2:decide (x1.a.b-x1.a.t+1<m)
 case true=>
  exact M113
 have ey:=jH (GOOD.out (by rw[t1,t2];rfl));have f0:=ch kf 0;have f1:=ch kf 1;have f2:=ch kf 2;have f3:=ch kf 3;simp at f0 f1 f2 f3;have f4:=(jg kf);have d5:=kX4.cells.c0;have d9:=kX4.cells.c12;have e5:=kX4.cells.f;go_wp2_with fail;have hX5:=at_al Bp36 (AO (Ma.aArg {x1.a with b:=x1.a.t}));have hi5:=ItemsO.one (x:=Ma.aArg {x1.a with b:=x1.a.t}) (zjx (w:=(w4.setCell (jA X 0) (jP w4.heap.size 0 1 1)).setCell (jA X 12) (Cl 158 #[PT (w.heap.size+1+1),PT w.heap.size,PT (w3.heap.size+1),PT w3.heap.size,PT (w.heap.size+1)])) (k:=w4.heap.size) B7)
 open Vb5 in exact Db2):=h
def V14.J4(h:jp:=by
 cases ov:yl.over
 case true=>
  exact M90
 rw[show hk.over=false by rw[hLk.over,ov]] at d2;obtain ⟨eyl,hA1⟩:=HNO.out ov;have ab:=zgq ok1 hA1;have EYL:=jH eyl;clear eyl HNO;cases tA:x2.isA
 case true=>
  exact M102
 rw[tA] at j0;generalize hnum:Val.number x2.v=nc at *;obtain ⟨m,code⟩:=nc;simp only at HY HN;cases tn:(code !=0)
 case true=>
  exact M73
 open Va5 in exact Da2):=h
def Va8.Ja3(h:jp:=by
 have b23:Box w2 (w.heap.size+1) (jI 72):=(b3.below hbd).foot k2 B1
 open V14 in exact D4):=h
def Vb7.Jb3(h:jp:=by
 open Va8 in exact Da3):=h
def X59.K10(h:jp:=by
 open Vb7 in exact Db3):=h
def Va18.Ja7(h:jp:=by
 have b3:Box w1 (w.heap.size+1) (jI 72):=Bp7;have b4:Box w1 (w.heap.size+1+1) (jP g 0 3 c):=Bp7
 open X59 in exact C10):=h
def Vb13.Jb4(h:jp:=by
 open Va18 in exact Da7):=h
def V30.J10(h:jp:=by
 obtain ⟨yl,hyl⟩:∃y,(Ma.FZ.blank 72 l).looks x0 x1=y:=⟨_,rfl⟩;obtain ⟨y,hy⟩:∃y,Ma.FZ.begin 72 l=y:=⟨_,rfl⟩;rw[hy];have hs:=zf7 (Ma.FZ.blank 72 l) x0 x1;have HNO:=jH fun (e:yl.over=false)=>zlz (show ((Ma.FZ.blank 72 l).looks x0 x1).over=false by rw[hyl];exact e);rw[hyl] at hs HNO;have HY:=jH (show y=cond yl.over yl (cond x2.isA (yl.fails 4)<|cond ((Val.number x2.v).2 !=0) (yl.fails (Val.number x2.v).2)<|
  cond (decide ((Val.number x2.v).1<1)||decide (cond ((72:Int)==72) (x1.a.b-x1.a.t+1) (x1.a.r-x1.a.l+1)<(Val.number x2.v).1)) (yl.fails 3)
   {yl with k:=(Val.number x2.v).1,items:=[Ma.aArg (cond ((72:Int)==72) {x1.a with b:=x1.a.t} {x1.a with r:=x1.a.l})]}) by rw[<-hy,<-hyl,<-hl];rfl)
 open Vb13 in exact Db4):=h
theorem zlz{x:Ma.FZ}{p q:Ma.Arg}(h:(x.looks p q).over=false):x.looks p q={x with items:=[q]}/\q.isA=true:=by
 have ho:∀v,(x.ends v).over=true:=fun v=>Ma.FZ.zax;unfold Ma.FZ.looks at h ⊢;cases h1:p.isA <;> cases h2:(p.v.k==4) <;> cases h3:q.isA <;> rw[h1,h2,h3] at h <;> first|exact ⟨rfl,rfl⟩|(exfalso;have h:=h;unfold Ma.FZ.fails at h;first|exact absurd ((ho _).symm.trans h) B3)
section
variable(X g c:Nat)(x0 x1 x2:Ma.Arg)(h:FH)(w0 w:World)(hE:FEnv w0 w fun k=>k=X)
include X g c x0 x1 x2 h w0 w hE
theorem zvb(hF:Fresh w X g c 71 [x0,x1,x2] h):Calls prog 111 #[PT X,jI 71,jP g 0 3 c] w fun e w'=>e=jr jT/\BQ w X g (Ma.FZ.begin 71 [x0,x1,x2]) w':=by
 open V29 in exact D10
theorem zva(hF:Fresh w X g c 72 [x0,x1,x2] h):Calls prog 111 #[PT X,jI 72,jP g 0 3 c] w fun e w'=>e=jr jT/\BQ w X g (Ma.FZ.begin 72 [x0,x1,x2]) w':=by
 open V30 in exact D10
end
theorem alike_ok{x y:Ma.Arg}(hx:Ma.okG x)(hy:Ma.okG y)(w:World):Ret 160 #[argV x,argV y] w (.bool (Ma.alike x y)):=by
 refine (alike_go x y w 0 0 _ _ _ _ 0 0 rfl rfl rfl rfl).mono ?_;rintro e w' ⟨rfl,hb⟩;refine ⟨?_,hb⟩
 congr 2
 unfold Ma.alike;cases h1:x.isA
 .rfl
 .cases h2:y.isA
  .rfl
  .have a:=zgq hx h1;have b:=zgq hy h2;rw[zae B1 B1,zae B1 B1,zae B1 B1,zae B1 B1]
theorem BQ.post{w u w':World}{X g:Nat}{y:Ma.FZ}(h:BQ w X g y u)(hb:Below u.heap.size u w'):BQ w X g y w':=by
 obtain ⟨F,R,h',h1,h2,h3,h4⟩:=h;exact ⟨F,R,h',h1.below hb,h2.trans Bp38,h3,h4⟩
structure ZS(h:FH)(x:Ma.FZ)(h2:FH)(z:Ma.FZ):Prop where
 like:Like h2 z
 th:h2.th=h.th
 f:z.f=x.f
 a:z.a=x.a
 l:z.l=x.l
 n:z.n=x.n
 all:z.all=x.all
 pend:z.pend=x.pend
def Bp16(h:jp:=by exact ⟨hz.like.i,hz.like.pos,hz.like.hr,hz.like.hc,hz.like.nr,hz.like.nc,hz.like.wants,hz.like.over,hz.like.fk,hz.like.fi,hz.like.ft⟩):=h
def Bp25(h:jp:=by exact ZS.ends hL ⟨4,4,⟨#[]⟩⟩):=h
def Bp32(h:jp:=by exact Foot.set (Foot.set (Foot.set hfw rfl) rfl) rfl):=h
def Bp35(h:jp:=by exact at_al (at_fn (at_tk (zfn kX3 _) _) _) _):=h
def Vb9.Jb3(h:jp:=by
 go_still_tail 6,(by kernel_rfl);change wpList _ _ _ _ _ w1.drew;have hbd:Below w1.heap.size w1 w1.drew:=jB.drew;go_wp2_with fail;refine jM (HA.out _) ?_;intro w2 hb2;have hb12:=hbd.trans hb2;have kX2:=kX.below2 hb12;have b22:=b2.below hb12;have b24:=b4.below hb12;have hm2:=jH hb12.size;have hbw:=jN hb1 hb12;clear j0 j1 j2 j3 j4 j5 j6 j7 q0 q1 q2 q3 q4 q5 q6 q7 e5 e6 d0 d1 d8;have FIN:∀(h2:FH) (z:Ma.FZ) (w3:World),ZS h (Ma.FZ.blank 75 l) h2 z->y={z with items:=[x0]}->Fd.At w3 X h2->Foot (fun k=>k=X) w2 w3->∀w4,w4=(((w3.setCell (jA X 0) (jP g 0 1 c)).setCell (jA X 12) (Cl 164 #[PT w.heap.size,PT (w.heap.size+1),PT w3.heap.size])).setCell (jA X 13) (Cl 166 #[PT w3.heap.size])).alloc (Obj.cells #[jI 0] 2)->BQ w X g y w4:=fun h2 z w3 hz hy kX3 hf3 w4 hw4=>by
  have hfw:Foot (fun k=>k=X) w w3:=zaf hf3 hbw;have hs3:=hf3.size;have hz1:=hz1.out;have hm2:=hm2.out;subst hy;subst hw4;have hff:Foot (fun k=>k=X) w ((((w3.setCell (jA X 0) (jP g 0 1 c)).setCell (jA X 12) (Cl 164 #[PT w.heap.size,PT (w.heap.size+1),PT w3.heap.size])).setCell (jA X 13) (Cl 166 #[PT w3.heap.size])).alloc (Obj.cells #[jI 0] 2)):=Foot.alloc Bp32;have bx:∀{b:Nat} {v:Value},Box w2 b v->b≠X->Box ((((w3.setCell (jA X 0) (jP g 0 1 c)).setCell (jA X 12) (Cl 164 #[PT w.heap.size,PT (w.heap.size+1),PT w3.heap.size])).setCell (jA X 13) (Cl 166 #[PT w3.heap.size])).alloc (Obj.cells #[jI 0] 2)) b v:=fun k hk=>Box.al ((((k.foot hf3 hk).so hk).so hk).so hk) _;refine BQ.end1 hF 0 c Bp35 hff Bp16 rfl B67 row (fun _=>Clos.of_prd hz.f ?_) hz.f hz.a hz.l;show PrdAt _ _ _ X z.a z.all z.pend _ _ h2.th;rw[hz.a,hz.all,hz.pend];exact ⟨w.heap.size,w.heap.size+1,w3.heap.size,g,c,rfl,rfl,FBox.new (bx b22 B1) B1 B1,FBox.new (box_at B7) B1 B1,zgf (bx b24 B1) HN2.out.symm hcap Bp66 Bp49,.inr ⟨by omega,(bx b24 B1).lt,B1⟩,.inl rfl,hgX,by omega,fun _=>hz.th.trans hF.th,fun v hv=>(nomatch hv)⟩
 have FIN:=jH FIN;cases tA:Ma.alike x0 x1
 case false=>
  have ey:=jH (show y={(Ma.FZ.blank 75 l).fails 4 with items:=[x0]} by rw[HY.out,tA];rfl);have d0:=b22.cell;have d1:=b22.lt;go_wp2_with fail;refine (HF.out _ kX2).mono ?_;rintro e w3 ⟨rfl,r1,r2⟩;have b32:=b22.foot r2 B1;have b34:=b24.foot r2 B1;have d2:=b32.cell;have d3:=b32.lt;have d4:=b34.cell;have d5:=b34.lt;have d9:=r1.cells.c0;have e5:=r1.cells.f;have e7:=r1.cells.c12;have e8:=r1.cells.c13;have e9:=r1.lt;go_wp2_with fail;go_region
  all_goals go_wp2_with fail
  all_goals exact jY jT (by simp[results,results113,go_sem]) ⟨rfl,(FIN.out _ _ _ Bp25 ey.out r1 r2 _ rfl).post jB.drew⟩
 case true=>
  have ey:=jH (show y={Ma.FZ.blank 75 l with items:=[x0]} by rw[HY.out,tA];rfl);have d2:=b22.cell;have d3:=b22.lt;have d4:=b24.cell;have d5:=b24.lt;have d9:=kX2.cells.c0;have e5:=kX2.cells.f;have e7:=kX2.cells.c12;have e8:=kX2.cells.c13;have e9:=kX2.lt;go_wp2_with fail;go_region
  all_goals go_wp2_with fail
  all_goals exact jY jT (by simp[results,results113,go_sem]) ⟨rfl,(FIN.out _ _ _ (ZS.refl hL) ey.out kX2 (Foot.refl _ _) _ rfl).post jB.drew⟩):=h
def Va16.Ja7(h:jp:=by
 have b4:Box w1 (w.heap.size+1) (jP g 0 2 c):=Bp7;have hb1:Below w.heap.size w w1:=Bp15;have hz1:=jH (show w1.heap.size=w.heap.size+1+1 by rw[<-hW];simp);clear hW;have hgl1:=jL hgl hb1.size;have d0:=b2.cell;have d1:=b2.lt;have d6:w.heap.size≠X:=B1;have d7:X≠w.heap.size:=B1;have d8:=kX.lt;have e5:=b4.cell;have e6:=b4.lt;obtain ⟨j0,j1,j2,j3,j4,j5,j6,j7⟩:=i0.same Bp22;obtain ⟨q0,q1,q2,q3,q4,q5,q6,q7⟩:=i1.same Bp22
 open Vb9 in exact Db3):=h
def Db1(h:jp:=by
 have i0:=hF.row 0 x0 rfl;have i1:=hF.row 1 x1 rfl;have row:ItemsO w g 0 [x0]:=hF.row.take 1;obtain ⟨l,hl⟩:∃l,[x0,x1]=l:=⟨_,rfl⟩;have HN2:=jH (show l.length=2 by rw[<-hl];rfl);rw[hl] at hF ⊢;have hrow:=hF.row;exact Jb1):=h
def Vb1.Jb1(h:jp:=by
 obtain ⟨y,hy⟩:∃y,Ma.FZ.begin 75 l=y:=⟨_,rfl⟩;rw[hy];have HY:=jH (show y={(cond (Ma.alike x0 x1) (Ma.FZ.blank 75 l) ((Ma.FZ.blank 75 l).fails 4)) with items:=[x0]} by rw[<-hy,<-hl];rfl);clear hy hl;have hX:=hF.at';have hXl:=hX.lt;have hgl:=hF.lt;have hgX:=hF.ne;have hL:=hF.like;go_enter func113,ntmps113
 open Va16 in exact Da7):=h
def B25(h:jp:=by repeat (first|exact jB|refine Below.drew ?_)):=h
def B29(h:jp:=by simp[results,results112,go_sem]):=h
def Bp51(h:jp:=by exact Box.al ((((k.foot hf3 hk).so hk).so hk).so hk) _):=h
def Bp94(h:jp:=by exact Box.al (box_at B7) _):=h
def M9(h:jp:=by
 have kXc:=kX;have hbc:=Below.refl w1.heap.size w1;go_wp2_with fail;refine (HF.out _ kXc).mono ?_;rintro e w3 ⟨rfl,kX3,r2⟩;have hf13:Foot (fun k=>k=X) w1 w3:=zaf r2 hbc;have b32:=b2.foot hf13 B1;have b34:=b4.foot hf13 B1;have d0:=b32.cell;have d1:=b32.lt;have d2:=b34.cell;have d3:=b34.lt;have d9:=kX3.cells.c0;have e5:=kX3.cells.f;have e7:=kX3.cells.c12;have e8:=kX3.cells.c13;have e9:=kX3.lt;go_wp2_with fail;go_region
 all_goals go_wp2_with fail
 all_goals exact jY jT B29 ⟨rfl,(FIN.out _ _ _ Bp25 ey.out kX3 hf13 _ rfl).post B25⟩):=h
def M32(h:jp:=by
 go_wp2_with fail;go_still_tail 5,(by kernel_rfl);change wpList _ _ _ _ _ w1.drew;have hbc:Below w1.heap.size w1 w1.drew:=jB.drew;have kXc:=kX.below2 hbc;go_wp2_with fail;refine (HE.out _ x1.v kXc).mono ?_;rintro e w3 ⟨rfl,kX3,r2⟩;have hf13:Foot (fun k=>k=X) w1 w3:=zaf r2 hbc;have b32:=b2.foot hf13 B1;have b34:=b4.foot hf13 B1;have d0:=b32.cell;have d1:=b32.lt;have d2:=b34.cell;have d3:=b34.lt;have d9:=kX3.cells.c0;have e5:=kX3.cells.f;have e7:=kX3.cells.c12;have e8:=kX3.cells.c13;have e9:=kX3.lt;go_wp2_with fail;go_region
 all_goals go_wp2_with fail
 all_goals exact jY jT B29 ⟨rfl,(FIN.out _ _ _ (ZS.ends hL _) ey.out kX3 hf13 _ rfl).post B25⟩):=h
def M62(h:jp:=by
 have d0:=b32.cell;have d1:=b32.lt;have d2:=b34.cell;have d3:=b34.lt;have d9:=kX3.cells.c0;have e5:=kX3.cells.f;have e7:=kX3.cells.c12;have e8:=kX3.cells.c13;have e9:=kX3.lt;go_wp2_with fail;go_region
 all_goals go_wp2_with fail
 all_goals exact jY jT B29 ⟨rfl,(FIN.out _ _ _ (ZS.refl hL) ey.out kX3 hf13 _ rfl).post B25⟩):=h
def N12(h:jp:=by
 go_wp2_with fail;go_region;have kX3:Fd.At w1.drew X h:=kX;have b32:Box w1.drew (w.heap.size) (PT X):=b2;have b34:Box w1.drew (w.heap.size+1+1) (jP g 0 2 c):=b4;have hf13:Foot (fun k=>k=X) w1 w1.drew:=zck (Foot.refl _ _);generalize w1.drew=w3 at *;exact M62):=h
def N16(h:jp:=by
 rw[t2] at q0;have ey:=jH (show y={(Ma.FZ.blank 73 l).fails 4 with items:=[x0]} by rw[HY.out,t1,t2];rfl);exact M9):=h
def N20(h:jp:=by
 rw[t1] at j0;have ey:=jH (show y={(Ma.FZ.blank 73 l).fails 4 with items:=[x0]} by rw[HY.out,t1];rfl);exact M9):=h
def N22(h:jp:=by
 have ey:=jH (show y={(Ma.FZ.blank 73 l).ends x1.v with items:=[x0]} by rw[HY.out,t1,t2,t3];rfl);exact M32):=h
def C8(h:jp:=by
 have hfw:Foot (fun k=>k=X) w w3:=zaf hf3 hb1;have hs3:=hf3.size;have hz1:=hz1.out;subst hy;subst hw4;have hff:Foot (fun k=>k=X) w (((((w3.setCell (jA X 0) (jP g 0 1 c)).setCell (jA X 12) (Cl 161 #[PT (w.heap.size+1+1),PT (w3.heap.size+1),PT w.heap.size,PT w3.heap.size,PT (w.heap.size+1)])).setCell (jA X 13) (Cl 163 #[PT (w.heap.size+1),PT (w3.heap.size+1),PT w3.heap.size])).alloc (Obj.cells #[jI 0] 2)).alloc (Obj.cells #[jI 0] 2)):=Foot.alloc (Foot.alloc Bp32);have bx:∀{b:Nat} {v:Value},Box w1 b v->b≠X->Box (((((w3.setCell (jA X 0) (jP g 0 1 c)).setCell (jA X 12) (Cl 161 #[PT (w.heap.size+1+1),PT (w3.heap.size+1),PT w.heap.size,PT w3.heap.size,PT (w.heap.size+1)])).setCell (jA X 13) (Cl 163 #[PT (w.heap.size+1),PT (w3.heap.size+1),PT w3.heap.size])).alloc (Obj.cells #[jI 0] 2)).alloc (Obj.cells #[jI 0] 2)) b v:=fun k hk=>Box.al Bp51 _;exact K8):=h
def X50.K8(h:jp:=by
 refine BQ.end1 hF 0 c (at_al Bp35 _) hff Bp16 rfl B67 row (fun _=>Clos.of_ifs (.inl hz.f) ?_) hz.f hz.a hz.l;show IfsAt _ _ _ X z.a z.f z.n z.all z.pend _ _ h2.th;rw[hz.a,hz.f,hz.n,hz.all,hz.pend];exact ⟨w.heap.size+1+1,w3.heap.size+1,w.heap.size,w3.heap.size,w.heap.size+1,g,c,rfl,rfl,⟨FBox.new (box_at B7) B1 B1,FBox.new (bx b2 B1) B1 B1,FBox.new Bp94 B1 B1,FBox.new (bx b3 B1) B1 B1,zgf (by rw[show (Ma.FZ.blank 73 l).a.length=2 from HN2.out];exact bx b4 B1) rfl (by rw[show (Ma.FZ.blank 73 l).a.length=2 from HN2.out];exact hcap) Bp66 Bp49,.inr ⟨by omega,(bx b4 B1).lt,B1⟩,.inl rfl,hgX,by omega,by omega,by omega,by omega,B1⟩,fun _=>hz.th.trans hF.th,fun e=>absurd rfl e⟩):=h
def D6(h:jp:=by
 have hb1:Below w.heap.size w w1:=Bp15;have hz1:=jH (show w1.heap.size=w.heap.size+1+1+1 by rw[<-hW];simp);clear hW;have hgl1:=jL hgl hb1.size;have d0:=b2.cell;have d1:=b2.lt;have d6:w.heap.size≠X:=B1;have d7:X≠w.heap.size:=B1;have d8:=kX.lt;have e3:=b3.cell;have e4:=b3.lt;have e5:=b4.cell;have e6:=b4.lt;obtain ⟨j0,j1,j2,j3,j4,j5,j6,j7⟩:=i0.same Bp22;obtain ⟨q0,q1,q2,q3,q4,q5,q6,q7⟩:=i1.same Bp22;exact J6):=h
def Vb10.Jb3(h:jp:=by
 have FIN:∀(h2:FH) (z:Ma.FZ) (w3:World),ZS h (Ma.FZ.blank 73 l) h2 z->y={z with items:=[x0]}->Fd.At w3 X h2->Foot (fun k=>k=X) w1 w3->∀w4,w4=((((w3.setCell (jA X 0) (jP g 0 1 c)).setCell (jA X 12) (Cl 161 #[PT (w.heap.size+1+1),PT (w3.heap.size+1),PT w.heap.size,PT w3.heap.size,PT (w.heap.size+1)])).setCell (jA X 13) (Cl 163 #[PT (w.heap.size+1),PT (w3.heap.size+1),PT w3.heap.size])).alloc (Obj.cells #[jI 0] 2)).alloc (Obj.cells #[jI 0] 2)->BQ w X g y w4:=fun h2 z w3 hz hy kX3 hf3 w4 hw4=>by
  open X50 in exact C8
 have FIN:=jH FIN;cases t1:x0.isA
 case false=>
  exact N20
 rw[t1] at j0;cases t2:x1.isA
 case true=>
  exact N16
 rw[t2] at q0;cases t3:(x1.v.k==4)
 case true=>
  exact N22
 case false=>
  have ey:=jH (show y={(Ma.FZ.blank 73 l) with items:=[x0]} by rw[HY.out,t1,t2,t3];rfl);exact N12):=h
def V19.J6(h:jp:=by
 open Vb10 in exact Db3):=h
def Da6(h:jp:=by
 clear hy hl;have hX:=hF.at';have hXl:=hX.lt;have hgl:=hF.lt;have hgX:=hF.ne;have hL:=hF.like;go_enter func112,ntmps112;go_upto_region 1 with fail;generalize hW:World.alloc _ _=w1;have kX:Fd.At w1 X h:=B9;have b2:Box w1 (w.heap.size) (PT X):=Bp7;exact Ja6):=h
def Va13.Ja6(h:jp:=by
 have b3:Box w1 (w.heap.size+1) (jI 73):=Bp7;have b4:Box w1 (w.heap.size+1+1) (jP g 0 2 c):=Bp7
 open V19 in exact D6):=h
def Vb2.Jb1(h:jp:=by
 obtain ⟨y,hy⟩:∃y,Ma.FZ.begin 73 l=y:=⟨_,rfl⟩;rw[hy];have HY:=jH (show y={(cond (!x0.isA||x1.isA) ((Ma.FZ.blank 73 l).fails 4)<|cond (x1.v.k==4) ((Ma.FZ.blank 73 l).ends x1.v)<|(Ma.FZ.blank 73 l)) with items:=[x0]} by rw[<-hy,<-hl];rfl)
 open Va13 in exact Da6):=h
def X51.K8(h:jp:=by
 refine BQ.end1 hF 0 c (at_al Bp35 _) hff Bp16 rfl B67 row (fun _=>Clos.of_ifs (.inl hz.f) ?_) hz.f hz.a hz.l;show IfsAt _ _ _ X z.a z.f z.n z.all z.pend _ _ h2.th;rw[hz.a,hz.f,hz.n,hz.all,hz.pend];exact ⟨w.heap.size+1+1,w3.heap.size+1,w.heap.size,w3.heap.size,w.heap.size+1,g,c,rfl,rfl,⟨FBox.new (box_at B7) B1 B1,FBox.new (bx b2 B1) B1 B1,FBox.new Bp94 B1 B1,FBox.new (bx b3 B1) B1 B1,zgf (by rw[show (Ma.FZ.blank 73 l).a.length=3 from HN2.out];exact bx b4 B1) rfl (by rw[show (Ma.FZ.blank 73 l).a.length=3 from HN2.out];exact hcap) Bp66 Bp49,.inr ⟨by omega,(bx b4 B1).lt,B1⟩,.inl rfl,hgX,by omega,by omega,by omega,by omega,B1⟩,fun _=>hz.th.trans hF.th,fun e=>absurd rfl e⟩):=h
def V20.J6(h:jp:=by
 obtain ⟨p0,p1,p2,p3,p4,p5,p6,p7⟩:=i2.same Bp22;simp only[Nat.zero_mul,Nat.zero_add,Nat.one_mul] at j0 j1 j2 j3 j4 j5 j6 j7 q0 q1 q2 q3 q4 q5 q6 q7 p0 p1 p2 p3 p4 p5 p6 p7;have FIN:∀(h2:FH) (z:Ma.FZ) (w3:World),ZS h (Ma.FZ.blank 73 l) h2 z->y={z with items:=[x0]}->Fd.At w3 X h2->Foot (fun k=>k=X) w1 w3->∀w4,w4=((((w3.setCell (jA X 0) (jP g 0 1 c)).setCell (jA X 12) (Cl 161 #[PT (w.heap.size+1+1),PT (w3.heap.size+1),PT w.heap.size,PT w3.heap.size,PT (w.heap.size+1)])).setCell (jA X 13) (Cl 163 #[PT (w.heap.size+1),PT (w3.heap.size+1),PT w3.heap.size])).alloc (Obj.cells #[jI 0] 2)).alloc (Obj.cells #[jI 0] 2)->BQ w X g y w4:=fun h2 z w3 hz hy kX3 hf3 w4 hw4=>by
  open X51 in exact C8
 have FIN:=jH FIN;cases t1:x0.isA
 case false=>
  exact N20
 rw[t1] at j0;cases t2:x1.isA
 case true=>
  exact N16
 rw[t2] at q0;cases t3:(x1.v.k==4)
 case true=>
  exact N22
 go_wp2_with fail;go_still_tail 10,(by kernel_rfl);change wpList _ _ _ _ _ w1.drew;go_wp2_with fail;refine jM (HA.out _ t1 _) ?_;intro w2 hb2;have hbc:Below w1.heap.size w1 w2:=jB.drew.trans hb2;have kXc:=kX.below2 hbc;cases t4:Ma.alike x0 x2
 case false=>
  have ey:=jH (show y={(Ma.FZ.blank 73 l).fails 4 with items:=[x0]} by rw[HY.out,t1,t2,t3,t4];rfl);have d0:=(b2.below hbc).cell;have d1:=(b2.below hbc).lt;go_wp2_with fail;refine (HF.out _ kXc).mono ?_;rintro e w3 ⟨rfl,kX3,r2⟩;have hf13:Foot (fun k=>k=X) w1 w3:=zaf r2 hbc;clear d0 d1;have b32:=b2.foot hf13 B1;have b34:=b4.foot hf13 B1;have d0:=b32.cell;have d1:=b32.lt;have d2:=b34.cell;have d3:=b34.lt;have d9:=kX3.cells.c0;have e5:=kX3.cells.f;have e7:=kX3.cells.c12;have e8:=kX3.cells.c13;have e9:=kX3.lt;go_wp2_with fail;go_region
  all_goals go_wp2_with fail
  all_goals exact jY jT B29 ⟨rfl,(FIN.out _ _ _ Bp25 ey.out kX3 hf13 _ rfl).post B25⟩
 case true=>
  have ey:=jH (show y={(Ma.FZ.blank 73 l) with items:=[x0]} by rw[HY.out,t1,t2,t3,t4];rfl);have kX3:=kXc;have b32:=b2.below hbc;have b34:=b4.below hbc;have hf13:Foot (fun k=>k=X) w1 w2:=Foot.of_below hbc;exact M62):=h
def Va14.Ja6(h:jp:=by
 have b3:Box w1 (w.heap.size+1) (jI 73):=Bp7;have b4:Box w1 (w.heap.size+1+1) (jP g 0 3 c):=Bp7
 open V20 in exact D6):=h
def X52.K8(h:jp:=by
 refine BQ.end1 hF 0 c (at_al Bp35 _) hff Bp16 rfl B67 row (fun _=>Clos.of_ifs (.inr hz.f) ?_) hz.f hz.a hz.l;show IfsAt _ _ _ X z.a z.f z.n z.all z.pend _ _ h2.th;rw[hz.a,hz.f,hz.n,hz.all,hz.pend];exact ⟨w.heap.size+1+1,w3.heap.size+1,w.heap.size,w3.heap.size,w.heap.size+1,g,c,rfl,rfl,⟨FBox.new (box_at B7) B1 B1,FBox.new (bx b2 B1) B1 B1,FBox.new Bp94 B1 B1,FBox.new (bx b3 B1) B1 B1,zgf (by rw[show (Ma.FZ.blank 74 l).a.length=2 from HN2.out];exact bx b4 B1) rfl (by rw[show (Ma.FZ.blank 74 l).a.length=2 from HN2.out];exact hcap) Bp66 Bp49,.inr ⟨by omega,(bx b4 B1).lt,B1⟩,.inl rfl,hgX,by omega,by omega,by omega,by omega,B1⟩,fun _=>hz.th.trans hF.th,fun e=>absurd rfl e⟩):=h
def Vb11.Jb3(h:jp:=by
 have FIN:∀(h2:FH) (z:Ma.FZ) (w3:World),ZS h (Ma.FZ.blank 74 l) h2 z->y={z with items:=[x0]}->Fd.At w3 X h2->Foot (fun k=>k=X) w1 w3->∀w4,w4=((((w3.setCell (jA X 0) (jP g 0 1 c)).setCell (jA X 12) (Cl 161 #[PT (w.heap.size+1+1),PT (w3.heap.size+1),PT w.heap.size,PT w3.heap.size,PT (w.heap.size+1)])).setCell (jA X 13) (Cl 163 #[PT (w.heap.size+1),PT (w3.heap.size+1),PT w3.heap.size])).alloc (Obj.cells #[jI 0] 2)).alloc (Obj.cells #[jI 0] 2)->BQ w X g y w4:=fun h2 z w3 hz hy kX3 hf3 w4 hw4=>by
  open X52 in exact C8
 have FIN:=jH FIN;cases t1:x0.isA
 case false=>
  rw[t1] at j0;have ey:=jH (show y={(Ma.FZ.blank 74 l).fails 4 with items:=[x0]} by rw[HY.out,t1];rfl);exact M9
 rw[t1] at j0;cases t2:x1.isA
 case true=>
  rw[t2] at q0;have ey:=jH (show y={(Ma.FZ.blank 74 l).fails 4 with items:=[x0]} by rw[HY.out,t1,t2];rfl);exact M9
 rw[t2] at q0;cases t3:(x1.v.k==4)
 case true=>
  have ey:=jH (show y={(Ma.FZ.blank 74 l).ends x1.v with items:=[x0]} by rw[HY.out,t1,t2,t3];rfl);exact M32
 case false=>
  have ey:=jH (show y={(Ma.FZ.blank 74 l) with items:=[x0]} by rw[HY.out,t1,t2,t3];rfl);exact N12):=h
def V21.J6(h:jp:=by
 open Vb11 in exact Db3):=h
def Va15.Ja6(h:jp:=by
 have b3:Box w1 (w.heap.size+1) (jI 74):=Bp7;have b4:Box w1 (w.heap.size+1+1) (jP g 0 2 c):=Bp7
 open V21 in exact D6):=h
def Vb3.Jb1(h:jp:=by
 obtain ⟨y,hy⟩:∃y,Ma.FZ.begin 74 l=y:=⟨_,rfl⟩;rw[hy];have HY:=jH (show y={(cond (!x0.isA||x1.isA) ((Ma.FZ.blank 74 l).fails 4)<|cond (x1.v.k==4) ((Ma.FZ.blank 74 l).ends x1.v)<|(Ma.FZ.blank 74 l)) with items:=[x0]} by rw[<-hy,<-hl];rfl)
 open Va15 in exact Da6):=h
def M12(h:jp:=by
 have b4:Box w1 (w.heap.size+1+1) (jP g 0 l.length c):=Bp7;have hb1:Below w.heap.size w w1:=Bp15;have hz1:w1.heap.size=w.heap.size+1+1+1:=B60;clear hW c0 f0;have d0:=b2.cell;have d1:=b2.lt;have d6:w.heap.size≠X:=B1;have d7:X≠w.heap.size:=B1;have d8:=kX.lt;have e3:=b3.cell;have e4:=b3.lt;rw[HN2.out] at b4;have e5:=b4.cell;have e6:=b4.lt;clear hz1;go_wp2_with fail;refine jM (HC.out _ hb1) ?_;intro w2 hq;go_wp2_with fail;exact jY jT B17 ⟨rfl,hq.pre hb1⟩):=h
def X16.K3(h:jp:=by
 have b3:Box w1 (w.heap.size+1) (jI 71):=Bp7;exact M12):=h
def X17.K3(h:jp:=by
 have b3:Box w1 (w.heap.size+1) (jI 72):=Bp7;exact M12):=h
def N8(h:jp:=by
 rw[hl] at HC hF ⊢;clear hl;have hX:=hF.at';have hXl:=hX.lt;have hgl:=hF.lt;have hgX:=hF.ne;have hL:=hF.like;have c0:=hX.cells.c0;rw[hF.items] at c0;have f0:=hX.cells.f;go_enter func65,ntmps65;go_upto_region 2 with fail;generalize hW:World.alloc _ _=w1;have kX:Fd.At w1 X h:=B9;have b2:Box w1 (w.heap.size) (PT X):=Bp7;have b3:Box w1 (w.heap.size+1) (jI 73):=Bp7;exact M12):=h
def X18.K3(h:jp:=by
 have b3:Box w1 (w.heap.size+1) (jI 74):=Bp7;exact M12):=h
def X19.K3(h:jp:=by
 have b3:Box w1 (w.heap.size+1) (jI 75):=Bp7;exact M12):=h
theorem ZS.refl{h:FH}{x:Ma.FZ}(k:Like h x):ZS h x h x:=⟨k,rfl,rfl,rfl,rfl,rfl,rfl,rfl⟩
theorem ZS.ends{h:FH}{x:Ma.FZ}(k:Like h x)(v:Val.V):ZS h x (h.ends v) (x.ends v):=by
 refine ⟨k.ends v,(ends_same h v).2.2.1,?_,?_,?_,?_,?_,?_⟩ <;> (unfold Ma.FZ.ends;cases x.over <;> rfl)
theorem znk(X g c:Nat)(x0 x1:Ma.Arg)(h:FH)(w:World)(hF:Fresh w X g c 75 [x0,x1] h):Calls prog 113 #[PT X,jP g 0 2 c] w fun e w'=>e=jr jT/\BQ w X g (Ma.FZ.begin 75 [x0,x1]) w':=by
 have hcap:2<=c:=hF.cap;have HF:=jH fun (u:World) (hX:Fd.At u X h)=>za6 X h 4 u hX;have HA:=jH fun (u:World)=>alike_ok (hF.ok x0 B7) (hF.ok x1 B7) u
 open Vb1 in exact Db1
theorem ifs_73_2(X g c:Nat)(x0 x1:Ma.Arg)(h:FH)(w:World)(hF:Fresh w X g c 73 [x0,x1] h):Calls prog 112 #[PT X,jI 73,jP g 0 2 c] w fun e w'=>e=jr jT/\BQ w X g (Ma.FZ.begin 73 [x0,x1]) w':=by
 have hcap:2<=c:=hF.cap;have HF:=jH fun (u:World) (hX:Fd.At u X h)=>za6 X h 4 u hX;have HE:=jH fun (u:World) (v:Val.V) (hX:Fd.At u X h)=>ends_any X h v u hX
 open Vb2 in exact Db1
theorem ifs_73_3(X g c:Nat)(x0 x1 x2:Ma.Arg)(h:FH)(w:World)(hF:Fresh w X g c 73 [x0,x1,x2] h):Calls prog 112 #[PT X,jI 73,jP g 0 3 c] w fun e w'=>e=jr jT/\BQ w X g (Ma.FZ.begin 73 [x0,x1,x2]) w':=by
 have hcap:3<=c:=hF.cap;have HF:=jH fun (u:World) (hX:Fd.At u X h)=>za6 X h 4 u hX;have HE:=jH fun (u:World) (v:Val.V) (hX:Fd.At u X h)=>ends_any X h v u hX;have HA:∀(b:Bool),x0.isA=b->∀u,Ret 160 #[.agg #[.bool b,jI x0.a.t,jI x0.a.l,jI x0.a.b,jI x0.a.r,jI x0.v.k,jI x0.v.n,jS x0.v.t],argV x2] u (.bool (Ma.alike x0 x2)):=fun b hb u=>by
  rw[<-hb];exact alike_ok (hF.ok x0 B7) (hF.ok x2 B7) u
 have HA:=jH HA;have i0:=hF.row 0 x0 rfl;have i1:=hF.row 1 x1 rfl;have i2:=hF.row 2 x2 rfl;have row:ItemsO w g 0 [x0]:=hF.row.take 1;obtain ⟨l,hl⟩:∃l,[x0,x1,x2]=l:=⟨_,rfl⟩;have HN2:=jH (show l.length=3 by rw[<-hl];rfl);rw[hl] at hF ⊢;have hrow:=hF.row;obtain ⟨y,hy⟩:∃y,Ma.FZ.begin 73 l=y:=⟨_,rfl⟩;rw[hy];have HY:=jH (show y={(cond (!x0.isA||x1.isA) ((Ma.FZ.blank 73 l).fails 4)<|cond (x1.v.k==4) ((Ma.FZ.blank 73 l).ends x1.v)<|cond (!Ma.alike x0 x2) ((Ma.FZ.blank 73 l).fails 4) (Ma.FZ.blank 73 l)) with items:=[x0]} by rw[<-hy,<-hl];rfl)
 open Va14 in exact Da6
theorem ifs_74_2(X g c:Nat)(x0 x1:Ma.Arg)(h:FH)(w:World)(hF:Fresh w X g c 74 [x0,x1] h):Calls prog 112 #[PT X,jI 74,jP g 0 2 c] w fun e w'=>e=jr jT/\BQ w X g (Ma.FZ.begin 74 [x0,x1]) w':=by
 have hcap:2<=c:=hF.cap;have HF:=jH fun (u:World) (hX:Fd.At u X h)=>za6 X h 4 u hX;have HE:=jH fun (u:World) (v:Val.V) (hX:Fd.At u X h)=>ends_any X h v u hX
 open Vb3 in exact Db1
theorem len1{α:Type}:∀{l:List α},2<=l.length->∃a b r,l=a::b::r
 |a::b::r,_=> ⟨a,b,r,rfl⟩
section
variable(X g c:Nat)
include X g c
section
variable(x0 x1 x2:Ma.Arg)(h:FH)(w0 w:World)(hE:FEnv w0 w fun k=>k=X)
include x0 x1 x2 h w0 w hE
theorem begin_71(hF:Fresh w X g c 71 [x0,x1,x2] h):Calls prog 65 #[PT X,jI 71] w fun e w'=>e=jr jT/\BQ w X g (Ma.FZ.begin 71 [x0,x1,x2]) w':=by
 have HC:=jH fun (u:World) (hb:Below w.heap.size w u)=>zvb X g c x0 x1 x2 h w0 u (hE.next Bp38 fun _ e=> .inl e) (hF.below hb);obtain ⟨l,hl⟩:∃l,[x0,x1,x2]=l:=⟨_,rfl⟩;have HN2:=jH (show l.length=3 by rw[<-hl];rfl);rw[hl] at HC hF ⊢;clear hl
 open X16 in exact C3
theorem begin_72(hF:Fresh w X g c 72 [x0,x1,x2] h):Calls prog 65 #[PT X,jI 72] w fun e w'=>e=jr jT/\BQ w X g (Ma.FZ.begin 72 [x0,x1,x2]) w':=by
 have HC:=jH fun (u:World) (hb:Below w.heap.size w u)=>zva X g c x0 x1 x2 h w0 u (hE.next Bp38 fun _ e=> .inl e) (hF.below hb);obtain ⟨l,hl⟩:∃l,[x0,x1,x2]=l:=⟨_,rfl⟩;have HN2:=jH (show l.length=3 by rw[<-hl];rfl);rw[hl] at HC hF ⊢;clear hl
 open X17 in exact C3
end
theorem zso(x0 x1:Ma.Arg)(h:FH)(w:World)(hF:Fresh w X g c 73 [x0,x1] h):Calls prog 65 #[PT X,jI 73] w fun e w'=>e=jr jT/\BQ w X g (Ma.FZ.begin 73 [x0,x1]) w':=by
 have HC:=jH fun (u:World) (hb:Below w.heap.size w u)=>ifs_73_2 X g c x0 x1 h u (hF.below hb);obtain ⟨l,hl⟩:∃l,[x0,x1]=l:=⟨_,rfl⟩;have HN2:=jH (show l.length=2 by rw[<-hl];rfl);exact N8
theorem zsn(x0 x1 x2:Ma.Arg)(h:FH)(w:World)(hF:Fresh w X g c 73 [x0,x1,x2] h):Calls prog 65 #[PT X,jI 73] w fun e w'=>e=jr jT/\BQ w X g (Ma.FZ.begin 73 [x0,x1,x2]) w':=by
 have HC:=jH fun (u:World) (hb:Below w.heap.size w u)=>ifs_73_3 X g c x0 x1 x2 h u (hF.below hb);obtain ⟨l,hl⟩:∃l,[x0,x1,x2]=l:=⟨_,rfl⟩;have HN2:=jH (show l.length=3 by rw[<-hl];rfl);exact N8
theorem begin_74(x0 x1:Ma.Arg)(h:FH)(w:World)(hF:Fresh w X g c 74 [x0,x1] h):Calls prog 65 #[PT X,jI 74] w fun e w'=>e=jr jT/\BQ w X g (Ma.FZ.begin 74 [x0,x1]) w':=by
 have HC:=jH fun (u:World) (hb:Below w.heap.size w u)=>ifs_74_2 X g c x0 x1 h u (hF.below hb);obtain ⟨l,hl⟩:∃l,[x0,x1]=l:=⟨_,rfl⟩;have HN2:=jH (show l.length=2 by rw[<-hl];rfl);rw[hl] at HC hF ⊢;clear hl
 open X18 in exact C3
theorem begin_75(x0 x1:Ma.Arg)(h:FH)(w:World)(hF:Fresh w X g c 75 [x0,x1] h):Calls prog 65 #[PT X,jI 75] w fun e w'=>e=jr jT/\BQ w X g (Ma.FZ.begin 75 [x0,x1]) w':=by
 have HC:=jH fun (u:World) (hb:Below w.heap.size w u)=>znk X g c x0 x1 h u (hF.below hb);obtain ⟨l,hl⟩:∃l,[x0,x1]=l:=⟨_,rfl⟩;have HN2:=jH (show l.length=2 by rw[<-hl];rfl);rw[hl] at HC hF ⊢;clear hl
 open X19 in exact C3
theorem zx3(f:Int)(l:List Ma.Arg)(h:FH)(w0 w:World)(hE:FEnv w0 w fun k=>k=X)(hF:Fresh w X g c f l h):Calls prog 65 #[PT X,jI f] w fun e w'=>e=jr jT/\BQ w X g (Ma.FZ.begin f l) w':=by
 have hc:=hF.called;obtain ⟨n,hn⟩:=Int.eq_ofNat_of_zero_le (show 0<=f by have:=hc.lo;omega);have lo:=hc.lo;have hi:=hc.hi;have hf:f=54\/f=55\/f=56\/f=57\/f=58\/f=59\/f=60\/f=61\/f=62\/f=63\/f=64\/f=65\/f=66\/f=67\/f=68\/f=69\/f=70\/f=71\/f=72\/f=73\/f=74\/f=75\/f=76:=B1;rcases hf with rfl|rfl|rfl|rfl|rfl|rfl|rfl|rfl|rfl|rfl|rfl|rfl|rfl|rfl|rfl|rfl|rfl|rfl|rfl|rfl|rfl|rfl|rfl
 .exact begin_54 X g c l h w hF
 .exact begin_55 X g c l h w hF
 .exact begin_56 X g c l h w hF
 .exact begin_57 X g c l h w hF
 .exact begin_58 X g c l h w hF
 .exact begin_59 X g c l h w hF
 .exact begin_60 X g c l h w hF
 .exact begin_61 X g c l h w hF
 .exact begin_62 X g c l h w hF
 .obtain ⟨x0,x1,r,rfl⟩:=len1 (hc.two B1);exact begin_63 X g c x0 x1 r h w0 w hE hF
 .obtain ⟨x0,x1,r,rfl⟩:=len1 (hc.two B1);exact begin_64 X g c x0 x1 r h w0 w hE hF
 .exact begin_65 X g c l h w hF
 .exact begin_66 X g c l h w hF
 .exact begin_67 X g c l h w hF
 .exact begin_68 X g c l h w hF
 .obtain ⟨x0,x1,r,rfl⟩:=len1 (hc.two B1);exact begin_69 X g c x0 x1 r h w0 w hE hF
 .obtain ⟨x0,x1,rfl⟩:=len2 (hc.max2 B1);exact begin_70 X g c x0 x1 h w hF
 .obtain ⟨x0,x1,x2,rfl⟩:=len3 (hc.three B1);exact begin_71 X g c x0 x1 x2 h w0 w hE hF
 .obtain ⟨x0,x1,x2,rfl⟩:=len3 (hc.three B1);exact begin_72 X g c x0 x1 x2 h w0 w hE hF
 .have h2:=hc.two B1;have h3:=hc.max3 B1
  by_cases hl:l.length=2
  .obtain ⟨x0,x1,rfl⟩:=len2 hl;exact zso X g c x0 x1 h w hF
  .obtain ⟨x0,x1,x2,rfl⟩:=len3 (show l.length=3 by omega);exact zsn X g c x0 x1 x2 h w hF
 .obtain ⟨x0,x1,rfl⟩:=len2 (hc.max2 B1);exact begin_74 X g c x0 x1 h w hF
 .obtain ⟨x0,x1,rfl⟩:=len2 (hc.max2 B1);exact begin_75 X g c x0 x1 h w hF
 .exact begin_76 X g c l h w hF
end
theorem zmu{w u w':World}{o:Obj}(hb:Below w.heap.size w u)(h:Below (u.alloc o).heap.size (u.alloc o) w'):Below w.heap.size w w':=(hb.alloc hb.size o).trans (h.mono (hb.alloc hb.size o).size)
def FNew(lo:Nat)(y:Ma.FZ)(X:Nat)(w':World):Prop:=∃F R h',FoldAt w' F R X y h'/\∀k,F k\/R k->lo<=k
def Bp93(h:jp:=by exact List.getElem?_eq_getElem (show 0<l.length by omega)):=h
def M95(h:jp:=by
 go_wp2_with fail;refine jM (HM.out _) ?_;intro w3 hb3;have hb4:Below w.heap.size w w3:=zmu hb hb3;clear hb3;go_wp2_with fail;go_roundw
 case rel=>
  have hn1:k+1<=n:=B1
  first|exact ⟨k+1,hn1,by go_num,hb4⟩|((repeat apply Exists.intro);exact ⟨⟨k+1,hn1,by go_num,hb4⟩,rfl⟩)
 case measure=>simp[intOf];omega):=h
theorem zr6(f:Int)(l:List Ma.Arg)(w0 w:World)(lo:Nat)(v:Value)(hN:NumW w0)(hb0:Below w0.heap.size w0 w)(own:w.ownsRow lo TA 8 v l.length (argsC l))(hbe:Ma.FZ.zfm f l=0)(hok:∀x∈l,Ma.okG x)(hl:l.length<=100000):
 Calls prog 31 #[jI f,v] w fun e w'=>∃X,e=jr (.tuple #[PT X,jI 0])/\FNew w.heap.size (Ma.FZ.start sortI f l) X w'/\Below w.heap.size w w':=by
 have hc:=Ma.FZ.called hbe;have HI:=jH fun (u:World)=>zd4 f u;have hE:(infoV f).2=0/\(infoV f).1.2.1=6/\decide ((l.length:Int)<(infoV f).1.2.2.1)=false/\(decide (0<=(infoV f).1.2.2.2)=true->decide ((infoV f).1.2.2.2<(l.length:Int))=false):=by
  unfold Ma.FZ.zfm at hbe;split at hbe
  .cases hbe
  .rename_i h1
   split at hbe
   .cases hbe
   .rename_i h2
    exact ⟨by omega,by omega,decide_eq_false B1,fun e=>decide_eq_false (by have:=of_decide_eq_true e;omega)⟩
 generalize infoV f=r at HI hE;obtain ⟨⟨nm,cl,mn,mx⟩,e0⟩:=r;simp only at hE;obtain ⟨rfl,rfl,t1,t3⟩:=hE;obtain ⟨a,c,rfl,hit⟩:=zh9 rfl own;have h1:=hc.one;obtain ⟨g,rfl,hgl⟩:∃g,a=some ⟨g,0,none⟩/\g<w.heap.size:=by
  obtain ⟨g,e,hg,_⟩:=hit 0 _ Bp93;exact ⟨g,e,hg⟩
 have HLi:=jH (show∀u,Below w.heap.size w u->Lies u g 0 l from fun u hb=> ⟨jL hgl hb.size,fun j x hx=>by
  have:=own.cells (g:=g) rfl j x hx;have hadd:((jA g 0):Addr).add j=(jA g j):=B16;rw[hadd] at this;rw[Nat.zero_add];exact jQ hb this hgl⟩)
 have HIt:=jH fun (k:Nat) (x:Ma.Arg) (hx:l[k]?=some x)=>(show ItemAt w g (k*8) x by obtain ⟨g',e,_,h⟩:=hit k x hx;cases e;exact h);have HOK:=jH hok;have HBE:=jH hbe;have HCL:=jH fun (u:World) (hb:Below w.heap.size w u)=>zjw g 0 c l u B1;obtain ⟨n,hn⟩:∃n,l.length=n:=⟨_,rfl⟩;have HNL:=jH hn;have HCN:=jH (show n<=100000 by omega);clear hit own hok hbe hl;rw[hn] at t1 t3 HCL ⊢;clear hn;go_enter func31,ntmps31;go_wp2_with fail;refine jM (HI.out _) ?_;intro w1 hb1;have hbw:Below w.heap.size w (w1.alloc (.cells #[jS nm,jI 6,jI mn,jI mx] 105)):=hb1.alloc hb1.size _;have kx:=heap_alloc_new w1 (.cells #[jS nm,jI 6,jI mn,jI mx] 105);have HG:=jH (show g<(w1.alloc (.cells #[jS nm,jI 6,jI mn,jI mx] 105)).heap.size from jL hgl hbw.size);go_upto_region 2 with fail;clear hb1;generalize w1.heap.size=B6 at *;generalize (w1.alloc (.cells #[jS nm,jI 6,jI mn,jI mx] 105))=w2 at *;have x1:=ch kx 1;have x2:=ch kx 2;have x3:=ch kx 3;simp at x1 x2 x3;have lx:=(jg kx);have l0:=HG.out;go_upto_region 4 with fail;go_cut [41] (fun s wx=>s= .bool false/\w2=wx)
 case first=>
  cases t2:decide (0<=mx)
  .go_wp2_with fail;go_meet;exact ⟨rfl,rfl⟩
  .have t4:=t3 t2;go_wp2_with fail;go_meet;exact ⟨rfl,rfl⟩
 case rest=>
 obtain ⟨rfl,rfl⟩:=hcut;clear t1 t3 x1 x2 x3 lx kx;have HNL2:=jH (show n<=100000 by have:=HCN.out;omega);have hn6:n<=100000:=HNL2.out;go_wp2_with fail;go_loopw [10,11,44] (fun _ _ i wr=>∃k:Nat,k<=n/\i=jI (k:Int)/\Below w.heap.size w wr) (fun _ _ i _=>n-(intOf i).toNat)
 case atStart=>exact ⟨0,Nat.zero_le _,rfl,hbw⟩
 case round=>
  obtain ⟨k,hk,rfl,hb⟩:=hrel
  by_cases hlt:k<n
  .obtain ⟨x,hx⟩:∃x,l[k]?=some x:=⟨_,List.getElem?_eq_getElem (by rw[HNL.out];exact hlt)⟩;have HX:=jH (HOK.out x (List.mem_of_getElem? hx));obtain ⟨i0,i1,i2,i3,i4,i5,i6,i7⟩:=(HIt.out k x hx).same (hb.block g hgl);have lr:=jL hgl hb.size;clear hx;cases ha:x.isA
   case false=>
    rw[ha] at i0;have HM:Hid (∀u,Ret 11 #[.agg #[jI x.v.k,jI x.v.n,jS x.v.t]] u (.bool true)):=jH fun u=>by
     have:=zbm x.v u;rw[HX.out.val.may] at this;exact this
    exact M95
   case true=>
    rw[ha] at i0;have HM:Hid (∀u,Ret 63 #[.agg #[jI x.a.t,jI x.a.l,jI x.a.b,jI x.a.r]] u (.tuple #[jI (Ma.sizeA x.a).1,jI 0])):=jH fun u=>by
     have:=zfo x.a.t x.a.l x.a.b x.a.r u;have e2:(sizeAr x.a.t x.a.l x.a.b x.a.r).2=0:=HX.out.area ha;rw[e2] at this;exact this
    generalize (Ma.sizeA x.a).1=sz at HM;exact M95
  .obtain rfl:k=n:=by omega
   have lr:=jL hgl hb.size;go_wp2_with fail;refine (HCL.out _ hb (HLi.out _ hb)).mono ?_;rintro e w3 ⟨v2,rfl,own3,hb3⟩;have hb3w:Below w.heap.size w w3:=jN hb hb3;have hlen:=HNL.out;obtain ⟨a2,c2,rfl,hit2⟩:=zh9 hlen.symm own3;obtain ⟨g2,rfl,hg2⟩:∃g2,a2=some ⟨g2,0,none⟩/\g2<w3.heap.size:=by
    obtain ⟨g,e,hg,_⟩:=hit2 0 _ Bp93;exact ⟨g,e,hg⟩
   have hg2l:wr.heap.size<=g2:=(own3.lt _ rfl).1;have hcap:l.length<=c2:=by
    rcases own3.2 with ⟨e,h0⟩|⟨g3,cap,cur,e,_,_,hle,_⟩
    .omega
    .cases e;omega
   have hrow:ItemsO w3 g2 0 l:=fun j x hx=>by
    obtain ⟨g',e,_,h⟩:=hit2 j x hx;cases e;rw[Nat.zero_add];exact h
   have hwz:=hb.size;have hF:Fresh (w3.alloc (.cells (fc ⟨jP g2 0 k c2,0,0,0,0,0,0,false,false,0,0,⟨#[]⟩,.nilFunc,.nilFunc,.nilFunc⟩) TF)) w3.heap.size g2 c2 f l ⟨jP g2 0 k c2,0,0,0,0,0,0,false,false,0,0,⟨#[]⟩,.nilFunc,.nilFunc,.nilFunc⟩:=
    ⟨heap_alloc_new _ _,⟨rfl,rfl,rfl,rfl,rfl,rfl,rfl,rfl,rfl,rfl,rfl⟩,rfl,by rw[hlen],by simp;omega,by omega,hcap,hrow.below hg2 (below1 _ _),hc,HOK.out⟩
   have hbA:Below w.heap.size w (w3.alloc (.cells (fc ⟨jP g2 0 k c2,0,0,0,0,0,0,false,false,0,0,⟨#[]⟩,.nilFunc,.nilFunc,.nilFunc⟩) TF)):=hb3w.alloc hb3w.size _;have h0w:=hb0.size;have h3w:=hb3w.size;have hbA0:=hb0.trans (hbA.mono h0w);have HB:=jH (zx3 w3.heap.size g2 c2 f l _ w0 _ ⟨hN,hbA0,fun k e=>by omega⟩ hF);clear hit2 own3 hrow hF hcap;go_wp2_with fail;refine HB.out.mono ?_;rintro e w5 ⟨rfl,F,R,h',kA,kf,kF,kR⟩;have hb5:Below w.heap.size w w5:=zao hbA kf fun k e=>by omega
   have hb5':=hb0.trans (hb5.mono h0w);have hs4:(w3.alloc (.cells (fc ⟨jP g2 0 k c2,0,0,0,0,0,0,false,false,0,0,⟨#[]⟩,.nilFunc,.nilFunc,.nilFunc⟩) TF)).heap.size=w3.heap.size+1:=B7;rw[hs4] at kF kR;have HA:=jH (zew w0 w5 F R w3.heap.size _ h' ⟨hN,hb5',fun k e=>by rcases kF k e with e|e <;> omega⟩ kA (Ma.FZ.begin_inv hc HOK.out B1));go_wp2_with fail;refine HA.out.mono ?_;rintro e w6 ⟨rfl,F2,h2,kA2,kf2,kF2⟩;have hF2:∀k,F k->w.heap.size<=k:=fun k e=>by rcases kF k e with e|e <;> omega
   have hb6:Below w.heap.size w w6:=zao hb5 kf2 hF2;have hz5:=hb5.size;go_wp2_with fail;refine jX (.tuple #[PT w3.heap.size,jI 0]) (by simp[results,results31,go_sem]) ⟨_,rfl,⟨F2,R,h2,kA2,fun k e=> ?_⟩,hb6⟩;rcases e with e|e
   .rcases kF2 k e with e|e
    .exact hF2 k e
    .omega
   .rcases kR k e with e|e <;> omega
theorem Clos.th{R:Nat->Prop}{X:Nat}{f:Int}{tk fn:Value}{F:Nat->Prop}{w:World}{y:Ma.FZ}{th:Value}(h:Clos R X f tk fn F w y th)(h1:54<=f)(h2:f<=76)(hp:y.pend=none):th= .nilFunc:=by
 by_cases c1:f=54\/f=61
 .exact (h.sum c1).2
 by_cases c2:f=55
 .exact (h.prod c2).2
 by_cases c3:f=56\/f=57\/f=58
 .exact (h.count c3).2
 by_cases c4:f=59\/f=60\/f=62\/f=63\/f=64
 .exact (h.size c4).2
 by_cases c5:f=65\/f=66\/f=67
 .exact (h.tru c5).2
 by_cases c6:f=68\/f=69
 .exact (h.text c6).2
 by_cases c7:f=70
 .exact (h.mat c7).2
 by_cases c8:f=71\/f=72
 .exact (h.look c8).2.1 hp
 by_cases c9:f=73\/f=74
 .obtain ⟨_,_,_,_,_,_,_,_,_,_,p,_⟩:=h.ifs c9;exact p hp
 by_cases c10:f=75
 .obtain ⟨_,_,_,_,_,_,_,_,_,_,_,_,_,_,p,_⟩:=h.prd c10;exact p hp
 exact (h.first B1).2
theorem zw1(w0 w:World)(F R:Nat->Prop)(X:Nat)(x:Ma.FZ)(h:FH)(u:Val.V)(hE:FEnv w0 w F)(kA:FoldAt w F R X x h)(hI:Ma.FZ.Inv x)(ho:x.over=false)(hw:x.wants=true)(hu:Ma.okV u):
 Calls prog 22 #[PT X,VL u] w fun e w'=>e=jr (jI 0)/\FQ w F R X (Ma.FZ.give sortI x u) w':=by
 have hb:=hI.body ho;have HM:Hid (∀v,Ret 11 #[VL u] v (.bool true)):=jH fun v=>by
  have:=zbm u v;rw[hu.may] at this;exact this
 have hn1:∀w:World,(binOp .neq 65 .nilFunc .nilFunc).run prog w= .ok (.bool false) w:=fun _=>by kernel_rfl
 have hn2:∀(id:FuncId) (fs bs:Array Value) (w:World),(binOp .neq 65 (.func (.func id) fs bs) .nilFunc).run prog w= .ok (.bool true) w:=fun _ _ _ _=>by kernel_rfl
 have kX:=kA.core.cells;have c8:=kX.cells.c8;rw[kA.core.like.over,ho] at c8;have l0:=kX.lt;have hl10:x.l.length<=10000000000:=by have:=kA.len ho;have:=hb.p;have:=hb.sz;have:=hI.i;omega
 go_enter func22,ntmps22;go_wp2_with fail;refine jM (HM.out _) ?_;intro w1 hb1;have hbw:=(below1 w _).trans Bp58;have kb:=(hb1.block w.heap.size B7).trans Bp34;have kA1:=kA.below hbw;have kX1:=kA1.core.cells;have kL:=kA1.core.like;have lb:=(jg kb);clear c8 l0 hb1;have f1:=kX1.cells.f;have c7:=kX1.cells.c7;have c14:=kX1.cells.c14;have l1:=kX1.lt;have hXne:w.heap.size≠X:=by have:=kX.lt;omega
 cases hp:x.pend with
 |none=>
  have hth:=Clos.th (kA1.clos ho) kA.called.lo kA.called.hi hp;rw[hth] at c14;have hrd:=Ma.FZ.zr1 hI ho hw hu hp;have c5:=kX1.cells.c5;have c6:=kX1.cells.c6;have c3:=kX1.cells.c3;have c4:=kX1.cells.c4;have c2:=kX1.cells.c2;rw[kL.pos] at c2;have hwp:=jH (show IntKind.i64.wrap ((x.pos:Int)+1)=((x.pos+1:Nat):Int) from zsr (by have:=hb.p;omega));have hw1:=hwp.out;go_upto_region 12 with fail;have kA2:=kA1.self (y:={x with wants:=false,here:=x.next,pos:=x.pos+1}) (h':={h with wants:=false,hr:=h.nr,hc:=h.nc,pos:=(x.pos:Int)+1}) (w':=(((w1.setCell (jA X 7) (.bool false)).setCell (jA X 3) (jI h.nr)).setCell (jA X 4) (jI h.nc)).setCell (jA X 2) (jI ((x.pos:Int)+1))) (zad (zad (zad (zad kX1 7 _) 3 _) 4 _) 2 _) (Foot.set (Foot.set (Foot.set Bp10 rfl) rfl) rfl) ⟨kL.i,(by show (x.pos:Int)+1=((x.pos+1:Nat):Int);omega),kL.nr,kL.nc,kL.nr,kL.nc,rfl,kL.over,kL.fk,kL.fi,kL.ft⟩ rfl rfl rfl rfl rfl rfl (fun e=>by have:=kA1.len e;show (x.l.length:Int)<=4096*(x.i:Int)+((x.pos+1:Nat):Int);omega) (fun _ c=> Bp20) rfl;have hf2:Foot F w ((((w1.setCell (jA X 7) (.bool false)).setCell (jA X 3) (jI h.nr)).setCell (jA X 4) (jI h.nc)).setCell (jA X 2) (jI ((x.pos:Int)+1))):=Foot.set (Foot.set (Foot.set (Foot.set (Foot.of_below hbw) kA.core.fx) kA.core.fx) kA.core.fx) kA.core.fx;have kb2:((((w1.setCell (jA X 7) (.bool false)).setCell (jA X 3) (jI h.nr)).setCell (jA X 4) (jI h.nc)).setCell (jA X 2) (jI ((x.pos:Int)+1))).heap[w.heap.size]?=_:=(heap_setCell_other _ _ _ _ hXne).trans ((heap_setCell_other _ _ _ _ hXne).trans ((heap_setCell_other _ _ _ _ hXne).trans ((heap_setCell_other _ _ _ _ hXne).trans kb)));have hlen1:=kA.len ho;clear c2 c3 c4 c5 c6 c7 c14 f1 l1 kA1 kX1 kb lb hw1;generalize (((w1.setCell (jA X 7) (.bool false)).setCell (jA X 3) (jI h.nr)).setCell (jA X 4) (jI h.nc)).setCell (jA X 2) (jI ((x.pos:Int)+1))=w2 at *;have hbd:Below w2.heap.size w2 w2.drew:=jB.drew;have kA3:=kA2.below hbd;have hfw:Foot F w w2.drew:=zck hf2;have hE3:=hE.next hfw fun k e=> .inl e;obtain ⟨id,bs,en,hcf,hcall⟩:=take_any w2.drew F R X {x with wants:=false,here:=x.next,pos:=x.pos+1} _ u kA3.core (kA3.clos ho) hrd.goes hl10 hrd.v hrd.at' kA3.called hE3.numW;have HC:=jH (hcall true);have hZI:=hrd.goes.take hrd.n hrd.v true hrd.at';have hsm:=Ma.FZ.zh0 {x with wants:=false,here:=x.next,pos:=x.pos+1} u true;have hll:=Ma.FZ.zvc {x with wants:=false,here:=x.next,pos:=x.pos+1} u true;clear hcall;have kX2:=kA2.core.cells;have c12:=kX2.cells.c12;rw[en] at c12;have l2:=kX2.lt;obtain ⟨v0,v1,v2⟩:=zaa kb2;have lb:=(jg kb2);go_still_tail 5,(by kernel_rfl);change wpList _ _ _ _ _ w2.drew;go_wp2_with fail;refine jM HC.out ?_;intro w4 hq;obtain ⟨F4,h4,kA4,kf4,kF4⟩:=FQ.took kA3 hsm (fun _=>by
   unfold Ma.FZ.LL at hll;rw[hsm.i,hsm.pos];have hll':(Ma.FZ.take {x with wants:=false,here:=x.next,pos:=x.pos+1} u true).l.length<=x.l.length+1:=hll;show _<=4096*(x.i:Int)+((x.pos+1:Nat):Int);omega) hq
  have hE4:=hE3.next kf4 kF4;have HA:=jH (zew w0 w4 F4 R X (Ma.FZ.take {x with wants:=false,here:=x.next,pos:=x.pos+1} u true) h4 hE4 kA4 hZI);clear kA4;go_wp2_with fail;refine jM HA.out ?_;intro w5 hq5;go_wp2_with fail;refine jX (jI 0) (by simp[results,results22,go_sem]) ⟨rfl,?_⟩;have e9:Ma.FZ.give sortI x u=Ma.FZ.advance sortI (Ma.FZ.take {x with wants:=false,here:=x.next,pos:=x.pos+1} u true):=by unfold Ma.FZ.give;rw[hp]
  rw[e9];exact FQ.next hfw (fun k e=> .inl e) (FQ.next kf4 kF4 hq5)
 |some v=>
  obtain ⟨hpw,hpv,_,hpf⟩:=hI.pend ho v hp;have hrR:∀k,R k->¬k=X:=fun k hk e=>kA.dis k hk (by rw[e];exact kA.core.fx);have c2:Clos R X x.f h.tk h.fn F w1 {x with wants:=false,pend:=some v} h.th:=by
   have c:=kA1.clos ho;have e:({x with wants:=false,pend:=some v}:Ma.FZ)={x with wants:=false}:=by rw[<-hp]
   rw[e];exact Bp20
  have kA2:=kA1.self (y:={x with wants:=false,pend:=none}) (h':={h with wants:=false,th:= .nilFunc}) (w':=(w1.setCell (jA X 7) (.bool false)).setCell (jA X 14) .nilFunc) (zad (zad kX1 7 _) 14 _) (Foot.set Bp10 rfl) ⟨kL.i,kL.pos,kL.hr,kL.hc,kL.nr,kL.nc,rfl,kL.over,kL.fk,kL.fi,kL.ft⟩ rfl rfl rfl rfl rfl rfl (fun e=>kA1.len e) (fun _ c=>by
   rcases hpf with q|q|q|q
   .exact Clos.of_look (.inl q) ⟨(c.look (.inl q)).1,fun _=>rfl,fun e=>absurd rfl e⟩
   .exact Clos.of_look (.inr q) ⟨(c.look (.inr q)).1,fun _=>rfl,fun e=>absurd rfl e⟩
   .obtain ⟨ba,bN,bF,bA,bU,g,ca,e1,e2,k,_⟩:=c.ifs (.inl q);exact Clos.of_ifs (.inl q) ⟨ba,bN,bF,bA,bU,g,ca,e1,e2,k,fun _=>rfl,fun e=>absurd rfl e⟩
   .obtain ⟨bF,ba,bA,g,ca,e1,e2,k1,k2,kAr,f1,f2,n1,n2,_⟩:=c.prd q;exact Clos.of_prd q ⟨bF,ba,bA,g,ca,e1,e2,k1,k2,kAr,f1,f2,n1,n2,fun _=>rfl,fun v e=>(nomatch e)⟩) rfl
  have hfX:Foot (fun k=>k=X) w1 ((w1.setCell (jA X 7) (.bool false)).setCell (jA X 14) .nilFunc):=Foot.set Bp10 rfl;have c3:=c2.frame kX1 hfX (fun i _ hne e=>hne e) hrR;have hfw:Foot F w ((w1.setCell (jA X 7) (.bool false)).setCell (jA X 14) .nilFunc):=Foot.set (Foot.set (Foot.of_below hbw) kA.core.fx) kA.core.fx;have kb2:((w1.setCell (jA X 7) (.bool false)).setCell (jA X 14) .nilFunc).heap[w.heap.size]?=_:=(heap_setCell_other _ _ _ _ hXne).trans ((heap_setCell_other _ _ _ _ hXne).trans kb);obtain ⟨id,fs,bs,en,hcf,hcall⟩:=then_any _ F R X {x with wants:=false,pend:=none} _ v u h.th kA2.core c3 rfl rfl hpf hb.all hpv.fit hu.fit;have HC:=jH hcall;clear hcall c2 c3;rw[en] at c14;have hZI:Ma.FZ.Inv (Ma.FZ.after {x with wants:=false,pend:=none} v u):=Ma.FZ.Goes.after (x:={x with wants:=false,pend:=none}) ⟨⟨hb.args,hb.items,hb.all,hb.n,hb.p,hb.sz,hb.k,hb.l,hb.b,hb.sep,⟨hb.shape.area,hb.shape.look,hb.shape.cond,hb.shape.prod⟩⟩,ho,rfl,rfl,hI.pos ho,hI.i⟩ hu;have hsm:=Ma.FZ.zsp {x with wants:=false,pend:=none} v u;have hll:=Ma.FZ.sl_after {x with wants:=false,pend:=none} v u;have hlen1:=kA.len ho;go_upto_region 9 with fail;clear c7 c14 f1 l1 kX1 lb;generalize (w1.setCell (jA X 7) (.bool false)).setCell (jA X 14) .nilFunc=w2 at *;obtain ⟨v0,v1,v2⟩:=zaa kb2;have lb:=(jg kb2);go_wp2_with fail;refine jM HC.out ?_;intro w4 hq;have hE3:=hE.next hfw fun k e=> .inl e;obtain ⟨F4,h4,kA4,kf4,kF4⟩:=FQ.took kA2 hsm (fun _=>by
   unfold Ma.FZ.SL at hll;rw[hsm.i,hsm.pos,hll];exact hlen1) hq
  have hE4:=hE3.next kf4 kF4;have HA:=jH (zew w0 w4 F4 R X (Ma.FZ.after {x with wants:=false,pend:=none} v u) h4 hE4 kA4 hZI);clear kA4;go_wp2_with fail;refine jM HA.out ?_;intro w5 hq5;go_wp2_with fail;refine jX (jI 0) (by simp[results,results22,go_sem]) ⟨rfl,?_⟩;have e9:Ma.FZ.give sortI x u=Ma.FZ.advance sortI (Ma.FZ.after {x with wants:=false,pend:=none} v u):=by unfold Ma.FZ.give;rw[hp]
  rw[e9];exact FQ.next hfw (fun k e=> .inl e) (FQ.next kf4 kF4 hq5)
end Fd
end
open Go.RowKit
namespace Mb
structure CodeAt(C:Nat->Prop)(w:World)(h:MH)(p:Ma.Code):Prop where
 ins:∃g c,h.ins=jP g 0 p.ins.length c/\p.ins.length<=c/\∀i x,p.ins[i]?=some x->InsIn C w g (i*6) x
 con:∃a c,h.con= .slice a p.con.length c/\p.con.length<=c/\∀i v,p.con[i]?=some v->∃g o,a=some (jA g o)/\C g/\w.cell? (jA g (o+i*3))=some (jI v.k)/\w.cell? (jA g (o+i*3+1))=some (jI v.n)/\w.cell? (jA g (o+i*3+2))=some (jS v.t)
theorem CodeAt.kept{C:Nat->Prop}{w w':World}{h h':MH}{p:Ma.Code}(k:CodeAt C w h p)(e1:h'.ins=h.ins)(e2:h'.con=h.con)(hs:w.heap.size<=w'.heap.size)(hk:∀k,C k->w'.heap[k]?=w.heap[k]?):CodeAt C w' h' p:=by
 obtain ⟨⟨g,c,a1,a2,a3⟩,⟨a,c2,b1,b2,b3⟩⟩:=k;refine ⟨⟨g,c,e1.trans a1,a2,fun i x hx=>(a3 i x hx).kept hs hk⟩,⟨a,c2,e2.trans b1,b2,fun i v hv=> ?_⟩⟩;obtain ⟨g,o,q1,q2,q3,q4,q5⟩:=b3 i v hv;exact ⟨g,o,q1,q2,(zag (hk g q2)).trans q3,(zag (hk g q2)).trans q4,(zag (hk g q2)).trans q5⟩
def WalkAt(w:World)(W:Nat->Prop)(h:MH)(k:Option Ma.FZ):Prop:=match k with
 |none=>h.wk= .pointer none
 |some x=>∃X F R hf,h.wk=PT X/\Fd.FoldAt w F R X x hf/\∀i,F i\/R i->W i
structure LikeM(h:MH)(at_:Ma.Sp)(m:Ma.MS):Prop where
 ar:h.ar=at_.r
 ac:h.ac=at_.c
 ip:h.ip=(m.ip:Int)
 wr:h.wr=m.want.r
 wc:h.wc=m.want.c
 wants:h.wants=m.wants
 over:h.over=m.over
 great:h.great=m.great
 n:h.n=(m.n:Int)
structure MachAt(w0 w:World)(G C:Nat->Prop)(B:Nat)(p:Ma.Code)(at_:Ma.Sp)(m:Ma.MS)(h:MH):Prop where
 num:NumW w0
 txt:TxtW w0
 below:Below w0.heap.size w0 w
 cells:At w B h
 like:LikeM h at_ m
 code:CodeAt C w h p
 st:Stk w h.st m.st
 walk:WalkAt w (fun i=>G i/\¬C i/\i≠B/\h.st.ownBlock≠some i) h m.walk
 gB:G B
 gC:∀k,C k->G k
 gS:∀k,h.st.ownBlock=some k->G k
 cB:¬C B
 cS:∀k,h.st.ownBlock=some k->¬C k
 g:∀k,G k->w0.heap.size<=k/\k<w.heap.size
section
variable{w0 w:World}{G C:Nat->Prop}{B:Nat}{p:Ma.Code}{at_:Ma.Sp}{m:Ma.MS}{h:MH}(k:MachAt w0 w G C B p at_ m h)
include w0 w G C B p at_ m h k
theorem MachAt.env:Env w0 w B h:=⟨k.num,k.txt,k.below,(k.g B k.gB).1,fun i hi=>(k.g i (k.gS i hi)).1⟩
theorem MachAt.apart:Apart C w B h:=⟨fun i hi=>(k.g i (k.gC i hi)).2,k.cB,k.cS⟩
end
theorem WalkAt.frame{w w':World}{W G:Nat->Prop}{h:MH}{o:Option Ma.FZ}(k:WalkAt w W h o)(hf:Foot G w w')(hn:∀i,W i->¬G i):WalkAt w' W h o:=by
 cases o with
 |none=>exact k
 |some x=>
  obtain ⟨X,F,R,hf',e,q,r⟩:=k;exact ⟨X,F,R,hf',e,q.frame hf fun i hi=>hn i (r i hi),r⟩
theorem MachAt.frame{w0 w w':World}{G C G2:Nat->Prop}{B:Nat}{p:Ma.Code}{at_:Ma.Sp}{m:Ma.MS}{h:MH}(k:MachAt w0 w G C B p at_ m h)(hf:Foot G2 w w')(hn:∀i,G i->¬G2 i)(h0:∀i,G2 i->w0.heap.size<=i):MachAt w0 w' G C B p at_ m h:=
 ⟨k.num,k.txt,zao k.below hf h0,(hf.block B k.cells.lt (hn B k.gB)).trans k.cells,k.like,k.code.kept rfl rfl hf.size fun i hi=>hf.block i (k.g i (k.gC i hi)).2 (hn i (k.gC i hi)),k.st.kept fun i hi=>hf.block i (k.st.lt hi).1 (hn i (k.gS i hi)),
  k.walk.frame hf fun i hi=>hn i hi.1,k.gB,k.gC,k.gS,k.cB,k.cS,fun i hi=> ⟨(k.g i hi).1,jL (k.g i hi).2 hf.size⟩⟩
theorem MachAt.below2{w0 w w':World}{G C:Nat->Prop}{B:Nat}{p:Ma.Code}{at_:Ma.Sp}{m:Ma.MS}{h:MH}(k:MachAt w0 w G C B p at_ m h)(hb:Below w.heap.size w w'):MachAt w0 w' G C B p at_ m h:=
 k.frame (G2:=fun _=>False) ⟨hb.os,hb.tape,hb.output,hb.size,fun i hi _=>hb.block i hi⟩ (fun _ _ e=>e) fun _ e=>e.elim
def MQ(w0 w:World)(G C:Nat->Prop)(B:Nat)(p:Ma.Code)(at_:Ma.Sp)(m:Ma.MS)(w':World):Prop:=∃G' h',MachAt w0 w' G' C B p at_ m h'/\Foot G w w'/\∀k,G' k->G k\/w.heap.size<=k
def Bp28(h:jp:=by exact ⟨k.like.ar,k.like.ac,k.like.ip,k.like.wr,k.like.wc,k.like.wants,k.like.over,k.like.great,k.like.n⟩):=h
def B145(h:jp:=by simp[results,results6,go_sem]):=h
def C43(h:jp:=by
 clear hb1 hb2 hb3;have a0:=ch k25 0;have a1:=ch k25 1;simp at a0 a1;have la:=(jg k25);have HM2:=jH (HM.out w1 hbw);go_wp2_with fail;refine jM HM2.out ?_;intro w2 hb2;have hbw2:=jN hbw hb2;exact K43):=h
theorem MQ.refl{w0 w:World}{G C:Nat->Prop}{B:Nat}{p:Ma.Code}{at_:Ma.Sp}{m:Ma.MS}{h:MH}(k:MachAt w0 w G C B p at_ m h):MQ w0 w G C B p at_ m w:=⟨G,h,k,Foot.refl _ _,fun _ e=> .inl e⟩
theorem MQ.next{w0 w u w':World}{G G' C:Nat->Prop}{B:Nat}{p:Ma.Code}{at_:Ma.Sp}{m:Ma.MS}(hf:Foot G w u)(hG:∀k,G' k->G k\/w.heap.size<=k)(h:MQ w0 u G' C B p at_ m w'):MQ w0 w G C B p at_ m w':=by
 obtain ⟨G2,h',h1,h2,h3⟩:=h;refine ⟨G2,h',h1,hf.next h2 fun i hi e=> ?_,fun k hk=> ?_⟩
 .rcases hG i e with e|e
  .exact e
  .omega
 .rcases h3 k hk with e|e
  .exact hG k e
  .exact .inr (jR hf.size e)
section
variable{w0 w w':World}{G C:Nat->Prop}{B:Nat}{p:Ma.Code}{at_:Ma.Sp}
include w0 w w' G C B p at_
theorem MachAt.post{m:Ma.MS}{h:MH}{l:List Ma.Arg}(k:MachAt w0 w G C B p at_ m h)(hp:Post B h w l w'):∃sv,MachAt w0 w' (fun i=>G i\/sv.ownBlock=some i) C B p at_ {m with st:=l} {h with st:=sv}/\Foot G w w'/\∀i,(G i\/sv.ownBlock=some i)->G i\/w.heap.size<=i:=by
 obtain ⟨sv,a1,a2,a3,a4⟩:=hp;have hfG:Foot G w w':=a3.mono fun i _ e=>by
  rcases e with rfl|e
  .exact k.gB
  .exact k.gS i e
 have hb:=k.below.size;have hn:∀i,sv.ownBlock=some i->G i\/w.heap.size<=i:=fun i e=>(a4 i e).imp_left (k.gS i);have hsv:∀i,i<w.heap.size->h.st.ownBlock≠some i->sv.ownBlock≠some i:=fun i hi hne e=>by
  rcases a4 i e with q|q
  .exact hne q
  .omega
 refine ⟨sv,⟨k.num,k.txt,zao k.below hfG fun i hi=>(k.g i hi).1,a1,Bp28,k.code.kept rfl rfl hfG.size fun i hi=>a3.block i (k.g i (k.gC i hi)).2 ?_,a2,?_,.inl k.gB,fun i hi=> .inl (k.gC i hi),fun i e=> .inr e,k.cB,fun i e hi=> ?_,fun i hi=> ?_⟩,hfG,fun i hi=>hi.elim .inl (hn i)⟩
 .rintro (rfl|e)
  .exact k.cB hi
  .exact k.cS i e hi
 .have hw:=k.walk;have hwk:WalkAt w' (fun i=>(G i\/sv.ownBlock=some i)/\¬C i/\i≠B/\sv.ownBlock≠some i) {h with st:=sv} m.walk:=by
   cases hm:m.walk with
   |none=>rw[hm] at hw;exact hw
   |some x=>
    rw[hm] at hw;obtain ⟨X,F,R,hf',e,q,r⟩:=hw;exact ⟨X,F,R,hf',e,q.frame a3 fun i hi e=>by
     rcases e with e|e
     .exact (r i hi).2.2.1 e
     .exact (r i hi).2.2.2 e,fun i hi=> ⟨.inl (r i hi).1,(r i hi).2.1,(r i hi).2.2.1,hsv i (k.g i (r i hi).1).2 (r i hi).2.2.2⟩⟩
  exact hwk
 .rcases a4 i e with q|q
  .exact k.cS i q hi
  .have:=(k.g i (k.gC i hi)).2;omega
 .rcases hi with hi|hi
  .exact ⟨(k.g i hi).1,jL (k.g i hi).2 hfG.size⟩
  .refine ⟨?_,(a2.lt hi).1⟩;rcases hn i hi with q|q
   .exact (k.g i q).1
   .omega
theorem MachAt.self{m m':Ma.MS}{h h':MH}(k:MachAt w0 w G C B p at_ m h)(hB:At w' B h')(hf:Foot (fun i=>i=B) w w')(hL:LikeM h' at_ m')(e1:h'.ins=h.ins)(e2:h'.con=h.con)(e3:h'.st=h.st)(es:m'.st=m.st)(hw:WalkAt w (fun i=>G i/\¬C i/\i≠B/\h.st.ownBlock≠some i) h' m'.walk):MachAt w0 w' G C B p at_ m' h':=by
 have hne:∀i,h.st.ownBlock=some i->i≠B:=fun i e=>k.cells.ne k.st e;refine ⟨k.num,k.txt,zao k.below hf fun i e=>by rw[e];exact (k.g B k.gB).1,hB,hL,k.code.kept e1 e2 hf.size fun i hi=>hf.block i (k.g i (k.gC i hi)).2 fun e=>k.cB (e▸hi),?_,?_,k.gB,k.gC,by rw[e3];exact k.gS,k.cB,by rw[e3];exact k.cS,fun i hi=> ⟨(k.g i hi).1,jL (k.g i hi).2 hf.size⟩⟩
 .rw[e3,es];exact k.st.kept fun i hi=>hf.block i (k.st.lt hi).1 (hne i hi)
 .rw[e3];exact hw.frame hf fun i hi e=>hi.2.2.1 e
end
theorem wp_mono{P:Program}{c:Code}{Q Q':Exit->Act->World->Prop}{a:Act}{w:World}(h:c.wp P Q a w)(hQ:∀e a w,Q e a w->Q' e a w):c.wp P Q' a w:=fun b k cs=>by
 obtain ⟨e,a',w',hq,ha⟩:=h b k cs;exact ⟨e,a',w',hQ _ _ _ hq,ha⟩
theorem zi0{P:Program}{R:Code}{Q:Exit->Act->World->Prop}{a:Act}{w:World}(J:Act->World->Prop)(μ:Act->World->Nat)(h0:J a w)(pass:∀a w,J a w->R.wp P (Exit.jump 0 (fun a' w'=>J a' w'/\μ a' w'<μ a w) Q) a w):(Code.scope ((Code.label 0).seq R)).wp P Q a w:=by
 refine wp_scope_jumps 0 J μ (rest:=Code.skip.seq R) rfl ?_ (fun a w hJ=> ?_)
 .apply wp_seq;apply wp_label;refine wp_mono (pass a w h0) fun e a' w' h=> ?_;cases e with
  |goto l=>exact ⟨h.1,h.2.1⟩
  |_=>exact h
 .apply wp_seq;apply wp_skip;exact pass a w hJ
def Frm(B:Nat)(a:Act):Prop:=∃f:Nat->Value,a={tmps:=#[PT B,f 1,f 2,f 3,f 4,f 5,f 6,f 7,f 8,f 9,f 10,f 11,f 12,f 13,f 14,f 15,f 16,f 17,f 18,f 19,f 20,f 21,f 22,f 23,f 24,f 25,f 26,f 27,f 28,f 29,f 30,f 31,f 32,f 33,f 34,f 35,f 36,f 37,f 38,f 39,f 40,f 41,f 42,f 43,f 44,f 45,f 46,f 47,f 48,f 49,f 50,f 51,f 52,f 53,f 54,f 55,f 56,f 57,f 58,f 59,f 60,f 61,f 62,f 63,f 64,f 65,f 66,f 67,f 68,f 69,f 70,f 71,f 72,f 73,f 74,f 75,f 76,f 77,f 78,f 79,f 80,f 81,f 82,f 83,f 84,f 85,f 86,f 87,f 88,f 89,f 90,f 91,f 92,f 93,f 94,f 95,f 96,f 97,f 98,f 99,f 100,f 101,f 102,f 103,f 104,f 105,f 106,f 107,f 108,f 109,f 110,f 111,f 112,f 113,f 114,f 115,f 116,f 117,f 118,f 119,f 120,f 121,f 122,f 123,f 124,f 125,f 126,f 127,f 128,f 129,f 130,f 131,f 132,f 133,f 134,f 135,f 136,f 137,f 138,f 139,f 140,f 141,f 142,f 143,f 144,f 145,f 146,f 147,f 148,f 149,f 150,f 151,f 152,f 153,f 154,f 155,f 156,f 157,f 158,f 159,f 160,f 161,f 162,f 163,f 164,f 165,f 166,f 167,f 168,f 169,f 170,f 171,f 172,f 173,f 174,f 175,f 176,f 177,f 178,f 179,f 180,f 181,f 182,f 183,f 184,f 185,f 186,f 187,f 188,f 189,f 190,f 191,f 192,f 193,f 194,f 195,f 196,f 197,f 198],defers:=[]}
theorem frm_mk(B:Nat)(u1 u2 u3 u4 u5 u6 u7 u8 u9 u10 u11 u12 u13 u14 u15 u16 u17 u18 u19 u20 u21 u22 u23 u24 u25 u26 u27 u28 u29 u30 u31 u32 u33 u34 u35 u36 u37 u38 u39 u40 u41 u42 u43 u44 u45 u46 u47 u48 u49 u50 u51 u52 u53 u54 u55 u56 u57 u58 u59 u60 u61 u62 u63 u64 u65 u66 u67 u68 u69 u70 u71 u72 u73 u74 u75 u76 u77 u78 u79 u80 u81 u82 u83 u84 u85 u86 u87 u88 u89 u90 u91 u92 u93 u94 u95 u96 u97 u98 u99 u100 u101 u102 u103 u104 u105 u106 u107 u108 u109 u110 u111 u112 u113 u114 u115 u116 u117 u118 u119 u120 u121 u122 u123 u124 u125 u126 u127 u128 u129 u130 u131 u132 u133 u134 u135 u136 u137 u138 u139 u140 u141 u142 u143 u144 u145 u146 u147 u148 u149 u150 u151 u152 u153 u154 u155 u156 u157 u158 u159 u160 u161 u162 u163 u164 u165 u166 u167 u168 u169 u170 u171 u172 u173 u174 u175 u176 u177 u178 u179 u180 u181 u182 u183 u184 u185 u186 u187 u188 u189 u190 u191 u192 u193 u194 u195 u196 u197 u198:Value):Frm B {tmps:=#[PT B,u1,u2,u3,u4,u5,u6,u7,u8,u9,u10,u11,u12,u13,u14,u15,u16,u17,u18,u19,u20,u21,u22,u23,u24,u25,u26,u27,u28,u29,u30,u31,u32,u33,u34,u35,u36,u37,u38,u39,u40,u41,u42,u43,u44,u45,u46,u47,u48,u49,u50,u51,u52,u53,u54,u55,u56,u57,u58,u59,u60,u61,u62,u63,u64,u65,u66,u67,u68,u69,u70,u71,u72,u73,u74,u75,u76,u77,u78,u79,u80,u81,u82,u83,u84,u85,u86,u87,u88,u89,u90,u91,u92,u93,u94,u95,u96,u97,u98,u99,u100,u101,u102,u103,u104,u105,u106,u107,u108,u109,u110,u111,u112,u113,u114,u115,u116,u117,u118,u119,u120,u121,u122,u123,u124,u125,u126,u127,u128,u129,u130,u131,u132,u133,u134,u135,u136,u137,u138,u139,u140,u141,u142,u143,u144,u145,u146,u147,u148,u149,u150,u151,u152,u153,u154,u155,u156,u157,u158,u159,u160,u161,u162,u163,u164,u165,u166,u167,u168,u169,u170,u171,u172,u173,u174,u175,u176,u177,u178,u179,u180,u181,u182,u183,u184,u185,u186,u187,u188,u189,u190,u191,u192,u193,u194,u195,u196,u197,u198],defers:=[]}:=⟨fun n=> #[PT B,u1,u2,u3,u4,u5,u6,u7,u8,u9,u10,u11,u12,u13,u14,u15,u16,u17,u18,u19,u20,u21,u22,u23,u24,u25,u26,u27,u28,u29,u30,u31,u32,u33,u34,u35,u36,u37,u38,u39,u40,u41,u42,u43,u44,u45,u46,u47,u48,u49,u50,u51,u52,u53,u54,u55,u56,u57,u58,u59,u60,u61,u62,u63,u64,u65,u66,u67,u68,u69,u70,u71,u72,u73,u74,u75,u76,u77,u78,u79,u80,u81,u82,u83,u84,u85,u86,u87,u88,u89,u90,u91,u92,u93,u94,u95,u96,u97,u98,u99,u100,u101,u102,u103,u104,u105,u106,u107,u108,u109,u110,u111,u112,u113,u114,u115,u116,u117,u118,u119,u120,u121,u122,u123,u124,u125,u126,u127,u128,u129,u130,u131,u132,u133,u134,u135,u136,u137,u138,u139,u140,u141,u142,u143,u144,u145,u146,u147,u148,u149,u150,u151,u152,u153,u154,u155,u156,u157,u158,u159,u160,u161,u162,u163,u164,u165,u166,u167,u168,u169,u170,u171,u172,u173,u174,u175,u176,u177,u178,u179,u180,u181,u182,u183,u184,u185,u186,u187,u188,u189,u190,u191,u192,u193,u194,u195,u196,u197,u198].getD n undef,by kernel_rfl⟩
def JN(w0 w:World)(G C:Nat->Prop)(B:Nat)(p:Ma.Code)(at_:Ma.Sp)(T:Nat->Ma.St)(m:Ma.MS)(a:Act)(w':World):Prop:=Frm B a/\∃(j:Nat) (q:Ma.MS),Hid (Ma.MS.onN Fd.sortI Ma.readArea p at_ j m=q/\j+m.ip<=q.ip/\q.stop=false/\Ma.MS.Inv p T q)/\MQ w0 w G C B p at_ q w'
def mu(B N:Nat)(w:World):Nat:=N-(intOf ((w.cell? (jA B 4)).getD .nilFunc)).toNat
theorem mu_eq{w0 w:World}{G C:Nat->Prop}{B N:Nat}{p:Ma.Code}{at_:Ma.Sp}{m:Ma.MS}{h:MH}(k:MachAt w0 w G C B p at_ m h):mu B N w=N-m.ip:=by
 unfold mu;rw[k.cells.cells.c4,k.like.ip];simp[intOf]
theorem zku{sort:List Int->List Int}{read:List UInt8->Ma.Ar×Int}{p:Ma.Code}{at_:Ma.Sp}:∀{n:Nat} {x y z:Ma.MS},Ma.MS.onN sort read p at_ n x=y->Ma.MS.on1 sort read p at_ y=z->Ma.MS.onN sort read p at_ (n+1) x=z
 |0,x,y,z,h,k=>by subst h;exact k
 |n+1,x,y,z,h,k=>by
  unfold Ma.MS.onN at h ⊢;exact zku (n:=n) h k
structure AtIns(p:Ma.Code)(T:Nat->Ma.St)(m:Ma.MS)(x:Ma.Ins):Prop where
 over:m.over=false
 wants:m.wants=false
 great:m.great=false
 op:1<=x.op/\x.op<=20
 good:Ma.goodI p.con.length x=true
 form:Ma.zb2 p.con.length x m.ip p.ins.length=true
 step:∃l,Ma.stepS p.con x m.ip (T m.ip)=some l
 go:x.op≠20->Ma.MS.Go p T m
 h:m.st.length<=1024
def M132(h:jp:=by
 obtain ⟨he,_⟩:=Ma.zan hl;obtain ⟨_,t2,_,t4⟩:=Ma.MS.top1 hG.st he;exact ⟨t4,Ma.MS.zc7 t2⟩):=h
def B43(h:jp:=by simp[results,results21,go_sem]):=h
def B121(h:jp:=by unfold Ma.MS.asks;rw[hn];rfl):=h
def B161(h:jp:=by show (q.over||true)=true;simp):=h
def B170(h:jp:=by rw[kW.like.n];rw[beq_eq_false_iff_ne] at hn ⊢;omega):=h
def B182(h:jp:=by have:=(k3.below2 hu).st;rw[hsp] at this;exact this):=h
def Bp1(h:jp:=by exact frm_mk ..):=h
def Bp44(h:jp:=by exact ⟨k7.like.ar,k7.like.ac,k7.like.ip,kA2.core.like.nr,kA2.core.like.nc,rfl,k7.like.over,k7.like.great,k7.like.n⟩):=h
def Bp46(h:jp:=by exact ⟨k9.like.ar,k9.like.ac,k9.like.ip,k9.like.wr,k9.like.wc,k9.like.wants,k9.like.over,k9.like.great,k9.like.n⟩):=h
def Bp50(h:jp:=by exact Foot.set (Foot.refl _ _) kW.gB):=h
def Bp52(h:jp:=by exact ⟨k4.like.ar,k4.like.ac,rfl,k4.like.wr,k4.like.wc,k4.like.wants,k4.like.over,k4.like.great,k4.like.n⟩):=h
def Bp53(h:jp:=by exact Foot.set (Foot.refl _ _) k.gB):=h
def Bp60(h:jp:=by exact k3.cells.below hu):=h
def Bp61(h:jp:=by exact ⟨k7.like.ar,k7.like.ac,k7.like.ip,k7.like.wr,k7.like.wc,k7.like.wants,rfl,rfl,k7.like.n⟩):=h
def M75(h:jp:=by
 clear on_op;go_wp2_with fail;refine (HTk.out _ hb4).mono ?_;rintro e w5 ⟨rfl,hp5,-⟩;obtain ⟨sv,a1,a2,a3,a4⟩:=hp5;have HFt:=jH (zk6 B {h' with st:=sv} z 4 w5 a1 a2 B1);go_wp2_with fail;refine jM HFt.out ?_;intro w6 hp6;have hp7:=Post.then a3 a4 hp6;obtain ⟨sv2,b1,b2,b3,b4⟩:=hp6;have d4:=b1.cells.c4;have df:=b1.cells.f;have dl:=b1.lt;go_wp2_with fail;go_step3;exact And.intro rfl (NXP.out _ (q.ip+1) _ hp7 EO.out _ Bp1)):=h
def M122(h:jp:=by
 exact And.intro rfl (NXM.out _ _ _ EO2.out hqs ⟨_,_,k12,hfW.next ((hf10.trans f11).trans Bp50) (fun i hi e=>(gW i e).elim id fun e=>by omega),fun i hi=>(g11 i hi).elim (gW i) fun e=> .inr (jR (jR hfW.size hf10.size) e)⟩ Bp1)):=h
def M136(h:jp:=by
 intro w4 hp;have hp2:=hp;obtain ⟨sv,a1,a2,a3,a4⟩:=hp2;have d4:=a1.cells.c4;have df:=a1.cells.f;have dl:=a1.lt;go_wp2_with fail;go_step3;exact And.intro rfl (NXP.out _ (q.ip+1) _ hp EO.out _ Bp1)):=h
def Bp81(h:jp:=by exact Foot.set (Foot.refl _ _) kM.gB):=h
def B140(h:jp:=by simp[results,results10,go_sem]):=h
theorem at_ins{p:Ma.Code}{T:Nat->Ma.St}{m:Ma.MS}{x:Ma.Ins}(hT:Ma.Typed p T)(h:Ma.MS.Inv p T m)(hs:m.stop=false)(hx:p.ins[m.ip]?=some x):AtIns p T m x:=by
 unfold Ma.MS.stop at hs;rw[Bool.or_eq_false_iff] at hs;obtain ⟨ho,hw⟩:=hs;have hgr:m.great=false:=by
  exact M166
 obtain ⟨l,hl,_⟩:=hT.step m.ip x hx;have hform:=hT.good m.ip x hx;obtain ⟨o1,o2,hgood⟩:=Ma.zes hform;refine ⟨ho,hw,hgr,⟨o1,o2⟩,hgood,hform,⟨l,hl⟩,fun h20=> ?_,h.h⟩;exact M160
theorem MachAt.walkNew{w0 w:World}{G C:Nat->Prop}{B lo X:Nat}{p:Ma.Code}{at_:Ma.Sp}{m:Ma.MS}{h:MH}{fs:Ma.FZ}(k:MachAt w0 w G C B p at_ m h)(hN:Fd.FNew lo fs X w)(hlo:∀i,G i->i<lo)(h0:w0.heap.size<=lo):
 ∃G2,MachAt w0 (w.setCell (jA B 6) (PT X)) G2 C B p at_ {m with walk:=some fs} {h with wk:=PT X}/\(∀i,G i->G2 i)/\∀i,G2 i->G i\/lo<=i:=by
 obtain ⟨F,R,hf,kA,hlo2⟩:=hN;have hlt:∀i,F i\/R i->i<w.heap.size:=fun i hi=>hi.elim (kA.core.lt i) (kA.rlt i);have kG:MachAt w0 w (fun i=>G i\/F i\/R i) C B p at_ m h:=⟨k.num,k.txt,k.below,k.cells,k.like,k.code,k.st,(by
  have hw:=k.walk;cases hm:m.walk with
  |none=>rw[hm] at hw;exact hw
  |some y=>
   rw[hm] at hw;obtain ⟨X,F,R,hf,e,q,r⟩:=hw;exact ⟨X,F,R,hf,e,q,fun i hi=> ⟨.inl (r i hi).1,(r i hi).2⟩⟩),.inl k.gB,fun i hi=> .inl (k.gC i hi),fun i hi=> .inl (k.gS i hi),k.cB,k.cS,fun i hi=>by
   rcases hi with hi|hi
   .exact k.g i hi
   .exact ⟨jR h0 (hlo2 i hi),hlt i hi⟩⟩
 refine ⟨_,kG.self (m':={m with walk:=some fs}) (h':={h with wk:=PT X}) (zad k.cells 6 _) Bp10 Bp28 rfl rfl rfl rfl ?_,fun i e=> .inl e,fun i e=>e.imp_right (hlo2 i)⟩;refine ⟨X,F,R,hf,rfl,kA,fun i hi=> ⟨.inr hi,fun e=> ?_,fun e=> ?_,fun e=> ?_⟩⟩
 .have:=hlo i (k.gC i e);have:=hlo2 i hi;omega
 .have:=hlo i (e▸k.gB);have:=hlo2 i hi;omega
 .have:=hlo i (k.gS i e);have:=hlo2 i hi;omega
theorem zl3(q:Ma.MS)(x:Ma.Ins)(t:Nat):(q.jump x t).1={q with st:=(q.jump x t).1.st}:=by
 unfold Ma.MS.jump;split
 .cases Ma.isErr q.top <;> rfl
 .split
  .generalize Val.truth q.top.v=tv;simp only;cases (tv.2 !=0)
   .cases tv.1 <;> rfl
   .rfl
  .split
   .cases (q.top.v.k !=4||x.b==6&&q.top.v.n !=6) <;> rfl
   .split
    .generalize Val.number q.top.v=tv;simp only;cases (tv.2 !=0)
     .cases (decide (tv.1<1)||decide ((x.T.length:Int)<tv.1)) <;> rfl
     .rfl
    .split
     .cases (Val.cmpG (Val.good (q.cut 1).top.v) (Val.good q.top.v) !=0) <;> rfl
     .rfl
theorem zjm(read:List UInt8->Ma.Ar×Int)(at_:Ma.Sp)(q:Ma.MS)(x:Ma.Ins):q.plain read at_ x={q with st:=(q.plain read at_ x).st}:=by
 unfold Ma.MS.plain
 repeat' split
 all_goals first|rfl|(cases Ma.isErr q.top <;> rfl)
theorem zvm{p:Ma.Code}{T:Nat->Ma.St}{q:Ma.MS}{x:Ma.Ins}(h:AtIns p T q x)(hop:7<=x.op/\x.op<=11\/x.op=13)(hTl:x.T.length<=1000000):JumpOK q x:=by
 have hG:=h.go B1;obtain ⟨l,hl⟩:=h.step;have hf:=h.form;unfold Ma.zb2 at hf;have hj:∀tg∈Ma.jumps x,0<=tg:=fun tg ht=>by
  cases hu:Ma.zll x
  .rw[hu] at hf;simp only[cond_false,Bool.and_eq_true,List.all_eq_true] at hf;have:=hf.1 tg ht;simp at this;omega
  .rw[hu] at hf;cases hf
 have ja:0<=x.a:=hj x.a (by unfold Ma.jumps;rcases hop with hop|hop <;> (repeat' split) <;> simp <;> omega);have jb:x.op=8->0<=x.b:=fun e=>hj x.b (by unfold Ma.jumps;rw[if_neg B1,if_pos e];simp);have jT:∀t∈x.T,0<=t:=fun t ht=>by
  by_cases e:x.op=10
  .exact hj t (by unfold Ma.jumps;rw[if_neg B1,if_neg B1,if_pos e];simp[ht])
  .exfalso;cases hu:Ma.zll x
   .unfold Ma.zll at hu;rw[Bool.or_eq_false_iff] at hu;have h5:=hu.2;rw[show (x.op==10)=false by rw[beq_eq_false_iff_ne];exact e] at h5;have h6:¬0<x.T.length:=by intro h7;rw[decide_eq_true h7] at h5;cases h5
    have:=List.length_pos_of_mem ht;omega
   .rw[hu] at hf;cases hf
 have top:x.op=8\/x.op=9\/x.op=10->1<=q.st.length/\Ma.okV q.top.v:=fun e=>by
  rcases e with e|e|e
  .rw[Ma.zke e] at hl;exact M132
  .rw[Ma.zkd e] at hl;exact M132
  .rw[Ma.zhb e] at hl;exact M132
 have e7:x.op=7->1<=q.st.length/\x.b+1<=q.st.length:=fun e=>by
  rw[Ma.zkf e] at hl;obtain ⟨he,_⟩:=Ma.za1 hl;rw[Bool.or_eq_false_iff] at he;have a1:=of_decide_eq_false he.1;have a2:=of_decide_eq_false he.2;have:=Ma.zb0 hG.st;omega
 refine ⟨h.h,fun e=> ?_,fun e=> ?_,fun e=> ⟨by have:=h.good;simpa[Ma.goodI,e] using this,(e7 e).2⟩,ja,jb,jT,hTl,fun e=>(top (.inr (.inr e))).2.vb⟩
 .by_cases e':x.op=7
  .exact (e7 e').1
  .exact (top B1).1
 .rw[Ma.zha e] at hl;obtain ⟨he,_⟩:=Ma.zan hl;obtain ⟨t1,_⟩:=Ma.zb7 hG.st he;exact t1
theorem zuo(w0 w:World)(G C:Nat->Prop)(B:Nat)(p:Ma.Code)(at_:Ma.Sp)(T:Nat->Ma.St)(m:Ma.MS)(h:MH)(kM:MachAt w0 w G C B p at_ m h)(hCx:Ma.MS.Ctx Fd.sortI Ma.readArea)(hT:Ma.Typed p T)(hcon:∀v∈p.con,Ma.okV v)(hat:Ma.mayS at_=true)(hTl:∀x∈p.ins,x.T.length<=1000000)(hI:Ma.MS.Inv p T m)(hs:m.stop=false):
 Calls prog 21 #[PT B] w fun e w'=>e=jr jT/\MQ w0 w G C B p at_ (Ma.MS.on Fd.sortI Ma.readArea p at_ m) w':=by
 have HON:=jH fun (j:Nat) (q:Ma.MS) (h1:Ma.MS.onN Fd.sortI Ma.readArea p at_ j m=q) (h2:q.stop=true) (h3:j<=p.ins.length+1)=>Ma.MS.on_from j h1 h2 h3;generalize Ma.MS.on Fd.sortI Ma.readArea p at_ m=fin at HON ⊢;go_enter func21,ntmps21;go_wp2_with fail;refine zi0 (JN w0 w G C B p at_ T m) (fun _ w'=>mu B p.ins.length w') ⟨Bp1,0,m,jH ⟨rfl,by omega,hs,hI⟩,MQ.refl kM⟩ ?_;rintro a' wr ⟨⟨fr,rfl⟩,j,q,HQ,hq⟩;obtain ⟨G',h',k,kf,kG⟩:=hq;obtain ⟨q1,q2,q3,qI⟩:=HQ.out;have RT:∀q' w',Ma.MS.on1 Fd.sortI Ma.readArea p at_ q=q'->q'.stop=true->MQ w0 wr G' C B p at_ q' w'->MQ w0 w G C B p at_ fin w':=fun q' w' e1 e2 e3=>by
  rw[HON.out (j+1) q' (zku q1 e1) e2 (by have:=qI.ip;omega)];exact MQ.next kf kG e3
 have NX:∀q' w' (a':Act),Ma.MS.on1 Fd.sortI Ma.readArea p at_ q=q'->q'.stop=false->MQ w0 wr G' C B p at_ q' w'->Frm B a'->JN w0 w G C B p at_ T m a' w'/\mu B p.ins.length w'<mu B p.ins.length wr:=fun q' w' a' e1 e2 e3 e4=>by
  have ok:=Ma.MS.on1_ok hCx hT hcon hat qI q3;rw[e1] at ok;have hip:=ok.2 e2;refine ⟨⟨e4,j+1,q',jH ⟨zku q1 e1,by omega,e2,ok.1⟩,MQ.next kf kG e3⟩,?_⟩;obtain ⟨G2,h2,k2,_,_⟩:=e3;rw[mu_eq k,mu_eq k2];have:=ok.1.ip;omega
 have RT:=jH RT;have NX:=jH NX;have ho:q.over=false:=by unfold Ma.MS.stop at q3;rw[Bool.or_eq_false_iff] at q3;exact q3.1
 have hw:q.wants=false:=by unfold Ma.MS.stop at q3;rw[Bool.or_eq_false_iff] at q3;exact q3.2
 have c10:=k.cells.cells.c10;have c9:=k.cells.cells.c9;rw[k.like.over,ho] at c10;rw[k.like.wants,hw] at c9;have l0:=k.cells.lt;obtain ⟨⟨g,c,e0,hcap,hins⟩,hcn⟩:=k.code;have c0:=k.cells.cells.c0;rw[e0] at c0;have c4:=k.cells.cells.c4;rw[k.like.ip] at c4;have ff:=k.cells.cells.f;clear q1 q2;cases hx:p.ins[q.ip]? with
 |none=>
  have hge:p.ins.length<=q.ip:=List.getElem?_eq_none_iff.1 hx;have te:((q.ip:Int)==(p.ins.length:Int))=true:=by rw[beq_iff_eq];have:=qI.ip;omega
  have e1:Ma.MS.on1 Fd.sortI Ma.readArea p at_ q={q with over:=true}:=by unfold Ma.MS.on1;rw[ho,hw,hx];rfl
  have RT1:=jH fun w'=>RT.out _ w' e1 rfl;clear hge e1 RT NX;go_wp2_with fail;go_quiet (fail);have hbq:Below wr.heap.size wr (wr.drewN nq):=⟨rfl,rfl,rfl,jE,fun _ _=>rfl⟩;have k2:=k.below2 hbq;have hwk:=k2.walk;clear c0 c4 c9 c10 ff;generalize wr.drewN nq=w2 at *;have c10:=k2.cells.cells.c10;have ff:=k2.cells.cells.f;have l2:=k2.cells.lt;go_wp2_with fail;simp only[Exit.jump];refine jX jT B43 ⟨rfl,RT1.out _ ⟨G',_,k2.self (m':={q with over:=true}) (h':={h' with over:=true}) (zad k2.cells 10 _) Bp10 ⟨k2.like.ar,k2.like.ac,k2.like.ip,k2.like.wr,k2.like.wc,k2.like.wants,rfl,k2.like.great,k2.like.n⟩ rfl rfl rfl rfl hwk,(Foot.of_below hbq).trans Bp53,fun i e=> .inl e⟩⟩
 |some x=>
  have hlt:q.ip<p.ins.length:=(jl hx);have te:((q.ip:Int)==(p.ins.length:Int))=false:=B39;have AI:=jH (at_ins hT qI q3 hx);have hn1:=hT.n1;have hw1:IntKind.i64.wrap ((q.ip:Int)+1)=((q.ip+1:Nat):Int):=Fd.zsr B1;have HW1:=jH hw1;go_wp2_with fail;go_quiet (fail);have hbq:Below wr.heap.size wr (wr.drewN nq):=⟨rfl,rfl,rfl,jE,fun _ _=>rfl⟩;have k2:=k.below2 hbq;clear c0 c4 c9 c10 ff l0;generalize wr.drewN nq=w2 at *;have c0:=k2.cells.cells.c0;rw[e0] at c0;have c4:=k2.cells.cells.c4;rw[k.like.ip] at c4;have l2:=k2.cells.lt;go_wp2_with fail;go_quiet (fail);have hbq2:Below w2.heap.size w2 (w2.drewN nq):=⟨rfl,rfl,rfl,jE,fun _ _=>rfl⟩;have k3:=k2.below2 hbq2;have hb3:=jN hbq hbq2;clear c0 c4 l2 k2;generalize w2.drewN nq=w3 at *;obtain ⟨⟨g',cc,e0',_,hins3⟩,hcn3⟩:=k3.code;rw[e0] at e0';cases e0';have hxI:=hins3 q.ip x hx;have hf3:Foot G' wr w3:=Foot.of_below hb3;have c4:=k3.cells.cells.c4;rw[k.like.ip] at c4;have l3:=k3.cells.lt;have ff:=k3.cells.cells.f;have hwk3:=k3.walk;have hs3:Stk w3 h'.st q.st:=k3.st;have hlen:q.st.length<=1024:=AI.out.h;have NXP:∀(l:List Ma.Arg) (tg:Nat) (w4:World),Post B h' w3 l w4->Ma.MS.on1 Fd.sortI Ma.readArea p at_ q={q with st:=l,ip:=tg}->∀a',Frm B a'->JN w0 w G C B p at_ T m a' (w4.setCell (jA B 4) (jI (tg:Int)))/\mu B p.ins.length (w4.setCell (jA B 4) (jI (tg:Int)))<mu B p.ins.length wr:=fun l tg w4 hp e1 a' ha=>by
   refine NX.out _ _ a' e1 q3 ?_ ha;obtain ⟨sv,k4,f4,g4⟩:=k3.post hp;exact MQ.next hf3 (fun _ e=> .inl e) ⟨_,_,k4.self (m':={q with st:=l,ip:=tg}) (h':={h' with st:=sv,ip:=(tg:Int)}) (zad k4.cells 4 _) Bp10 Bp52 rfl rfl rfl rfl k4.walk,f4.trans Bp53,g4⟩
  have NXP:=jH NXP;have RTM:=jH fun q' w4 (e1:Ma.MS.on1 Fd.sortI Ma.readArea p at_ q=q') (e2:q'.stop=true) (e3:MQ w0 w3 G' C B p at_ q' w4)=>RT.out q' w4 e1 e2 (MQ.next hf3 (fun _ e=> .inl e) e3);have NXM:=jH fun q' w4 a' (e1:Ma.MS.on1 Fd.sortI Ma.readArea p at_ q=q') (e2:q'.stop=false) (e3:MQ w0 w3 G' C B p at_ q' w4) ha=>NX.out q' w4 a' e1 e2 (MQ.next hf3 (fun _ e=> .inl e) e3) ha;have on_op:Ma.MS.on1 Fd.sortI Ma.readArea p at_ q=(if x.op=1 then {q.lay (Ma.vArg (p.con.getD x.a.toNat Cal.zero)) with ip:=q.ip+1}
   else if x.op=2 then q.asks ⟨x.a,x.b⟩
   else if x.op=16 then cond (q.top.isA&&q.top.a.t==q.top.a.b&&q.top.a.l==q.top.a.r) ((q.cut 1).asks ⟨q.top.a.t,q.top.a.l⟩) (cond q.top.isA {(q.cut 1).lay (Ma.MS.zaz 4) with ip:=q.ip+1} {q with ip:=q.ip+1})
   else if x.op=20 then
    (let m':=match q.walk with
     |some _=>q
     |none=>{q.cut x.b.toNat with walk:=some (Ma.FZ.start Fd.sortI x.a (q.last x.b.toNat))}
     match m'.walk with
      |none=>m'
      |some w=>cond w.wants (m'.asks w.next) {({m' with walk:=none}.lay (Ma.vArg w.fin)) with ip:=q.ip+1})
   else if 7<=x.op/\x.op<=11\/x.op=13 then {(q.jump x (q.ip+1)).1 with ip:=(q.jump x (q.ip+1)).2}
   else {q.plain Ma.readArea at_ x with ip:=q.ip+1}):=by unfold Ma.MS.on1;rw[ho,hw,hx];rfl
  by_cases h1:x.op=1
  .obtain ⟨_,TT,⟨il,i0,i1,i2,i3,i4,i5⟩,_⟩:=hxI;rw[h1] at i0;rw[if_pos h1] at on_op;have hg1:Ma.within x.a 0 ((p.con.length:Int)-1)=true:=by simpa[Ma.goodI,h1] using AI.out.good
   obtain ⟨n,hn⟩:∃n:Nat,x.a=(n:Int):=Int.eq_ofNat_of_zero_le (by unfold Ma.within at hg1;simp at hg1;omega);have hnl:n<p.con.length:=by unfold Ma.within at hg1;simp at hg1;omega
   obtain ⟨a,cc,ec,hcc,hv⟩:=hcn3;obtain ⟨gc,oc,rfl,_,v0,v1,v2⟩:=hv n _ (List.getElem?_eq_getElem hnl);have c1:=k3.cells.cells.c1;rw[ec] at c1;rw[hn] at i1;have hvD:p.con.getD x.a.toNat Cal.zero=p.con[n]:=by rw[hn,List.getD_eq_getElem?_getD,Int.toNat_natCast,List.getElem?_eq_getElem hnl];rfl
   rw[hvD] at on_op;have HV:=jH fun (u:World) (hu:Below w3.heap.size w3 u)=>(zeh B h' q.st p.con[n] u Bp60 ((k3.below2 hu).st) B1).mono fun e w' hh=>And.intro hh.1 (Post.pre hu hh.2);have EO:=jH on_op;clear on_op hvD hg1;generalize p.con[n]=cv at *;go_upto_region 8 with fail;go_still_tail 12,(by kernel_rfl);change wpList _ _ _ _ _ w3.drew;have hbd:Below w3.heap.size w3 w3.drew:=jB.drew;go_wp2_with fail;refine jM (HV.out _ hbd) ?_;exact M136
  rw[if_neg h1] at on_op
  by_cases h2:x.op=2
  .obtain ⟨_,TT,⟨il,i0,i1,i2,i3,i4,i5⟩,_⟩:=hxI;rw[h2] at i0;rw[if_pos h2] at on_op;have hgr:=AI.out.great;cases hn:(q.n==65536)
   .have ea:q.asks ⟨x.a,x.b⟩={q with want:=⟨x.a,x.b⟩,wants:=true}:=by unfold Ma.MS.asks;rw[hn];rfl
    have hA:=jH fun (u:World) (hu:Below w3.heap.size w3 u)=>zlb B h' x.a x.b u Bp60 (by rw[k3.like.n];rw[beq_eq_false_iff_ne] at hn ⊢;omega);have EO:=jH (on_op.trans ea);clear on_op ea;go_upto_region 10 with fail;go_still_tail 10,(by kernel_rfl);change wpList _ _ _ _ _ w3.drew;have hbd:Below w3.heap.size w3 w3.drew:=jB.drew;go_wp2_with fail;refine (hA.out _ hbd).mono ?_;rintro e w4 ⟨rfl,a1,a2⟩;have hf4:Foot (fun i=>i=B) w3 w4:=(Foot.of_below hbd).trans (Foot.of_grown a2 fun i e=>by cases e;rfl);have k4:=k3.self (m':={q with want:=⟨x.a,x.b⟩,wants:=true}) a1 hf4 ⟨k3.like.ar,k3.like.ac,k3.like.ip,rfl,rfl,rfl,k3.like.over,k3.like.great,k3.like.n⟩ rfl rfl rfl rfl hwk3;go_wp2_with fail;simp only[Exit.jump];exact jX jT B43 ⟨rfl,RTM.out _ _ EO.out B161 ⟨G',_,k4,hf4.mono fun i _ e=>by rw[e];exact k.gB,fun i e=> .inl e⟩⟩
   .have ea:q.asks ⟨x.a,x.b⟩={q with over:=true,great:=true}:=by unfold Ma.MS.asks;rw[hn];rfl
    have hA:=jH fun (u:World) (hu:Below w3.heap.size w3 u)=>zd8 B h' x.a x.b u Bp60 (by rw[k3.like.n];rw[beq_iff_eq] at hn ⊢;omega);have EO:=jH (on_op.trans ea);clear on_op ea;go_upto_region 10 with fail;go_still_tail 10,(by kernel_rfl);change wpList _ _ _ _ _ w3.drew;have hbd:Below w3.heap.size w3 w3.drew:=jB.drew;go_wp2_with fail;refine (hA.out _ hbd).mono ?_;rintro e w4 ⟨rfl,a1,a2⟩;have hf4:Foot (fun i=>i=B) w3 w4:=(Foot.of_below hbd).trans (Foot.of_grown a2 fun i e=>by cases e;rfl);have k4:=k3.self (m':={q with over:=true,great:=true}) a1 hf4 ⟨k3.like.ar,k3.like.ac,k3.like.ip,k3.like.wr,k3.like.wc,k3.like.wants,rfl,rfl,k3.like.n⟩ rfl rfl rfl rfl hwk3;go_wp2_with fail;simp only[Exit.jump];exact jX jT B43 ⟨rfl,RTM.out _ _ EO.out rfl ⟨G',_,k4,hf4.mono fun i _ e=>by rw[e];exact k.gB,fun i e=> .inl e⟩⟩
  rw[if_neg h2] at on_op
  by_cases h16:x.op=16
  .obtain ⟨_,TT,⟨il,i0,i1,i2,i3,i4,i5⟩,_⟩:=hxI;rw[h16] at i0;rw[if_pos h16] at on_op;obtain ⟨lx,hlx⟩:=AI.out.step;rw[Ma.zg7 h16] at hlx;obtain ⟨he,rfl⟩:=Ma.zap hlx;obtain ⟨t1,t2,_,t4⟩:=Ma.MS.top1 (AI.out.go B1).st he;have hsp:=(zb5 q 1 t4).1;rw[t1] at hsp;have hcs:(q.cut 1).st.length+1=q.st.length:=by rw[hsp];simp
   generalize hy:q.top=y at *;generalize hz:(q.cut 1).st=z at *;have hsz:Stk w3 h'.st (z++ [y]):=by rw[<-hsp];exact hs3
   obtain ⟨gs,cs,est0⟩:∃gs cs,h'.st= .slice (some ⟨gs,0,none⟩) (z++ [y]).length cs:=by
    rcases hsz.2 with ⟨e,h0⟩|⟨gs,cap,cur,e,_⟩
    .simp at h0
    .exact ⟨gs,cap,e⟩
   have est:h'.st=jP gs 0 (z.length+1) cs:=by rw[est0,List.length_append];rfl
   have hzl:(q.cut 1).st.length+1=q.st.length:=by rw[hz];exact hcs
   obtain ⟨j0,j1,j2,j3,j4,j5,j6,j7⟩:=(show Stk w3 (.slice (some ⟨gs,0,none⟩) (z++ [y]).length cs) (z++ [y]) by rw[<-est0];exact hsz).item (i:=z.length) (x:=y) B7;have hgs:=(hsz.lt (by rw[est];rfl)).1;have c5:=k3.cells.cells.c5;rw[est] at c5;obtain ⟨N,hN⟩:∃N,z.length=N:=⟨_,rfl⟩;have HNN:=jH hN;have hN0:N<=1024:=B1;rw[hN] at j0 j1 j2 j3 j4 j5 j6 j7 c5;clear hN;have vw:IntKind.i64.wrap (((N+1:Nat):Int)-1)=(N:Int):=by rw[show (((N+1:Nat):Int)-1)=(N:Int) by omega];exact zae B1 B1
   go_upto_region 12 with fail;go_region;generalize hW4:World.drew _=w4;have hb4:Below w3.heap.size w3 w4:=by rw[<-hW4];exact (below1 _ _).drew
   have ky:w4.heap[w3.heap.size]?=some (.cells #[.bool y.isA,jI y.a.t,jI y.a.l,jI y.a.b,jI y.a.r,jI y.v.k,jI y.v.n,jS y.v.t] TA (0,0)):=by rw[<-hW4];exact heap_alloc_new w3 _
   clear hW4 c4 c5 j0 j1 j2 j3 j4 j5 j6 j7 i0 i1 i2 i3 i4 i5 l3 ff vw;have k4:=k3.below2 hb4;have b0:=ch ky 0;have b1:=ch ky 1;have b2:=ch ky 2;have b3:=ch ky 3;have b4:=ch ky 4;simp at b0 b1 b2 b3 b4;have bl:=(jg ky);have HTk:=jH fun (u:World) (hu:Below w3.heap.size w3 u)=>(zgi B h' z y u Bp60 B182 B1).mono fun e w' hh=>And.intro hh.1 (And.intro (Post.pre hu hh.2) (show∀i,i<u.heap.size->w3.heap.size<=i->w'.heap[i]?=u.heap[i]? from fun i h1 h2=>by
    obtain ⟨sv,_,_,q3,_⟩:=hh.2;refine q3.block i h1 ?_;rintro (rfl|e)
    .have:=k3.cells.lt;omega
    .have:=(k3.g i (k3.gS i e)).2;omega))
   cases tA:y.isA
   case false=>
    rw[tA] at b0;have EO:=jH (show Ma.MS.on1 Fd.sortI Ma.readArea p at_ q={q with ip:=q.ip+1} by rw[on_op,tA];rfl);have c4:=k4.cells.cells.c4;have ff:=k4.cells.cells.f;have l4:=k4.cells.lt;have k5:=k4.self (m':={q with ip:=q.ip+1}) (h':={h' with ip:=(q.ip:Int)+1}) (w':=w4.setCell (jA B 4) (jI ((q.ip:Int)+1))) (zad k4.cells 4 _) Bp10 Bp52 rfl rfl rfl rfl k4.walk;have hf5:Foot G' w3 (w4.setCell (jA B 4) (jI ((q.ip:Int)+1))):=(Foot.of_below hb4).trans Bp53;clear on_op;go_wp2_with fail;go_step3;exact And.intro rfl (NXM.out _ _ _ EO.out q3 ⟨G',_,k5,hf5,fun i e=> .inl e⟩ Bp1)
   rw[tA] at b0;cases tb:(y.a.t==y.a.b)
   case false=>
    have EO:=jH (show Ma.MS.on1 Fd.sortI Ma.readArea p at_ q={q with st:=z++ [Ma.MS.zaz 4],ip:=q.ip+1} by rw[on_op,tA,tb];show ({q with st:=(q.cut 1).st++ [Ma.MS.zaz 4],ip:=q.ip+1}:Ma.MS)=_;rw[hz]);exact M75
   case true=>
    cases tr:(y.a.l==y.a.r)
    case false=>
     have EO:=jH (show Ma.MS.on1 Fd.sortI Ma.readArea p at_ q={q with st:=z++ [Ma.MS.zaz 4],ip:=q.ip+1} by rw[on_op,tA,tb,tr];show ({q with st:=(q.cut 1).st++ [Ma.MS.zaz 4],ip:=q.ip+1}:Ma.MS)=_;rw[hz]);exact M75
    case true=>
    cases hn:(q.n==65536)
    case false=>
     have EO:=jH (show Ma.MS.on1 Fd.sortI Ma.readArea p at_ q={q with st:=z,want:=⟨y.a.t,y.a.l⟩,wants:=true} by rw[on_op,tA,tb,tr];show (q.cut 1).asks ⟨y.a.t,y.a.l⟩=_;unfold Ma.MS.asks;rw[show (q.cut 1).n=q.n from rfl,hn];show ({q with st:=(q.cut 1).st,want:=⟨y.a.t,y.a.l⟩,wants:=true}:Ma.MS)=_;rw[hz]);clear on_op;go_wp2_with fail;refine (HTk.out _ hb4).mono ?_;rintro e w5 ⟨rfl,hp5,hq5⟩;obtain ⟨sv,k5,f5,g5⟩:=k3.post hp5;have kb5:=(hq5 _ bl jE).trans ky;have HAs:=jH (zlb B {h' with st:=sv} y.a.t y.a.l w5 k5.cells (by show (h'.n==65536)=_;rw[k3.like.n];rw[beq_eq_false_iff_ne] at hn ⊢;omega));have b1:=ch kb5 1;have b2:=ch kb5 2;simp at b1 b2;have bl:=(jg kb5);go_wp2_with fail;refine HAs.out.mono ?_;rintro e w6 ⟨rfl,a1,a2⟩;have hf6:Foot (fun i=>i=B) w5 w6:=Foot.of_grown a2 fun i e=>by cases e;rfl
     have k6:=k5.self (m':={q with st:=z,want:=⟨y.a.t,y.a.l⟩,wants:=true}) a1 hf6 ⟨k5.like.ar,k5.like.ac,k5.like.ip,rfl,rfl,rfl,k5.like.over,k5.like.great,k5.like.n⟩ rfl rfl rfl rfl k5.walk;go_wp2_with fail;simp only[Exit.jump];exact jX jT B43 ⟨rfl,RTM.out _ _ EO.out B161 ⟨_,_,k6,f5.trans (hf6.mono fun i _ e=>by rw[e];exact k.gB),g5⟩⟩
    case true=>
     have EO:=jH (show Ma.MS.on1 Fd.sortI Ma.readArea p at_ q={q with st:=z,over:=true,great:=true} by rw[on_op,tA,tb,tr];show (q.cut 1).asks ⟨y.a.t,y.a.l⟩=_;unfold Ma.MS.asks;rw[show (q.cut 1).n=q.n from rfl,hn];show ({q with st:=(q.cut 1).st,over:=true,great:=true}:Ma.MS)=_;rw[hz]);clear on_op;go_wp2_with fail;refine (HTk.out _ hb4).mono ?_;rintro e w5 ⟨rfl,hp5,hq5⟩;obtain ⟨sv,k5,f5,g5⟩:=k3.post hp5;have kb5:=(hq5 _ bl jE).trans ky;have HAs:=jH (zd8 B {h' with st:=sv} y.a.t y.a.l w5 k5.cells (by show (h'.n==65536)=_;rw[k3.like.n];rw[beq_iff_eq] at hn ⊢;omega));have b1:=ch kb5 1;have b2:=ch kb5 2;simp at b1 b2;have bl:=(jg kb5);go_wp2_with fail;refine HAs.out.mono ?_;rintro e w6 ⟨rfl,a1,a2⟩;have hf6:Foot (fun i=>i=B) w5 w6:=Foot.of_grown a2 fun i e=>by cases e;rfl
     have k6:=k5.self (m':={q with st:=z,over:=true,great:=true}) a1 hf6 ⟨k5.like.ar,k5.like.ac,k5.like.ip,k5.like.wr,k5.like.wc,k5.like.wants,rfl,rfl,k5.like.n⟩ rfl rfl rfl rfl k5.walk;go_wp2_with fail;simp only[Exit.jump];exact jX jT B43 ⟨rfl,RTM.out _ _ EO.out rfl ⟨_,_,k6,f5.trans (hf6.mono fun i _ e=>by rw[e];exact k.gB),g5⟩⟩
  rw[if_neg h16] at on_op
  by_cases h20:x.op=20
  .rw[if_pos h20] at on_op;have hxI0:=hxI;obtain ⟨hCg,TT,⟨il,i0,i1,i2,i3,i4,i5⟩,_⟩:=hxI;rw[h20] at i0;have hgB:g≠B:=fun e=>k3.cB (by rw[<-e];exact hCg);have c6:=k3.cells.cells.c6;go_upto_region 20 with fail;rcases qI.goes ho hw with hG|⟨hP,fs,hwk,hst⟩
   .have hwk:q.walk=none:=hG.walk;have c6':h'.wk= .pointer none:=by have:=k3.walk;rw[hwk] at this;exact this
    rw[c6'] at c6;rw[hwk] at on_op;obtain ⟨lx,hlx⟩:=AI.out.step;rw[Ma.zg3 h20] at hlx;obtain ⟨he,_⟩:=Ma.za1 hlx;have hbn:=of_decide_eq_false he;have hslen:=Ma.zb0 hG.st;have hfun:Ma.funcOf x [6]=true:=by simpa[Ma.goodI,h20] using AI.out.good
    obtain ⟨hb0,hbe⟩:0<=x.b/\Ma.FZ.zfm x.a (q.last x.b.toNat)=Ma.FZ.badArg (q.last x.b.toNat):=by
     unfold Ma.funcOf at hfun;cases hc:((infoV x.a).2 !=0||decide (x.b<(infoV x.a).1.2.2.1)||(decide (0<=(infoV x.a).1.2.2.2)&&decide ((infoV x.a).1.2.2.2<x.b)))
     .rw[hc] at hfun;simp only[Bool.or_eq_false_iff,bne_eq_false_iff_eq,decide_eq_false_iff_not,Bool.and_eq_false_iff] at hc;have h6:(infoV x.a).1.2.1=6:=by simpa using hfun
      obtain ⟨kk,hk⟩:=zfh hc.1.1;have h1:1<=(infoV x.a).1.2.2.1:=by
       have:=(Ma.FZ.zxp kk B199 (by rw[<-hk];exact h6)).2.1;rw[<-hk] at this;exact this
      refine ⟨by omega,?_⟩;have hll:((q.last x.b.toNat).length:Int)=x.b:=by
       unfold Ma.MS.last;rw[List.length_drop];omega
      unfold Ma.FZ.zfm;rw[if_neg B1,hll,if_neg B1]
     .rw[hc] at hfun;cases hfun
    have hokl:∀a∈q.last x.b.toNat,Ma.okG a:=fun a ha=>Ma.zeb hG.st a (List.mem_of_mem_drop ha);have hbe0:Ma.FZ.zfm x.a (q.last x.b.toNat)=0:=by rw[hbe];exact Ma.FZ.zit hokl
    obtain ⟨hsp,hll⟩:=zb5 q x.b.toNat B1;have hfsI:=Ma.FZ.zlp hCx.sort (Ma.FZ.called hbe0) hokl B1;have hxb:x.b=((q.last x.b.toNat).length:Int):=by rw[hll];omega
    have hcutq:({q.cut x.b.toNat with walk:=some (Ma.FZ.start Fd.sortI x.a (q.last x.b.toNat))}:Ma.MS)={q with st:=(q.cut x.b.toNat).st,walk:=some (Ma.FZ.start Fd.sortI x.a (q.last x.b.toNat))}:=rfl;rw[hcutq] at on_op;clear hcutq hbe hfun he hlx hll;generalize q.last x.b.toNat=l at *;generalize (q.cut x.b.toNat).st=z at *;have hzlen:z.length+l.length=q.st.length:=by rw[hsp,List.length_append]
    have HTk:=jH fun (u:World) (hu:Below w3.heap.size w3 u)=>zm5 B h' z l u Bp60 B182 (by rw[List.length_append];omega);have hb0w:=k3.below;have HBg:=jH fun (lo:Nat) (v:Value) (u:World) (hu:Below w0.heap.size w0 u) (own:u.ownsRow lo TA 8 v l.length (argsC l))=>Fd.zr6 x.a l w0 u lo v k3.num hu own hbe0 hokl B1;rw[hxb] at i2;have EO:=jH on_op;have HI3:=jH (And.intro hfsI.1 hfsI.2);generalize hfs:Ma.FZ.start Fd.sortI x.a l=fs at *;obtain ⟨N,hN⟩:∃N,l.length=N:=⟨_,rfl⟩;rw[hN] at i2 HTk HBg;have HNN:=jH (show l.length=N from hN);clear hN on_op hfs hfsI hokl hbe0;have hbd:Below w3.heap.size w3 w3.drew:=jB.drew;have hTd:=HTk.out _ hbd;have S0:w3.drew.cell? (jA g (q.ip*6+1))=some (jI x.a)/\w3.drew.cell? (jA g (q.ip*6+2))=some (jI (N:Int))/\g<w3.drew.heap.size:=⟨i1,i2,il⟩;have SX:∀w':World,(w'.cell? (jA g (q.ip*6+1))=some (jI x.a)/\w'.cell? (jA g (q.ip*6+2))=some (jI (N:Int))/\g<w'.heap.size)->∀i v,((w'.setCell (jA B i) v).cell? (jA g (q.ip*6+1))=some (jI x.a)/\(w'.setCell (jA B i) v).cell? (jA g (q.ip*6+2))=some (jI (N:Int))/\g<(w'.setCell (jA B i) v).heap.size):=fun w' ⟨a1,a2,a3⟩ i v=>by
     have hb:=heap_setCell_other w' (jA B i) g v hgB;exact ⟨(zag hb).trans a1,(zag hb).trans a2,by simpa using a3⟩
    go_wp2_with fail;go_region_held3 (fun w'=>w'.cell? (jA g (q.ip*6+1))=some (jI x.a)/\w'.cell? (jA g (q.ip*6+2))=some (jI (N:Int))/\g<w'.heap.size)
     (first|with_reducible exact S0|with_reducible exact S1|with_reducible exact S2|with_reducible exact SX _ S2 6 _|fail)
     (first
      |(go_at_call 32;refine hTd.mono ?_;rintro e w4 ⟨v,rfl,ho4,hp4⟩;have hp4':=Post.pre hbd hp4;have hk4:=hp4'.code k3.apart;have hb4s:w3.heap.size<=w4.heap.size:=(Post.pre hbd hp4).choose_spec.2.2.1.size;have S1:w4.cell? (jA g (q.ip*6+1))=some (jI x.a)/\w4.cell? (jA g (q.ip*6+2))=some (jI (N:Int))/\g<w4.heap.size:=⟨(zag (hk4 g hCg)).trans i1,(zag (hk4 g hCg)).trans i2,jL il hb4s⟩;have hb04:=k3.env.post hp4')
      |(go_at_call 31;refine (HBg.out _ _ _ hb04 ho4).mono ?_;rintro e w5 ⟨X,rfl,hN5,hb5⟩;have S2:w5.cell? (jA g (q.ip*6+1))=some (jI x.a)/\w5.cell? (jA g (q.ip*6+2))=some (jI (N:Int))/\g<w5.heap.size:=⟨jQ hb5 S1.1 S1.2.2,jQ hb5 S1.2.1 S1.2.2,jL S1.2.2 hb5.size⟩;obtain ⟨sv,k4,f4,g4⟩:=k3.post hp4';have k5:=k4.below2 hb5;have d6:=k5.cells.cells.c6;have df:=k5.cells.cells.f;have dl:=k5.cells.lt))
    have hk4lt:∀i,(G' i\/sv.ownBlock=some i)->i<w4.heap.size:=fun i hi=>(k4.g i hi).2;obtain ⟨G2,kW,gW1,gW2⟩:=k5.walkNew hN5 hk4lt k4.below.size;have hfW:Foot G' w3 (w5.setCell (jA B 6) (PT X)):=(f4.trans (Foot.of_below hb5)).trans Bp53;have gW:∀i,G2 i->G' i\/w3.heap.size<=i:=fun i hi=>by
     rcases gW2 i hi with e|e
     .exact g4 i e
     .exact .inr (jR f4.size e)
    clear S0 S1 S2 SX i0 i1 i2 i3 i4 i5 il d6 df dl hN5 c4 l3 ff;generalize w5.setCell (jA B 6) (PT X)=wx at *;have EQ:=jH (show Ma.MS.on1 Fd.sortI Ma.readArea p at_ q=cond fs.wants ((({q with st:=z,walk:=some fs}:Ma.MS)).asks fs.next) {({q with st:=z,walk:=none}:Ma.MS).lay (Ma.vArg fs.fin) with ip:=q.ip+1} from EO.out);have hst:=HI3.out.2;have hzl:z.length<=1000000:=B1;generalize hm2:({q with st:=z,walk:=some fs}:Ma.MS)=m2 at *;have hmw:m2.walk=some fs:=by rw[<-hm2]
    have hml:m2.st.length<=1000000:=by rw[<-hm2];exact hzl
    have hqs:({m2 with walk:=none,st:=m2.st++ [Ma.vArg fs.fin],ip:=q.ip+1}:Ma.MS).stop=false:=by rw[<-hm2];exact q3
    obtain ⟨hW,kW⟩:∃hW,MachAt w0 wx G2 C B p at_ m2 hW:=⟨_,kW⟩;have hW2:=kW.walk;rw[hmw] at hW2;obtain ⟨X2,F2,R2,hf2,ewk2,kA2,kR2⟩:=hW2;have c6:=kW.cells.cells.c6;rw[ewk2] at c6;have lW:=kW.cells.lt;have HNx:=jH fun (u:World) (hu:Below wx.heap.size wx u)=>Fd.next_any X2 hf2 u (kA2.below hu).core.cells;cases hfw:fs.wants
    case true=>
     cases hn:(m2.n==65536)
     case false=>
      have eaq:m2.asks fs.next={m2 with want:=fs.next,wants:=true}:=B121;have EO2:=jH ((EQ.out.trans (by rw[hfw,<-hm2];rfl)).trans eaq);clear eaq;go_wp2_with fail;refine jM (HNx.out _ jB) ?_;intro w6 hb6;rw[show hf2.wants=true from kA2.core.like.wants.trans hfw];have hb7:Below wx.heap.size wx (w6.alloc (Obj.cells #[jI hf2.nr,jI hf2.nc] 27)):=hb6.alloc hb6.size _;have k7:=kW.below2 hb7;have HAs:=jH (zlb B hW hf2.nr hf2.nc _ k7.cells B170);go_wp2_with fail;refine HAs.out.mono ?_;rintro e w8 ⟨rfl,a1,a2⟩;have hf8:Foot (fun i=>i=B) (w6.alloc (Obj.cells #[jI hf2.nr,jI hf2.nc] 27)) w8:=Foot.of_grown a2 fun i e=>by cases e;rfl
      have k8:=k7.self (m':={m2 with want:=fs.next,wants:=true}) a1 hf8 Bp44 rfl rfl rfl rfl k7.walk;go_wp2_with fail;simp only[Exit.jump];exact jX jT B43 ⟨rfl,RTM.out _ _ EO2.out (by show (m2.over||true)=true;simp) ⟨G2,_,k8,hfW.next ((Foot.of_below hb7).trans (hf8.mono fun i _ e=>by rw[e];exact kW.gB)) (fun i hi e=>(gW i e).elim id fun e=>by omega),gW⟩⟩
     case true=>
      have eaq:m2.asks fs.next={m2 with over:=true,great:=true}:=B121;have EO2:=jH ((EQ.out.trans (by rw[hfw,<-hm2];rfl)).trans eaq);clear eaq;go_wp2_with fail;refine jM (HNx.out _ jB) ?_;intro w6 hb6;rw[show hf2.wants=true from kA2.core.like.wants.trans hfw];have hb7:Below wx.heap.size wx (w6.alloc (Obj.cells #[jI hf2.nr,jI hf2.nc] 27)):=hb6.alloc hb6.size _;have k7:=kW.below2 hb7;have HAs:=jH (zd8 B hW hf2.nr hf2.nc _ k7.cells (by rw[kW.like.n];rw[beq_iff_eq] at hn ⊢;omega));go_wp2_with fail;refine HAs.out.mono ?_;rintro e w8 ⟨rfl,a1,a2⟩;have hf8:Foot (fun i=>i=B) (w6.alloc (Obj.cells #[jI hf2.nr,jI hf2.nc] 27)) w8:=Foot.of_grown a2 fun i e=>by cases e;rfl
      have k8:=k7.self (m':={m2 with over:=true,great:=true}) a1 hf8 Bp61 rfl rfl rfl rfl k7.walk;go_wp2_with fail;simp only[Exit.jump];exact jX jT B43 ⟨rfl,RTM.out _ _ EO2.out rfl ⟨G2,_,k8,hfW.next ((Foot.of_below hb7).trans (hf8.mono fun i _ e=>by rw[e];exact kW.gB)) (fun i hi e=>(gW i e).elim id fun e=>by omega),gW⟩⟩
    case false=>
     have EO2:=jH (show Ma.MS.on1 Fd.sortI Ma.readArea p at_ q={m2 with walk:=none,st:=m2.st++ [Ma.vArg fs.fin],ip:=q.ip+1} by rw[EQ.out,hfw,<-hm2];rfl);go_wp2_with fail;refine jM (HNx.out _ jB) ?_;intro w6 hb6;rw[show hf2.wants=false from kA2.core.like.wants.trans hfw];have hb7:Below wx.heap.size wx (w6.alloc (Obj.cells #[jI 0,jI 0] 27)):=hb6.alloc hb6.size _;have HEn:=jH (Fd.zw0 X2 hf2 _ (kA2.below hb7).core.cells);have c6b:=(kW.below2 hb7).cells.cells.c6;rw[ewk2] at c6b;have l7:=(kW.below2 hb7).cells.lt;go_wp2_with fail;refine jM HEn.out ?_;intro w8 hb8;have hb9:=jN hb7 hb8;rw[show (⟨hf2.fk,hf2.fi,hf2.ft⟩:Val.V)=fs.fin by rw[kA2.core.like.fk,kA2.core.like.fi,kA2.core.like.ft]];clear HEn HNx c6b l7 lW c6 hb8 hb7 hb6 kA2 kR2;have d8:=(kW.below2 hb9).cells.cells.f;have l8:=(kW.below2 hb9).cells.lt;have d6:=(kW.below2 hb9).cells.cells.c6;have k9:=kW.below2 hb9;have k9:=k9.self (m':={m2 with walk:=none}) (h':={hW with wk:= .pointer none}) (zad k9.cells 6 _) Bp10 Bp46 rfl rfl rfl rfl rfl;have hf10:Foot G2 wx (w8.setCell (jA B 6) (.pointer none)):=(Foot.of_below hb9).trans Bp50;have hb10:Below (w8.setCell (jA B 6) (.pointer none)).heap.size (w8.setCell (jA B 6) (.pointer none)) ((w8.setCell (jA B 6) (.pointer none)).alloc (Obj.cells #[jI fs.fin.k,jI fs.fin.n,jS fs.fin.t] 41)):=jB.alloc jE _;have k10:=k9.below2 hb10;have hf10:=hf10.trans (Foot.of_below hb10);have HV:=jH (zeh B _ m2.st fs.fin _ k10.cells k10.st hml);go_wp2_with fail;refine jM HV.out ?_;intro w11 hp;obtain ⟨sv,k11,f11,g11⟩:=k10.post hp;clear d8 l8 d6;have d4:=k11.cells.cells.c4;have df:=k11.cells.cells.f;have dl:=k11.cells.lt;go_wp2_with fail;go_step3;have k12:=k11.self (m':={m2 with walk:=none,st:=m2.st++ [Ma.vArg fs.fin],ip:=q.ip+1}) (h':={hW with wk:= .pointer none,st:=sv,ip:=(q.ip:Int)+1}) (zad k11.cells 4 _) Bp10 ⟨k11.like.ar,k11.like.ac,by simp,k11.like.wr,k11.like.wc,k11.like.wants,k11.like.over,k11.like.great,k11.like.n⟩ rfl rfl rfl rfl k11.walk;exact M122
   .rw[hwk] at on_op;have EO:=jH on_op;clear on_op;have EQ:=jH (show Ma.MS.on1 Fd.sortI Ma.readArea p at_ q=cond fs.wants (q.asks fs.next) {({q with walk:=none}:Ma.MS).lay (Ma.vArg fs.fin) with ip:=q.ip+1} by
     rw[EO.out];show (match q.walk with|none=>q|some w=>cond w.wants (q.asks w.next) {({q with walk:=none}:Ma.MS).lay (Ma.vArg w.fin) with ip:=q.ip+1})=_;rw[hwk])
    have hmw:=hwk;have kW:=k3;have hfW:Foot G' w3 w3:=Foot.refl _ _;have gW:∀i,G' i->G' i\/w3.heap.size<=i:=fun i e=> .inl e;have hml:q.st.length<=1000000:=B1;have hqs:({q with walk:=none,st:=q.st++ [Ma.vArg fs.fin],ip:=q.ip+1}:Ma.MS).stop=false:=q3;clear i0 i1 i2 i3 i4 i5 il c4 c6 l3 ff;have hW2:=kW.walk;rw[hmw] at hW2;obtain ⟨X2,F2,R2,hf2,ewk2,kA2,kR2⟩:=hW2;have c6:=kW.cells.cells.c6;rw[ewk2] at c6;have lW:=kW.cells.lt;have HNx:=jH fun (u:World) (hu:Below w3.heap.size w3 u)=>Fd.next_any X2 hf2 u (kA2.below hu).core.cells;cases hfw:fs.wants
    case true=>
     cases hn:(q.n==65536)
     case false=>
      have eaq:q.asks fs.next={q with want:=fs.next,wants:=true}:=B121;have EO2:=jH ((EQ.out.trans (by rw[hfw];rfl)).trans eaq);clear eaq;go_wp2_with fail;refine jM (HNx.out _ jB) ?_;intro w6 hb6;rw[show hf2.wants=true from kA2.core.like.wants.trans hfw];have hb7:Below w3.heap.size w3 (w6.alloc (Obj.cells #[jI hf2.nr,jI hf2.nc] 27)):=hb6.alloc hb6.size _;have k7:=kW.below2 hb7;have HAs:=jH (zlb B h' hf2.nr hf2.nc _ k7.cells B170);go_wp2_with fail;refine HAs.out.mono ?_;rintro e w8 ⟨rfl,a1,a2⟩;have hf8:Foot (fun i=>i=B) (w6.alloc (Obj.cells #[jI hf2.nr,jI hf2.nc] 27)) w8:=Foot.of_grown a2 fun i e=>by cases e;rfl
      have k8:=k7.self (m':={q with want:=fs.next,wants:=true}) a1 hf8 Bp44 rfl rfl rfl rfl k7.walk;go_wp2_with fail;simp only[Exit.jump];exact jX jT B43 ⟨rfl,RTM.out _ _ EO2.out B161 ⟨G',_,k8,hfW.next ((Foot.of_below hb7).trans (hf8.mono fun i _ e=>by rw[e];exact kW.gB)) (fun i hi e=>(gW i e).elim id fun e=>by omega),gW⟩⟩
     case true=>
      have eaq:q.asks fs.next={q with over:=true,great:=true}:=B121;have EO2:=jH ((EQ.out.trans (by rw[hfw];rfl)).trans eaq);clear eaq;go_wp2_with fail;refine jM (HNx.out _ jB) ?_;intro w6 hb6;rw[show hf2.wants=true from kA2.core.like.wants.trans hfw];have hb7:Below w3.heap.size w3 (w6.alloc (Obj.cells #[jI hf2.nr,jI hf2.nc] 27)):=hb6.alloc hb6.size _;have k7:=kW.below2 hb7;have HAs:=jH (zd8 B h' hf2.nr hf2.nc _ k7.cells (by rw[kW.like.n];rw[beq_iff_eq] at hn ⊢;omega));go_wp2_with fail;refine HAs.out.mono ?_;rintro e w8 ⟨rfl,a1,a2⟩;have hf8:Foot (fun i=>i=B) (w6.alloc (Obj.cells #[jI hf2.nr,jI hf2.nc] 27)) w8:=Foot.of_grown a2 fun i e=>by cases e;rfl
      have k8:=k7.self (m':={q with over:=true,great:=true}) a1 hf8 Bp61 rfl rfl rfl rfl k7.walk;go_wp2_with fail;simp only[Exit.jump];exact jX jT B43 ⟨rfl,RTM.out _ _ EO2.out rfl ⟨G',_,k8,hfW.next ((Foot.of_below hb7).trans (hf8.mono fun i _ e=>by rw[e];exact kW.gB)) (fun i hi e=>(gW i e).elim id fun e=>by omega),gW⟩⟩
    case false=>
     have EO2:=jH (show Ma.MS.on1 Fd.sortI Ma.readArea p at_ q={q with walk:=none,st:=q.st++ [Ma.vArg fs.fin],ip:=q.ip+1} by rw[EQ.out,hfw];rfl);go_wp2_with fail;refine jM (HNx.out _ jB) ?_;intro w6 hb6;rw[show hf2.wants=false from kA2.core.like.wants.trans hfw];have hb7:Below w3.heap.size w3 (w6.alloc (Obj.cells #[jI 0,jI 0] 27)):=hb6.alloc hb6.size _;have HEn:=jH (Fd.zw0 X2 hf2 _ (kA2.below hb7).core.cells);have c6b:=(kW.below2 hb7).cells.cells.c6;rw[ewk2] at c6b;have l7:=(kW.below2 hb7).cells.lt;go_wp2_with fail;refine jM HEn.out ?_;intro w8 hb8;have hb9:=jN hb7 hb8;rw[show (⟨hf2.fk,hf2.fi,hf2.ft⟩:Val.V)=fs.fin by rw[kA2.core.like.fk,kA2.core.like.fi,kA2.core.like.ft]];clear HEn HNx c6b l7 lW c6 hb8 hb7 hb6 kA2 kR2;have d8:=(kW.below2 hb9).cells.cells.f;have l8:=(kW.below2 hb9).cells.lt;have d6:=(kW.below2 hb9).cells.cells.c6;have k9:=kW.below2 hb9;have k9:=k9.self (m':={q with walk:=none}) (h':={h' with wk:= .pointer none}) (zad k9.cells 6 _) Bp10 Bp46 rfl rfl rfl rfl rfl;have hf10:Foot G' w3 (w8.setCell (jA B 6) (.pointer none)):=(Foot.of_below hb9).trans Bp50;have hb10:Below (w8.setCell (jA B 6) (.pointer none)).heap.size (w8.setCell (jA B 6) (.pointer none)) ((w8.setCell (jA B 6) (.pointer none)).alloc (Obj.cells #[jI fs.fin.k,jI fs.fin.n,jS fs.fin.t] 41)):=jB.alloc jE _;have k10:=k9.below2 hb10;have hf10:=hf10.trans (Foot.of_below hb10);have HV:=jH (zeh B _ q.st fs.fin _ k10.cells k10.st hml);go_wp2_with fail;refine jM HV.out ?_;intro w11 hp;obtain ⟨sv,k11,f11,g11⟩:=k10.post hp;clear d8 l8 d6;have d4:=k11.cells.cells.c4;have df:=k11.cells.cells.f;have dl:=k11.cells.lt;go_wp2_with fail;go_step3;have k12:=k11.self (m':={q with walk:=none,st:=q.st++ [Ma.vArg fs.fin],ip:=q.ip+1}) (h':={h' with wk:= .pointer none,st:=sv,ip:=(q.ip:Int)+1}) (zad k11.cells 4 _) Bp10 ⟨k11.like.ar,k11.like.ac,by simp,k11.like.wr,k11.like.wc,k11.like.wants,k11.like.over,k11.like.great,k11.like.n⟩ rfl rfl rfl rfl k11.walk;exact M122
  rw[if_neg h20] at on_op
  by_cases hj:7<=x.op/\x.op<=11\/x.op=13
  .rw[if_pos hj] at on_op;have HJ:=jH (show Calls prog 35 #[PT B,PI g (q.ip*6),jI ((q.ip:Int)+1)] w3 fun e w'=>e=jr (jI ((q.jump x (q.ip+1)).2:Int))/\Post B h' w3 (q.jump x (q.ip+1)).1.st w' from by
    have:=jump_any w0 C B h' w3 g (q.ip*6) x (q.ip+1) q k3.env k3.cells k3.apart hxI hs3 (zvm AI.out hj (hTl x (List.mem_of_getElem? hx))) hj;rw[show ((q.ip+1:Nat):Int)=(q.ip:Int)+1 by omega] at this;exact this)
   have EO:=jH (show Ma.MS.on1 Fd.sortI Ma.readArea p at_ q={q with st:=(q.jump x (q.ip+1)).1.st,ip:=(q.jump x (q.ip+1)).2} by rw[on_op,zl3]);clear on_op;obtain ⟨_,TT,⟨il,i0,i1,i2,i3,i4,i5⟩,_⟩:=hxI;have hjj:x.op=7\/x.op=8\/x.op=9\/x.op=10\/x.op=11\/x.op=13:=B1;generalize (q.jump x (q.ip+1)).1.st=js at *;generalize (q.jump x (q.ip+1)).2=jt at *;rcases hjj with hop|hop|hop|hop|hop|hop
   all_goals
    rw[hop] at i0;go_wp2_with fail;refine jM HJ.out ?_;intro w4 hp;have hp2:=hp;obtain ⟨sv,a1,a2,a3,a4⟩:=hp2;have d4:=a1.cells.c4;have df:=a1.cells.f;have dl:=a1.lt;go_wp2_with fail;go_step3;exact And.intro rfl (NXP.out _ jt _ hp EO.out _ Bp1)
  rw[if_neg hj] at on_op;obtain ⟨lx,hlx⟩:=AI.out.step;have hop:x.op=3\/x.op=4\/x.op=5\/x.op=6\/x.op=12\/x.op=14\/x.op=15\/x.op=17\/x.op=18\/x.op=19:=by have:=AI.out.op;omega
  have eat:(⟨h'.ar,h'.ac⟩:Ma.Sp)=at_:=by rw[k3.like.ar,k3.like.ac]
  have HP:=jH (show Calls prog 36 #[PT B,PI g (q.ip*6)] w3 fun e w'=>e=jr jT/\Post B h' w3 (q.plain Ma.readArea at_ x).st w' from by
   have:=plain_any w0 C B h' w3 g (q.ip*6) x k3.env k3.cells k3.apart hxI q (T q.ip) (p.con.length:Int) p.con (q.ip:Int) lx hs3 (AI.out.go h20).st hlen (by rw[eat];exact hat) AI.out.good hlx hop;rw[eat] at this;exact this)
  have EO:=jH (show Ma.MS.on1 Fd.sortI Ma.readArea p at_ q={q with st:=(q.plain Ma.readArea at_ x).st,ip:=q.ip+1} by rw[on_op,zjm]);clear on_op;obtain ⟨_,TT,⟨il,i0,i1,i2,i3,i4,i5⟩,_⟩:=hxI;generalize (q.plain Ma.readArea at_ x).st=js at *;have t1:(x.op==1)=false:=by rw[beq_eq_false_iff_ne];exact h1
  have t2:(x.op==2)=false:=by rw[beq_eq_false_iff_ne];exact h2
  have t16:(x.op==16)=false:=by rw[beq_eq_false_iff_ne];exact h16
  have t20:(x.op==20)=false:=by rw[beq_eq_false_iff_ne];exact h20
  have t7:(x.op==7)=false:=B39;have t8:(x.op==8)=false:=B39;have t9:(x.op==9)=false:=B39;have t10:(x.op==10)=false:=B39;have t11:(x.op==11)=false:=B39;have t13:(x.op==13)=false:=B39;go_wp2_with fail;refine jM HP.out ?_;exact M136
theorem MachAt.walked{w0 w w':World}{G C:Nat->Prop}{B X:Nat}{p:Ma.Code}{at_:Ma.Sp}{m:Ma.MS}{h:MH}{F R:Nat->Prop}{y:Ma.FZ}(k:MachAt w0 w G C B p at_ m h)(ewk:h.wk=PT X)(hG:∀i,F i\/R i->G i/\¬C i/\i≠B/\h.st.ownBlock≠some i)(hq:Fd.FQ w F R X y w'):
 ∃G',MachAt w0 w' G' C B p at_ {m with walk:=some y} h/\Foot G w w'/\∀i,G' i->G i\/w.heap.size<=i:=by
 obtain ⟨F',hf',kA,hft,hF'⟩:=hq;have hlt:∀i,F' i->i<w'.heap.size:=kA.core.lt;have hap:∀i,F' i->¬C i/\i≠B/\h.st.ownBlock≠some i:=fun i hi=>by
  rcases hF' i hi with e|e
  .exact (hG i (.inl e)).2
  .refine ⟨fun q=> ?_,fun q=> ?_,fun q=> ?_⟩
   .have:=(k.g i (k.gC i q)).2;omega
   .have:=k.cells.lt;omega
   .have:=(k.g i (k.gS i q)).2;omega
 refine ⟨fun i=>G i\/F' i,⟨k.num,k.txt,zao k.below hft fun i hi=>(k.g i (hG i (.inl hi)).1).1,(hft.block B k.cells.lt fun e=>(hG B (.inl e)).2.2.1 rfl).trans k.cells,Bp28,
  k.code.kept rfl rfl hft.size fun i hi=>hft.block i (k.g i (k.gC i hi)).2 fun e=>(hG i (.inl e)).2.1 hi,k.st.kept fun i hi=>hft.block i (k.st.lt hi).1 fun e=>(hG i (.inl e)).2.2.2 hi,
  ⟨X,F',R,hf',ewk,kA,fun i hi=> ?_⟩,.inl k.gB,fun i hi=> .inl (k.gC i hi),fun i hi=> .inl (k.gS i hi),k.cB,k.cS,fun i hi=> ?_⟩,hft.mono fun i _ e=>(hG i (.inl e)).1,fun i hi=> ?_⟩
 .rcases hi with e|e
  .exact ⟨.inr e,hap i e⟩
  .have:=hG i (.inr e);exact ⟨.inl this.1,this.2⟩
 .rcases hi with e|e
  .exact ⟨(k.g i e).1,jL (k.g i e).2 hft.size⟩
  .refine ⟨?_,hlt i e⟩;rcases hF' i e with q|q
   .exact (k.g i (hG i (.inl q)).1).1
   .have:=k.below.size;omega
 .rcases hi with e|e
  .exact .inl e
  .exact (hF' i e).imp_left fun q=>(hG i (.inl q)).1
theorem give_mid{p:Ma.Code}{T:Nat->Ma.St}{m:Ma.MS}(hC:Ma.MS.Ctx Fd.sortI Ma.readArea)(hT:Ma.Typed p T)(h:Ma.MS.Inv p T m)(hw:m.wants=true){v:Val.V}(hv:Ma.okV v):
 m.over=false/\m.great=false/\m.n<65536/\m.st.length<=1024/\m.ip<p.ins.length/\
 (m.walk=none->Ma.MS.Inv p T {m with st:=m.st++ [Ma.vArg v],wants:=false,n:=m.n+1,ip:=m.ip+1})/\
 ∀x,m.walk=some x->Ma.FZ.Inv x/\x.over=false/\x.wants=true/\Ma.MS.Inv p T {m with wants:=false,n:=m.n+1,walk:=some (x.give Fd.sortI v)}:=by
 have ho:m.over=false:=by
  cases ho:m.over
  .rfl
  .have:=(h.over ho).1;rw[hw] at this;cases this
 have hg:m.great=false:=by
  exact M166
 obtain ⟨hP,_,hn,hwk⟩:=h.wants ho hw;refine ⟨ho,hg,hn,h.h,hP.ip,fun hk=> ?_,fun w hk=> ?_⟩
 .obtain ⟨s,hs1,hs2⟩:=hP.st;exact Ma.MS.zee hT ⟨ho,rfl,hg,hk,hP.ip,Ma.zji (Ma.zbr hs1 (Ma.MS.zm7 (Ma.zfg hv))) hs2,hn⟩
 .obtain ⟨hI,x,hx,h20⟩:=hP.walk w hk;obtain ⟨k1,k2,k3⟩:=hwk w hk;have hG:=Ma.FZ.zp2 hC.sort hI k1 k2 hv;refine ⟨hI,k1,k2,h.ip,hn,h.h,fun e=> ?_,fun e=> ?_,fun _ e=>(nomatch e),fun _ _=> .inr ⟨⟨hP.ip,hP.st,fun w' e=> ?_⟩,_,rfl,hG.2⟩⟩
  .change m.over=true at e;rw[ho] at e;cases e
  .change m.great=true at e;rw[hg] at e;cases e
  .cases e;exact ⟨hG.1,x,hx,h20⟩
section
variable(w0 w:World)(G C:Nat->Prop)(B:Nat)(p:Ma.Code)(at_:Ma.Sp)(T:Nat->Ma.St)(m:Ma.MS)(h:MH)(kM:MachAt w0 w G C B p at_ m h)
include w0 w G C B p at_ T m h kM
theorem zp4(hCx:Ma.MS.Ctx Fd.sortI Ma.readArea)(hT:Ma.Typed p T)(hcon:∀v∈p.con,Ma.okV v)(hat:Ma.mayS at_=true)(hTl:∀x∈p.ins,x.T.length<=1000000)(hI:Ma.MS.Inv p T m)(hw:m.wants=true)(v:Val.V)(hv:Ma.okV v):
 Calls prog 12 #[PT B,vv3 v] w fun e w'=>e=jr (jI 0)/\MQ w0 w G C B p at_ (Ma.MS.give Fd.sortI Ma.readArea p at_ m v) w':=by
 have HM:Hid (∀u,Ret 11 #[vv3 v] u (.bool true)):=jH fun u=>by
  have:=zbm v u;rw[hv.may] at this;exact this
 obtain ⟨ho,hg,hn,hh,hip,gN,gW⟩:=give_mid hCx hT hI hw hv;have c9:=kM.cells.cells.c9;rw[kM.like.wants,hw] at c9;have l0:=kM.cells.lt;have hn1:=hT.n1;have HWn:=jH (show IntKind.i64.wrap ((m.n:Int)+1)=((m.n+1:Nat):Int) from Fd.zsr B1);have HWi:=jH (show IntKind.i64.wrap ((m.ip:Int)+1)=((m.ip+1:Nat):Int) from Fd.zsr B1);obtain ⟨y,hy⟩:∃y,Ma.MS.give Fd.sortI Ma.readArea p at_ m v=y:=⟨_,rfl⟩;rw[hy];have HY:=jH hy;clear hy;go_enter func12,ntmps12;go_wp2_with fail;refine jM (HM.out _) ?_;intro w1 hb1;have hbw:=(below1 w _).trans Bp58;have kb:=(hb1.block w.heap.size B7).trans Bp34;have k1:=kM.below2 hbw;have lb:=(jg kb);clear c9 l0 hb1;have f1:=k1.cells.cells.f;have c9:=k1.cells.cells.c9;have c12:=k1.cells.cells.c12;rw[k1.like.n] at c12;have c6:=k1.cells.cells.c6;have l1:=k1.cells.lt;have hBne:w.heap.size≠B:=by have:=kM.cells.lt;omega
 have hwn:=HWn.out;cases hk:m.walk with
 |none=>
  have e9:Ma.MS.give Fd.sortI Ma.readArea p at_ m v=Ma.MS.on Fd.sortI Ma.readArea p at_ {m with st:=m.st++ [Ma.vArg v],wants:=false,n:=m.n+1,ip:=m.ip+1}:=by unfold Ma.MS.give;split <;> rename_i hq <;> first|(rw[hk] at hq;cases hq;done)|rfl
  rw[HY.out] at e9;have E9:=jH e9;clear e9;have c6':h.wk= .pointer none:=by have:=k1.walk;rw[hk] at this;exact this
  rw[c6'] at c6;go_upto_region 9 with fail;have k2:=k1.self (m':={m with wants:=false,n:=m.n+1}) (h':={h with wants:=false,n:=(m.n:Int)+1}) (w':=((w1.setCell (jA B 9) (.bool false)).setCell (jA B 12) (jI ((m.n:Int)+1)))) (zad (zad k1.cells 9 _) 12 _) (Foot.set Bp10 rfl) ⟨k1.like.ar,k1.like.ac,k1.like.ip,k1.like.wr,k1.like.wc,rfl,k1.like.over,k1.like.great,B7⟩ rfl rfl rfl rfl k1.walk;have hf2:Foot G w ((w1.setCell (jA B 9) (.bool false)).setCell (jA B 12) (jI ((m.n:Int)+1))):=(Foot.of_below hbw).trans (Foot.set Bp81 kM.gB);have kb2:((w1.setCell (jA B 9) (.bool false)).setCell (jA B 12) (jI ((m.n:Int)+1))).heap[w.heap.size]?=_:=((heap_setCell_other _ (jA B 12) _ _ hBne).trans (heap_setCell_other _ (jA B 9) _ _ hBne)).trans kb;clear f1 c9 c12 c6 l1 kb lb hwn k1;generalize ((w1.setCell (jA B 9) (.bool false)).setCell (jA B 12) (jI ((m.n:Int)+1)))=w2 at *;obtain ⟨v0,v1,v2⟩:=zaa kb2;have lb:=(jg kb2);have l2:=k2.cells.lt;have HV:=jH (zeh B _ m.st v w2 k2.cells k2.st B1);go_wp2_with fail;refine jM HV.out ?_;intro w3 hp;obtain ⟨sv,k3,f3,g3⟩:=k2.post hp;clear v0 v1 v2 lb l2 kb2;have d4:=k3.cells.cells.c4;rw[show ({h with wants:=false,n:=(m.n:Int)+1,st:=sv}:MH).ip=(m.ip:Int) from k3.like.ip] at d4;have df:=k3.cells.cells.f;have dl:=k3.cells.lt;have hwi:=HWi.out;have k4:=k3.self (m':={m with st:=m.st++ [Ma.vArg v],wants:=false,n:=m.n+1,ip:=m.ip+1}) (h':={h with wants:=false,n:=(m.n:Int)+1,st:=sv,ip:=(m.ip:Int)+1}) (w':=w3.setCell (jA B 4) (jI ((m.ip:Int)+1))) (zad k3.cells 4 _) Bp10 ⟨k3.like.ar,k3.like.ac,by simp,k3.like.wr,k3.like.wc,k3.like.wants,k3.like.over,k3.like.great,k3.like.n⟩ rfl rfl rfl rfl k3.walk;have hf4:Foot G w2 (w3.setCell (jA B 4) (jI ((m.ip:Int)+1))):=f3.trans Bp81;have HO:=jH (zuo w0 _ _ C B p at_ T _ _ k4 hCx hT hcon hat hTl (gN hk) (by show (m.over||false)=false;rw[ho];rfl));go_wp2_with fail;refine jM HO.out ?_;intro w5 hq;go_wp2_with fail;refine jX (jI 0) (by simp[results,results12,go_sem]) ⟨rfl,?_⟩;rw[E9.out];exact MQ.next (hf2.trans hf4) (fun i hi=>(g3 i hi).imp_right (jR hf2.size)) hq
 |some x=>
  obtain ⟨i1,i2,i3,i4⟩:=gW x hk;have e9:Ma.MS.give Fd.sortI Ma.readArea p at_ m v=Ma.MS.on Fd.sortI Ma.readArea p at_ {m with wants:=false,n:=m.n+1,walk:=some (x.give Fd.sortI v)}:=by unfold Ma.MS.give;rw[hk]
  rw[HY.out] at e9;have E9:=jH e9;clear e9;have hW:=k1.walk;rw[hk] at hW;obtain ⟨X,F,R,hf,ewk,kA,hGG⟩:=hW;rw[ewk] at c6;clear kA hGG;go_upto_region 8 with fail;have k2:=k1.self (m':={m with wants:=false,n:=m.n+1}) (h':={h with wants:=false,n:=(m.n:Int)+1}) (w':=((w1.setCell (jA B 9) (.bool false)).setCell (jA B 12) (jI ((m.n:Int)+1)))) (zad (zad k1.cells 9 _) 12 _) (Foot.set Bp10 rfl) ⟨k1.like.ar,k1.like.ac,k1.like.ip,k1.like.wr,k1.like.wc,rfl,k1.like.over,k1.like.great,B7⟩ rfl rfl rfl rfl k1.walk;have hf2:Foot G w ((w1.setCell (jA B 9) (.bool false)).setCell (jA B 12) (jI ((m.n:Int)+1))):=(Foot.of_below hbw).trans (Foot.set Bp81 kM.gB);have kb2:((w1.setCell (jA B 9) (.bool false)).setCell (jA B 12) (jI ((m.n:Int)+1))).heap[w.heap.size]?=_:=((heap_setCell_other _ (jA B 12) _ _ hBne).trans (heap_setCell_other _ (jA B 9) _ _ hBne)).trans kb;clear f1 c9 c12 c6 l1 kb lb hwn k1;generalize ((w1.setCell (jA B 9) (.bool false)).setCell (jA B 12) (jI ((m.n:Int)+1)))=w2 at *;obtain ⟨v0,v1,v2⟩:=zaa kb2;have lb:=(jg kb2);have l2:=k2.cells.lt;have hbd:Below w2.heap.size w2 w2.drew:=jB.drew;have k3:=k2.below2 hbd;have hW3:=k3.walk;have hW3:WalkAt w2.drew (fun i=>G i/\¬C i/\i≠B/\h.st.ownBlock≠some i) _ m.walk:=hW3;rw[hk] at hW3;obtain ⟨X,F,R,hf,ewk,kA,hGG⟩:=hW3;have c6:=k2.cells.cells.c6;rw[ewk] at c6;have HG:=jH (Fd.zw1 w0 w2.drew F R X x hf v ⟨k3.num,k3.below,fun i hi=>(k3.g i (hGG i (.inl hi)).1).1⟩ kA i1 i2 i3 hv);go_still_tail 5,(by kernel_rfl);change wpList _ _ _ _ _ w2.drew;go_wp2_with fail;refine jM HG.out ?_;intro w4 hq;obtain ⟨G4,k4,f4,g4⟩:=k3.walked ewk hGG hq;have HO:=jH (zuo w0 _ _ C B p at_ T _ _ k4 hCx hT hcon hat hTl i4 (by show (m.over||false)=false;rw[ho];rfl));clear v0 v1 v2 lb l2 kb2;go_wp2_with fail;refine jM HO.out ?_;intro w5 hq5;go_wp2_with fail;refine jX (jI 0) (by simp[results,results12,go_sem]) ⟨rfl,?_⟩;rw[E9.out];exact MQ.next ((hf2.trans Bp103).trans f4) (fun i hi=>(g4 i hi).imp_right (jR (jR hf2.size hbd.size))) hq5
theorem zcw(hl:m.over=true->m.great=false->1<=m.st.length):
 Ret 10 #[PT B] w (.tuple #[vv3 m.value.1,.bool m.value.2]):=by
 have c11:=kM.cells.cells.c11;rw[kM.like.great] at c11;have c10:=kM.cells.cells.c10;rw[kM.like.over] at c10;have l0:=kM.cells.lt;have hne:B≠w.heap.size:=B1;cases hg:m.great
 .rw[hg] at c11;cases ho:m.over
  .rw[ho] at c10;have e9:m.value=((⟨0,0,⟨#[]⟩⟩:Val.V),false):=by unfold Ma.MS.value;rw[hg,ho];rfl
   rw[e9];go_enter func10,ntmps10;go_wp2_with fail;exact jX (.tuple #[vv3 ⟨0,0,⟨#[]⟩⟩,.bool false]) B140 ⟨rfl,B4⟩
  .rw[ho] at c10;have hl1:=hl ho hg;obtain ⟨a,l,e0⟩:∃a l,m.st=a::l:=by
    cases hst:m.st with
    |nil=>rw[hst] at hl1;simp at hl1
    |cons a l=>exact ⟨a,l,rfl⟩
   have hs:=kM.st;rw[e0] at hs;obtain ⟨gs,cs,est⟩:∃gs cs,h.st= .slice (some ⟨gs,0,none⟩) (a::l).length cs:=by
    rcases hs.2 with ⟨e,h0⟩|⟨gs,cap,cur,e,_⟩
    .simp at h0
    .exact ⟨gs,cap,e⟩
   rw[est] at hs;obtain ⟨j0,j1,j2,j3,j4,j5,j6,j7⟩:=hs.item (i:=0) (x:=a) rfl;simp at j5 j6 j7;have hgs:=(hs.lt rfl).1;have c5:=kM.cells.cells.c5;rw[est] at c5;have e9:m.value=(a.v,true):=by unfold Ma.MS.value;rw[hg,ho,e0];rfl
   rw[e9];have hN:0<(a::l).length:=B7;clear hs est hl1 e0 hl;generalize (a::l).length=N at c5 hN;go_enter func10,ntmps10;go_wp2_with fail;exact jX (.tuple #[vv3 a.v,.bool true]) B140 ⟨rfl,B4⟩
 .rw[hg] at c11;have e9:m.value=((⟨4,3,⟨#[]⟩⟩:Val.V),true):=by unfold Ma.MS.value;rw[hg];rfl
  rw[e9];go_enter func10,ntmps10;go_wp2_with fail;exact jX (.tuple #[vv3 ⟨4,3,⟨#[]⟩⟩,.bool true]) B140 ⟨rfl,B4⟩
end
section
variable {sort:List Int->List Int} {read:List UInt8->Ma.Ar×Int} {p:Ma.Code} {at_:Ma.Sp}
theorem zx4(m:Ma.MS)(s:Ma.Sp):(m.asks s).n=m.n:=by unfold Ma.MS.asks;cases (m.n==65536) <;> rfl
theorem on1_n(m:Ma.MS):(Ma.MS.on1 sort read p at_ m).n=m.n:=by
 unfold Ma.MS.on1;cases (m.over||m.wants)
 .simp only[cond_false];cases hx:p.ins[m.ip]? with
  |none=>rfl
  |some x=>
   simp only;split
   .rfl
   .split
    .exact zx4 _ _
    .split
     .cases (m.top.isA&&m.top.a.t==m.top.a.b&&m.top.a.l==m.top.a.r)
      .cases m.top.isA <;> rfl
      .exact zx4 _ _
     .split
      .have h0:∀m':Ma.MS,m'.n=m.n->(match m'.walk with
        |none=>m'
        |some w=>cond w.wants (m'.asks w.next) {({m' with walk:=none}.lay (Ma.vArg w.fin)) with ip:=m.ip+1}).n=m.n:=by
        intro m' e;cases m'.walk with
        |none=>exact e
        |some w=>
         simp only;cases w.wants
         .exact e
         .exact (zx4 _ _).trans e
       cases hw:m.walk with
       |none=>exact h0 {m.cut x.b.toNat with walk:=some (Ma.FZ.start sort x.a (m.last x.b.toNat))} rfl
       |some w=>exact h0 m rfl
      .split
       .rw[zl3]
       .rw[zjm]
 .rfl
theorem onN_n:∀(k:Nat) (m:Ma.MS),(Ma.MS.onN sort read p at_ k m).n=m.n
 |0,_=>rfl
 |k+1,m=>(onN_n k _).trans (on1_n m)
theorem new_n:(Ma.MS.new sort read p at_).n=0:=onN_n _ _
theorem give_n(m:Ma.MS)(v:Val.V):(Ma.MS.give sort read p at_ m v).n=m.n+1:=by
 unfold Ma.MS.give;refine (onN_n _ _).trans ?_;cases m.walk <;> rfl
end
structure Stands(p:Ma.Code)(T:Nat->Ma.St)(m:Ma.MS)(n:Nat):Prop where
 inv:Ma.MS.Inv p T m
 stop:m.stop=true
 n:m.n=n
def X170.K43(h:jp:=by
 clear a0 a1 la HM2 HM HS;go_wp2_with fail;exact jX (.tuple #[.pointer none,jI c]) B145 ⟨rfl,hbw2⟩):=h
section
variable{p:Ma.Code}{T:Nat->Ma.St}
include p T
theorem Stands.over{m:Ma.MS}{n:Nat}(h:Stands p T m n):m.over=!m.wants:=by
 have hs:=h.stop;unfold Ma.MS.stop at hs;cases ho:m.over
 .rw[ho] at hs;simp at hs;rw[hs];rfl
 .rw[(h.inv.over ho).1];rfl
theorem Stands.wants{m:Ma.MS}{n:Nat}(h:Stands p T m n)(hw:m.wants=true):Ma.mayS m.want=true/\n<65536/\m.over=false/\m.great=false:=by
 have ho:m.over=false:=by rw[h.over,hw];rfl
 obtain ⟨_,h1,h2,_⟩:=h.inv.wants ho hw;refine ⟨h1,by rw[<-h.n];exact h2,ho,?_⟩;cases hg:m.great
 .rfl
 .rw[h.inv.great hg] at ho;cases ho
theorem Stands.new{at_:Ma.Sp}(hCx:Ma.MS.Ctx Fd.sortI Ma.readArea)(hT:Ma.Typed p T)(hcon:∀v∈p.con,Ma.okV v)(hat:Ma.mayS at_=true):Stands p T (Ma.MS.new Fd.sortI Ma.readArea p at_) 0:=
 ⟨(Ma.MS.zux hCx hT hcon hat).1,(Ma.MS.zux hCx hT hcon hat).2,new_n⟩
theorem Stands.give{at_:Ma.Sp}{m:Ma.MS}{n:Nat}(hCx:Ma.MS.Ctx Fd.sortI Ma.readArea)(hT:Ma.Typed p T)(hcon:∀v∈p.con,Ma.okV v)(hat:Ma.mayS at_=true)(h:Stands p T m n)(hw:m.wants=true){v:Val.V}(hv:Ma.okV v):Stands p T (Ma.MS.give Fd.sortI Ma.readArea p at_ m v) (n+1):=
 ⟨(Ma.MS.zwf hCx hT hcon hat h.inv hw hv).1,(Ma.MS.zwf hCx hT hcon hat h.inv hw hv).2,(give_n m v).trans (by rw[h.n])⟩
theorem Stands.value{m:Ma.MS}{n:Nat}(hT:Ma.Typed p T)(h:Stands p T m n)(hw:m.wants=false):m.over=true/\m.value.2=true/\Ma.okV m.value.1/\(m.great=false->1<=m.st.length):=by
 have ho:m.over=true:=by rw[h.over,hw];rfl
 obtain ⟨h1,h2⟩:=Ma.MS.value_ok hT h.inv ho;refine ⟨ho,h1,h2,fun hg=> ?_⟩;obtain ⟨e1,e2⟩:=(h.inv.over ho).2 hg;obtain ⟨y,hy,hf⟩:=hT.fin;rw[e1,hy] at e2;have:=Ma.zb0 e2;rw[this];exact jE
end
theorem zks:Ma.mayC plusP=0:=B49
theorem zo8:Ma.MS.new Fd.sortI Ma.readArea plusP ⟨6,1⟩=⟨0,[],none,⟨0,0⟩,true,false,false,0⟩:=by kernel_rfl
theorem zuh:Ma.MS.give Fd.sortI Ma.readArea plusP ⟨6,1⟩ ⟨0,[],none,⟨0,0⟩,true,false,false,0⟩ ⟨1,4,⟨#[]⟩⟩=⟨4,[Ma.vArg ⟨1,5,⟨#[]⟩⟩],none,⟨0,0⟩,false,true,false,1⟩:=by kernel_rfl
theorem zpg(w:World)(iv cv:Value)(at_:Ma.Sp)(hat:Ma.mayS at_=false):Ret 6 #[.agg #[iv,cv],SP at_.r at_.c] w (.tuple #[.pointer none,jI 10]):=by
 have HS:Hid (∀u,Ret 16 #[SP at_.r at_.c] u (.bool false)):=jH fun u=>by
  have:=zdz at_.r at_.c u;rw[show mayP at_.r at_.c=false from hat] at this;exact this
 go_enter func6,ntmps6;go_wp2_with fail;refine jM (HS.out _) ?_;intro w1 hb1;go_wp2_with fail;have hb2:=below1 w (Obj.cells #[iv,cv] 25);have hb3:=below1 (w.alloc (Obj.cells #[iv,cv] 25)) (Obj.cells #[jI at_.r,jI at_.c] 27);exact jX (.tuple #[.pointer none,jI 10]) B145 ⟨rfl,hb2.trans ((jN hb3 hb1).mono hb2.size)⟩
theorem zuy(w:World)(p:Ma.Code)(iv cv:Value)(at_:Ma.Sp)(hat:Ma.mayS at_=true)(hI:InsRow w iv p.ins)(hC:ConRd w cv p.con)(b1:p.ins.length<=1000000)(b2:p.con.length<=1000000)(b3:Ma.longT p.ins<=1000000)(c:Int)(hm:Ma.mayC p=c)(hc:(c !=0)=true):
 Ret 6 #[.agg #[iv,cv],SP at_.r at_.c] w (.tuple #[.pointer none,jI c]):=by
 have HS:Hid (∀u,Ret 16 #[SP at_.r at_.c] u (.bool true)):=jH fun u=>by
  have:=zdz at_.r at_.c u;rw[show mayP at_.r at_.c=true from hat] at this;exact this
 have HM:Hid (∀u,Below w.heap.size w u->Ret 17 #[.agg #[iv,cv]] u (jI c)):=jH fun u hu=>by
  have:=zpl p iv cv u (hI.below hu) (hC.below hu) b1 b2 b3;rw[hm] at this;exact this
 go_enter func6,ntmps6;go_wp2_with fail;refine jM (HS.out _) ?_;intro w1 hb1;have hb2:=below1 w (Obj.cells #[iv,cv] 25);have hb3:=below1 (w.alloc (Obj.cells #[iv,cv] 25)) (Obj.cells #[jI at_.r,jI at_.c] 27);have hbw:Below w.heap.size w w1:=hb2.trans ((jN hb3 hb1).mono hb2.size);have k25:=((jN hb3 hb1).block w.heap.size B7).trans Bp34
 open X170 in exact C43
theorem zjs(B:Nat)(h:MH)(w:World)(hB:At w B h)(hw:h.wants=false)(v:Val.V):Ret 12 #[PT B,vv3 v] w (jI 25):=by
 have c9:=hB.cells.c9;rw[hw] at c9;have l0:=hB.lt;go_enter func12,ntmps12;go_wp2_with fail;go_ret;exact ⟨rfl,below1 w _⟩
theorem zp3(B:Nat)(h:MH)(w:World)(hB:At w B h)(hw:h.wants=true)(v:Val.V)(hv:Val.mayB v=false):Ret 12 #[PT B,vv3 v] w (jI 24):=by
 have HM:Hid (∀u,Ret 11 #[vv3 v] u (.bool false)):=jH fun u=>by
  have:=zbm v u;rw[hv] at this;exact this
 have c9:=hB.cells.c9;rw[hw] at c9;have l0:=hB.lt;go_enter func12,ntmps12;go_wp2_with fail;refine jM (HM.out _) ?_;intro w1 hb1;go_wp2_with fail;go_ret;exact ⟨rfl,(below1 w _).trans Bp58⟩
theorem zd3{w0 w:World}{G C:Nat->Prop}{B:Nat}{p:Ma.Code}{at_:Ma.Sp}{m:Ma.MS}{h:MH}(k:MachAt w0 w G C B p at_ m h):
 Ret 8 #[PT B] w (.tuple #[cond m.wants (SP m.want.r m.want.c) (SP 0 0),.bool m.wants]):=by
 have:=zsv B h w k.cells;rw[k.like.wants,k.like.wr,k.like.wc] at this;exact this
def zro(m:Ma.MS):Value:= .agg #[jI (m.ip:Int),jI (m.st.length:Int),jI (m.n:Int),.bool m.over]
theorem zcx{w0 w:World}{G C:Nat->Prop}{B:Nat}{p:Ma.Code}{at_:Ma.Sp}{m:Ma.MS}{h:MH}(k:MachAt w0 w G C B p at_ m h):
 Ret 9 #[PT B] w (zro m):=by
 obtain ⟨a,c,hst⟩:∃a c,h.st= .slice a m.st.length c:=by
  rcases k.st.2 with ⟨e,h0⟩|⟨g,cp,cur,e,_⟩
  .exact ⟨none,0,by rw[e,h0]⟩
  .exact ⟨_,_,e⟩
 have:=look_any B h a m.st.length c w k.cells hst;rw[k.like.ip,k.like.n,k.like.over] at this;exact this
def TwoAt(w wr:World)(lo Xa Xb:Nat)(p:Ma.Code)(at_:Ma.Sp)(ma mb:Ma.MS)(Ga Gb:Nat->Prop):Prop:=
 ∃Ca Cb ha hb,MachAt w wr Ga Ca Xa p at_ ma ha/\MachAt w wr Gb Cb Xb p at_ mb hb/\(∀i,Ga i->¬Gb i)/\∀i,Ga i\/Gb i->lo<=i
section
variable{w wr:World}{lo Xa Xb:Nat}{p:Ma.Code}{at_:Ma.Sp}{ma mb:Ma.MS}{Ga Gb:Nat->Prop}(k:TwoAt w wr lo Xa Xb p at_ ma mb Ga Gb)
include w wr lo Xa Xb p at_ ma mb Ga Gb k
theorem TwoAt.a:∃Ca ha,MachAt w wr Ga Ca Xa p at_ ma ha:=by
 obtain ⟨Ca,Cb,ha,hb,h1,_⟩:=k;exact ⟨Ca,ha,h1⟩
theorem TwoAt.b:∃Cb hb,MachAt w wr Gb Cb Xb p at_ mb hb:=by
 obtain ⟨Ca,Cb,ha,hb,h1,h2,_⟩:=k;exact ⟨Cb,hb,h2⟩
end
theorem TwoAt.below{w wr w':World}{lo Xa Xb:Nat}{p:Ma.Code}{at_:Ma.Sp}{ma mb:Ma.MS}{Ga Gb:Nat->Prop}(k:TwoAt w wr lo Xa Xb p at_ ma mb Ga Gb)(hb:Below wr.heap.size wr w'):TwoAt w w' lo Xa Xb p at_ ma mb Ga Gb:=by
 obtain ⟨Ca,Cb,ha,hb',h1,h2,h3,h4⟩:=k;exact ⟨Ca,Cb,ha,hb',h1.below2 hb,h2.below2 hb,h3,h4⟩
theorem TwoAt.lt{w wr:World}{lo Xa Xb:Nat}{p:Ma.Code}{at_:Ma.Sp}{ma mb:Ma.MS}{Ga Gb:Nat->Prop}(k:TwoAt w wr lo Xa Xb p at_ ma mb Ga Gb)(i:Nat)(hi:Ga i\/Gb i):lo<=i/\i<wr.heap.size:=by
 obtain ⟨Ca,Cb,ha,hb',h1,h2,h3,h4⟩:=k;exact ⟨h4 i hi,hi.elim (fun e=>(h1.g i e).2) fun e=>(h2.g i e).2⟩
section
variable{w wr w':World}{lo Xa Xb:Nat}{p:Ma.Code}{at_:Ma.Sp}
include w wr w' lo Xa Xb p at_
theorem TwoAt.foot{ma mb:Ma.MS}{Ga Gb F:Nat->Prop}(k:TwoAt w wr lo Xa Xb p at_ ma mb Ga Gb)(hf:Foot F wr w')(hF:∀i,F i->¬Ga i/\¬Gb i/\w.heap.size<=i):TwoAt w w' lo Xa Xb p at_ ma mb Ga Gb:=by
 obtain ⟨Ca,Cb,ha,hb',h1,h2,h3,h4⟩:=k;exact ⟨Ca,Cb,ha,hb',h1.frame hf (fun i e q=>(hF i q).1 e) fun i q=>(hF i q).2.2,h2.frame hf (fun i e q=>(hF i q).2.1 e) fun i q=>(hF i q).2.2,h3,h4⟩
theorem TwoAt.goA{ma mb m':Ma.MS}{Ga Gb Ca:Nat->Prop}(k:TwoAt w wr lo Xa Xb p at_ ma mb Ga Gb)(hlo:lo<=wr.heap.size)(hq:MQ w wr Ga Ca Xa p at_ m' w'):
 ∃Ga',TwoAt w w' lo Xa Xb p at_ m' mb Ga' Gb/\Foot Ga wr w'/\∀i,Ga' i->Ga i\/wr.heap.size<=i:=by
 obtain ⟨Ca0,Cb,ha,hb',h1,h2,h3,h4⟩:=k;obtain ⟨Ga',ha',q1,q2,q3⟩:=hq;refine ⟨Ga',⟨Ca,Cb,ha',hb',q1,h2.frame q2 (fun i e q=>h3 i q e) fun i e=>(h1.g i e).1,fun i e q=> ?_,fun i e=> ?_⟩,q2,q3⟩
 .rcases q3 i e with e|e
  .exact h3 i e q
  .have:=(h2.g i q).2;omega
 .rcases e with e|e
  .rcases q3 i e with e|e
   .exact h4 i (.inl e)
   .omega
  .exact h4 i (.inr e)
theorem TwoAt.goB{ma mb m':Ma.MS}{Ga Gb Cb:Nat->Prop}(k:TwoAt w wr lo Xa Xb p at_ ma mb Ga Gb)(hlo:lo<=wr.heap.size)(hq:MQ w wr Gb Cb Xb p at_ m' w'):
 ∃Gb',TwoAt w w' lo Xa Xb p at_ ma m' Ga Gb'/\Foot Gb wr w'/\∀i,Gb' i->Gb i\/wr.heap.size<=i:=by
 obtain ⟨Ca,Cb0,ha,hb',h1,h2,h3,h4⟩:=k;obtain ⟨Gb',hb'',q1,q2,q3⟩:=hq;refine ⟨Gb',⟨Ca,Cb,ha,hb'',h1.frame q2 (fun i e q=>h3 i e q) fun i e=>(h2.g i e).1,q1,fun i e q=> ?_,fun i e=> ?_⟩,q2,q3⟩
 .rcases q3 i q with q|q
  .exact h3 i e q
  .have:=(h1.g i e).2;omega
 .rcases e with e|e
  .exact h4 i (.inl e)
  .rcases q3 i e with e|e
   .exact h4 i (.inr e)
   .omega
theorem TwoAt.mk'{ma mb:Ma.MS}{Ga Gb Ca Cb:Nat->Prop}{ha hb:MH}(k:MachAt w wr Ga Ca Xa p at_ ma ha)(hlo:∀i,Ga i->lo<=i)(hl:lo<=wr.heap.size)(hb1:Below wr.heap.size wr w')(k2:MachAt w w' Gb Cb Xb p at_ mb hb)(hG:∀i,Gb i->wr.heap.size<=i):
 TwoAt w w' lo Xa Xb p at_ ma mb Ga Gb:=
 ⟨Ca,Cb,ha,hb,k.below2 hb1,k2,fun i e q=>by have:=(k.g i e).2;have:=hG i q;omega,fun i e=>e.elim (hlo i) fun q=>jR hl (hG i q)⟩
end
structure NewL(w wr:World)(D:Nat)(iv cv:Value)(at_:Ma.Sp)(z:List (Ma.Ins×Value))(con:List Val.V)(n m:Nat)(k:Nat)(z':List (Ma.Ins×Value)):Prop where
 b:Below w.heap.size w wr
 a:wr.heap[w.heap.size+1]?=some (.cells #[jI at_.r,jI at_.c] 27 (0,0))
 d:wr.heap[D]?=some (.cells #[iv,cv] TCD (0,0))
 oi:wr.ownsRow w.heap.size TIN 6 iv n (z'.flatMap insC)
 oc:wr.ownsRow w.heap.size TVL 3 cv m (con.flatMap vC3)
 same:z'.map (·.1)=z.map (·.1)
 rest:z'.drop k=z.drop k
 tab:∀(i:Nat) (q:Ma.Ins×Value),i<k->z'[i]?=some q->wr.ownsRow w.heap.size TIT 1 q.2 q.1.T.length (q.1.T.map (Value.int .i64))
def X169.K43(h:jp:=by
 have k25:=(hb2.block w.heap.size la).trans k25;have k27:=(hb2.block (w.heap.size+1) (jg k27)).trans k27;clear a0 a1 la hb2 HM2 HM HS hbw;have a0:=ch k25 0;have a1:=ch k25 1;simp at a0 a1;have la:=(jg k25);have la2:=(jg k27);have HI:=jH fun u (hu:Below w2.heap.size w2 u)=>HI.out u (jN hbw2 hu);have HC:=jH fun u (hu:Below w2.heap.size w2 u)=>HC.out u (jN hbw2 hu);have OS:∀w',Below w2.heap.size w2 w'->(Below w2.heap.size w2 w'/\w'.cell? (jA w.heap.size 0)=some iv/\w'.cell? (jA w.heap.size 1)=some cv):=fun w' h=> ⟨h,jQ h a0 la,jQ h a1 la⟩;have hs0:Below w2.heap.size w2 w2.drew:=jB.drew;have hsA:∀o,Below w2.heap.size w2 (w2.alloc o).drew:=fun o=>(jB.alloc jE o).drew;go_upto_region 6 with fail;go_cut [7] (fun s7 wx=>∃D ia ic ca cc,s7=PT D/\NewL w wx D (.slice ia n ic) (.slice ca m cc) at_ z p.con n m 0 z)
 case first=>
  clear a0 a1;go_region_held3 (fun w'=>Below w2.heap.size w2 w'/\w'.cell? (jA w.heap.size 0)=some iv/\w'.cell? (jA w.heap.size 1)=some cv)
   (first|with_reducible exact OS _ hs0|with_reducible exact OS _ (And.left B95)|with_reducible exact OS _ hs1|with_reducible exact OS _ hs2|with_reducible exact OS _ Bp73|with_reducible exact OS _ Bp74|with_reducible exact OS _ Bp75|with_reducible exact OS _ (hsA _)|with_reducible exact OS _ ((hs2.setCell (p:=(jA _ 0)) B24 _).setCell (p:=(jA _ 1)) B24 _)|fail)
   (first
    |(go_at_call 18;refine (HI.out _ (by first|with_reducible exact hs0|with_reducible exact hsA _)).mono ?_;rintro e wi ⟨ia,ic,rfl,hoi,hbi⟩;have hs1:Below w2.heap.size w2 wi:=(by first|with_reducible exact jN hs0 hbi|with_reducible exact (hsA _).trans (hbi.mono (hsA _).size));(first|(have kA:=(hbi.block _ B7).trans Bp4)|skip))
    |(go_at_call 19;refine (HC.out _ (by first|with_reducible exact hs1|with_reducible exact hs1.alloc hs1.size _)).mono ?_;rintro e wv ⟨ca,cc,rfl,hov,hbv⟩;have hs2:Below w2.heap.size w2 wv:=(by first|with_reducible exact jN hs1 hbv|with_reducible exact (hs1.alloc hs1.size _).trans (hbv.mono (hs1.alloc hs1.size _).size));have hoi2:=(by first|with_reducible exact own_bel hoi hbv|with_reducible exact own_bel (own_bel hoi (below1 _ _)) hbv:wv.ownsRow w.heap.size TIN 6 (.slice ia n ic) n (z.flatMap insC));(first|(replace kA:=blk hbv kA;obtain ⟨kA0,kA1,kAf,kAl⟩:=box2 kA)|(have kA:=(hbv.block _ B7).trans Bp4;obtain ⟨kA0,kA1,kAf,kAl⟩:=box2 kA)|skip))
    |fail)
  all_goals
   have hbW:=jN hbw2 hs2;have kaW:=(hs2.block _ la2).trans k27
  .go_wp2_with fail;go_meet;exact ⟨_,_,_,_,_,rfl,NewL.zero hbW (jL la2 hs2.size) kaW hoi2 hov (foot_new _) Bp4 (fun c e f h=>absurd (jg h) (Nat.lt_irrefl _))⟩
  all_goals
   have kB:=zad (zad kA 0 (.slice ia n ic)) 1 (.slice ca m cc);go_wp2_with fail;go_meet;exact ⟨_,_,_,_,_,rfl,NewL.zero hbW (by first|exact la2|exact jL la2 hs1.size) kaW hoi2 hov (zwk _ _) kB (fun c e f h=>by rw[kA] at h;cases h;rfl)⟩
 case rest=>
  obtain ⟨D,ia,ic,ca,cc,rfl,HL⟩:=hcut;rename World=>w3
  clear k25 k27 la la2 HI HC OS hs0 hsA a0 a1 hbw2;obtain ⟨g,ic,hg⟩:=zhf HL.oi hn0;cases hg;obtain ⟨d0,d1,df,dl⟩:=box2 HL.d;go_wp2_with fail;go_loopw [8,28] (fun _ i wr=>∃(k:Nat) (z':List (Ma.Ins×Value)),k<=n/\i=jI (k:Int)/\NewL w wr D (jP g 0 n ic) (.slice ca m cc) at_ z p.con n m k z') (fun _ i _=>n-(intOf i).toNat)
  case atStart=>exact ⟨0,z,Nat.zero_le _,rfl,HL⟩
  case round=>
   obtain ⟨k,z',hk,rfl,hL⟩:=hrel;rename World=>wr
   clear HL d0 d1 df dl
   by_cases hlt:k<n
   .have t0:decide ((k:Int)<(n:Int))=true:=by simp;exact hlt
    obtain ⟨q,hq,hTq⟩:=HT9.out k hlt;have hL2:=hL.cell hq;obtain ⟨hgf,hgl⟩:=hL.frozen 0;have hgf:=fun j=>(hL.frozen j).1;obtain ⟨d0,d1,df,dl⟩:=box2 hL.d;have HTq:=jH fun u (hu:Below wr.heap.size wr u)=>hTq u (jN hL.b hu);have HSt:=jH fun (u:World) (v:Value) (hu:Below wr.heap.size wr u) hv=>hL.step hq hu (v:=v) hv;have hz1:∃a c,q.2= .slice a q.1.T.length c:=hTs.out k q hq;obtain ⟨qx,qT⟩:=q;obtain ⟨ta,tc,hqT⟩:=hz1;simp only at hqT;subst hqT;simp only at HTq HSt;have hD0:Below wr.heap.size wr wr.drew:=jB.drew;clear hq hTq;go_upto_region 10 with fail;go_region_with ((go_at_call 20;refine (HTq.out _ hD0).mono ?_;rintro e u ⟨v,rfl,hv,hbu⟩;have hv:=ze9 hv hD0.size;obtain ⟨va,vc,rfl⟩:=za7 hv;have hb9:=jN hD0 hbu;have c5:=jQ hb9 hL2 hgl;have cf:=fun j=>(World.frozen?_of_block (a:=(jA g j)) (hb9.block g hgl)).trans (hgf j);have cl:=jL hgl hb9.size;have d9:=jQ hb9 d0 dl))
    all_goals
     have hS9:=HSt.out _ _ hb9 hv;go_wp2_with fail;go_roundw
     case rel=>exact ⟨k+1,_,by omega,by go_num,hS9⟩
     case measure=>simp[intOf] <;> omega
   .obtain rfl:k=n:=by omega
    have t0:decide ((k:Int)<(k:Int))=false:=B7;obtain ⟨d0,d1,df,dl⟩:=box2 hL.d;obtain ⟨s0,s1,sf,sl⟩:=box2 hL.a;have kM:=hL.mach hN hX hb0 HZ.out HN.out.symm HM9.out.symm;have HO:=jH (zuo w0 _ _ _ _ p at_ T _ _ kM hCx hT hcon hat hTl (Ma.MS.zee hT ⟨rfl,rfl,rfl,rfl,Nat.zero_le _,by show Ma.stk [] (T 0);rw[hT.start];trivial,Nat.zero_le _⟩) rfl);have hbW:=hL.b.trans ((below1 wr (Obj.cells #[jP g 0 k ic,.slice ca m cc,jI at_.r,jI at_.c,jI 0,jZ,.pointer none,jI 0,jI 0,.bool false,.bool false,.bool false,jI 0] TM)).mono hL.b.size);have hsz:=hbW.size;clear kM;go_wp2_with fail;refine HO.out.mono ?_;rintro e w4 ⟨rfl,G',h',kM',hf,hG⟩;clear HO;go_wp2_with fail;refine jX (.tuple #[PT wr.heap.size,jI 0]) B145 ⟨_,G',_,h',rfl,by rw[<-HY.out];exact kM',zao hbW hf (fun i hi=>hi.1),fun i hi=> ?_⟩;rcases hG i hi with e|e
    .exact e.1
    .exact jR hsz e):=h
theorem NewL.get{w wr:World}{D:Nat}{iv cv:Value}{at_:Ma.Sp}{z z':List (Ma.Ins×Value)}{con:List Val.V}{n m k:Nat}(h:NewL w wr D iv cv at_ z con n m k z'){q:Ma.Ins×Value}(hq:z[k]?=some q):z'[k]?=some q:=by
 have h1:(z'.drop k)[0]?=(z.drop k)[0]?:=by rw[h.rest]
 rw[List.getElem?_drop,List.getElem?_drop,Nat.add_zero] at h1;rw[h1,hq]
section
variable{w wr:World}{D g cap:Nat}{cv:Value}{at_:Ma.Sp}{z z':List (Ma.Ins×Value)}{con:List Val.V}{n m k:Nat}(h:NewL w wr D (jP g 0 n cap) cv at_ z con n m k z')
include w wr D g cap cv at_ z z' con n m k h
theorem NewL.cell{q:Ma.Ins×Value}(hq:z[k]?=some q):wr.cell? (jA g (k*6+5))=some q.2:=by
 have h1:=zgc insC 6 zc8 z' k 5 q q.2 (h.get hq) rfl;have h2:=World.ownsRow.cells h.oi (g:=g) rfl _ _ h1;have hadd:((jA g 0):Addr).add (k*6+5)=(jA g (k*6+5)):=B16;rw[hadd] at h2;exact h2
theorem NewL.frozen(j:Nat):wr.frozen? (jA g j)=false/\g<wr.heap.size:=by
 obtain ⟨cur,hg,_,hl⟩:=zen h.oi;exact ⟨by simp[World.frozen?,hg],hl⟩
end
theorem NewL.step{w wr u:World}{D g cap:Nat}{cv v:Value}{at_:Ma.Sp}{z z':List (Ma.Ins×Value)}{con:List Val.V}{n m k:Nat}(h:NewL w wr D (jP g 0 n cap) cv at_ z con n m k z'){q:Ma.Ins×Value}(hq:z[k]?=some q)(hb:Below wr.heap.size wr u)(hv:u.ownsRow wr.heap.size TIT 1 v q.1.T.length (q.1.T.map (Value.int .i64))):NewL w (u.setCell (jA g (k*6+5)) v) D (jP g 0 n cap) cv at_ z con n m (k+1) (z'.set k (q.1,v)):=by
 obtain ⟨cur,hg,hgb,hgl⟩:=zen h.oi;have hg':u.heap[g]?=some (.cells cur TIN (0,0)):=(hb.block g hgl).trans hg;have hbu:Below w.heap.size w u:=jN h.b hb;have hD:D≠g:=by
  rintro rfl;have:=h.d;rw[hg] at this;cases this
 have hA:w.heap.size+1≠g:=by
  rintro e;have:=h.a;rw[e,hg] at this;cases this
 refine ⟨hbu.setCell (p:=(jA g (k*6+5))) hgb v,?_,?_,?_,?_,?_,?_,fun i r hi hr=> ?_⟩
 .exact (heap_setCell_other u (jA g (k*6+5)) _ v hA).trans (jk hb h.a)
 .exact (heap_setCell_other u (jA g (k*6+5)) _ v hD).trans (jk hb h.d)
 .rw[<-zp7 z' k q v (h.get hq)];exact zlu (own_bel h.oi hb) _ v
 .exact ownsRow_setCell_other (own_bel h.oc hb) (a:=(jA g (k*6+5))) (own_ne (own_bel h.oc hb) hg' B3) v
 .rw[List.map_set,h.same];have hk:(z.map (·.1))[k]?=some q.1:=by rw[List.getElem?_map,hq];rfl
  refine List.ext_getElem? fun i=> ?_;rw[List.getElem?_set]
  by_cases e:k=i
  .subst e;rw[if_pos rfl,if_pos (jl hk),hk]
  .rw[if_neg e]
 .rw[List.drop_set];have:=h.rest;have e:z'.drop (k+1)=z.drop (k+1):=by rw[<-List.drop_drop,<-List.drop_drop,this]
  rw[if_pos B1];exact e
 .by_cases e:i=k
  .subst e;rw[List.getElem?_set_self (by have:=(jl (h.get hq));exact this)] at hr;cases hr;exact ze9 (ownsRow_setCell_other hv (a:=(jA g (i*6+5))) (own_ne hv hg' B3) v) h.b.size
  .rw[List.getElem?_set_ne B1] at hr;have h1:=own_bel (h.tab i r B1 hr) hb;exact ownsRow_setCell_other h1 (a:=(jA g (k*6+5))) (own_ne h1 hg' B3) v
theorem NewL.zero{w wv W:World}{D:Nat}{iv cv:Value}{at_:Ma.Sp}{z:List (Ma.Ins×Value)}{con:List Val.V}{n m:Nat}(b:Below w.heap.size w wv)(hlo:w.heap.size+1<D)(ha:wv.heap[w.heap.size+1]?=some (.cells #[jI at_.r,jI at_.c] 27 (0,0)))(oi:wv.ownsRow w.heap.size TIN 6 iv n (z.flatMap insC))(oc:wv.ownsRow w.heap.size TVL 3 cv m (con.flatMap vC3))(hf:Foot (fun i=>i=D) wv W)(hd:W.heap[D]?=some (.cells #[iv,cv] TCD (0,0)))(hD:∀c e f,wv.heap[D]?=some (.cells c e f)->e=TCD):NewL w W D iv cv at_ z con n m 0 z:=by
 have hg:wv.grownBy W (some D):=⟨hf.os,hf.tape,hf.output,hf.size,fun k hk hne=>hf.block k hk fun e=>hne B196⟩;have hne:∀{e:TypeId} {size k:Nat} {v:Value} {xs:List Value},e≠TCD->wv.ownsRow w.heap.size e size v k xs->W.ownsRow w.heap.size e size v k xs:=fun he h=>by
  refine h.kept hg (.inr fun e=> ?_);rcases h.2 with ⟨rfl,_⟩|⟨g',cap',cur,rfl,_,hg',_⟩
  .cases e
  .cases e;exact he (hD _ _ _ hg')
 refine ⟨⟨hf.os.trans b.os,hf.tape.trans b.tape,hf.output.trans b.output,jR b.size hf.size,fun k hk=>(hf.block k (jL hk b.size) B1).trans (b.block k hk)⟩,(hf.block _ (jg ha) B1).trans ha,hd,hne B3 oi,hne B3 oc,rfl,rfl,fun i q hi=>by omega⟩
theorem NewL.mach{w0 w wr:World}{D g cap:Nat}{cv:Value}{at_:Ma.Sp}{z z':List (Ma.Ins×Value)}{p:Ma.Code}{n m:Nat}(hN:NumW w0)(hX:TxtW w0)(hb0:Below w0.heap.size w0 w)(h:NewL w wr D (jP g 0 n cap) cv at_ z p.con n m n z')(hz:z.map (·.1)=p.ins)(hn:n=p.ins.length)(hm:m=p.con.length):
 MachAt w0 (wr.alloc (Obj.cells #[jP g 0 n cap,cv,jI at_.r,jI at_.c,jI 0,jZ,.pointer none,jI 0,jI 0,.bool false,.bool false,.bool false,jI 0] TM)) (fun i=>w.heap.size<=i/\i<=wr.heap.size) (fun i=>w.heap.size<=i/\i<wr.heap.size) wr.heap.size p at_ ⟨0,[],none,Ma.sp0,false,false,false,0⟩
  ⟨jP g 0 n cap,cv,at_.r,at_.c,0,jZ,.pointer none,0,0,false,false,false,0⟩:=by
 generalize ho:Obj.cells #[jP g 0 n cap,cv,jI at_.r,jI at_.c,jI 0,jZ,.pointer none,jI 0,jI 0,.bool false,.bool false,.bool false,jI 0] TM=ob;have hb1:Below wr.heap.size wr (wr.alloc ob):=below1 wr ob;have hbw:Below w.heap.size w (wr.alloc ob):=jN h.b hb1;have hsz:(wr.alloc ob).heap.size=wr.heap.size+1:=B7;have hs0:=hb0.size;have hsb:=h.b.size;have hzl:p.ins.length=z.length:=by rw[<-hz,List.length_map]
 subst hn hm;have hzl':z'.length=z.length:=by rw[<-List.length_map (f:=(·.1)),h.same,List.length_map]
 obtain ⟨cur,hg,hgb,hgl⟩:=zen h.oi;refine ⟨hN,hX,hb0.trans (hbw.mono hs0),?_,⟨rfl,rfl,rfl,rfl,rfl,rfl,rfl,rfl,rfl⟩,⟨⟨g,cap,rfl,zf5 h.oi,fun i x hx=> ?_⟩,?_⟩,?_,rfl,⟨hsb,jE⟩,fun k hk=> ⟨hk.1,Nat.le_of_lt hk.2⟩,(fun k e=>by cases e),(fun e=>by have:=e.2;omega),(fun k e=>by cases e),fun k hk=> ⟨jR hs0 hk.1,by rw[hsz];have:=hk.2;omega⟩⟩
 .subst ho;exact heap_alloc_new wr _
 .have hx':∃q,z'[i]?=some q/\q.1=x:=by
   have:(z'.map (·.1))[i]?=some x:=by rw[h.same,hz];exact hx
   rw[List.getElem?_map] at this;obtain ⟨q,hq,e⟩:=Option.map_eq_some_iff.1 this;exact ⟨q,hq,e⟩
  obtain ⟨q,hq,rfl⟩:=hx';have hi:i<p.ins.length:=by rw[hzl,<-hzl'];exact (jl hq)
  have hC:∀(j:Nat) (u:Value),(insC q)[j]?=some u->(wr.alloc ob).cell? (jA g (i*6+j))=some u:=fun j u hu=>by
   have h2:=World.ownsRow.cells (own_bel h.oi hb1) (g:=g) rfl _ _ (zgc insC 6 zc8 z' i j q u hq hu);have hadd:((jA g 0):Addr).add (i*6+j)=(jA g (i*6+j)):=B16;rw[hadd] at h2;exact h2
  have hT:=own_bel (h.tab i q hi hq) hb1;refine ⟨⟨hgb,hgl⟩,q.2,⟨jL hgl hb1.size,hC 0 _ rfl,hC 1 _ rfl,hC 2 _ rfl,hC 3 _ rfl,hC 4 _ rfl,hC 5 _ rfl⟩,?_,fun g' o' n c e=> ?_⟩
  .rcases hT.2 with ⟨e,h0⟩|⟨g',cap',cur',e,hb',hg',hle,_⟩
   .exact .inl ⟨e,List.eq_nil_of_length_eq_zero h0⟩
   .refine .inr ⟨g',0,cap',e,hle,(jg hg'),fun j y hy=> ?_⟩;have h2:=World.ownsRow.cells hT (g:=g') (by rw[e];rfl) j (jI y) (by rw[List.getElem?_map,hy];rfl);have hadd:((jA g' 0):Addr).add j=(jA g' (0+j)):=B16;rw[hadd] at h2;exact h2
  .have hT0:=(h.tab i q hi hq).lt g' (by rw[e];rfl);exact ⟨hT0.1,hT0.2⟩
 .have hO:=own_bel h.oc hb1;rcases h.oc.2 with ⟨e,h0⟩|⟨g',cap',cur',e,hb',hg',hle,_⟩
  .exact ⟨none,0,by rw[e,h0],by omega,fun i v hv=>by have:=(jl hv);omega⟩
  .refine ⟨_,cap',e,hle,fun i v hv=> ⟨g',0,rfl,⟨hb',(jg hg')⟩,?_⟩⟩;have hC:∀(j:Nat) (u:Value),(vC3 v)[j]?=some u->(wr.alloc ob).cell? (jA g' (0+i*3+j))=some u:=fun j u hu=>by
    have h2:=World.ownsRow.cells hO (g:=g') (by rw[e];rfl) _ _ (zgc vC3 3 zfs p.con i j v u hv hu);have hadd:((jA g' 0):Addr).add (i*3+j)=(jA g' (0+i*3+j)):=B16;rw[hadd] at h2;exact h2
   exact ⟨hC 0 _ rfl,hC 1 _ rfl,hC 2 _ rfl⟩
 .exact World.ownsRow_nil _ _ _ _
theorem foot_new{w:World}(o:Obj):Foot (fun i=>i=w.heap.size) w (w.alloc o):=
 have h:=below1 w o
 ⟨h.os,h.tape,h.output,h.size,fun k hk _=>h.block k hk⟩
theorem zwk{w:World}{D:Nat}(x y:Value):Foot (fun i=>i=D) w ((w.setCell (jA D 0) x).setCell (jA D 1) y):=Foot.set Bp10 rfl
theorem zuz(w0 w:World)(p:Ma.Code)(iv cv:Value)(at_:Ma.Sp)(T:Nat->Ma.St)(hN:NumW w0)(hX:TxtW w0)(hb0:Below w0.heap.size w0 w)(hI:InsRow w iv p.ins)(hC:ConRd w cv p.con)(b1:p.ins.length<=1000000)(b2:p.con.length<=1000000)(b3:Ma.longT p.ins<=1000000)(hm:Ma.mayC p=0)(hCx:Ma.MS.Ctx Fd.sortI Ma.readArea)(hT:Ma.Typed p T)(hcon:∀v∈p.con,Ma.okV v)(hat:Ma.mayS at_=true)(hTl:∀x∈p.ins,x.T.length<=1000000):
 Calls prog 6 #[.agg #[iv,cv],SP at_.r at_.c] w fun e w'=>∃X G C h,e=jr (.tuple #[PT X,jI 0])/\MachAt w0 w' G C X p at_ (Ma.MS.new Fd.sortI Ma.readArea p at_) h/\Below w.heap.size w w'/\∀i,G i->w.heap.size<=i:=by
 have HS:Hid (∀u,Ret 16 #[SP at_.r at_.c] u (.bool true)):=jH fun u=>by
  have:=zdz at_.r at_.c u;rw[show mayP at_.r at_.c=true from hat] at this;exact this
 have HM:Hid (∀u,Below w.heap.size w u->Ret 17 #[.agg #[iv,cv]] u (jI 0)):=jH fun u hu=>by
  have:=zpl p iv cv u (hI.below hu) (hC.below hu) b1 b2 b3;rw[hm] at this;exact this
 obtain ⟨z,hz,hzT,hzC⟩:=zv4 hI b1;obtain ⟨n,hn⟩:∃n,p.ins.length=n:=⟨_,rfl⟩;obtain ⟨m,hm9⟩:∃m,p.con.length=m:=⟨_,rfl⟩;have hn0:0<n:=by rw[<-hn];exact hT.n0
 rw[hn] at hzC;have hn1:n<=1000000:=by rw[<-hn];exact b1
 have HI:=jH fun u (hu:Below w.heap.size w u)=>(hzC u hu).mono (R':=fun e w'=>∃a c,e=jr (.slice a n c)/\w'.ownsRow w.heap.size TIN 6 (.slice a n c) n (z.flatMap insC)/\Below u.heap.size u w') (by
  rintro e w' ⟨v,h1,h2,h3⟩;obtain ⟨a',c',rfl⟩:=za7 h2;exact ⟨a',c',h1,ze9 h2 hu.size,h3⟩)
 have HC:=jH fun u (hu:Below w.heap.size w u)=>(zxi hC b2 u hu).mono (R':=fun e w'=>∃a c,e=jr (.slice a m c)/\w'.ownsRow w.heap.size TVL 3 (.slice a m c) m (p.con.flatMap vC3)/\Below u.heap.size u w') (by
  rintro e w' ⟨v,h1,h2,h3⟩;rw[hm9] at h2;obtain ⟨a',c',rfl⟩:=za7 h2;exact ⟨a',c',h1,ze9 h2 hu.size,h3⟩)
 have hzl:z.length=n:=by rw[<-hn,<-hz,List.length_map]
 have HT9:=jH fun (k:Nat) (hk:k<n)=>(show∃q,z[k]?=some q/\∀u,Below w.heap.size w u->Calls prog 20 #[q.2] u fun e w'=>∃v,e=jr v/\w'.ownsRow u.heap.size TIT 1 v q.1.T.length (q.1.T.map (Value.int .i64))/\Below u.heap.size u w' from by
  have hk2:k<z.length:=by rw[hzl];exact hk
  have hq:=List.getElem?_eq_getElem hk2;refine ⟨_,hq,zth (hzT k _ hq) (hTl _ ?_)⟩;rw[<-hz];exact List.mem_map_of_mem (List.getElem_mem hk2))
 have hTs:=jH fun (k:Nat) (q:Ma.Ins×Value) (hq:z[k]?=some q)=>(hzT k q hq).any;have HN:=jH hn;have HM9:=jH hm9;have HZ:=jH hz;have HB:=jH (And.intro b1 (And.intro b2 b3));clear hzC hn hm9 hz hzl hzT b1 b2 b3;obtain ⟨y,hy⟩:∃y,Ma.MS.new Fd.sortI Ma.readArea p at_=y:=⟨_,rfl⟩;rw[hy];have HY:=jH hy;clear hy;go_enter func6,ntmps6;go_wp2_with fail;refine jM (HS.out _) ?_;intro w1 hb1;have hb2:=below1 w (Obj.cells #[iv,cv] TCD);have hb3:=below1 (w.alloc (Obj.cells #[iv,cv] TCD)) (Obj.cells #[jI at_.r,jI at_.c] 27);have hbw:Below w.heap.size w w1:=hb2.trans ((jN hb3 hb1).mono hb2.size);have k25:=((jN hb3 hb1).block w.heap.size B7).trans Bp34;have k27:=(hb1.block (w.heap.size+1) B7).trans ((show _=_ by simp:((w.alloc (Obj.cells #[iv,cv] TCD)).alloc (Obj.cells #[jI at_.r,jI at_.c] 27)).heap[w.heap.size+1]?=((w.alloc (Obj.cells #[iv,cv] TCD)).alloc (Obj.cells #[jI at_.r,jI at_.c] 27)).heap[(w.alloc (Obj.cells #[iv,cv] TCD)).heap.size]?).trans (heap_alloc_new (w.alloc (Obj.cells #[iv,cv] TCD)) _))
 open X169 in exact C43
def m1:Ma.MS:=⟨0,[],none,⟨0,0⟩,true,false,false,0⟩
def m2:Ma.MS:=⟨4,[Ma.vArg ⟨1,5,⟨#[]⟩⟩],none,⟨0,0⟩,false,true,false,1⟩
def B167(h:jp:=by rw[e];exact Nat.lt_irrefl _):=h
theorem zet:Ma.MS.Ctx Fd.sortI Ma.readArea:=⟨Fd.zhd,fun s h=>Ma.znj s h,fun op v h=>Ma.okV_un op h,fun op v u h k=>Ma.okV_bin op h k,fun f n v h=>Ma.zus f n v h⟩
theorem zkr:∀v∈plusP.con,Ma.okV v:=by
 intro v hv;have:v=⟨1,1,⟨#[]⟩⟩:=by simpa[plusP] using hv
 subst this;exact Ma.za9 (n:=1) ⟨by decide,B3⟩
theorem zx2(w u:World)(iv cv:Value)(hN:NumW w)(hX:TxtW w)(hb:Below w.heap.size w u)(hI:InsRow u iv plusP.ins)(hC:ConRd u cv plusP.con):
 Calls prog 6 #[.agg #[iv,cv],SP 6 1] u fun e w'=>∃X G C h,e=jr (.tuple #[PT X,jI 0])/\MachAt w w' G C X plusP ⟨6,1⟩ m1 h/\Below u.heap.size u w':=by
 obtain ⟨T,hT⟩:=Ma.zdg zks;refine (zuz w u plusP iv cv ⟨6,1⟩ T hN hX hb hI hC B3 B3 B3 zks zet hT zkr B3 B3).mono ?_;rintro e w' ⟨X,G,C,h,h1,h2,h3,_⟩;rw[zo8] at h2;exact ⟨X,G,C,h,h1,h2,h3⟩
theorem zsm{w u:World}{G C:Nat->Prop}{X:Nat}{h:MH}(k:MachAt w u G C X plusP ⟨6,1⟩ m1 h):
 Calls prog 12 #[PT X,vv3 ⟨1,4,⟨#[]⟩⟩] u fun e w'=>e=jr (jI 0)/\MQ w u G C X plusP ⟨6,1⟩ m2 w':=by
 obtain ⟨T,hT⟩:=Ma.zdg zks;have hI:=(Ma.MS.zux zet hT zkr (at_:=⟨6,1⟩) B3).1;rw[zo8] at hI;have:=zp4 w u G C X plusP ⟨6,1⟩ T m1 h k zet hT zkr B3 B3 hI rfl ⟨1,4,⟨#[]⟩⟩ (Ma.za9 (n:=4) ⟨by decide,B3⟩);rw[show Ma.MS.give Fd.sortI Ma.readArea plusP ⟨6,1⟩ m1 ⟨1,4,⟨#[]⟩⟩=m2 from zuh] at this;exact this
theorem zor(w:World)(hN:NumW w)(hX:TxtW w):Ret 4 #[] w (.bool true):=by
 have HP:=jH fun u=>plus_any u;have HNm:=jH fun x u=>zfb x u;have HNw:=jH fun u iv cv h1 h2 h3=>zx2 w u iv cv hN hX h1 h2 h3;have HSp:=jH fun u iv cv=>zpg u iv cv ⟨-1,0⟩ B3;have HBd:=jH fun u=>zuy u ⟨[],[]⟩ jZ jZ ⟨0,0⟩ B3 (.inl ⟨rfl,rfl⟩) (.inl ⟨rfl,rfl⟩) B3 B3 B3 2 B49 rfl;go_enter func4,ntmps4;go_wp2_with fail;refine (HP.out _).mono ?_;rintro e u1 ⟨iv,cv,rfl,hI,hC,hb1⟩;go_wp2_with fail;refine (HNw.out _ _ _ hb1 hI hC).mono ?_;rintro e u2 ⟨X,G,C,h,rfl,k2,hb2⟩;have HW:=jH (show Calls prog 8 #[PT X] u2 fun e w'=>e=jr (.tuple #[SP 0 0,.bool true])/\Below u2.heap.size u2 w' from zd3 k2);go_wp2_with fail;refine jM HW.out ?_;intro u3 hb3;have k3:=k2.below2 hb3;have hgS:=fun i (hi:G i)=>(k3.g i hi).2;have hbw:=hb1.trans ((jN hb2 hb3).mono hb1.size);clear HW k2 hb2 hb3 hI hC HNw hb1;have kS:=heap_alloc_new u3 (Obj.cells #[jI 0,jI 0] 27);have k4:=k3.below2 (below1 u3 (Obj.cells #[jI 0,jI 0] 27));have hbw4:=hbw.trans ((below1 u3 (Obj.cells #[jI 0,jI 0] 27)).mono hbw.size);go_upto_region 5 with fail;clear k3 hbw;generalize hS:u3.heap.size=S at *;generalize u3.alloc _=y4 at *;clear hS;have HG:=jH (zp3 X h y4 k4.cells k4.like.wants ⟨9,0,⟨#[]⟩⟩ B49);go_wp2_with fail;refine jM HG.out ?_;intro u5 hb5;have k5:=k4.below2 hb5;have kS:=(hb5.block S (jg kS)).trans kS;have hbw5:=jN hbw4 hb5;clear HG k4 hb5 hbw4;have HVl:=jH (show Calls prog 10 #[PT X] u5 fun e w'=>e=jr (.tuple #[vv3 ⟨0,0,⟨#[]⟩⟩,.bool false])/\Below u5.heap.size u5 w' from zcw w u5 G C X plusP ⟨6,1⟩ (fun _=> []) m1 h k5 nofun);go_wp2_with fail;refine jM HVl.out ?_;intro u6 hb6;have k6:=k5.below2 hb6;have kS:=(hb6.block S (jg kS)).trans kS;have hbw6:=jN hbw5 hb6;clear HVl k5 hb6 hbw5;have hx6:=below1 u6 (Obj.cells #[jI 0,jI 0,jS ⟨#[]⟩] 41);have k7:=k6.below2 hx6;have kS:=(hx6.block S (jg kS)).trans kS;have hbw7:=jN hbw6 hx6;go_upto_region 7 with fail;clear k6 hbw6 hx6;generalize u6.alloc _=y7 at *;go_wp2_with fail;refine jM (HNm.out _ _) ?_;intro u8 hb8;have k8:=k7.below2 hb8;have kS:=(hb8.block S (jg kS)).trans kS;have hbw8:=jN hbw7 hb8;clear k7 hb8 hbw7;have HGv:=jH (zsm k8);go_wp2_with fail;refine HGv.out.mono ?_;rintro e u9 ⟨rfl,G',h',k9,f9,g9⟩;have kS:=(f9.block S (jg kS) (fun e=>absurd (hgS S e) (Nat.lt_irrefl _))).trans kS;have hbw9:=zao hbw8 f9 (fun i hi=>(k8.g i hi).1);clear k8 HGv hbw8 g9 f9 hgS;have HVl:=jH (show Calls prog 10 #[PT X] u9 fun e w'=>e=jr (.tuple #[vv3 ⟨1,5,⟨#[]⟩⟩,.bool true])/\Below u9.heap.size u9 w' from zcw w u9 G' C X plusP ⟨6,1⟩ (fun _=> []) m2 h' k9 (fun _ _=>jE));go_wp2_with fail;refine jM HVl.out ?_;intro u10 hb10;have k10:=k9.below2 hb10;have kS:=(hb10.block S (jg kS)).trans kS;have hbw10:=jN hbw9 hb10;clear HVl k9 hb10 hbw9;have kV:=heap_alloc_new u10 (Obj.cells #[jI 1,jI 5,jS ⟨#[]⟩] 41);have hx:=below1 u10 (Obj.cells #[jI 1,jI 5,jS ⟨#[]⟩] 41);have k11:=k10.below2 hx;have kS:=(hx.block S (jg kS)).trans kS;have hbw11:=jN hbw10 hx;go_upto_region 9 with fail;clear k10 hx hbw10;generalize hV:u10.heap.size=V at *;generalize u10.alloc _=y11 at *;clear hV;go_wp2_with fail;refine jM (HNm.out _ _) ?_;intro u12 hb12;have k12:=k11.below2 hb12;have kS:=(hb12.block S (jg kS)).trans kS;have kV:=(hb12.block V (jg kV)).trans kV;have hbw12:=jN hbw11 hb12;clear k11 hb12 hbw11;have HGs:=jH (zjs X h' u12 k12.cells k12.like.wants ⟨1,4,⟨#[]⟩⟩);go_wp2_with fail;refine jM HGs.out ?_;intro u13 hb13;have k13:=k12.below2 hb13;have kS:=(hb13.block S (jg kS)).trans kS;have kV:=(hb13.block V (jg kV)).trans kV;have hbw13:=jN hbw12 hb13;clear k12 hb13 hbw12 HGs;have HLk:=jH (show Calls prog 9 #[PT X] u13 fun e w'=>e=jr (.agg #[jI 4,jI 1,jI 1,.bool true])/\Below u13.heap.size u13 w' from zcx k13);go_wp2_with fail;refine jM HLk.out ?_;intro u14 hb14;have kS:=(hb14.block S (jg kS)).trans kS;have kV:=(hb14.block V (jg kV)).trans kV;have hbw14:=jN hbw13 hb14;clear k13 hb14 hbw13 HLk;have kL:=heap_alloc_new u14 (Obj.cells #[jI 4,jI 1,jI 1,.bool true] 38);have hx:=below1 u14 (Obj.cells #[jI 4,jI 1,jI 1,.bool true] 38);have kS:=(hx.block S (jg kS)).trans kS;have kV:=(hx.block V (jg kV)).trans kV;have hbw15:=jN hbw14 hx;go_upto_region 11 with fail;clear hx hbw14;generalize hL9:u14.heap.size=L at *;generalize u14.alloc _=y15 at *;clear hL9;go_wp2_with fail;refine (HP.out _).mono ?_;rintro e u16 ⟨iv',cv',rfl,-,-,hb16⟩;go_wp2_with fail;refine jM (HSp.out _ _ _) ?_;intro u17 hb17;go_wp2_with fail;refine jM (HBd.out _) ?_;intro u18 hb18;have hb15:=hb16.trans ((jN hb17 hb18).mono hb16.size);have kS:=(hb15.block S (jg kS)).trans kS;have kV:=(hb15.block V (jg kV)).trans kV;have kL:=(hb15.block L (jg kL)).trans kL;have hbw18:=jN hbw15 hb15;clear hb16 hb17 hb18 hb15 hbw15 HSp HBd HP;go_upto_region 13 with fail;have kb:∀{i j:Nat} {c:Array Value} {T:TypeId} {v:Value} {w':World},u18.heap[i]?=some (.cells c T (0,0))->c[j]?=some v->Below u18.heap.size u18 w'->w'.cell? (jA i j)=some v:=fun hk hc hb=>jQ hb ((Lib.cell_of_heap hk _).trans hc) (jg hk);have OS:∀w',Below u18.heap.size u18 w'->(Below u18.heap.size u18 w'/\w'.cell? (jA S 0)=some (jI 0)/\w'.cell? (jA S 1)=some (jI 0)/\w'.cell? (jA V 0)=some (jI 1)/\w'.cell? (jA V 1)=some (jI 5)/\w'.cell? (jA V 2)=some (jS ⟨#[]⟩)/\w'.cell? (jA L 0)=some (jI 4)/\w'.cell? (jA L 1)=some (jI 1)/\w'.cell? (jA L 2)=some (jI 1)/\w'.cell? (jA L 3)=some (.bool true)):=fun w' h=> ⟨h,kb kS rfl h,kb kS rfl h,kb kV rfl h,kb kV rfl h,kb kV rfl h,kb kL rfl h,kb kL rfl h,kb kL rfl h,kb kL rfl h⟩;have hs0:Below u18.heap.size u18 u18.drew:=jB.drew;clear kb kS kV kL;go_region_held3 (fun w'=>Below u18.heap.size u18 w'/\w'.cell? (jA S 0)=some (jI 0)/\w'.cell? (jA S 1)=some (jI 0)/\w'.cell? (jA V 0)=some (jI 1)/\w'.cell? (jA V 1)=some (jI 5)/\w'.cell? (jA V 2)=some (jS ⟨#[]⟩)/\w'.cell? (jA L 0)=some (jI 4)/\w'.cell? (jA L 1)=some (jI 1)/\w'.cell? (jA L 2)=some (jI 1)/\w'.cell? (jA L 3)=some (.bool true))
  (first|with_reducible exact OS _ hs0|with_reducible exact OS _ (And.left B95)|with_reducible exact OS _ hs1|fail)
  (first
   |(go_at_call 13;refine (HNm.out _ _).mono ?_;rintro e u19 ⟨rfl,hb19⟩;have hs1:Below u18.heap.size u18 u19:=jN hs0 hb19)
   |fail)
 go_wp2_with fail;go_ret;exact ⟨rfl,jN hbw18 hs1⟩
