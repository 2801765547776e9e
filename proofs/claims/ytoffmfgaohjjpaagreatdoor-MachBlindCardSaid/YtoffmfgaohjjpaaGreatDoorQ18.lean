import Derived.Test.YtoffmfgaohjjpaaGreatDoorQ13
import Derived.Test.YtoffmfgaohjjpaaGreatDoorQ15
set_option linter.unusedVariables false
set_option linter.unusedSectionVars false
set_option linter.unusedSimpArgs false
open Go.Proofs.Tryz
set_option maxHeartbeats 8000000
variable{jp:Sort _}
set_option maxRecDepth 100000
namespace Go.Proofs.YtoffmfgaohjjpaaGreatDoor
open Go.RowKit
namespace Mb
def B186(h:jp:=by first|with_reducible exact jB|exact jB.alloc jE _):=h
def _root_.Bp34(h:jp:=by exact heap_alloc_new w _):=h
def _root_.Bp58(h:jp:=by exact hb1.mono (below1 w _).size):=h
def B142(h:jp:=by simp[results,results76,go_sem]):=h
def X159.K38(h:jp:=by
 have hpl:Ma.MS.za5 Ma.readArea y.v=cond ((Val.asText y.v).2 !=0) (Ma.MS.zaz (Val.asText y.v).2) (cond ((Ma.readArea (Val.asText y.v).1.data.toList).2 !=0) (Ma.MS.zaz 3) (Ma.aArg (Ma.readArea (Val.asText y.v).1.data.toList).1)):=rfl;have HPL:=jH hpl;clear hpl q1 q2 q3 q4 hE1;go_wp2_with fail;refine jM (HT.out _ (HNm.out _ jB)) ?_;intro w2 hb2;generalize Val.asText y.v=sc at *;obtain ⟨s,c⟩:=sc;simp only at hsz HPL ⊢;cases tc:(c !=0)
 case true=>
  have HQ:=jH (show Ma.MS.za5 Ma.readArea y.v=Ma.MS.zaz c by rw[HPL.out,tc];rfl);clear HPL;go_wp2_with fail;refine jM (HF.out _ _ hb2) ?_;intro w3 hp;go_wp2_with fail;exact jX jT B142 ⟨rfl,by rw[HQ.out];exact hp⟩
 have HQ0:=jH (show Ma.MS.za5 Ma.readArea y.v=cond ((Ma.readArea s.data.toList).2 !=0) (Ma.MS.zaz 3) (Ma.aArg (Ma.readArea s.data.toList).1) by rw[HPL.out,tc];rfl);clear HPL;go_wp2_with fail;refine jM (HR.out s B1 _ (HNm.out _ hb2)) ?_;intro w3 hb3;have hb23:=jN hb2 hb3;generalize Ma.readArea s.data.toList=ra at *;obtain ⟨⟨t,l',b,r⟩,er⟩:=ra;simp only at HQ0 ⊢;have hb4:=hb23.alloc hb23.size (Obj.cells #[jI t,jI l',jI b,jI r] 62);cases te:(er !=0)
 .have HQ:=jH (show Ma.MS.za5 Ma.readArea y.v=Ma.aArg ⟨t,l',b,r⟩ by rw[HQ0.out,te];rfl);clear HQ0;go_wp2_with fail;refine jM (HL.out (Ma.aArg ⟨t,l',b,r⟩) _ hb4) ?_;intro w5 hp;go_wp2_with fail;exact jY jT B142 ⟨rfl,by rw[HQ.out];exact hp⟩
 .have HQ:=jH (show Ma.MS.za5 Ma.readArea y.v=Ma.MS.zaz 3 by rw[HQ0.out,te];rfl);clear HQ0;go_wp2_with fail;refine jM (HF.out _ _ hb4) ?_;intro w5 hp;go_wp2_with fail;exact jX jT B142 ⟨rfl,by rw[HQ.out];exact hp⟩):=h
def X168.K42(h:jp:=by
 refine jM HI.out ?_;intro w1 hp;go_wp2_with fail;exact jY jT B31 ⟨rfl,hp⟩):=h
def B88(h:jp:=by simp[Ma.MS.plain,hop]):=h
def B108(h:jp:=by have:=congrArg List.length hsp;simp at this;omega):=h
theorem own_bel{w w':World}{base:Nat}{e:TypeId}{size:Nat}{v:Value}{n:Nat}{xs:List Value}(h:w.ownsRow base e size v n xs)(hb:Below w.heap.size w w'):w'.ownsRow base e size v n xs:=
 h.kept (row:=none) ⟨hb.os,hb.tape,hb.output,hb.size,fun k hk _=>hb.block k hk⟩ (Classical.em _)
section
variable{w:World}
include w
theorem ze9{base b':Nat}{e:TypeId}{size:Nat}{v:Value}{n:Nat}{xs:List Value}(h:w.ownsRow base e size v n xs)(hb:b'<=base):w.ownsRow b' e size v n xs:=
 ⟨h.1,h.2.imp id fun ⟨g,cap,cur,e,hle,r⟩=> ⟨g,cap,cur,e,jR hb hle,r⟩⟩
theorem zbq{A:Nat}{a b c:Value}{T:TypeId}(k:w.heap[A]?=some (.cells #[a,b,c] T (0,0))):w.cell? (jA A 0)=some a/\w.cell? (jA A 1)=some b/\w.cell? (jA A 2)=some c/\(∀j,w.frozen? (jA A j)=false)/\A<w.heap.size:=
 ⟨by simp[World.cell?,k],by simp[World.cell?,k],by simp[World.cell?,k],fun j=>by simp[World.frozen?,k],(jg k)⟩
section
variable{g o:Nat}{a b:Value}(u:Obj)(h:w.cell? (jA g (o+1))=some a/\w.cell? (jA g (o+2))=some b/\g<w.heap.size)
include g o a b u h
theorem keep_alloc:(w.alloc u).cell? (jA g (o+1))=some a/\(w.alloc u).cell? (jA g (o+2))=some b/\g<(w.alloc u).heap.size:=
 have q:=(Below.refl w.heap.size w).alloc jE u
 ⟨jQ q h.1 h.2.2,jQ q h.2.1 h.2.2,jL h.2.2 q.size⟩
theorem keep_adrew:(w.alloc u).drew.cell? (jA g (o+1))=some a/\(w.alloc u).drew.cell? (jA g (o+2))=some b/\g<(w.alloc u).drew.heap.size:=keep_alloc u h
end
theorem keep_set{g o A:Nat}{a b x y z:Value}(hne:g<A)(h:w.cell? (jA g (o+1))=some a/\w.cell? (jA g (o+2))=some b/\g<w.heap.size):(((w.setCell (jA A 0) x).setCell (jA A 1) y).setCell (jA A 2) z).cell? (jA g (o+1))=some a/\(((w.setCell (jA A 0) x).setCell (jA A 1) y).setCell (jA A 2) z).cell? (jA g (o+2))=some b/\g<(((w.setCell (jA A 0) x).setCell (jA A 1) y).setCell (jA A 2) z).heap.size:=
 have q:=(((Below.refl A w).setCell (p:=(jA A 0)) jE x).setCell (p:=(jA A 1)) jE y).setCell (p:=(jA A 2)) jE z
 ⟨jQ q h.1 hne,jQ q h.2.1 hne,jL h.2.2 q.size⟩
theorem zop{A:Nat}{a b c:Value}{T:TypeId}(k:w.heap[A]?=some (.cells #[a,b,c] T (0,0)))(x y z:Value):(((w.setCell (jA A 0) x).setCell (jA A 1) y).setCell (jA A 2) z).heap[A]?=some (.cells #[x,y,z] T (0,0)):=zad (zad (zad k 0 x) 1 y) 2 z
theorem set3{A base:Nat}{w1:World}{o:Obj}(k:w.heap[A]?=some o)(h:Below base w1 w)(hle:base<=A)(x y z:Value):Below base w1 (((w.setCell (jA A 0) x).setCell (jA A 1) y).setCell (jA A 2) z):=
 ((h.setCell (p:=(jA A 0)) hle x).setCell (p:=(jA A 1)) hle y).setCell (p:=(jA A 2)) hle z
end
theorem zrc(w0:World)(C:Nat->Prop)(B:Nat)(h:MH)(w:World)(g o:Nat)(x:Ma.Ins)(hE:Env w0 w B h)(hB:At w B h)(ha:Apart C w B h)(hx:InsIn C w g o x)(l m:List Ma.Arg)(r:Val.V×Int)(hl:(l++m).length<=100000)(hs:Stk w h.st (l++m))(hop:x.op=6)(hb:x.b=(m.length:Int))(hv:∀k,k<m.length->VB ((m.map (·.v)).getD k Cal.zero))(hr:Hid (Cal.callM x.a m.length (fun k=>(m.map (·.v)).getD k Cal.zero)=r)):Calls prog 36 #[PT B,PI g o] w fun e w'=>e=jr jT/\Post B h w (l++ [Ma.vArg r.1]) w':=by
 have hx0:=hx;have hBl:=hB.lt;obtain ⟨⟨rk,rn,rt⟩,re⟩:=r;have HTk:=jH fun (u:World) (hu:Below w.heap.size w u)=>(zhz B h l m u (hB.below hu) (own_bel hs hu) B1).mono (R':=fun e w'=>∃a c,e=jr (.slice a m.length c)/\w'.ownsRow w.heap.size TA 8 (.slice a m.length c) m.length (argsC m)/\(∀W,Below w.heap.size w' W->Post B h w l W)/\(w'.cell? (jA g (o+1))=some (jI x.a)/\w'.cell? (jA g (o+2))=some (jI (m.length:Int))/\g<w'.heap.size)/\∀k,w.heap.size<=k->k<u.heap.size->w'.heap[k]?=u.heap[k]?) (by
  rintro e w1 ⟨v,sv,rfl,hown,q1,q2,q3,q4⟩;have hp1:Post B h w l w1:=(show Post B h u l w1 from ⟨sv,q1,q2,q3.mono fun i _ e=> .inl e,fun k hk=> .inl B130⟩).pre hu;have hpF:∀W,Below w.heap.size w1 W->Post B h w l W:=fun W hW=> ⟨sv,(hW.block B hBl).trans q1,q2.kept fun k hk=>hW.block k ((hs.lt B130).1),⟨hW.os.trans (q3.os.trans hu.os),hW.tape.trans (q3.tape.trans hu.tape),hW.output.trans (q3.output.trans hu.output),jR hu.size (jR q3.size hW.size),fun k hk hF=>(hW.block k hk).trans ((q3.block k (jL hk hu.size) (fun e=>hF (.inl e))).trans (hu.block k hk))⟩,fun k hk=> .inl B130⟩;have hx1:=hp1.ins ha hx0;have s1:=hx1.2.choose_spec.1.c1;have s2:=hx1.2.choose_spec.1.c2;rw[hb] at s2;have s3:=hx1.2.choose_spec.1.lt;have hown':=ze9 hown hu.size;obtain ⟨va,vc,rfl⟩:=(znm rfl hown').any;exact ⟨va,vc,rfl,hown',hpF,⟨s1,s2,s3⟩,fun k h0 h1=>q3.block k h1 (fun e=>by have:B<w.heap.size:=hBl;omega)⟩)
 have HV:=jH fun (sv:Value) (u:World) (hB:At u B {h with st:=sv}) (hs:Stk u sv l)=>zeh B {h with st:=sv} l ⟨rk,rn,rt⟩ u hB hs B171;have HVs:=jH fun (u u':World) (a:Option Addr) (c:Nat) (hu:Below u.heap.size u u') (hown:u.ownsRow w.heap.size TA 8 (.slice a m.length c) m.length (argsC m))=>(zqm w.heap.size m.length _ m u' rfl B171 (own_bel hown hu)).mono (R':=fun e w'=>∃a2 c2,e=jr (.slice a2 m.length c2)/\HCellP w' a2 m.length (fun k=>(m.map (·.v)).getD k Cal.zero)/\Below u.heap.size u w'/\Below u'.heap.size u' w') (by
  rintro e w2 ⟨v2,rfl,hown2,hb2⟩;obtain ⟨a2,c2',rfl,hcell⟩:=zun hown2 B7;exact ⟨a2,c2',rfl,hcell,jN hu hb2,hb2⟩)
 have HC:=jH fun (u u':World) (a:Option Addr) (c:Nat) (hu:Below u.heap.size u u') (hp:Post B h w l u) (hc:HCellP u a m.length (fun k=>(m.map (·.v)).getD k Cal.zero))=>(call_any x.a m.length _ a c u' (HCellP.below hc rfl hu) hv (zeo hE.num (hE.post (hp.below hu))) (hE.txt.below rfl (hE.post (hp.below hu)))).mono (R':=fun e w'=>e=jr (.tuple #[vv ⟨rk,rn,rt⟩,jI re])/\Below u.heap.size u w'/\Below u'.heap.size u' w') (by
  rw[hr.out];rintro e w3 ⟨rfl,hb3⟩;exact ⟨rfl,jN hu hb3,hb3⟩)
 obtain ⟨-,T,⟨hlt,c0,c1,c2,c3,c4,c5⟩,-,-⟩:=hx;rw[hop] at c0;rw[hb] at c2;clear c3 c4 c5;generalize hml:m.length=n at *;go_enter func36,ntmps36;go_wp2_with fail;have d1:w.drew.cell? (jA g (o+1))=some (jI x.a):=c1;have d2:w.drew.cell? (jA g (o+2))=some (jI (n:Int)):=c2;have d3:g<w.drew.heap.size:=hlt;go_region_held3 (fun w'=>w'.cell? (jA g (o+1))=some (jI x.a)/\w'.cell? (jA g (o+2))=some (jI (n:Int))/\g<w'.heap.size)
  (first|with_reducible exact ⟨s1,s2,s3⟩|with_reducible exact keep_alloc _ ⟨s1,s2,s3⟩|with_reducible exact keep_set (by first|exact kn2|exact kn1|exact d3|exact hlt) ⟨s1,s2,s3⟩|with_reducible exact keep_set (jL s3 jE) (keep_alloc _ ⟨s1,s2,s3⟩)|with_reducible exact ⟨d1,d2,d3⟩|with_reducible exact keep_alloc _ ⟨d1,d2,d3⟩|with_reducible exact keep_adrew _ ⟨c1,c2,hlt⟩)
  (first
   |(go_at_call 32;refine (HTk.out _ (by first|with_reducible exact jB.drew|exact (jB.alloc jE _).drew)).mono ?_;rintro e w1 ⟨va,vc,rfl,hown,hpF,⟨s1,s2,s3⟩,hk1⟩;have hp1:=hpF _ jB;try (have kA:=(hk1 _ jE B7).trans Bp4))
   |(go_at_call 73;refine (HVs.out w1 _ _ _ B186 hown).mono ?_;rintro e w2 ⟨a2,c2',rfl,hcell,hq2,hk2⟩;have kn1:g<w1.heap.size:=s3;have s1:=jQ hq2 s1 s3;have s2:=jQ hq2 s2 s3;have s3:=jL s3 hq2.size;(first|(replace kA:=jk hk2 kA)|(have kA:=(hk2.block w1.heap.size B7).trans Bp4)|skip))
   |(go_at_call 72;refine (HC.out w2 _ _ _ B186 (hp1.below hq2) hcell).mono ?_;rintro e w3 ⟨rfl,hq3,hk3⟩;have kn2:g<w2.heap.size:=s3;have s1:=jQ hq3 s1 s3;have s2:=jQ hq3 s2 s3;have s3:=jL s3 hq3.size;(first|(replace kA:=jk hk3 kA;obtain ⟨kA0,kA1,kA2,kAf,kAl⟩:=zbq kA)|(have kA:=(hk3.block w2.heap.size B7).trans Bp4;obtain ⟨kA0,kA1,kA2,kAf,kAl⟩:=zbq kA)|skip)))
 all_goals
  have hz1:w.heap.size<=w1.heap.size:=(by obtain ⟨sv,_,_,q3,_⟩:=hp1;exact q3.size);have hq13:Below w.heap.size w1 w3:=(hq2.mono hz1).trans (hq3.mono (jR hz1 hq2.size))
 .have hW:=hpF _ ((hq13.alloc (jR hz1 (jR hq2.size hq3.size)) (.cells #[jI rk,jI rn,jS rt] 41)));obtain ⟨b0,b1,b2,bf,bl⟩:=zbq (heap_alloc_new w3 (.cells #[jI rk,jI rn,jS rt] 41));obtain ⟨sv,q1,q2,q3,q4⟩:=hW;generalize hA:w3.heap.size=A at *;go_wp2_with fail;refine jM (HV.out sv _ q1 q2) ?_;intro w4 hp4;go_wp2_with fail;exact jY jT B31 ⟨rfl,Post.then q3 q4 hp4⟩
 all_goals
  have hb3:=zbq (zop kA (jI rk) (jI rn) (jS rt));have hW:=hpF _ (set3 kA hq13 (by first|exact jE|exact hz1|exact jR hz1 hq2.size) (jI rk) (jI rn) (jS rt));obtain ⟨b0,b1,b2,bf,bl⟩:=hb3;obtain ⟨sv,q1,q2,q3,q4⟩:=hW;go_wp2_with fail;refine jM (HV.out sv _ q1 q2) ?_;intro w4 hp4;go_wp2_with fail;exact jY jT B31 ⟨rfl,Post.then q3 q4 hp4⟩
theorem zl9(w0:World)(B:Nat)(h:MH)(w:World)(hE:Env w0 w B h)(hB:At w B h)(l:List Ma.Arg)(y:Ma.Arg)(hl:l.length<=100000)(hs:Stk w h.st (l++ [y]))(hv:VB y.v):Calls prog 76 #[PT B] w fun e w'=>e=jr jT/\Post B h w (l++ [Ma.MS.za5 Ma.readArea y.v]) w':=by
 have HTk:=jH Bp26;have HT:=jH fun (u:World) (hN:NumW u)=>zbu y.v u hv hN;have HR:=jH fun (s:ByteArray) (hs:s.size<=100000) (u:World) (hN:NumW u)=>zlt s hs u hN;have hsz:=zak hv;have hfd:=ziq y;go_enter func76,ntmps76;go_wp2_with fail;refine jM HTk.out ?_;intro w1 hp1;have hE1:=hE.post hp1;have HNm:=jH fun (u:World) (hu:Below w1.heap.size w1 u)=>zeo hE.num (jN hE1 hu);obtain ⟨sv,q1,q2,q3,q4⟩:=hp1;have HL:=jH fun (z:Ma.Arg) (u:World) (hu:Below w1.heap.size w1 u)=>(lay_p B {h with st:=sv} l z u (q1.below hu) (q2.kept fun g hg=>hu.block g (q2.lt hg).1) B1).mono (R':=fun e w'=>e=jr jT/\Post B h w (l++ [z]) w') B59
 open X159 in exact C38
section
variable(w0:World)(C:Nat->Prop)(B:Nat)(h:MH)(w:World)(g o:Nat)(x:Ma.Ins)(hE:Env w0 w B h)(hB:At w B h)(ha:Apart C w B h)(hx:InsIn C w g o x)
include w0 C B h w g o x hE hB ha hx
theorem zi6(l:List Ma.Arg)(y:Ma.Arg)(hl:l.length<=100000)(hs:Stk w h.st (l++ [y]))(hop:x.op=17)(hv:VB y.v):Calls prog 36 #[PT B,PI g o] w fun e w'=>e=jr jT/\Post B h w (l++ [Ma.MS.za5 Ma.readArea y.v]) w':=by
 have HI:=jH (zl9 w0 B h w hE hB l y hl hs hv)
 open X168 in exact C42
theorem znl(l rst:List Ma.Arg)(a0:Ma.Arg)(hl:(l++a0::rst).length<=100000)(hs:Stk w h.st (l++a0::rst))(hlen:(rst.length:Int)=x.a)(h1:1<=rst.length)(h4:rst.length<=4)(hop:x.op=18/\2<=rst.length\/x.op=19/\rst.length<=2)(hA:Ma.isErr a0=false->Ma.mayA a0.a=true)(hvb:∀y∈rst,VB y.v):Calls prog 36 #[PT B,PI g o] w fun e w'=>e=jr jT/\Post B h w (l++ [Ma.MS.zdk x (a0::rst)]) w':=by
 have HI:=jH (zu0 w0 C B h w g o x hE hB ha hx l rst a0 hl hs hlen h1 h4 hop hA hvb);obtain ⟨-,T,⟨hlt,c0,c1,c2,c3,c4,c5⟩,-,-⟩:=hx;rcases hop with ⟨hop,_⟩|⟨hop,_⟩
 all_goals
  rw[hop] at c0;go_enter func36,ntmps36;go_wp2_with fail;refine jM HI.out ?_;intro w1 hp;go_wp2_with fail;exact jY jT B31 ⟨rfl,hp⟩
end
theorem zb5(m:Ma.MS)(n:Nat)(hn:n<=m.st.length):m.st=(m.cut n).st++m.last n/\(m.last n).length=n:=by
 unfold Ma.MS.cut Ma.MS.last;exact ⟨(List.take_append_drop _ _).symm,B125⟩
theorem map_getD(l:List Ma.Arg)(k:Nat):(l.map (·.v)).getD k Cal.zero=(l.getD k (Ma.vArg Cal.zero)).v:=by
 rw[List.getD_eq_getElem?_getD,List.getD_eq_getElem?_getD,List.getElem?_map];cases l[k]? <;> rfl
theorem min_nn:∀k:Fin 77,(infoV (k.val:Int)).2=0->0<=(infoV (k.val:Int)).1.2.2.1:=B49
theorem good_b6{x:Ma.Ins}{ncon:Int}(hop:x.op=6)(hg:Ma.goodI ncon x=true):0<=x.b:=by
 have hf:Ma.funcOf x [1,2]=true:=by simpa[Ma.goodI,hop] using hg
 unfold Ma.funcOf at hf;cases hc:((infoV x.a).2 !=0||decide (x.b<(infoV x.a).1.2.2.1)||(decide (0<=(infoV x.a).1.2.2.2)&&decide ((infoV x.a).1.2.2.2<x.b)))
 .simp only[Bool.or_eq_false_iff,bne_eq_false_iff_eq,decide_eq_false_iff_not] at hc;obtain ⟨k,hk⟩:=zfh hc.1.1;have:=min_nn k B199;rw[<-hk] at this;have:=hc.1.2;omega
 .rw[hc] at hf;cases hf
theorem good_a18{x:Ma.Ins}{ncon:Int}(hop:x.op=18\/x.op=19)(hg:Ma.goodI ncon x=true):1<=x.a/\x.a<=4/\(x.op=18->2<=x.a)/\(x.op=19->x.a<=2):=by
 rcases hop with hop|hop
 .simp[Ma.goodI,hop,Ma.within] at hg;omega
 .simp[Ma.goodI,hop,Ma.within] at hg;omega
theorem plain_any(w0:World)(C:Nat->Prop)(B:Nat)(h:MH)(w:World)(g o:Nat)(x:Ma.Ins)(hE:Env w0 w B h)(hB:At w B h)(ha:Apart C w B h)(hx:InsIn C w g o x)(m:Ma.MS)(s:Ma.St)(ncon:Int)(con:List Val.V)(i:Int)(lx:List (Int×Ma.St))(hs:Stk w h.st m.st)(hk:Ma.stk m.st s)(hlen:m.st.length<=1024)(hat:Ma.mayS ⟨h.ar,h.ac⟩=true)(hg:Ma.goodI ncon x=true)(hst:Ma.stepS con x i s=some lx)(hop:x.op=3\/x.op=4\/x.op=5\/x.op=6\/x.op=12\/x.op=14\/x.op=15\/x.op=17\/x.op=18\/x.op=19):
 Calls prog 36 #[PT B,PI g o] w fun e w'=>e=jr jT/\Post B h w (m.plain Ma.readArea ⟨h.ar,h.ac⟩ x).st w':=by
 rcases hop with hop|hop|hop|hop|hop|hop|hop|hop|hop
 .have e:m.plain Ma.readArea ⟨h.ar,h.ac⟩ x=m.lay (Ma.aArg ⟨x.a,x.b,x.c,x.d⟩):=by simp[Ma.MS.plain,hop]
  rw[e];exact zrd w0 C B h w g o x hE hB ha hx m.st B1 hs hop
 .rw[Ma.zki hop] at hst;obtain ⟨he,rfl⟩:=Ma.zap hst;obtain ⟨t1,t2,_,t4⟩:=Ma.MS.top1 hk he;have e:m.plain Ma.readArea ⟨h.ar,h.ac⟩ x=(m.cut 1).lay (Ma.vArg (Cal.un x.a m.top.v)):=B88;have hsp:=(zb5 m 1 t4).1;rw[t1] at hsp;rw[hsp] at hs;rw[e];exact plain_un w0 C B h w g o x hE hB ha hx (m.cut 1).st m.top B108 hs hop (Ma.MS.zc7 t2).vb
 .rw[Ma.zkh hop] at hst;obtain ⟨he,rfl⟩:=Ma.zap hst;obtain ⟨t1,_,t3⟩:=Ma.zb7 hk he;have hok:=Ma.zeb (l:=m.last 2) t3;have e:m.plain Ma.readArea ⟨h.ar,h.ac⟩ x=(m.cut 2).lay (Ma.vArg (Cal.bin x.a ((m.last 2).getD 0 (Ma.vArg Cal.zero)).v ((m.last 2).getD 1 (Ma.vArg Cal.zero)).v)):=B88;obtain ⟨hsp,hll⟩:=zb5 m 2 t1;rw[e];generalize m.last 2=q at *
  match q,hll with
  |[y,z],_=>
   rw[hsp] at hs;exact zui w0 C B h w g o x hE hB ha hx (m.cut 2).st y z B108 hs hop (hok y B7).val.vb (hok z B7).val.vb
 .rw[Ma.zkg hop] at hst;obtain ⟨he,rfl⟩:=Ma.zan hst;obtain ⟨t1,_,t3⟩:=Ma.zb7 hk he;rw[Ma.MS.zhi] at t1 t3;have hok:=Ma.zeb (l:=m.last x.b.toNat) t3;have hb0:0<=x.b:=good_b6 hop hg;have e:m.plain Ma.readArea ⟨h.ar,h.ac⟩ x=(m.cut x.b.toNat).lay (Ma.vArg (Cal.callM x.a x.b.toNat (fun k=>((m.last x.b.toNat).getD k (Ma.vArg Cal.zero)).v)).1):=B88;obtain ⟨hsp,hll⟩:=zb5 m x.b.toNat t1;rw[e];have hle:=congrArg List.length hsp;rw[List.length_append] at hle;rw[hsp] at hs;exact zrc w0 C B h w g o x hE hB ha hx (m.cut x.b.toNat).st (m.last x.b.toNat) _ (by rw[List.length_append];omega) hs hop (by rw[hll];omega) (fun k hk=>by rw[map_getD];exact (Ma.MS.zk1 hok k).val.vb) (jH (by rw[hll];congr 1;funext k;exact map_getD _ _))
 .rw[Ma.zg9 hop] at hst;obtain ⟨he,rfl⟩:=Ma.zap hst;obtain ⟨t1,_,_⟩:=Ma.zb7 hk he;have e:m.plain Ma.readArea ⟨h.ar,h.ac⟩ x=m.cut 1:=B88;obtain ⟨hsp,hll⟩:=zb5 m 1 t1;rw[e];generalize m.last 1=q at *
  match q,hll with
  |[y],_=>
   rw[hsp] at hs;exact zrb w0 C B h w g o x hE hB ha hx (m.cut 1).st y B108 hs hop
 .have hb:0<=h.ar/\h.ar<65536/\0<=h.ac/\h.ac<702:=by
   unfold Ma.mayS at hat;simp only[Bool.and_eq_true,decide_eq_true_eq] at hat;omega
  have e:m.plain Ma.readArea ⟨h.ar,h.ac⟩ x=m.lay (Ma.vArg (Cal.num (cond (x.a==47) (h.ar+1) (h.ac+1)))):=B88;rw[e];cases ht:x.a==47
  .exact zi8 w0 C B h w g o x hE hB ha hx m.st B1 hs hop ht B1 B1
  .exact zi7 w0 C B h w g o x hE hB ha hx m.st B1 hs hop ht B1 B1
 .rw[Ma.zg8 hop] at hst;obtain ⟨he,rfl⟩:=Ma.zap hst;obtain ⟨t1,t2,_,t4⟩:=Ma.MS.top1 hk he;have e:m.plain Ma.readArea ⟨h.ar,h.ac⟩ x=cond (Ma.isErr m.top) m ((m.cut 1).lay (Ma.vArg (Cal.num (Ma.MS.placeN x.a m.top.a)))):=B88;have hsp:=(zb5 m 1 t4).1;rw[t1] at hsp;have hle:=congrArg List.length hsp;simp at hle;have hs2:=hs;rw[hsp] at hs2;rw[e];cases hE2:Ma.isErr m.top
  .have hA:m.top.isA=true:=by
    rcases t2.area rfl with h1|h1
    .exact h1
    .rw[hE2] at h1;cases h1
   exact zh7 w0 C B h w g o x hE hB ha hx (m.cut 1).st m.top B1 hs2 hop hE2 (Ma.zba (t2.ok.area hA)).1
  .have:=zi5 w0 C B h w g o x hE hB ha hx (m.cut 1).st m.top B1 hs2 hop hE2;rw[<-hsp] at this;exact this
 .rw[Ma.zg6 hop] at hst;obtain ⟨he,rfl⟩:=Ma.zap hst;obtain ⟨t1,t2,_,t4⟩:=Ma.MS.top1 hk he;have e:m.plain Ma.readArea ⟨h.ar,h.ac⟩ x=(m.cut 1).lay (Ma.MS.za5 Ma.readArea m.top.v):=B88;have hsp:=(zb5 m 1 t4).1;rw[t1] at hsp;have hle:=congrArg List.length hsp;simp at hle;rw[hsp] at hs;rw[e];exact zi6 w0 C B h w g o x hE hB ha hx (m.cut 1).st m.top B1 hs hop (Ma.MS.zc7 t2).vb
 .have hst':Ma.stepS con x i s=cond (Ma.za3 s (65::Ma.many x.a.toNat)) (some [(i+1,Ma.withS s (x.a+1).toNat [65])]) none:=by
   rcases hop with hop|hop
   .exact Ma.zg5 hop
   .exact Ma.zg4 hop
  rw[hst'] at hst;obtain ⟨he,rfl⟩:=Ma.zan hst;obtain ⟨t1,_,t3⟩:=Ma.zb7 hk he;have hab:=good_a18 hop hg;rw[show (65::Ma.many x.a.toNat).length=(x.a+1).toNat by rw[List.length_cons,Ma.MS.zhi];omega] at t1 t3;have e:m.plain Ma.readArea ⟨h.ar,h.ac⟩ x=(m.cut (x.a+1).toNat).lay (Ma.MS.zdk x (m.last (x.a+1).toNat)):=by
   rcases hop with hop|hop <;> simp[Ma.MS.plain,hop]
  obtain ⟨hsp,hll⟩:=zb5 m (x.a+1).toNat t1;have hq:Ma.stk (m.last (x.a+1).toNat) (65::Ma.many x.a.toNat):=t3;clear t3;rw[e];have hle:=congrArg List.length hsp;rw[List.length_append] at hle;generalize m.last (x.a+1).toNat=q at *
  match q,hll,hq with
  |a0::rst,hll,hq=>
   rw[hsp] at hs;rw[List.length_cons] at hll;exact znl w0 C B h w g o x hE hB ha hx (m.cut (x.a+1).toNat).st rst a0 (by rw[List.length_append,List.length_cons];omega) hs B1 B1 B1 B1
    (fun h1=>by
     rcases hq.1.area rfl with h2|h2
     .exact (Ma.zba (hq.1.ok.area h2)).1
     .rw[h1] at h2;cases h2)
    (fun y hy=>(Ma.zeb hq.2 y hy).val.vb)
end Mb
namespace Fd
open Mb
theorem At.below2{w w':World}{X:Nat}{h:FH}(k:Fd.At w X h)(hb:Below w.heap.size w w'):Fd.At w' X h:=(hb.block X k.lt).trans k
def Box(w:World)(b:Nat)(v:Value):Prop:=∃T,w.heap[b]?=some (.cells #[v] T (0,0))
def Bp101(h:jp:=by exact zaf (k2.mono fun i _ e=> .inl e) hb):=h
def B8(h:jp:=by intro e;cases e):=h
def B18(h:jp:=by repeat (first|with_reducible exact hz1|with_reducible refine setB ?_ jE)):=h
def C6(h:jp:=by
 go_wp2_with fail;refine jM (HN.out _) ?_;intro w1 h1;have kz1:=jk h1 kz;have hz1:=jN hz h1;clear h1 hz kz;obtain ⟨z0,z1,z2⟩:=zaa kz1;obtain ⟨f0,f1,f2⟩:=zab kz1;have lz:=(jg kz1);exact K6):=h
def X34.K6(h:jp:=by
 go_wp2_with fail;exact jX (VL ⟨1,n,⟨#[]⟩⟩) (by simp[results,results102,go_sem,z0,z1,z2]) ⟨rfl,B18⟩):=h
def D34(h:jp:=by
 have HN:=jH fun (u:World)=>zbi n u;have c0:=hb.cell;have l0:=hb.lt;obtain ⟨hz,kz⟩:=zbd w #[jI 0,jI 0,jS ⟨#[]⟩] 41;exact J34):=h
def V101.J34(h:jp:=by
 go_enter func102,ntmps102
 open X34 in exact C6):=h
def X35.K6(h:jp:=by
 go_wp2_with fail;exact jX (VL ⟨1,n,⟨#[]⟩⟩) (by simp[results,results146,go_sem,z0,z1,z2]) ⟨rfl,B18⟩):=h
def V102.J34(h:jp:=by
 go_enter func146,ntmps146
 open X35 in exact C6):=h
def X36.K6(h:jp:=by
 go_wp2_with fail;exact jX (VL ⟨1,n,⟨#[]⟩⟩) (by simp[results,results166,go_sem,z0,z1,z2]) ⟨rfl,B18⟩):=h
def V103.J34(h:jp:=by
 go_enter func166,ntmps166
 open X36 in exact C6):=h
def X37.K6(h:jp:=by
 go_wp2_with fail;exact jX (VL ⟨4,6,⟨#[]⟩⟩) (by simp[results,results157,go_sem,z0,z1,z2]) ⟨rfl,B18⟩):=h
def X38.K6(h:jp:=by
 go_wp2_with fail;exact jX (VL ⟨4,6,⟨#[]⟩⟩) (by simp[results,results115,go_sem,z0,z1,z2]) ⟨rfl,B18⟩):=h
def B120(h:jp:=by simp[results,results96,go_sem,z0,z1,z2]):=h
def X39.K6(h:jp:=by
 go_wp2_with fail;exact jX (VL ⟨1,all,⟨#[]⟩⟩) B120 ⟨rfl,B18⟩):=h
def D31(h:jp:=by
 have c0:=kF.cell;have c1:=kA.cell;have c2:=kN.cell;have l0:=kF.lt;have l1:=kA.lt;have l2:=kN.lt;obtain ⟨hz,kz⟩:=zbd w #[jI 0,jI 0,jS ⟨#[]⟩] 41;exact J31):=h
def V92.J31(h:jp:=by
 go_enter func96,ntmps96
 open X39 in exact C6):=h
def X40.K6(h:jp:=by
 go_wp2_with fail;exact jX (VL ⟨4,5,⟨#[]⟩⟩) B120 ⟨rfl,B18⟩):=h
def V93.J31(h:jp:=by
 go_enter func96,ntmps96
 open X40 in exact C6):=h
def X41.K6(h:jp:=by
 go_wp2_with fail;exact jX (VL ⟨1,all.tdiv n,⟨#[]⟩⟩) B120 ⟨rfl,B18⟩):=h
def V94.J31(h:jp:=by
 have hn0:¬n=0:=(by simpa using hn);have hw:IntKind.i64.wrap (all.tdiv n)=all.tdiv n:=zae (zlm hall h0).1 (zlm hall h0).2;go_enter func96,ntmps96
 open X41 in exact C6):=h
def B148(h:jp:=by unfold bne;rw[hc];rfl):=h
def B45(h:jp:=by simp[results,results145,go_sem]):=h
def M118(h:jp:=by
 go_enter func145,ntmps145;go_wp2_with fail;exact jY jT B45 ⟨rfl,kN.below hb1,zaf (Foot.refl _ _) hb1⟩):=h
def M125(h:jp:=by
 go_enter func145,ntmps145;go_wp2_with fail;exact jY jT B45 ⟨rfl,count_set kN hb1 _,zse kN _ _⟩):=h
def C32(h:jp:=by
 have c0:=kF.cell;have l0:=kF.lt;have hb1:Below w.heap.size w (w.alloc (Obj.cells #[jI v.k,jI v.n,jS v.t] 41)):=below1 _ _;exact K32):=h
def X141.K32(h:jp:=by
 cases t0:(v.k !=0)
 .have K:=jH (H2 t0);clear H1 H2;go_enter func114,ntmps114;go_wp2_with fail;exact jY jT (by simp[results,results114,go_sem]) ⟨rfl,K.out _ hb1⟩
 .have K:=jH (H1 t0);clear H1 H2;go_enter func114,ntmps114;go_wp2_with fail;refine jM (K.out _ hb1) ?_;intro w2 hq;go_wp2_with fail;exact jY jT (by simp[results,results114,go_sem]) ⟨rfl,hq⟩):=h
def B21(h:jp:=by simp[results,results150,go_sem]):=h
section
variable{w:World}{b:Nat}{v:Value}(h:Box w b v)
include w b v h
theorem Box.lt:b<w.heap.size:=by obtain ⟨T,h⟩:=h;exact (jg h)
theorem Box.cell:w.cell? (jA b 0)=some v:=by obtain ⟨T,h⟩:=h;rw[Lib.cell_of_heap h];rfl
theorem Box.frozen:w.frozen? (jA b 0)=false:=by obtain ⟨T,h⟩:=h;exact frozen_of_row w b 0 _ _ h
end
theorem Box.below{w w':World}{b:Nat}{v:Value}(h:Box w b v)(hb:Below w.heap.size w w'):Box w' b v:=by
 have hl:=h.lt;obtain ⟨T,h⟩:=h;exact ⟨T,(hb.block b hl).trans h⟩
theorem Box.foot{w w':World}{b:Nat}{v:Value}{F:Nat->Prop}(h:Box w b v)(hf:Foot F w w')(hb:¬F b):Box w' b v:=by
 have hl:=h.lt;obtain ⟨T,h⟩:=h;exact ⟨T,(hf.block b hl hb).trans h⟩
theorem Box.set{w:World}{b:Nat}{v:Value}(h:Box w b v)(x:Value):Box (w.setCell (jA b 0) x) b x:=by
 obtain ⟨T,h⟩:=h;exact ⟨T,zad h 0 x⟩
theorem Box.ne{w:World}{b c:Nat}{u v:Value}(h:Box w b u)(k:Box w c v)(hne:u≠v):b≠c:=by
 rintro rfl;obtain ⟨T,h⟩:=h;obtain ⟨S,k⟩:=k;rw[h] at k;cases k;exact hne rfl
theorem Box.ne_at{w:World}{b X:Nat}{v:Value}{g:FH}(h:Box w b v)(k:Fd.At w X g):X≠b:=by
 rintro rfl;obtain ⟨T,h⟩:=h;unfold Fd.At at k;rw[k] at h;cases h
theorem zbs{w:World}{X:Nat}{h:FH}{b:Nat}{x:Value}(k:Fd.At w X h)(hne:X≠b):Fd.At (w.setCell (jA b 0) x) X h:=by
 unfold Fd.At;rw[heap_setCell_other w _ X x hne];exact k
theorem zm6(X bA:Nat)(h:FH)(all n:Int)(w:World)(hX:Fd.At w X h)(hA:Box w bA (jI all))(h1:Ma.Fit all)(h2:Ma.Fit n):Calls prog 95 #[PT X,PT bA,jI n] w fun e w'=>
 e=jr jT/\Fd.At w' X (cond (Ref.fitB (all+n)) h (h.fails 2))/\Box w' bA (jI (Ref.fitV (all+n)))/\Foot (fun k=>k=X\/k=bA) w w':=by
 have HA:=jH fun (u:World)=>cadd all n h1 h2 u;have HF:=jH fun (u:World) (hX:Fd.At u X h)=>za6 X h 2 u hX;have hne:=hA.ne_at hX;have c0:=hA.cell;have f0:=hA.frozen;have hl:=hA.lt;have hXl:=hX.lt;generalize Ref.fitV (all+n)=s at *;generalize Ref.fitB (all+n)=fb at *;cases fb
 .go_enter func95,ntmps95;go_wp2_with fail;refine jM (HA.out _) ?_;intro w1 hb;go_wp2_with fail;refine (HF.out _ (hX.below2 hb)).mono ?_;rintro e w2 ⟨rfl,k1,k2⟩;have hA2:=(hA.below hb).foot k2 (fun e=>hne e.symm);have c2:=hA2.cell;have f2:=hA2.frozen;have hl2:=hA2.lt;go_wp2_with fail;exact jY jT (by simp[results,results95,go_sem]) ⟨rfl,zbs k1 hne,hA2.set _,Foot.set Bp101 (.inr rfl)⟩
 .go_enter func95,ntmps95;go_wp2_with fail;refine jM (HA.out _) ?_;intro w1 hb;have hA2:=hA.below hb;have c2:=hA2.cell;have f2:=hA2.frozen;have hl2:=hA2.lt;go_wp2_with fail;exact jY jT (by simp[results,results95,go_sem]) ⟨rfl,zbs (hX.below2 hb) hne,hA2.set _,Foot.set (zaf (Foot.refl _ _) hb) (.inr rfl)⟩
theorem zdq(x v:Val.V)(w:World):Ret 110 #[VL x,VL v] w (.bool (Ma.equal x v)):=by
 have HC:=jH fun (u:World)=>zdf x v u;unfold Ma.equal;cases h4:(v.k !=4)
 .go_enter func110,ntmps110;go_wp2_with fail;go_ret;exact ⟨rfl,by repeat (first|with_reducible exact jB|with_reducible refine Below.drew ?_|with_reducible refine Below.alloc ?_ B7 _)⟩
 .generalize Val.cmpG (Val.good x) (Val.good v)=z at *;cases hz:(z==0)
  all_goals
   go_enter func110,ntmps110;go_wp2_with fail;refine jM (HC.out _) ?_;intro w1 hb;go_wp2_with fail;go_ret;refine ⟨rfl,Below.trans ?_ (hb.mono ?_)⟩
   .repeat (first|with_reducible exact jB|with_reducible refine Below.drew ?_|with_reducible refine Below.alloc ?_ B7 _)
   .simp
    try omega
theorem zwl{F:Nat->Prop}{w:World}{b:Nat}{x:Value}(hb:F b):Foot F w (w.setCell (jA b 0) x):=Foot.set (Foot.refl _ _) hb
theorem zdo{F G:Nat->Prop}{a b c:World}(h:Foot F a b)(k:Foot G b c)(hG:∀i,G i->F i):Foot F a c:=h.trans (k.mono fun i _ e=>hG i e)
theorem Box.set_other{w:World}{b c:Nat}{v x:Value}(h:Box w b v)(hne:b≠c):Box (w.setCell (jA c 0) x) b v:=by
 obtain ⟨T,h⟩:=h;exact ⟨T,(heap_setCell_other w _ b x hne).trans h⟩
theorem zlm{a n:Int}(h:Ma.Fit a)(hn:0<=n):-9223372036854775808<=a.tdiv n/\a.tdiv n<=9223372036854775807:=Ma.FZ.zo1 h hn
theorem add_sum(X bN bF bA:Nat)(h:FH)(n all x:Int)(w:World)(hX:Fd.At w X h)(hN:Box w bN (jI n))(hF:Box w bF (PT X))(hA:Box w bA (jI all))(hne:bN≠bA)(h1:Ma.Fit all)(h2:Ma.Fit x):
 Calls prog 94 #[jI x,PT bN,PT bF,PT bA] w fun e w'=>e=jr jT/\Fd.At w' X (cond (Ref.fitB (all+x)) h (h.fails 2))/\Box w' bN (jI (IntKind.i64.wrap (n+1)))/\Box w' bA (jI (Ref.fitV (all+x)))/\Foot (fun k=>k=X\/k=bN\/k=bA) w w':=by
 have HS:=jH fun (u:World) (hX:Fd.At u X h) (hA:Box u bA (jI all))=>zm6 X bA h all x u hX hA h1 h2;have n1:=hN.ne_at hX;have n2:=hA.ne_at hX;have n3:=hF.ne hN B8;have c0:=hN.cell;have c1:=hF.cell;have f0:=hN.frozen;have l0:=hN.lt;have l1:=hF.lt;obtain ⟨n',hw⟩:∃n',IntKind.i64.wrap (n+1)=n':=⟨_,rfl⟩;rw[hw];go_enter func94,ntmps94;go_wp2_with fail;refine (HS.out _ (zbs hX n1) (hA.set_other hne.symm)).mono ?_;rintro e w2 ⟨rfl,k1,k2,k3⟩;go_wp2_with fail;exact jY jT (by simp[results,results94,go_sem]) ⟨rfl,k1,(hN.set _).foot k3 (fun e=>e.elim (fun e=>n1 e.symm) hne),k2,zdo (zwl (.inr (.inl rfl))) k3 fun i e=>e.imp_right .inr⟩
theorem add_prod(X bF bA:Nat)(h:FH)(all x:Int)(w:World)(hX:Fd.At w X h)(hF:Box w bF (PT X))(hA:Box w bA (jI all))(h1:Ma.Fit all)(h2:Ma.Fit x):
 Calls prog 99 #[jI x,PT bA,PT bF] w fun e w'=>e=jr jT/\Fd.At w' X (cond (Ref.fitB (all*x)) h (h.fails 2))/\Box w' bA (jI (Ref.fitV (all*x)))/\Foot (fun k=>k=X\/k=bA) w w':=by
 have HM:=jH fun (u:World)=>cmul all x h1 h2 u;have HF:=jH fun (u:World) (hX:Fd.At u X h)=>za6 X h 2 u hX;have n2:=hA.ne_at hX;have c0:=hA.cell;have l0:=hA.lt;have l1:=hF.lt;generalize Ref.fitV (all*x)=s at *;generalize Ref.fitB (all*x)=fb at *;cases fb
 .go_enter func99,ntmps99;go_wp2_with fail;refine jM (HM.out _) ?_;intro w1 hb;have d1:=(hF.below hb).cell;go_wp2_with fail;refine (HF.out _ (hX.below2 hb)).mono ?_;rintro e w2 ⟨rfl,k1,k2⟩;have hA2:=(hA.below hb).foot k2 (fun e=>n2 e.symm);have d2:=hA2.cell;have g2:=hA2.frozen;have m2:=hA2.lt;go_wp2_with fail;exact jY jT (by simp[results,results99,go_sem]) ⟨rfl,zbs k1 n2,hA2.set _,Foot.set Bp101 (.inr rfl)⟩
 .go_enter func99,ntmps99;go_wp2_with fail;refine jM (HM.out _) ?_;intro w1 hb;have hA2:=hA.below hb;have d2:=hA2.cell;have g2:=hA2.frozen;have m2:=hA2.lt;go_wp2_with fail;exact jY jT (by simp[results,results99,go_sem]) ⟨rfl,zbs (hX.below2 hb) n2,hA2.set _,Foot.set (zaf (Foot.refl _ _) hb) (.inr rfl)⟩
section
variable(b:Nat)(n:Int)(w:World)(hb:Box w b (jI n))
include b n w hb
theorem fin_prod:Ret 102 #[PT b] w (VL ⟨1,n,⟨#[]⟩⟩):=by
 open V101 in exact D34
theorem zwz:Ret 146 #[PT b] w (VL ⟨1,n,⟨#[]⟩⟩):=by
 open V102 in exact D34
theorem zww:Ret 166 #[PT b] w (VL ⟨1,n,⟨#[]⟩⟩):=by
 open V103 in exact D34
end
theorem zwx(w:World):Ret 157 #[] w (VL ⟨4,6,⟨#[]⟩⟩):=by
 have HN:=jH fun (u:World)=>zcd 6 u;obtain ⟨hz,kz⟩:=zbd w #[jI 0,jI 0,jS ⟨#[]⟩] 41;go_enter func157,ntmps157
 open X37 in exact C6
theorem zwy(w:World):Ret 115 #[] w (VL ⟨4,6,⟨#[]⟩⟩):=by
 have HN:=jH fun (u:World)=>zcd 6 u;obtain ⟨hz,kz⟩:=zbd w #[jI 0,jI 0,jS ⟨#[]⟩] 41;go_enter func115,ntmps115
 open X38 in exact C6
section
variable(bF bA bN:Nat)(f all n:Int)(w:World)(kF:Box w bF (jI f))(kA:Box w bA (jI all))(kN:Box w bN (jI n))
include bF bA bN f all n w kF kA kN
theorem zok(hf:(f==54)=true):Ret 96 #[PT bF,PT bA,PT bN] w (VL ⟨1,all,⟨#[]⟩⟩):=by
 have HN:=jH fun (u:World)=>zbi all u
 open V92 in exact D31
theorem zmi(hf:(f==54)=false)(hn:(n==0)=true):Ret 96 #[PT bF,PT bA,PT bN] w (VL ⟨4,5,⟨#[]⟩⟩):=by
 have HN:=jH fun (u:World)=>zcd 5 u
 open V93 in exact D31
theorem zoj(hf:(f==54)=false)(hn:(n==0)=false)(h0:0<=n)(hall:Ma.Fit all):Ret 96 #[PT bF,PT bA,PT bN] w (VL ⟨1,all.tdiv n,⟨#[]⟩⟩):=by
 have HN:=jH fun (u:World)=>zbi (all.tdiv n) u
 open V94 in exact D31
end
theorem count_set{w:World}{b:Nat}{n:Value}(k:Box w b n){o:Obj}(hb:Below w.heap.size w (w.alloc o))(x:Value):Box ((w.setCell (jA b 0) x).alloc o) b x:=by
 obtain ⟨T,k⟩:=k;exact ⟨T,zai (zad k 0 x)⟩
theorem zse{w:World}{b:Nat}{n:Value}(k:Box w b n)(o:Obj)(x:Value):Foot (fun k=>k=b) w ((w.setCell (jA b 0) x).alloc o):=Foot.alloc Bp10
theorem zsd(bF bN:Nat)(f n:Int)(v:Val.V)(cell:Bool)(w:World)(kF:Box w bF (jI f))(kN:Box w bN (jI n))(hv:VB v)(hW:NumW w):Calls prog 145 #[VL v,.bool cell,PT bF,PT bN] w fun e w'=>e=jr jT/\Box w' bN (jI (cond (cond (f==57) (v.k !=0)<|cond (f==58) (v.k==0)<|cond cell (v.k==1) ((Val.number v).2==0)) (IntKind.i64.wrap (n+1)) n))/\Foot (fun k=>k=bN) w w':=by
 have HNu:=jH fun (u:World) (hu:Below w.heap.size w u)=>za8 v u hv (hW.below hu);have c0:=kF.cell;have c1:=kN.cell;have l0:=kF.lt;have l1:=kN.lt;have f1:=kN.frozen;have hb1:Below w.heap.size w (w.alloc (Obj.cells #[jI v.k,jI v.n,jS v.t] 41)):=below1 _ _;obtain ⟨n',hw⟩:∃n',IntKind.i64.wrap (n+1)=n':=⟨_,rfl⟩;cases t57:(f==57)
 case true=>
  cases tk:(v.k !=0)
  all_goals rw[hw]
  .exact M118
  .exact M125
 cases t58:(f==58)
 case true=>
  cases tk:(v.k==0)
  all_goals rw[hw]
  .exact M118
  .exact M125
 cases cell
 case true=>
  cases tk:(v.k==1)
  all_goals rw[hw]
  .exact M118
  .exact M125
 generalize Val.number v=nc at *;obtain ⟨nn,c⟩:=nc;simp only[cond_false];cases tk:(c==0)
 all_goals rw[hw]
 .go_enter func145,ntmps145;go_wp2_with fail;refine jM (HNu.out _ hb1) ?_;intro w1 hb;have hbw:=jN hb1 hb;have kN2:=kN.below hbw;have d1:=kN2.cell;have g1:=kN2.frozen;have m1:=kN2.lt;go_wp2_with fail;exact jY jT B45 ⟨rfl,kN.below hbw,zaf (Foot.refl _ _) hbw⟩
 .go_enter func145,ntmps145;go_wp2_with fail;refine jM (HNu.out _ hb1) ?_;intro w1 hb;have hbw:=jN hb1 hb;have kN2:=kN.below hbw;have d1:=kN2.cell;have g1:=kN2.frozen;have m1:=kN2.lt;go_wp2_with fail;exact jY jT B45 ⟨rfl,(kN.below hbw).set _,Foot.set (zaf (Foot.refl _ _) hbw) rfl⟩
theorem zr5(X bF:Nat)(v:Val.V)(cell:Bool)(w:World)(kF:Box w bF (PT X))(Q:World->Prop)(H1:(v.k !=0)=true->∀u,Below w.heap.size w u->Calls prog 78 #[PT X,VL v] u fun e w'=>e=jr jT/\Q w')(H2:(v.k !=0)=false->∀u,Below w.heap.size w u->Q u):Calls prog 114 #[VL v,.bool cell,PT bF] w fun e w'=>e=jr jT/\Q w':=by
 open X141 in exact C32
structure ArgsAt(w:World)(ba g n c:Nat)(l:List Ma.Arg):Prop where
 box:Box w ba (jP g 0 n c)
 len:n=l.length
 cap:n<=c
 lt:g<w.heap.size
 items:ItemsIn w (some (jA g 0)) l
def B106(h:jp:=by rw[hA.len];exact (jl hx0)):=h
def B134(h:jp:=by simp[results,results158,go_sem]):=h
def C7(h:jp:=by
 have HEq:=jH fun (u:World)=>zdq x0.v v u;have hb1:Below w.heap.size w (w.alloc (Obj.cells #[jI v.k,jI v.n,jS v.t] 41)):=below1 _ _;have kb:=heap_alloc_new w (Obj.cells #[jI v.k,jI v.n,jS v.t] 41);have hlw:=jL hX.lt jE;have hn0:0<na:=B106;have hX1:=hX.below2 hb1;have hA1:=hA.below hb1;have kF1:=kF.below hb1;have kR1:=(hb1.block bR (jg kR)).trans kR;have kK1:=kK.below hb1;have kU1:=kU.below hb1;have hl1:w.heap.size<(w.alloc (Obj.cells #[jI v.k,jI v.n,jS v.t] 41)).heap.size:=B7;go_enter func158,ntmps158;go_upto_region 1 with fail;generalize (w.alloc (Obj.cells #[jI v.k,jI v.n,jS v.t] 41))=w1 at *;obtain ⟨v0,v1,v2⟩:=zaa kb;obtain ⟨-,-,-,-,-,q5,q6,q7⟩:=hA1.item hx0;simp only[Nat.zero_mul,Nat.zero_add] at q5 q6 q7;have a0:=hA1.box.cell;have al:=hA1.box.lt;have gl:=hA1.lt;go_still_tail 5,(by kernel_rfl);change wpList _ _ _ _ _ w1.drew;have hbd:Below w1.heap.size w1 w1.drew:=jB.drew;go_wp2_with fail;exact K7):=h
def X47.K7(h:jp:=by
 refine jM (HEq.out _) ?_;intro w2 hb2;have hb12:=hbd.trans hb2;rw[he];go_wp2_with fail;exact jX jT B134 ⟨rfl,jN hb1 hb12⟩):=h
def B86(h:jp:=by repeat (first|with_reducible exact Below.refl w2.heap.size _|with_reducible refine Below.drew ?_|with_reducible refine Below.alloc ?_ jE _)):=h
def B97(h:jp:=by repeat (first|with_reducible exact jB|with_reducible refine Below.drew ?_|with_reducible refine Below.alloc ?_ jE _)):=h
def M123(h:jp:=by
 go_wp2_with fail;go_region;go_wp2_with fail;refine (HW.out _ _ _ _ _ (hX2.below2 B97)).mono ?_;rintro e w3 ⟨rfl,k1,k2⟩;go_wp2_with fail;exact jY jT B134 ⟨rfl,k1,zaf k2 (hbw.trans (Below.mono B86 hbw.size))⟩):=h
def D17(h:jp:=by
 refine jM (HEq.out _) ?_;intro w2 hb2;have hb12:=hbd.trans hb2;rw[he];have hX2:=hX1.below2 hb12;obtain ⟨-,-,-,c3,c4,-⟩:=hX2.cells;have kF2:=kF1.below hb12;have d0:=kF2.cell;have d1:=kF2.lt;have kR2:=(hb12.block bR (jg kR1)).trans kR1;obtain ⟨e0,e1,e2,e3⟩:=zah kR2;have rl:=(jg kR2);have kK2:=kK1.below hb12;have d2:=kK2.cell;have d3:=kK2.lt;have kU2:=kU1.below hb12;have d4:=kU2.cell;have d5:=kU2.lt;have xl:=hX2.lt;have hbw:=jN hb1 hb12;exact J17):=h
def V51.J17(h:jp:=by
 clear hX hA kF kR kK kU hX1 hA1 kF1 kR1 kK1 kU1 hb1 hb12 hb2 hbd kb v0 v1 v2 q5 q6 q7 a0 al gl hl1 hlw hn0;exact M123):=h
def X48.K7(h:jp:=by
 open V51 in exact D17):=h
def V52.J17(h:jp:=by
 clear hX hA kF kR kK kU hX1 hA1 kF1 kR1 kK1 kU1 hb1 hb12 hb2 hbd kb v0 v1 v2 q5 q6 q7 a0 al gl hl1 hlw hn0;go_wp2_with fail;go_region;exact M123):=h
def X49.K7(h:jp:=by
 open V52 in exact D17):=h
def B22(h:jp:=by simp;try omega):=h
def Bp14(h:jp:=by repeat (first|with_reducible exact jB|with_reducible refine Below.drew ?_|with_reducible refine Below.alloc ?_ B22 _)):=h
def M69(h:jp:=by
 go_enter func160,ntmps160;go_wp2_with fail;go_region
 all_goals go_wp2_with fail
 all_goals go_ret
 all_goals exact ⟨rfl,Bp14⟩):=h
def X144.K32(h:jp:=by
 have K:=jH H;clear H;cases tb:(v.n !=0)
 all_goals go_enter func150,ntmps150
 all_goals go_wp2_with fail
 all_goals
  refine jM (K.out _ hb1) ?_;intro w2 hq;go_wp2_with fail;exact jX jT B21 ⟨rfl,hq⟩):=h
def X145.K32(h:jp:=by
 have K:=jH H;clear H;cases tb:(v.n !=0)
 all_goals go_enter func150,ntmps150
 all_goals go_wp2_with fail
 all_goals exact jX jT B21 ⟨rfl,K.out _ hb1⟩):=h
def X146.K32(h:jp:=by
 have K:=jH H;clear H;generalize Val.truth v=nc at *;obtain ⟨tv,c⟩:=nc;simp only at hc K;have tc:(c !=0)=true:=B148;cases tb:(v.n !=0)
 all_goals go_enter func150,ntmps150
 all_goals go_wp2_with fail
 all_goals
  refine jM (HV.out _) ?_;intro w1 hb;have hbw:=jN hb1 hb;have d0:=(kF.below hbw).cell;go_wp2_with fail;refine jM (K.out _ hbw) ?_;intro w2 hq;go_wp2_with fail;exact jX jT B21 ⟨rfl,hq⟩):=h
def Bp102(h:jp:=by exact Foot.set (Foot.refl _ _) (.inr (.inl rfl))):=h
def Bp43(h:jp:=by exact zaf k2 hbt2):=h
def M20(h:jp:=by
 have d0:=kF0.cell;have l0:=kF0.lt;have dd:W0.drew.cell? (jA bF 0)=some (PT X):=d0;have df:bF<W0.drew.heap.size:=l0;go_region_held3 (fun w'=>w'.cell? (jA bF 0)=some (PT X)/\bF<w'.heap.size)
  (first|with_reducible exact ⟨s1,s3⟩|with_reducible exact ⟨dd,df⟩|fail)
  (first
   |(go_at_call 151;refine (HTr.out _ _).mono ?_;rintro e w1 ⟨rfl,hbt⟩;have hbt2:Below W0.heap.size W0 w1:=(Below.refl W0.heap.size W0).drew.trans hbt;have hX1:=hX0.below2 hbt2;have kF1:=kF0.below hbt2;have kN1:=kN0.below hbt2;have kO1:=kO0.below hbt2;have s1:=kF1.cell;have s3:=kF1.lt)
   |(go_at_call 78;refine (HE.out false _ hX1).mono ?_;rintro e w2 ⟨rfl,k1,k2⟩;have s1:=(kF1.foot k2 (kF1.ne_at hX1).symm).cell;have s3:=jL s3 k2.size))
 all_goals
  go_wp2_with fail;exact jY jT B21 ⟨rfl,k1,kN1.foot k2 (fun e=>n1 e.symm),kO1.foot k2 (fun e=>n2 e.symm),zdo hf0 Bp43 fun i e=> .inl e⟩):=h
def M21(h:jp:=by
 have d0:=kF0.cell;have l0:=kF0.lt;have dd:W0.drew.cell? (jA bF 0)=some (PT X):=d0;have df:bF<W0.drew.heap.size:=l0;go_region_held3 (fun w'=>w'.cell? (jA bF 0)=some (PT X)/\bF<w'.heap.size)
  (first|with_reducible exact ⟨s1,s3⟩|with_reducible exact ⟨dd,df⟩|fail)
  (first
   |(go_at_call 151;refine (HTr.out _ _).mono ?_;rintro e w1 ⟨rfl,hbt⟩;have hbt2:Below W0.heap.size W0 w1:=(Below.refl W0.heap.size W0).drew.trans hbt;have hX1:=hX0.below2 hbt2;have kF1:=kF0.below hbt2;have kN1:=kN0.below hbt2;have kO1:=kO0.below hbt2;have s1:=kF1.cell;have s3:=kF1.lt)
   |(go_at_call 78;refine (HE.out true _ hX1).mono ?_;rintro e w2 ⟨rfl,k1,k2⟩;have s1:=(kF1.foot k2 (kF1.ne_at hX1).symm).cell;have s3:=jL s3 k2.size))
 all_goals
  go_wp2_with fail;exact jY jT B21 ⟨rfl,k1,kN1.foot k2 (fun e=>n1 e.symm),kO1.foot k2 (fun e=>n2 e.symm),zdo hf0 Bp43 fun i e=> .inl e⟩):=h
def N18(h:jp:=by
 clear TW;generalize World.alloc (World.setCell _ _ _) _=W0 at *;clear hX kF kN kO kK c0 c1 c2 c3 l0 l1 l2 l3 f1 f2 hb1;exact M20):=h
def N19(h:jp:=by
 clear TW;generalize World.alloc (World.setCell _ _ _) _=W0 at *;clear hX kF kN kO kK c0 c1 c2 c3 l0 l1 l2 l3 f1 f2 hb1;exact M21):=h
def C2(h:jp:=by
 have HE:=jH fun (b:Bool) (u:World) (hX:Fd.At u X h)=>ends_any X h ⟨2,cond b 1 0,⟨#[]⟩⟩ u hX;have HTr:=jH fun (b:Bool) (u:World)=>Fd.truth_any b u;have n1:=kN.ne_at hX;have n2:=kO.ne_at hX;have n3:bN≠bO:=kN.ne kO B8;have n4:bF≠bN:=kF.ne kN B8;have n5:bF≠bO:=kF.ne kO B8;have n6:bO≠bK:=kO.ne kK B8;have c0:=kF.cell;have c1:=kN.cell;have c2:=kO.cell;have c3:=kK.cell;have l0:=kF.lt;have l1:=kN.lt;have l2:=kO.lt;have l3:=kK.lt;have f1:=kN.frozen;have f2:=kO.frozen;have hb1:Below w.heap.size w (w.alloc (Obj.cells #[jI v.k,jI v.n,jS v.t] 41)):=below1 _ _;obtain ⟨n',hw⟩:∃n',IntKind.i64.wrap (n+1)=n':=⟨_,rfl⟩;rw[hw];exact K2):=h
def B122(h:jp:=by simpa using tk2):=h
def M51(h:jp:=by
 have HE:=jH fun (b:Bool) (u:World) (hX:Fd.At u X h)=>ends_any X h ⟨2,cond b 1 0,⟨#[]⟩⟩ u hX;have HTr:=jH fun (b:Bool) (u:World)=>Fd.truth_any b u;have n1:=kN.ne_at hX;have n2:=kO.ne_at hX;have n3:bN≠bO:=kN.ne kO B8;have n4:bF≠bN:=kF.ne kN B8;have n5:bF≠bO:=kF.ne kO B8;have n6:bO≠bK:=kO.ne kK B8;have c0:=kF.cell;have c1:=kN.cell;have c2:=kO.cell;have c3:=kK.cell;have l0:=kF.lt;have l1:=kN.lt;have l2:=kO.lt;have l3:=kK.lt;have f1:=kN.frozen;have f2:=kO.frozen;have hb1:Below w.heap.size w (w.alloc (Obj.cells #[jI v.k,jI v.n,jS v.t] 41)):=below1 _ _;obtain ⟨n',hw⟩:∃n',IntKind.i64.wrap (n+1)=n':=⟨_,rfl⟩;rw[hw];obtain ⟨vk,vn,vt⟩:=v;obtain rfl:vk=2:=B122;go_enter func150,ntmps150;go_wp2_with fail;have TW:=fun o=>zcm hX kF kN kO n' (odd) o;exact jY jT B21 ⟨rfl,(TW _).1,(TW _).2.2.1,(TW _).2.2.2.1,(TW _).2.2.2.2⟩):=h
def X10.K2(h:jp:=by
 obtain ⟨vk,vn,vt⟩:=v;obtain rfl:vk=2:=B122;go_enter func150,ntmps150;go_wp2_with fail;have TW:=fun o=>zcm hX kF kN kO n' (odd) o;obtain ⟨hX0,kF0,kN0,kO0,hf0⟩:=TW (Obj.cells #[jI 2,jI vn,jS vt] 41);exact N18):=h
def M49(h:jp:=by
 have HE:=jH fun (b:Bool) (u:World) (hX:Fd.At u X h)=>ends_any X h ⟨2,cond b 1 0,⟨#[]⟩⟩ u hX;have HTr:=jH fun (b:Bool) (u:World)=>Fd.truth_any b u;have n1:=kN.ne_at hX;have n2:=kO.ne_at hX;have n3:bN≠bO:=kN.ne kO B8;have n4:bF≠bN:=kF.ne kN B8;have n5:bF≠bO:=kF.ne kO B8;have n6:bO≠bK:=kO.ne kK B8;have c0:=kF.cell;have c1:=kN.cell;have c2:=kO.cell;have c3:=kK.cell;have l0:=kF.lt;have l1:=kN.lt;have l2:=kO.lt;have l3:=kK.lt;have f1:=kN.frozen;have f2:=kO.frozen;have hb1:Below w.heap.size w (w.alloc (Obj.cells #[jI v.k,jI v.n,jS v.t] 41)):=below1 _ _;obtain ⟨n',hw⟩:∃n',IntKind.i64.wrap (n+1)=n':=⟨_,rfl⟩;rw[hw];obtain ⟨vk,vn,vt⟩:=v;obtain rfl:vk=2:=B122;go_enter func150,ntmps150;go_wp2_with fail;have TW:=fun o=>zcm hX kF kN kO n' (!odd) o;exact jY jT B21 ⟨rfl,(TW _).1,(TW _).2.2.1,(TW _).2.2.2.1,(TW _).2.2.2.2⟩):=h
def X11.K2(h:jp:=by
 obtain ⟨vk,vn,vt⟩:=v;obtain rfl:vk=2:=B122;go_enter func150,ntmps150;go_wp2_with fail;have TW:=fun o=>zcm hX kF kN kO n' (!odd) o;obtain ⟨hX0,kF0,kN0,kO0,hf0⟩:=TW (Obj.cells #[jI 2,jI vn,jS vt] 41);exact N19):=h
def B123(h:jp:=by simpa using tk1):=h
def M50(h:jp:=by
 have HE:=jH fun (b:Bool) (u:World) (hX:Fd.At u X h)=>ends_any X h ⟨2,cond b 1 0,⟨#[]⟩⟩ u hX;have HTr:=jH fun (b:Bool) (u:World)=>Fd.truth_any b u;have n1:=kN.ne_at hX;have n2:=kO.ne_at hX;have n3:bN≠bO:=kN.ne kO B8;have n4:bF≠bN:=kF.ne kN B8;have n5:bF≠bO:=kF.ne kO B8;have n6:bO≠bK:=kO.ne kK B8;have c0:=kF.cell;have c1:=kN.cell;have c2:=kO.cell;have c3:=kK.cell;have l0:=kF.lt;have l1:=kN.lt;have l2:=kO.lt;have l3:=kK.lt;have f1:=kN.frozen;have f2:=kO.frozen;have hb1:Below w.heap.size w (w.alloc (Obj.cells #[jI v.k,jI v.n,jS v.t] 41)):=below1 _ _;obtain ⟨n',hw⟩:∃n',IntKind.i64.wrap (n+1)=n':=⟨_,rfl⟩;rw[hw];obtain ⟨vk,vn,vt⟩:=v;obtain rfl:vk=1:=B123;go_enter func150,ntmps150;go_wp2_with fail;have TW:=fun o=>zcm hX kF kN kO n' (odd) o;exact jY jT B21 ⟨rfl,(TW _).1,(TW _).2.2.1,(TW _).2.2.2.1,(TW _).2.2.2.2⟩):=h
def X14.K2(h:jp:=by
 obtain ⟨vk,vn,vt⟩:=v;obtain rfl:vk=1:=B123;go_enter func150,ntmps150;go_wp2_with fail;have TW:=fun o=>zcm hX kF kN kO n' (odd) o;obtain ⟨hX0,kF0,kN0,kO0,hf0⟩:=TW (Obj.cells #[jI 1,jI vn,jS vt] 41);exact N18):=h
def M48(h:jp:=by
 have HE:=jH fun (b:Bool) (u:World) (hX:Fd.At u X h)=>ends_any X h ⟨2,cond b 1 0,⟨#[]⟩⟩ u hX;have HTr:=jH fun (b:Bool) (u:World)=>Fd.truth_any b u;have n1:=kN.ne_at hX;have n2:=kO.ne_at hX;have n3:bN≠bO:=kN.ne kO B8;have n4:bF≠bN:=kF.ne kN B8;have n5:bF≠bO:=kF.ne kO B8;have n6:bO≠bK:=kO.ne kK B8;have c0:=kF.cell;have c1:=kN.cell;have c2:=kO.cell;have c3:=kK.cell;have l0:=kF.lt;have l1:=kN.lt;have l2:=kO.lt;have l3:=kK.lt;have f1:=kN.frozen;have f2:=kO.frozen;have hb1:Below w.heap.size w (w.alloc (Obj.cells #[jI v.k,jI v.n,jS v.t] 41)):=below1 _ _;obtain ⟨n',hw⟩:∃n',IntKind.i64.wrap (n+1)=n':=⟨_,rfl⟩;rw[hw];obtain ⟨vk,vn,vt⟩:=v;obtain rfl:vk=1:=B123;go_enter func150,ntmps150;go_wp2_with fail;have TW:=fun o=>zcm hX kF kN kO n' (!odd) o;exact jY jT B21 ⟨rfl,(TW _).1,(TW _).2.2.1,(TW _).2.2.2.1,(TW _).2.2.2.2⟩):=h
def X15.K2(h:jp:=by
 obtain ⟨vk,vn,vt⟩:=v;obtain rfl:vk=1:=B123;go_enter func150,ntmps150;go_wp2_with fail;have TW:=fun o=>zcm hX kF kN kO n' (!odd) o;obtain ⟨hX0,kF0,kN0,kO0,hf0⟩:=TW (Obj.cells #[jI 1,jI vn,jS vt] 41);exact N19):=h
def B100(h:jp:=by unfold bne;rw[tc];rfl):=h
def M28(h:jp:=by
 have HE:=jH fun (b:Bool) (u:World) (hX:Fd.At u X h)=>ends_any X h ⟨2,cond b 1 0,⟨#[]⟩⟩ u hX;have HTr:=jH fun (b:Bool) (u:World)=>Fd.truth_any b u;have n1:=kN.ne_at hX;have n2:=kO.ne_at hX;have n3:bN≠bO:=kN.ne kO B8;have n4:bF≠bN:=kF.ne kN B8;have n5:bF≠bO:=kF.ne kO B8;have n6:bO≠bK:=kO.ne kK B8;have c0:=kF.cell;have c1:=kN.cell;have c2:=kO.cell;have c3:=kK.cell;have l0:=kF.lt;have l1:=kN.lt;have l2:=kO.lt;have l3:=kK.lt;have f1:=kN.frozen;have f2:=kO.frozen;have hb1:Below w.heap.size w (w.alloc (Obj.cells #[jI v.k,jI v.n,jS v.t] 41)):=below1 _ _;obtain ⟨n',hw⟩:∃n',IntKind.i64.wrap (n+1)=n':=⟨_,rfl⟩;rw[hw];have HV:=jH (fun (u:World)=>_root_.Go.Proofs.YtoffmfgaohjjpaaGreatDoor.truth_any v u);generalize Val.truth v=nc at *;obtain ⟨tv,tcode⟩:=nc;simp only at tc tb;subst tb;have tc2:(tcode !=0)=false:=B100;go_enter func150,ntmps150;go_wp2_with fail;refine jM (HV.out _) ?_;intro w0 hbv;have hbw:=jN hb1 hbv;have hXv:=hX.below2 hbw;have kFv:=kF.below hbw;have kNv:=kN.below hbw;have kOv:=kO.below hbw;have kKv:=kK.below hbw;have hfw:Foot (fun k=>k=X\/k=bN\/k=bO) w w0:=Foot.of_below hbw;clear hX kF kN kO kK c0 c1 c2 c3 l0 l1 l2 l3 f1 f2 hb1 hbv hbw;have c0:=kFv.cell;have c1:=kNv.cell;have c2:=kOv.cell;have c3:=kKv.cell;have l0:=kFv.lt;have l1:=kNv.lt;have l2:=kOv.lt;have l3:=kKv.lt;have f1:=kNv.frozen;have f2:=kOv.frozen;go_wp2_with fail;have TW:=ze0 hXv kFv kNv kOv n' (odd);exact jY jT B21 ⟨rfl,TW.1,TW.2.2.1,TW.2.2.2.1,hfw.trans TW.2.2.2.2⟩):=h
def D8(h:jp:=by
 have HV:=jH (fun (u:World)=>_root_.Go.Proofs.YtoffmfgaohjjpaaGreatDoor.truth_any v u);generalize Val.truth v=nc at *;obtain ⟨tv,tcode⟩:=nc;simp only at tc tb;subst tb;have tc2:(tcode !=0)=false:=B100;go_enter func150,ntmps150;go_wp2_with fail;refine jM (HV.out _) ?_;intro w0 hbv;have hbw:=jN hb1 hbv;have hXv:=hX.below2 hbw;have kFv:=kF.below hbw;have kNv:=kN.below hbw;have kOv:=kO.below hbw;have kKv:=kK.below hbw;have hfw:Foot (fun k=>k=X\/k=bN\/k=bO) w w0:=Foot.of_below hbw;clear hX kF kN kO kK c0 c1 c2 c3 l0 l1 l2 l3 f1 f2 hb1 hbv hbw;have c0:=kFv.cell;have c1:=kNv.cell;have c2:=kOv.cell;have c3:=kKv.cell;have l0:=kFv.lt;have l1:=kNv.lt;have l2:=kOv.lt;exact J8):=h
def V24.J8(h:jp:=by
 have l3:=kKv.lt;have f1:=kNv.frozen;have f2:=kOv.frozen;go_wp2_with fail;have TW:=ze0 hXv kFv kNv kOv n' (odd);generalize World.setCell (World.setCell _ _ _) _ _=W0 at *;obtain ⟨hX0,kF0,kN0,kO0,hf00⟩:=TW;have hf0:=hfw.trans hf00;clear hf00 hfw hXv kFv kNv kOv kKv c0 c1 c2 c3 l0 l1 l2 l3 f1 f2;exact M20):=h
def X12.K2(h:jp:=by
 open V24 in exact D8):=h
def M27(h:jp:=by
 have HE:=jH fun (b:Bool) (u:World) (hX:Fd.At u X h)=>ends_any X h ⟨2,cond b 1 0,⟨#[]⟩⟩ u hX;have HTr:=jH fun (b:Bool) (u:World)=>Fd.truth_any b u;have n1:=kN.ne_at hX;have n2:=kO.ne_at hX;have n3:bN≠bO:=kN.ne kO B8;have n4:bF≠bN:=kF.ne kN B8;have n5:bF≠bO:=kF.ne kO B8;have n6:bO≠bK:=kO.ne kK B8;have c0:=kF.cell;have c1:=kN.cell;have c2:=kO.cell;have c3:=kK.cell;have l0:=kF.lt;have l1:=kN.lt;have l2:=kO.lt;have l3:=kK.lt;have f1:=kN.frozen;have f2:=kO.frozen;have hb1:Below w.heap.size w (w.alloc (Obj.cells #[jI v.k,jI v.n,jS v.t] 41)):=below1 _ _;obtain ⟨n',hw⟩:∃n',IntKind.i64.wrap (n+1)=n':=⟨_,rfl⟩;rw[hw];have HV:=jH (fun (u:World)=>_root_.Go.Proofs.YtoffmfgaohjjpaaGreatDoor.truth_any v u);generalize Val.truth v=nc at *;obtain ⟨tv,tcode⟩:=nc;simp only at tc tb;subst tb;have tc2:(tcode !=0)=false:=B100;go_enter func150,ntmps150;go_wp2_with fail;refine jM (HV.out _) ?_;intro w0 hbv;have hbw:=jN hb1 hbv;have hXv:=hX.below2 hbw;have kFv:=kF.below hbw;have kNv:=kN.below hbw;have kOv:=kO.below hbw;have kKv:=kK.below hbw;have hfw:Foot (fun k=>k=X\/k=bN\/k=bO) w w0:=Foot.of_below hbw;clear hX kF kN kO kK c0 c1 c2 c3 l0 l1 l2 l3 f1 f2 hb1 hbv hbw;have c0:=kFv.cell;have c1:=kNv.cell;have c2:=kOv.cell;have c3:=kKv.cell;have l0:=kFv.lt;have l1:=kNv.lt;have l2:=kOv.lt;have l3:=kKv.lt;have f1:=kNv.frozen;have f2:=kOv.frozen;go_wp2_with fail;have TW:=ze0 hXv kFv kNv kOv n' (!odd);exact jY jT B21 ⟨rfl,TW.1,TW.2.2.1,TW.2.2.2.1,hfw.trans TW.2.2.2.2⟩):=h
def V25.J8(h:jp:=by
 have l3:=kKv.lt;have f1:=kNv.frozen;have f2:=kOv.frozen;go_wp2_with fail;have TW:=ze0 hXv kFv kNv kOv n' (!odd);generalize World.setCell (World.setCell _ _ _) _ _=W0 at *;obtain ⟨hX0,kF0,kN0,kO0,hf00⟩:=TW;have hf0:=hfw.trans hf00;clear hf00 hfw hXv kFv kNv kOv kKv c0 c1 c2 c3 l0 l1 l2 l3 f1 f2;exact M21):=h
def X13.K2(h:jp:=by
 open V25 in exact D8):=h
theorem ArgsAt.below{w w':World}{ba g n c:Nat}{l:List Ma.Arg}(h:ArgsAt w ba g n c l)(hb:Below w.heap.size w w'):ArgsAt w' ba g n c l:=
 ⟨h.box.below hb,h.len,h.cap,jL h.lt hb.size,h.items.below hb⟩
theorem ArgsAt.item{w:World}{ba g n c:Nat}{l:List Ma.Arg}(h:ArgsAt w ba g n c l){k:Nat}{x:Ma.Arg}(hx:l[k]?=some x):ItemAt w g (k*8) x:=by
 obtain ⟨g',e,_,hi⟩:=h.items k x hx;cases e;exact hi
theorem zrs{w w':World}{g:Nat}{l:List Ma.Arg}{F:Nat->Prop}(h:ItemsIn w (some (jA g 0)) l)(hf:Foot F w w')(hg:¬F g):ItemsIn w' (some (jA g 0)) l:=fun k x hx=>by
 obtain ⟨g',e,hlt,hi⟩:=h k x hx;cases e;have hk:=hf.block g hlt hg;obtain ⟨q0,q1,q2,q3,q4,q5,q6,q7⟩:=hi;exact ⟨g,rfl,jL hlt hf.size,(zag hk).trans q0,(zag hk).trans q1,(zag hk).trans q2,(zag hk).trans q3,(zag hk).trans q4,(zag hk).trans q5,(zag hk).trans q6,(zag hk).trans q7⟩
theorem ArgsAt.foot{w w':World}{ba g n c:Nat}{l:List Ma.Arg}{F:Nat->Prop}(h:ArgsAt w ba g n c l)(hf:Foot F w w')(h1:¬F ba)(h2:¬F g):ArgsAt w' ba g n c l:=
 ⟨h.box.foot hf h1,h.len,h.cap,jL h.lt hf.size,zrs h.items hf h2⟩
section
variable(X ba g na ca bF bR bK bU:Nat)(h:FH)(l:List Ma.Arg)(x0:Ma.Arg)(f k t lf b r:Int)(v:Val.V)(cell:Bool)(w:World)(hX:Fd.At w X h)(hA:ArgsAt w ba g na ca l)(hx0:l[0]?=some x0)(kF:Box w bF (PT X))(kR:w.heap[bR]?=some (.cells #[jI t,jI lf,jI b,jI r] 62 (0,0)))(kK:Box w bK (jI k))(kU:Box w bU (jI f))
include X ba g na ca bF bR bK bU h l x0 f k t lf b r v cell w hX hA hx0 kF kR kK kU
theorem zu9(he:Ma.equal x0.v v=false):Ret 158 #[VL v,.bool cell,PT ba,PT bF,PT bR,PT bK,PT bU] w jT:=by
 open X47 in exact C7
theorem zrn(he:Ma.equal x0.v v=true)(s1 s2 s3 s4:Int)(hu:(f==72)=false)(w1:IntKind.i64.wrap (lf+k)=s1)(w2:IntKind.i64.wrap (s1-1)=s2):Calls prog 158 #[VL v,.bool cell,PT ba,PT bF,PT bR,PT bK,PT bU] w fun e w'=>e=jr jT/\Fd.At w' X (h.want h.hr s2 (.func (.func 78) #[PT X] #[]))/\Foot (fun k=>k=X) w w':=by
 have HW:=jH fun (r c:Int) (cs bs:Array Value) (u:World) (hX:Fd.At u X h)=>zg2 X h r c 78 cs bs u hX
 open X48 in exact C7
theorem zrm(he:Ma.equal x0.v v=true)(s1 s2 s3 s4:Int)(hu:(f==72)=true)(w1:IntKind.i64.wrap (lf+k)=s1)(w2:IntKind.i64.wrap (s1-1)=s2)(w3:IntKind.i64.wrap (t+k)=s3)(w4:IntKind.i64.wrap (s3-1)=s4):Calls prog 158 #[VL v,.bool cell,PT ba,PT bF,PT bR,PT bK,PT bU] w fun e w'=>e=jr jT/\Fd.At w' X (h.want s4 h.hc (.func (.func 78) #[PT X] #[]))/\Foot (fun k=>k=X) w w':=by
 have HW:=jH fun (r c:Int) (cs bs:Array Value) (u:World) (hX:Fd.At u X h)=>zg2 X h r c 78 cs bs u hX
 open X49 in exact C7
end
theorem alike_go(x y:Ma.Arg)(w:World)(p q c d e f g h:Int)(w1:IntKind.i64.wrap (x.a.b-x.a.t)=c)(w2:IntKind.i64.wrap (y.a.b-y.a.t)=d)(w3:IntKind.i64.wrap (x.a.r-x.a.l)=e)(w4:IntKind.i64.wrap (y.a.r-y.a.l)=f):
 Calls prog 160 #[argV x,argV y] w fun e' w'=>e'= .returned (.bool (x.isA&&y.isA&&(c==d)&&(e==f)))/\Below w.heap.size w w':=by
 cases t1:x.isA
 case false=>
  exact M69
 cases t2:y.isA
 case false=>
  exact M69
 cases t3:(c==d)
 case false=>
  exact M69
 cases t4:(e==f)
 case false=>
  exact M69
 case true=>
  exact M69
theorem ztu(t l b r n d1 ww q1 s1 s2:Int)(w:World)(w1:IntKind.i64.wrap (r-l)=d1)(w2:IntKind.i64.wrap (d1+1)=ww)(h0:ww≠0)(w3:IntKind.i64.wrap (n.tdiv ww)=q1)(w4:IntKind.i64.wrap (t+q1)=s1)(w5:IntKind.i64.wrap (l+n.tmod ww)=s2):
 Ret 79 #[.agg #[jI t,jI l,jI b,jI r],jI n] w (SP s1 s2):=by
 obtain ⟨hb,kk,kz⟩:=zdb w #[jI t,jI l,jI b,jI r] 62 #[jI 0,jI 0] 27;go_enter func79,ntmps79;go_upto_region 1 with fail;generalize (w.alloc (Obj.cells #[jI t,jI l,jI b,jI r] 62)).alloc (Obj.cells #[jI 0,jI 0] 27)=u0 at *;have hz1:w.heap.size+1<u0.heap.size:=(jg kz);obtain ⟨a0,a1,a2,a3⟩:=zah kk;have z0:u0.cell? (jA (w.heap.size+1) 0)=some (jI 0):=by rw[Lib.cell_of_heap kz];rfl
 have z1:u0.cell? (jA (w.heap.size+1) 1)=some (jI 0):=by rw[Lib.cell_of_heap kz];rfl
 have f0:=frozen_of_row u0 (w.heap.size+1) 0 _ _ kz;have f1:=frozen_of_row u0 (w.heap.size+1) 1 _ _ kz;go_wp2_with fail;go_region;go_wp2_with fail;exact jX (SP s1 s2) (by simp[results,results79,go_sem,z0,z1]) ⟨rfl,by repeat (first|with_reducible exact hb|with_reducible refine Below.drew ?_|with_reducible refine setB ?_ B1)⟩
section
variable(X bF bN bO bK:Nat)(v:Val.V)(w:World)(kF:Box w bF (PT X))(Q:World->Prop)
include X bF bN bO bK v w kF Q
theorem zqn(hk:(v.k==4)=true)(H:∀u,Below w.heap.size w u->Calls prog 78 #[PT X,VL v] u fun e w'=>e=jr jT/\Q w'):Calls prog 150 #[VL v,.bool true,PT bF,PT bN,PT bO,PT bK] w fun e w'=>e=jr jT/\Q w':=by
 open X144 in exact C32
theorem zm3(hk:(v.k==4)=false)(h2:(v.k !=2)=true)(h1:(v.k !=1)=true)(H:∀u,Below w.heap.size w u->Q u):Calls prog 150 #[VL v,.bool true,PT bF,PT bN,PT bO,PT bK] w fun e w'=>e=jr jT/\Q w':=by
 open X145 in exact C32
theorem zm4(hc:((Val.truth v).2==0)=false)(H:∀u,Below w.heap.size w u->Calls prog 101 #[PT X,jI (Val.truth v).2] u fun e w'=>e=jr jT/\Q w'):Calls prog 150 #[VL v,.bool false,PT bF,PT bN,PT bO,PT bK] w fun e w'=>e=jr jT/\Q w':=by
 have HV:=jH (fun (u:World)=>_root_.Go.Proofs.YtoffmfgaohjjpaaGreatDoor.truth_any v u)
 open X146 in exact C32
end
section
variable{X bF bN bO:Nat}{h:FH}{n:Int}{odd:Bool}{w:World}(hX:Fd.At w X h)(kF:Box w bF (PT X))(kN:Box w bN (jI n))(kO:Box w bO (.bool odd))(n':Int)(o':Bool)
include X bF bN bO h n odd w hX kF kN kO n' o'
theorem ze0:
 Fd.At ((w.setCell (jA bN 0) (jI n')).setCell (jA bO 0) (.bool o')) X h/\Box ((w.setCell (jA bN 0) (jI n')).setCell (jA bO 0) (.bool o')) bF (PT X)/\Box ((w.setCell (jA bN 0) (jI n')).setCell (jA bO 0) (.bool o')) bN (jI n')/\
 Box ((w.setCell (jA bN 0) (jI n')).setCell (jA bO 0) (.bool o')) bO (.bool o')/\Foot (fun k=>k=X\/k=bN\/k=bO) w ((w.setCell (jA bN 0) (jI n')).setCell (jA bO 0) (.bool o')):=by
 have n1:=kN.ne_at hX;have n2:=kO.ne_at hX;have n3:bN≠bO:=kN.ne kO B8;have n4:bF≠bN:=kF.ne kN B8;have n5:bF≠bO:=kF.ne kO B8;exact ⟨zbs (zbs hX n1) n2,(kF.set_other n4).set_other n5,(kN.set _).set_other n3,(kO.set_other n3.symm).set _,Foot.set Bp102 (.inr (.inr rfl))⟩
theorem zcm(o:Obj):
 Fd.At (((w.setCell (jA bN 0) (jI n')).setCell (jA bO 0) (.bool o')).alloc o) X h/\Box (((w.setCell (jA bN 0) (jI n')).setCell (jA bO 0) (.bool o')).alloc o) bF (PT X)/\Box (((w.setCell (jA bN 0) (jI n')).setCell (jA bO 0) (.bool o')).alloc o) bN (jI n')/\
 Box (((w.setCell (jA bN 0) (jI n')).setCell (jA bO 0) (.bool o')).alloc o) bO (.bool o')/\Foot (fun k=>k=X\/k=bN\/k=bO) w (((w.setCell (jA bN 0) (jI n')).setCell (jA bO 0) (.bool o')).alloc o):=by
 have n1:=kN.ne_at hX;have n2:=kO.ne_at hX;have n3:bN≠bO:=kN.ne kO B8;have n4:bF≠bN:=kF.ne kN B8;have n5:bF≠bO:=kF.ne kO B8;have hb:Below ((w.setCell (jA bN 0) (jI n')).setCell (jA bO 0) (.bool o')).heap.size _ (((w.setCell (jA bN 0) (jI n')).setCell (jA bO 0) (.bool o')).alloc o):=below1 _ _;exact ⟨(zbs (zbs hX n1) n2).below2 hb,((kF.set_other n4).set_other n5).below hb,((kN.set _).set_other n3).below hb,((kO.set_other n3.symm).set _).below hb,Foot.alloc (Foot.set Bp102 (.inr (.inr rfl)))⟩
end
section
variable(X bF bN bO bK:Nat)(h:FH)(f n:Int)(odd:Bool)(v:Val.V)(w:World)(hX:Fd.At w X h)(kF:Box w bF (PT X))(kN:Box w bN (jI n))(kO:Box w bO (.bool odd))(kK:Box w bK (jI f))(hnk:bN≠bK)
include X bF bN bO bK h f n odd v w hX kF kN kO kK hnk
section
variable(hk4:(v.k==4)=false)
include hk4
section
variable(tk2:(v.k !=2)=false)
include tk2
section
variable(tb:(v.n !=0)=false)
include tb
theorem zfw(t5:(f==65)=false)(t6:(f==66)=false):Calls prog 150 #[VL v,.bool true,PT bF,PT bN,PT bO,PT bK] w fun e w'=>e=jr jT/\Fd.At w' X h/\Box w' bN (jI (IntKind.i64.wrap (n+1)))/\Box w' bO (.bool (odd))/\Foot (fun k=>k=X\/k=bN\/k=bO) w w':=by
 exact M51
theorem zfv(t5:(f==65)=false)(t6:(f==66)=true):Calls prog 150 #[VL v,.bool true,PT bF,PT bN,PT bO,PT bK] w fun e w'=>e=jr jT/\Fd.At w' X h/\Box w' bN (jI (IntKind.i64.wrap (n+1)))/\Box w' bO (.bool (odd))/\Foot (fun k=>k=X\/k=bN\/k=bO) w w':=by
 exact M51
theorem zfu(t5:(f==65)=true):Calls prog 150 #[VL v,.bool true,PT bF,PT bN,PT bO,PT bK] w fun e w'=>e=jr jT/\Fd.At w' X (h.ends ⟨2,cond false 1 0,⟨#[]⟩⟩)/\Box w' bN (jI (IntKind.i64.wrap (n+1)))/\Box w' bO (.bool (odd))/\Foot (fun k=>k=X\/k=bN\/k=bO) w w':=by
 open X10 in exact C2
end
section
variable(tb:(v.n !=0)=true)
include tb
theorem zgt(t5:(f==65)=false)(t6:(f==66)=false):Calls prog 150 #[VL v,.bool true,PT bF,PT bN,PT bO,PT bK] w fun e w'=>e=jr jT/\Fd.At w' X h/\Box w' bN (jI (IntKind.i64.wrap (n+1)))/\Box w' bO (.bool (!odd))/\Foot (fun k=>k=X\/k=bN\/k=bO) w w':=by
 exact M49
theorem zgs(t5:(f==65)=true)(t6:(f==66)=false):Calls prog 150 #[VL v,.bool true,PT bF,PT bN,PT bO,PT bK] w fun e w'=>e=jr jT/\Fd.At w' X h/\Box w' bN (jI (IntKind.i64.wrap (n+1)))/\Box w' bO (.bool (!odd))/\Foot (fun k=>k=X\/k=bN\/k=bO) w w':=by
 exact M49
theorem zgr(t5:(f==65)=false)(t6:(f==66)=true):Calls prog 150 #[VL v,.bool true,PT bF,PT bN,PT bO,PT bK] w fun e w'=>e=jr jT/\Fd.At w' X (h.ends ⟨2,cond true 1 0,⟨#[]⟩⟩)/\Box w' bN (jI (IntKind.i64.wrap (n+1)))/\Box w' bO (.bool (!odd))/\Foot (fun k=>k=X\/k=bN\/k=bO) w w':=by
 open X11 in exact C2
end
end
section
variable(tk2:(v.k !=2)=true)(tk1:(v.k !=1)=false)
include tk2 tk1
section
variable(tb:(v.n !=0)=false)
include tb
theorem zfz(t5:(f==65)=false)(t6:(f==66)=false):Calls prog 150 #[VL v,.bool true,PT bF,PT bN,PT bO,PT bK] w fun e w'=>e=jr jT/\Fd.At w' X h/\Box w' bN (jI (IntKind.i64.wrap (n+1)))/\Box w' bO (.bool (odd))/\Foot (fun k=>k=X\/k=bN\/k=bO) w w':=by
 exact M50
theorem zfy(t5:(f==65)=false)(t6:(f==66)=true):Calls prog 150 #[VL v,.bool true,PT bF,PT bN,PT bO,PT bK] w fun e w'=>e=jr jT/\Fd.At w' X h/\Box w' bN (jI (IntKind.i64.wrap (n+1)))/\Box w' bO (.bool (odd))/\Foot (fun k=>k=X\/k=bN\/k=bO) w w':=by
 exact M50
theorem zfx(t5:(f==65)=true):Calls prog 150 #[VL v,.bool true,PT bF,PT bN,PT bO,PT bK] w fun e w'=>e=jr jT/\Fd.At w' X (h.ends ⟨2,cond false 1 0,⟨#[]⟩⟩)/\Box w' bN (jI (IntKind.i64.wrap (n+1)))/\Box w' bO (.bool (odd))/\Foot (fun k=>k=X\/k=bN\/k=bO) w w':=by
 open X14 in exact C2
end
section
variable(tb:(v.n !=0)=true)
include tb
theorem zgw(t5:(f==65)=false)(t6:(f==66)=false):Calls prog 150 #[VL v,.bool true,PT bF,PT bN,PT bO,PT bK] w fun e w'=>e=jr jT/\Fd.At w' X h/\Box w' bN (jI (IntKind.i64.wrap (n+1)))/\Box w' bO (.bool (!odd))/\Foot (fun k=>k=X\/k=bN\/k=bO) w w':=by
 exact M48
theorem zgv(t5:(f==65)=true)(t6:(f==66)=false):Calls prog 150 #[VL v,.bool true,PT bF,PT bN,PT bO,PT bK] w fun e w'=>e=jr jT/\Fd.At w' X h/\Box w' bN (jI (IntKind.i64.wrap (n+1)))/\Box w' bO (.bool (!odd))/\Foot (fun k=>k=X\/k=bN\/k=bO) w w':=by
 exact M48
theorem zgu(t5:(f==65)=false)(t6:(f==66)=true):Calls prog 150 #[VL v,.bool true,PT bF,PT bN,PT bO,PT bK] w fun e w'=>e=jr jT/\Fd.At w' X (h.ends ⟨2,cond true 1 0,⟨#[]⟩⟩)/\Box w' bN (jI (IntKind.i64.wrap (n+1)))/\Box w' bO (.bool (!odd))/\Foot (fun k=>k=X\/k=bN\/k=bO) w w':=by
 open X15 in exact C2
end
end
end
section
variable(tc:((Val.truth v).2==0)=true)
include tc
section
variable(tb:(Val.truth v).1=false)
include tb
theorem ze3(t5:(f==65)=false)(t6:(f==66)=false):Calls prog 150 #[VL v,.bool false,PT bF,PT bN,PT bO,PT bK] w fun e w'=>e=jr jT/\Fd.At w' X h/\Box w' bN (jI (IntKind.i64.wrap (n+1)))/\Box w' bO (.bool (odd))/\Foot (fun k=>k=X\/k=bN\/k=bO) w w':=by
 exact M28
theorem ze2(t5:(f==65)=false)(t6:(f==66)=true):Calls prog 150 #[VL v,.bool false,PT bF,PT bN,PT bO,PT bK] w fun e w'=>e=jr jT/\Fd.At w' X h/\Box w' bN (jI (IntKind.i64.wrap (n+1)))/\Box w' bO (.bool (odd))/\Foot (fun k=>k=X\/k=bN\/k=bO) w w':=by
 exact M28
theorem ze1(t5:(f==65)=true):Calls prog 150 #[VL v,.bool false,PT bF,PT bN,PT bO,PT bK] w fun e w'=>e=jr jT/\Fd.At w' X (h.ends ⟨2,cond false 1 0,⟨#[]⟩⟩)/\Box w' bN (jI (IntKind.i64.wrap (n+1)))/\Box w' bO (.bool (odd))/\Foot (fun k=>k=X\/k=bN\/k=bO) w w':=by
 open X12 in exact C2
end
section
variable(tb:(Val.truth v).1=true)
include tb
theorem zf2(t5:(f==65)=false)(t6:(f==66)=false):Calls prog 150 #[VL v,.bool false,PT bF,PT bN,PT bO,PT bK] w fun e w'=>e=jr jT/\Fd.At w' X h/\Box w' bN (jI (IntKind.i64.wrap (n+1)))/\Box w' bO (.bool (!odd))/\Foot (fun k=>k=X\/k=bN\/k=bO) w w':=by
 exact M27
theorem zf1(t5:(f==65)=true)(t6:(f==66)=false):Calls prog 150 #[VL v,.bool false,PT bF,PT bN,PT bO,PT bK] w fun e w'=>e=jr jT/\Fd.At w' X h/\Box w' bN (jI (IntKind.i64.wrap (n+1)))/\Box w' bO (.bool (!odd))/\Foot (fun k=>k=X\/k=bN\/k=bO) w w':=by
 exact M27
theorem zf0(t5:(f==65)=false)(t6:(f==66)=true):Calls prog 150 #[VL v,.bool false,PT bF,PT bN,PT bO,PT bK] w fun e w'=>e=jr jT/\Fd.At w' X (h.ends ⟨2,cond true 1 0,⟨#[]⟩⟩)/\Box w' bN (jI (IntKind.i64.wrap (n+1)))/\Box w' bO (.bool (!odd))/\Foot (fun k=>k=X\/k=bN\/k=bO) w w':=by
 open X13 in exact C2
end
end
end
