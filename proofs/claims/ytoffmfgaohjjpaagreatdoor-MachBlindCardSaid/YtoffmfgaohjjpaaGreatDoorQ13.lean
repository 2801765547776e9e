import Derived.Test.YtoffmfgaohjjpaaGreatDoorQ14
set_option linter.unusedVariables false
set_option linter.unusedSectionVars false
set_option linter.unusedSimpArgs false
open Go.Proofs.Tryz
set_option maxHeartbeats 8000000
variable{jp:Sort _}
set_option maxRecDepth 100000
namespace Go.Proofs.YtoffmfgaohjjpaaGreatDoor
open Go.RowKit
namespace Mb
structure Env(w0 w:World)(B:Nat)(h:MH):Prop where
 num:NumW w0
 txt:TxtW w0
 below:Below w0.heap.size w0 w
 b:w0.heap.size<=B
 s:∀k,h.st.ownBlock=some k->w0.heap.size<=k
def B33(h:jp:=by rw[List.getElem?_append_right jE];simp):=h
def B57(h:jp:=by first|(simp;done)|(simp;omega)):=h
def Bp65(h:jp:=by exact Post.refl hB hs0):=h
def C40(h:jp:=by
 go_enter func35,ntmps35;go_wp2_with fail;go_region;have hb1:Below w.heap.size w (w.alloc (Obj.cells #[.bool y.isA,jI y.a.t,jI y.a.l,jI y.a.b,jI y.a.r,jI y.v.k,jI y.v.n,jS y.v.t] TA)).drew:=(below1 _ _).drew;exact K40):=h
def X162.K40(h:jp:=by
 have hbx:=heap_alloc_new w (Obj.cells #[.bool y.isA,jI y.a.t,jI y.a.l,jI y.a.b,jI y.a.r,jI y.v.k,jI y.v.n,jS y.v.t] TA);go_wp2_with fail;refine jM (HE.out _) ?_;intro w2 hb2;have hb3:=jN hb1 hb2;clear hb1 hb2 hbx;go_wp2_with fail;go_ret;exact ⟨rfl,hp.out.below hb3⟩):=h
def B171(h:jp:=by simp at hl;omega):=h
def X163.K40(h:jp:=by
 have hbx:(w.alloc (Obj.cells #[.bool y.isA,jI y.a.t,jI y.a.l,jI y.a.b,jI y.a.r,jI y.v.k,jI y.v.n,jS y.v.t] TA)).drew.heap[w.heap.size]?=_:=heap_alloc_new w (Obj.cells #[.bool y.isA,jI y.a.t,jI y.a.l,jI y.a.b,jI y.a.r,jI y.v.k,jI y.v.n,jS y.v.t] TA);go_wp2_with fail;refine jM (HE.out _) ?_;intro w2 hb2;have hb3:=jN hb1 hb2;replace hbx:=(hb2.block w.heap.size B7).trans hbx;have hx2:=hx0.below ha.lt hb3;have hx2':=hx2;have ha2:=ha.below hb3;have hl2:w.heap.size<w2.heap.size:=(jg hbx);obtain ⟨-,T2,⟨hlt,c0,c1,c2,c3,c4,c5⟩,-,-⟩:=hx2;rw[hb] at c2;clear c0 c1 c3 c4 c5 hb1 hb2;go_wp2_with fail;have HT2:=HT.out w2 (HB.out.below hb3) (HS0.out.kept fun g' e=>hb3.block g' (HS0.out.lt e).1);rw[hlen.out] at HT2;refine HT2.mono ?_;rintro e w3 ⟨v,rfl,hown,hp3⟩;have hbx3:=(hp3.other w.heap.size hl2 B1 (by rw[HST.out];intro e;have e2:sg=w.heap.size:=Option.some.inj e;omega)).trans hbx;have hx3:=hp3.ins ha2 hx2';have hvsh:∃a c,v= .slice a (ms.length+1) c:=by
  rcases hown.2 with ⟨rfl,h0⟩|⟨g',cap',cur,rfl,_⟩
  .omega
  .exact ⟨_,_,rfl⟩
 obtain ⟨va,vc,rfl⟩:=hvsh;have hl3:w.heap.size<w3.heap.size:=(jg hbx3);obtain ⟨z0,z1,z2,z3,z4,z5,z6,z7⟩:=arg_cells hbx3;have ha3:=hp3.apart ha2;clear hown hbx c2;go_wp2_with fail;have hp3':=hp3;obtain ⟨sv,q1,q2,q3,q4⟩:=hp3';refine jM (HL.out sv _ q1 q2) ?_;intro w4 hp4;have hx4:=hp4.ins (ha3 sv q1) hx3;obtain ⟨-,T4,⟨hlt4,c0,c1,c2,c3,c4,c5⟩,-,-⟩:=hx4;clear z0 z1 z2 z3 z4 z5 z6 z7;go_wp2_with fail;go_ret;obtain ⟨sv',p1,p2,p3,p4⟩:=hp3.pre hb3;have e:sv'=sv:=by
  unfold At at p1 q1;rw[q1] at p1;have:=(Obj.cells.inj (Option.some.inj p1)).1;simp[mc] at this;exact this.symm
 subst e;exact ⟨rfl,Post.then p3 p4 hp4⟩):=h
def Bp26(h:jp:=by exact zgi B h l y w hB hs B1):=h
def M67(h:jp:=by
 intro w2 hb2;have hp2:=hp1.below hb2;have hC1:∀k,C k->k<w1.heap.size:=fun k hk=>by obtain ⟨_,_,_,h3,_⟩:=hp1;exact jL (ha.lt k hk) h3.size
 have hx2:=hx1.below hC1 hb2;clear hx1 hb2;have hx2':=hx2;obtain ⟨-,T2,⟨hlt2,c0,c1,c2,c3,c4,c5⟩,hTl2,-⟩:=hx2;have hp2':=hp2;obtain ⟨sv,q1,q2,q3,q4⟩:=hp2';go_wp2_with fail;refine jM (HF.out e0 sv _ q1 q2) ?_;intro w3 hp3;have hx3:=hp3.ins (hp2.apart ha sv q1) hx2';obtain ⟨-,T3,⟨hlt3,c0,c1,c2,c3,c4,c5⟩,-,-⟩:=hx3;go_wp2_with fail;go_ret;exact ⟨rfl,Post.then q3 q4 hp3⟩):=h
def C9(h:jp:=by
 have hx0:=hx;have HTk:=jH Bp26;obtain ⟨-,T,⟨hlt,c0,c1,c2,c3,c4,c5⟩,hTl,-⟩:=hx;obtain ⟨ta,tc,rfl⟩:=hTl.any;rw[hop] at c0;have HF:=jH fun (n:Int) (sv:Value) (u:World) (hB:At u B {h with st:=sv}) (hs:Stk u sv l)=>zk6 B {h with st:=sv} l n u hB hs B1;have hfd:=ziq y;clear hs hB;go_enter func35,ntmps35;go_wp2_with fail;refine jM HTk.out ?_;intro w1 hp1;have hx1:=hp1.ins ha hx0;clear c0 c1 c2 c3 c4 c5 HTk;go_wp2_with fail;exact K9):=h
def X53.K9(h:jp:=by
 refine jM (HC.out w1) ?_;exact M67):=h
def M55(h:jp:=by
 have hx0:=hx;have HTk:=jH Bp26;obtain ⟨-,T,⟨hlt,c0,c1,c2,c3,c4,c5⟩,hTl,-⟩:=hx;obtain ⟨ta,tc,rfl⟩:=hTl.any;rw[hop] at c0;have HF:=jH fun (n:Int) (sv:Value) (u:World) (hB:At u B {h with st:=sv}) (hs:Stk u sv l)=>zk6 B {h with st:=sv} l n u hB hs B1;have hfd:=ziq y;clear hs hB;go_enter func35,ntmps35;go_wp2_with fail;refine jM HTk.out ?_;intro w1 hp1;have hx1:=hp1.ins ha hx0;clear c0 c1 c2 c3 c4 c5 HTk;go_wp2_with fail;refine jM (HC.out w1) ?_;intro w2 hb2;have hp2:=hp1.below hb2;have hC1:∀k,C k->k<w1.heap.size:=fun k hk=>by obtain ⟨_,_,_,h3,_⟩:=hp1;exact jL (ha.lt k hk) h3.size
 have hx2:=hx1.below hC1 hb2;clear hx1 hb2;obtain ⟨-,T2,⟨hlt2,c0,c1,c2,c3,c4,c5⟩,hTl2,-⟩:=hx2;go_wp2_with fail;go_ret;exact ⟨rfl,hp2⟩):=h
def X54.K9(h:jp:=by
 refine jM (HC.out w1 hp1) ?_;exact M67):=h
def M72(h:jp:=by
 intro w3 hp3;have hx3:=hp3.ins (hp2.apart ha sv q1) hx2';obtain ⟨-,T3,⟨hlt3,c0,c1,c2,c3,c4,c5⟩,-,-⟩:=hx3;go_wp2_with fail;go_ret;exact ⟨rfl,Post.then q3 q4 hp3⟩):=h
def N17(h:jp:=by
 have hp2':=hp2;obtain ⟨sv,q1,q2,q3,q4⟩:=hp2';go_wp2_with fail;refine jM (HF.out 4 sv _ q1 q2) ?_;exact M72):=h
def D22(h:jp:=by
 refine jM (HC.out w1 hp1) ?_;intro w2 hb2;have hp2:=hp1.below hb2;have hC1:∀k,C k->k<w1.heap.size:=fun k hk=>by obtain ⟨_,_,_,h3,_⟩:=hp1;exact jL (ha.lt k hk) h3.size
 have hx2:=hx1.below hC1 hb2;clear hx1 hb2;exact J22):=h
def V68.J22(h:jp:=by
 have hx2':=hx2;obtain ⟨-,T2,⟨hlt2,c0,c1,c2,c3,c4,c5⟩,hTl2,-⟩:=hx2;exact N17):=h
def X55.K9(h:jp:=by
 open V68 in exact D22):=h
def V69.J22(h:jp:=by
 have hx2':=hx2;obtain ⟨-,T2,⟨hlt2,c0,c1,c2,c3,c4,c5⟩,hTl2,-⟩:=hx2;obtain ⟨ta2,tc2,rfl⟩:=hTl2.any;exact N17):=h
def X56.K9(h:jp:=by
 open V69 in exact D22):=h
def V70.J22(h:jp:=by
 obtain ⟨-,T2,⟨hlt2,c0,c1,c2,c3,c4,c5⟩,hTl2,-⟩:=hx2;have hklt:=(jl ht);obtain ⟨gt,ot,tcap,rfl,hgt,htc⟩:=hTl2.some B1;have ck:=htc k t ht;subst hk;have hw5:IntKind.i64.wrap ((k:Int)+1-1)=(k:Int):=B13;clear htc ht hTl2;go_wp2_with fail;go_ret;exact ⟨rfl,hp2⟩):=h
def X57.K9(h:jp:=by
 open V70 in exact D22):=h
def M46(h:jp:=by
 have HTk:=jH fun (u:World) (hB:At u B h) (hs:Stk u h.st (l++ [y]))=>zgi B h l y u hB hs B1;obtain ⟨-,T,⟨hlt,c0,c1,c2,c3,c4,c5⟩,hTl,-⟩:=hx;rw[hop] at c0;obtain ⟨sg,scap,hst,hle⟩:=hs.shape B57;have hsg:sg<w.heap.size:=(hs.lt B84).1;have hs0:=hs;rw[hst] at hs;rw[List.length_append,List.length_singleton] at hst hle hs;obtain ⟨i0,i1,i2,i3,i4,i5,i6,i7⟩:=hs.item (i:=l.length) (x:=y) B33;have hp:=jH Bp65;have HB:=jH hB;have HS0:=jH hs0;obtain ⟨m0,m1,m2,m3,m4,m5,m6,m7,m8,m9,m10,m11,m12,mf⟩:=hB.cells;have hBl:=hB.lt;rw[hst] at m5;have hw:IntKind.i64.wrap (((l.length+1:Nat):Int)-1)=(l.length:Int):=B13;clear m0 m1 m2 m3 m4 m6 m7 m8 m9 m10 m11 m12 mf hst hle hs hs0 hB;go_enter func35,ntmps35;go_wp2_with fail;go_region;have hb1:Below w.heap.size w (w.alloc (Obj.cells #[jI y.v.k,jI y.v.n,jS y.v.t] 41)).drew:=(below1 _ _).drew;go_wp2_with fail;go_ret;exact ⟨rfl,hp.out.below hb1⟩):=h
def M42(h:jp:=by
 have HTk:=jH fun (u:World) (hB:At u B h) (hs:Stk u h.st (l++ [y]))=>zgi B h l y u hB hs B1;obtain ⟨-,T,⟨hlt,c0,c1,c2,c3,c4,c5⟩,hTl,-⟩:=hx;rw[hop] at c0;obtain ⟨sg,scap,hst,hle⟩:=hs.shape B57;have hsg:sg<w.heap.size:=(hs.lt B84).1;have hs0:=hs;rw[hst] at hs;rw[List.length_append,List.length_singleton] at hst hle hs;obtain ⟨i0,i1,i2,i3,i4,i5,i6,i7⟩:=hs.item (i:=l.length) (x:=y) B33;have hp:=jH Bp65;have HB:=jH hB;have HS0:=jH hs0;obtain ⟨m0,m1,m2,m3,m4,m5,m6,m7,m8,m9,m10,m11,m12,mf⟩:=hB.cells;have hBl:=hB.lt;rw[hst] at m5;have hw:IntKind.i64.wrap (((l.length+1:Nat):Int)-1)=(l.length:Int):=B13;clear m0 m1 m2 m3 m4 m6 m7 m8 m9 m10 m11 m12 mf hst hle hs hs0 hB;go_enter func35,ntmps35;go_wp2_with fail;go_region;have hb1:Below w.heap.size w (w.alloc (Obj.cells #[jI y.v.k,jI y.v.n,jS y.v.t] 41)).drew:=(below1 _ _).drew;go_wp2_with fail;refine jM (HTk.out _ (HB.out.below hb1) (HS0.out.kept fun g' e=>hb1.block g' (HS0.out.lt e).1)) ?_;intro w3 hp3;go_wp2_with fail;go_ret;exact ⟨rfl,hp3.pre hb1⟩):=h
def Bp97(h:jp:=by exact And.intro q1 (And.intro q2 (And.intro q3 q4))):=h
def C14(h:jp:=by
 have hb2:Below w1.heap.size w1 (w1.alloc (Obj.cells #[jI z.v.k,jI z.v.n,jS z.v.t] 41)):=below1 _ _;have hbx:=heap_alloc_new w1 (Obj.cells #[jI z.v.k,jI z.v.n,jS z.v.t] 41);have hC1:∀k,C k->k<w1.heap.size:=fun k hk=>by obtain ⟨_,_,_,h3,_⟩:=hp1;exact jL (ha.lt k hk) h3.size
 have hx2:=hx1.below hC1 hb2;have hp2:=hp1.below hb2;generalize hbb:w1.heap.size=bb at *;generalize w1.alloc (Obj.cells #[jI z.v.k,jI z.v.n,jS z.v.t] 41)=w2 at *;obtain ⟨v0,v1,v2⟩:=zaa hbx;have hbl:bb<w2.heap.size:=(jg hbx);have hp2':=hp2;obtain ⟨sv,q1,q2,q3,q4⟩:=hp2';obtain ⟨sg,scap,hst,hle⟩:=q2.shape B7;have hsg:sg<w2.heap.size:=(q2.lt B84).1;have hsi:=q2;rw[hst] at hsi;rw[List.length_append,List.length_singleton] at hst hle hsi;obtain ⟨i0,i1,i2,i3,i4,i5,i6,i7⟩:=hsi.item (i:=l.length) (x:=y) B33;obtain ⟨m0,m1,m2,m3,m4,m5,m6,m7,m8,m9,m10,m11,m12,mf⟩:=q1.cells;have hBl:=q1.lt;rw[hst] at m5;replace m5:w2.cell? (jA B 5)=some (jP sg 0 (l.length+1) scap):=m5;have hw:IntKind.i64.wrap (((l.length+1:Nat):Int)-1)=(l.length:Int):=B13;have hw':IntKind.i64.wrap (l.length:Int)=(l.length:Int):=B13;have hw1':(0:Int)<=(l.length:Int):=B1;have hw2':(l.length:Int)<(l.length:Int)+1:=B1;exact K14):=h
def D26(h:jp:=by
 have HQ:=jH Bp97;clear m0 m1 m2 m3 m4 m6 m7 m8 m9 m10 m11 m12 mf hst hle hsi q1 q2 q3 q4 hb2 hbx hx1;go_wp2_with fail;go_still_tail 14,(by kernel_rfl);change wpList _ _ _ _ _ w2.drew;go_wp2_with fail;refine jM (HC.out _) ?_;intro w3 hb3;have hb4:Below w2.heap.size w2 w3:=(jB.drew).trans hb3;have hp3:=hp2.below hb4;exact J26):=h
def V79.J26(h:jp:=by
 have hC2:∀k,C k->k<w2.heap.size:=fun k hk=>by obtain ⟨_,_,_,h3,_⟩:=hp2;exact jL (ha.lt k hk) h3.size
 obtain ⟨-,T3,⟨hlt3,c0,c1,c2,c3,c4,c5⟩,-,-⟩:=hx2.below hC2 hb4;go_wp2_with fail;go_ret;exact ⟨rfl,hp3⟩):=h
def X78.K14(h:jp:=by
 open V79 in exact D26):=h
def D18(h:jp:=by
 have hx0:=hx;have HTk:=jH (zgi B h (l++ [y]) z w hB hs B14);have HT2:=jH fun (sv:Value) (u:World) (hB:At u B {h with st:=sv}) (hs:Stk u sv (l++ [y]))=>zgi B {h with st:=sv} l y u hB hs B1;obtain ⟨-,T,⟨hlt,c0,c1,c2,c3,c4,c5⟩,hTl,-⟩:=hx;rw[hop] at c0;have hfd:=ziq z;clear hs hB;go_enter func35,ntmps35;go_wp2_with fail;refine jM HTk.out ?_;intro w1 hp1;have hx1:=hp1.ins ha hx0;clear c0 c1 c2 c3 c4 c5 HTk;exact J18):=h
def V53.J18(h:jp:=by
 go_wp2_with fail
 open X78 in exact C14):=h
def V80.J26(h:jp:=by
 go_wp2_with fail;have hp3':=hp3;obtain ⟨sv3,q1,q2,q3,q4⟩:=hp3';refine jM (HT2.out sv3 _ q1 q2) ?_;intro w4 hp4;go_wp2_with fail;go_ret;exact ⟨rfl,Post.then q3 q4 hp4⟩):=h
def X79.K14(h:jp:=by
 open V80 in exact D26):=h
def V54.J18(h:jp:=by
 go_wp2_with fail
 open X79 in exact C14):=h
theorem zeo{w0 w:World}(h:NumW w0)(hb:Below w0.heap.size w0 w):NumW w:=h.below hb
theorem zao{w0 w w':World}{F:Nat->Prop}(hb:Below w0.heap.size w0 w)(hf:Foot F w w')(hF:∀k,F k->w0.heap.size<=k):Below w0.heap.size w0 w':=by
 have hs:=hb.size;refine ⟨hf.os.trans hb.os,hf.tape.trans hb.tape,hf.output.trans hb.output,jR hs hf.size,fun k hk=>(hf.block k B1 fun e=> ?_).trans (hb.block k hk)⟩;have:=hF k e;omega
theorem Env.post{w0 w w':World}{B:Nat}{h:MH}{l:List Ma.Arg}(hE:Env w0 w B h)(hp:Post B h w l w'):Below w0.heap.size w0 w':=by
 obtain ⟨sv,_,_,h3,_⟩:=hp;refine zao hE.below h3 ?_;rintro k (rfl|e)
 .exact hE.b
 .exact hE.s k e
theorem Post.other{B:Nat}{h:MH}{w w':World}{l:List Ma.Arg}(hp:Post B h w l w')(k:Nat)(hk:k<w.heap.size)(h1:k≠B)(h2:h.st.ownBlock≠some k):w'.heap[k]?=w.heap[k]?:=by
 obtain ⟨sv,_,_,h3,_⟩:=hp;refine h3.block k hk ?_;rintro (rfl|e)
 .exact h1 rfl
 .exact h2 e
theorem arg_cells{w:World}{k:Nat}{y:Ma.Arg}(h:w.heap[k]?=some (.cells #[.bool y.isA,jI y.a.t,jI y.a.l,jI y.a.b,jI y.a.r,jI y.v.k,jI y.v.n,jS y.v.t] TA (0,0))):
 w.cell? (jA k 0)=some (.bool y.isA)/\w.cell? (jA k 1)=some (jI y.a.t)/\w.cell? (jA k 2)=some (jI y.a.l)/\w.cell? (jA k 3)=some (jI y.a.b)/\w.cell? (jA k 4)=some (jI y.a.r)/\w.cell? (jA k 5)=some (jI y.v.k)/\w.cell? (jA k 6)=some (jI y.v.n)/\w.cell? (jA k 7)=some (jS y.v.t):=by
 refine ⟨?_,?_,?_,?_,?_,?_,?_,?_⟩ <;> (rw[Lib.cell_of_heap h];rfl)
section
variable(C:Nat->Prop)(B:Nat)(h:MH)(w:World)(g o:Nat)(x:Ma.Ins)(tg:Int)(hB:At w B h)(ha:Apart C w B h)(hx:InsIn C w g o x)
include C B h w g o x tg hB ha hx
theorem jump_13(l:List Ma.Arg)(hs:Stk w h.st l)(hop:x.op=13):Calls prog 35 #[PT B,PI g o,jI tg] w fun e w'=>e=jr (jI x.a)/\Post B h w l w':=by
 obtain ⟨-,T,⟨hlt,c0,c1,c2,c3,c4,c5⟩,-,-⟩:=hx;rw[hop] at c0;go_enter func35,ntmps35;go_wp2_with fail;go_ret;exact ⟨rfl,Post.refl hB hs⟩
theorem jump7_no(l:List Ma.Arg)(y:Ma.Arg)(hl:l.length<=1000000)(hs:Stk w h.st (l++ [y]))(hop:x.op=7)(hy:Ma.isErr y=false):Calls prog 35 #[PT B,PI g o,jI tg] w fun e w'=>e=jr (jI tg)/\Post B h w (l++ [y]) w':=by
 obtain ⟨-,T,⟨hlt,c0,c1,c2,c3,c4,c5⟩,-,-⟩:=hx;rw[hop] at c0;have HE:=jH fun u=>zdn y u;rw[show (!y.isA&&y.v.k==4)=false from hy] at HE;obtain ⟨sg,scap,hst,hle⟩:=hs.shape B57;have hsg:sg<w.heap.size:=(hs.lt B84).1;have hs0:=hs;rw[hst] at hs;rw[List.length_append,List.length_singleton] at hst hle hs;obtain ⟨i0,i1,i2,i3,i4,i5,i6,i7⟩:=hs.item (i:=l.length) (x:=y) B33;have hp:=jH Bp65;obtain ⟨m0,m1,m2,m3,m4,m5,m6,m7,m8,m9,m10,m11,m12,mf⟩:=hB.cells;have hBl:=hB.lt;rw[hst] at m5;have hw:IntKind.i64.wrap (((l.length+1:Nat):Int)-1)=(l.length:Int):=B13;clear m0 m1 m2 m3 m4 m6 m7 m8 m9 m10 m11 m12 mf hst hle hs hs0 hB
 open X162 in exact C40
theorem zvo(l ms:List Ma.Arg)(y:Ma.Arg)(hl:(l++ms).length<=100000)(hs:Stk w h.st (l++ms++ [y]))(hop:x.op=7)(hb:x.b=(ms.length:Int))(hy:Ma.isErr y=true):Calls prog 35 #[PT B,PI g o,jI tg] w fun e w'=>e=jr (jI x.a)/\Post B h w (l++ [y]) w':=by
 have hx0:=hx;obtain ⟨-,T,⟨hlt,c0,c1,c2,c3,c4,c5⟩,-,-⟩:=hx;rw[hop] at c0;have HE:=jH fun u=>zdn y u;rw[show (!y.isA&&y.v.k==4)=true from hy] at HE;have HT:=jH fun (u:World) (hB:At u B h) (hs:Stk u h.st (l++(ms++ [y])))=>zm5 B h l (ms++ [y]) u hB hs (by simp at hl ⊢;omega);have HL:=jH fun (sv:Value) (u:World) (hB:At u B {h with st:=sv}) (hs:Stk u sv l)=>lay_p B {h with st:=sv} l y u hB hs B171;obtain ⟨sg,scap,hst,hle⟩:=hs.shape B57;have hsg:sg<w.heap.size:=(hs.lt B84).1;have hs0:=hs;rw[hst] at hs;rw[List.length_append,List.length_singleton] at hst hle hs;obtain ⟨i0,i1,i2,i3,i4,i5,i6,i7⟩:=hs.item (i:=(l++ms).length) (x:=y) B33;have hlen:Hid ((ms++ [y]).length=ms.length+1):=jH B7;obtain ⟨m0,m1,m2,m3,m4,m5,m6,m7,m8,m9,m10,m11,m12,mf⟩:=hB.cells;have hBl:=hB.lt;have HB:=jH hB;have HST:=jH hst;rw[hst] at m5;have hw:IntKind.i64.wrap ((((l++ms).length+1:Nat):Int)-1)=((l++ms).length:Int):=by simp[IntKind.wrap,IntKind.bits,IntKind.signed] at hl ⊢;omega
 have hw2:IntKind.i64.wrap ((ms.length:Int)+1)=(ms.length:Int)+1:=zfr _ B1 B171;rw[hb] at c2;rw[List.append_assoc] at hs0;have HS0:=jH hs0;clear m0 m1 m2 m3 m4 m6 m7 m8 m9 m10 m11 m12 mf hst hle hs hs0 hB;generalize (l++ms).length=k at *
 open X163 in exact C40
end
theorem ziq(y:Ma.Arg)(w:World):(Instr.field TA (argV y) 2).run prog w= .ok (vv3 y.v) w:=by
 obtain ⟨a,⟨b1,b2,b3,b4⟩,⟨c1,c2,c3⟩⟩:=y;kernel_rfl
theorem field_a(y:Ma.Arg)(w:World):(Instr.field TA (argV y) 1).run prog w= .ok (.agg #[jI y.a.t,jI y.a.l,jI y.a.b,jI y.a.r]) w:=by
 obtain ⟨a,⟨b1,b2,b3,b4⟩,⟨c1,c2,c3⟩⟩:=y;kernel_rfl
section
variable(C:Nat->Prop)(B:Nat)(h:MH)(w:World)(g o:Nat)(x:Ma.Ins)(tg:Int)(hB:At w B h)(ha:Apart C w B h)(hx:InsIn C w g o x)(l:List Ma.Arg)(y:Ma.Arg)(hl:l.length<=100000)(hs:Stk w h.st (l++ [y]))
include C B h w g o x tg hB ha hx l y hl hs
theorem zvn(hop:x.op=8)(b0:Bool)(e0:Int)(he:(e0 !=0)=true)(HC:Hid (∀u,Ret 67 #[vv3 y.v] u (.tuple #[.bool b0,jI e0]))):Calls prog 35 #[PT B,PI g o,jI tg] w fun e w'=>e=jr (jI x.b)/\Post B h w (l++ [Ma.MS.zaz e0]) w':=by
 open X53 in exact C9
theorem jump8_f(hop:x.op=8)(HC:Hid (∀u,Ret 67 #[vv3 y.v] u (.tuple #[.bool false,jI 0]))):Calls prog 35 #[PT B,PI g o,jI tg] w fun e w'=>e=jr (jI x.a)/\Post B h w l w':=by
 exact M55
theorem jump8_t(hop:x.op=8)(HC:Hid (∀u,Ret 67 #[vv3 y.v] u (.tuple #[.bool true,jI 0]))):Calls prog 35 #[PT B,PI g o,jI tg] w fun e w'=>e=jr (jI tg)/\Post B h w l w':=by
 exact M55
section
variable(hop:x.op=10)
include hop
theorem zrr(n e0:Int)(HC:Hid (∀u,Post B h w l u->Ret 68 #[vv3 y.v] u (.tuple #[jI n,jI e0])))(he:(e0 !=0)=true):Calls prog 35 #[PT B,PI g o,jI tg] w fun e w'=>e=jr (jI x.a)/\Post B h w (l++ [Ma.MS.zaz e0]) w':=by
 open X54 in exact C9
section
variable(n:Int)(HC:Hid (∀u,Post B h w l u->Ret 68 #[vv3 y.v] u (.tuple #[jI n,jI 0])))
include n HC
theorem zvs(hn:decide (n<1)=true):Calls prog 35 #[PT B,PI g o,jI tg] w fun e w'=>e=jr (jI x.a)/\Post B h w (l++ [Ma.MS.zaz 4]) w':=by
 open X55 in exact C9
theorem zvt(hn:decide (n<1)=false)(hn2:decide ((x.T.length:Int)<n)=true):Calls prog 35 #[PT B,PI g o,jI tg] w fun e w'=>e=jr (jI x.a)/\Post B h w (l++ [Ma.MS.zaz 4]) w':=by
 open X56 in exact C9
theorem zvr(hn:decide (n<1)=false)(hn2:decide ((x.T.length:Int)<n)=false)(t:Int)(k:Nat)(hk:n=(k:Int)+1)(ht:x.T[k]?=some t)(hTlen:x.T.length<=1000000):Calls prog 35 #[PT B,PI g o,jI tg] w fun e w'=>e=jr (jI t)/\Post B h w l w':=by
 open X57 in exact C9
end
end
section
variable(hop:x.op=9)
include hop
theorem jump9_a(t1:(y.v.k !=4)=true):Calls prog 35 #[PT B,PI g o,jI tg] w fun e w'=>e=jr (jI x.a)/\Post B h w (l++ [y]) w':=by
 exact M46
section
variable(t1:(y.v.k !=4)=false)
include t1
theorem jump9_b(t2:(x.b==6)=true)(t3:(y.v.n !=6)=true):Calls prog 35 #[PT B,PI g o,jI tg] w fun e w'=>e=jr (jI x.a)/\Post B h w (l++ [y]) w':=by
 exact M46
theorem jump9_c(t2:(x.b==6)=true)(t3:(y.v.n !=6)=false):Calls prog 35 #[PT B,PI g o,jI tg] w fun e w'=>e=jr (jI tg)/\Post B h w l w':=by
 exact M42
theorem jump9_d(t2:(x.b==6)=false):Calls prog 35 #[PT B,PI g o,jI tg] w fun e w'=>e=jr (jI tg)/\Post B h w l w':=by
 exact M42
end
end
end
section
variable(C:Nat->Prop)(B:Nat)(h:MH)(w:World)(g o:Nat)(x:Ma.Ins)(tg:Int)(hB:At w B h)(ha:Apart C w B h)(hx:InsIn C w g o x)(l:List Ma.Arg)(y z:Ma.Arg)(hl:l.length<=100000)(hs:Stk w h.st (l++ [y]++ [z]))(hop:x.op=11)(cm:Int)
include C B h w g o x tg hB ha hx l y z hl hs hop cm
theorem zvp(hcm:(cm !=0)=true)(HC:Hid (∀u,Ret 69 #[vv3 y.v,vv3 z.v] u (jI cm))):Calls prog 35 #[PT B,PI g o,jI tg] w fun e w'=>e=jr (jI x.a)/\Post B h w (l++ [y]) w':=by
 open V53 in exact D18
theorem zvq(hcm:(cm !=0)=false)(HC:Hid (∀u,Ret 69 #[vv3 y.v,vv3 z.v] u (jI cm))):Calls prog 35 #[PT B,PI g o,jI tg] w fun e w'=>e=jr (jI tg)/\Post B h w l w':=by
 open V54 in exact D18
end
theorem snoc{l:List Ma.Arg}(h:1<=l.length):∃a y,l=a++ [y]:=by
 refine ⟨l.take (l.length-1),l[l.length-1]' B1,?_⟩;have:=List.take_append_drop (l.length-1) l;rw[List.drop_eq_getElem_cons B1,show l.length-1+1=l.length by omega,List.drop_length] at this;exact this.symm
section
variable{m:Ma.MS}{a:List Ma.Arg}{y:Ma.Arg}(h:m.st=a++ [y])
include m a y h
theorem zdx:m.top=y:=by
 unfold Ma.MS.top;rw[h];simp
theorem zho:(m.cut 1).st=a:=by
 unfold Ma.MS.cut;simp[h]
end
theorem zxg{m:Ma.MS}{a b:List Ma.Arg}{n:Nat}(h:m.st=a++b)(hn:b.length=n):(m.cut n).st=a:=by
 unfold Ma.MS.cut;subst hn;simp[h]
structure JumpOK(m:Ma.MS)(x:Ma.Ins):Prop where
 len:m.st.length<=1024
 one:x.op=7\/x.op=8\/x.op=9\/x.op=10->1<=m.st.length
 two:x.op=11->2<=m.st.length
 err:x.op=7->0<=x.b/\x.b+1<=m.st.length
 a:0<=x.a
 b:x.op=8->0<=x.b
 T:∀t∈x.T,0<=t
 Tl:x.T.length<=1000000
 vb:x.op=10->VB m.top.v
theorem jump_any(w0:World)(C:Nat->Prop)(B:Nat)(h:MH)(w:World)(g o:Nat)(x:Ma.Ins)(tg:Nat)(m:Ma.MS)(hE:Env w0 w B h)(hB:At w B h)(ha:Apart C w B h)(hx:InsIn C w g o x)(hs:Stk w h.st m.st)(hJ:JumpOK m x)(hop:7<=x.op/\x.op<=11\/x.op=13):
 Calls prog 35 #[PT B,PI g o,jI (tg:Int)] w fun e w'=>e=jr (jI ((m.jump x tg).2:Int))/\Post B h w (m.jump x tg).1.st w':=by
 have hJl:=hJ.len;have hra:((x.a.toNat:Nat):Int)=x.a:=Int.toNat_of_nonneg hJ.a;have hh:x.op=7\/x.op=8\/x.op=9\/x.op=10\/x.op=11\/x.op=13:=B1;rcases hh with h7|h8|h9|h10|h11|h13
 .obtain ⟨a,y,e⟩:=snoc (hJ.one B1);have ht:=zdx e;unfold Ma.MS.jump;rw[if_pos h7,ht];cases hy:Ma.isErr y
  .rw[e] at hs hJl;show Calls _ _ _ w fun e w'=>e=jr (jI (tg:Int))/\Post B h w m.st w';rw[e];exact jump7_no C B h w g o x tg hB ha hx a y (by simp at hJl;omega) hs h7 hy
  .obtain ⟨hb0,hb1⟩:=hJ.err h7;obtain ⟨n,hn⟩:=Int.eq_ofNat_of_zero_le hb0;have hal:a.length+1=m.st.length:=by rw[e];simp
   have hcut:m.st=a.take (a.length-n)++(a.drop (a.length-n)++ [y]):=by rw[<-List.append_assoc,List.take_append_drop];exact e
   have hdl:(a.drop (a.length-n)).length=n:=B125;show Calls _ _ _ w fun e w'=>e=jr (jI ((x.a.toNat:Nat):Int))/\Post B h w ((m.cut (x.b+1).toNat).st++ [y]) w';rw[zxg hcut (n:=(x.b+1).toNat) (by rw[List.length_append,hdl];simp;omega),hra];rw[hcut,<-List.append_assoc] at hs;exact zvo C B h w g o x tg hB ha hx _ _ y (by rw[List.take_append_drop];omega) hs h7 (by rw[hdl];exact hn) hy
 .obtain ⟨a,y,e⟩:=snoc (hJ.one B1);have ht:=zdx e;have hc:=zho e;have hrb:((x.b.toNat:Nat):Int)=x.b:=Int.toNat_of_nonneg (hJ.b h8);have hal:a.length<=100000:=by have:a.length+1=m.st.length:=(by rw[e];simp);omega
  unfold Ma.MS.jump;rw[if_neg B1,if_pos h8,ht];rw[e] at hs;have HC:=jH fun u=>truth_any y.v u;show Calls _ _ _ w fun e w'=>e=jr (jI (((cond ((Val.truth y.v).2 !=0) ((m.cut 1).lay (Ma.MS.zaz (Val.truth y.v).2),x.b.toNat) (cond (Val.truth y.v).1 (m.cut 1,tg) (m.cut 1,x.a.toNat))).2:Nat):Int))/\Post B h w (cond ((Val.truth y.v).2 !=0) ((m.cut 1).lay (Ma.MS.zaz (Val.truth y.v).2),x.b.toNat) (cond (Val.truth y.v).1 (m.cut 1,tg) (m.cut 1,x.a.toNat))).1.st w';generalize Val.truth y.v=r at *;obtain ⟨is,e0⟩:=r;cases he:(e0 !=0)
  .have he0:e0=0:=by simpa using he
   subst he0;cases is
   .show Calls _ _ _ w fun e w'=>e=jr (jI ((x.a.toNat:Nat):Int))/\Post B h w (m.cut 1).st w';rw[hc,hra];exact jump8_f C B h w g o x tg hB ha hx a y hal hs h8 HC
   .show Calls _ _ _ w fun e w'=>e=jr (jI (tg:Int))/\Post B h w (m.cut 1).st w';rw[hc];exact jump8_t C B h w g o x tg hB ha hx a y hal hs h8 HC
  .show Calls _ _ _ w fun e w'=>e=jr (jI ((x.b.toNat:Nat):Int))/\Post B h w ((m.cut 1).st++ [Ma.MS.zaz e0]) w';rw[hc,hrb];exact zvn C B h w g o x tg hB ha hx a y hal hs h8 is e0 he HC
 .obtain ⟨a,y,e⟩:=snoc (hJ.one B1);have ht:=zdx e;have hc:=zho e;have hal:a.length<=100000:=by have:a.length+1=m.st.length:=(by rw[e];simp);omega
  unfold Ma.MS.jump;rw[if_neg B1,if_neg B1,if_pos h9,ht];have hs9:=hs;rw[e] at hs9;cases t1:(y.v.k !=4)
  .cases t2:(x.b==6)
   .show Calls _ _ _ w fun e w'=>e=jr (jI (tg:Int))/\Post B h w (m.cut 1).st w';rw[hc];exact jump9_d C B h w g o x tg hB ha hx a y hal hs9 h9 t1 t2
   .cases t3:(y.v.n !=6)
    .show Calls _ _ _ w fun e w'=>e=jr (jI (tg:Int))/\Post B h w (m.cut 1).st w';rw[hc];exact jump9_c C B h w g o x tg hB ha hx a y hal hs9 h9 t1 t2 t3
    .show Calls _ _ _ w fun e w'=>e=jr (jI ((x.a.toNat:Nat):Int))/\Post B h w m.st w';rw[e,hra];exact jump9_b C B h w g o x tg hB ha hx a y hal hs9 h9 t1 t2 t3
  .show Calls _ _ _ w fun e w'=>e=jr (jI ((x.a.toNat:Nat):Int))/\Post B h w m.st w';rw[e,hra];exact jump9_a C B h w g o x tg hB ha hx a y hal hs9 h9 t1
 .obtain ⟨a,y,e⟩:=snoc (hJ.one B1);have ht:=zdx e;have hc:=zho e;have hvb:=hJ.vb h10;rw[ht] at hvb;have hal:a.length<=100000:=by have:a.length+1=m.st.length:=(by rw[e];simp);omega
  unfold Ma.MS.jump;rw[if_neg B1,if_neg B1,if_neg B1,if_pos h10,ht];rw[e] at hs;have HC:Hid (∀u,Post B h w a u->Ret 68 #[vv3 y.v] u (.tuple #[jI (Val.number y.v).1,jI (Val.number y.v).2])):=
   jH fun u hp=>za8 y.v u hvb (zeo hE.num (hE.post hp))
  show Calls _ _ _ w fun e w'=>e=jr (jI (((cond ((Val.number y.v).2 !=0) ((m.cut 1).lay (Ma.MS.zaz (Val.number y.v).2),x.a.toNat) (cond (decide ((Val.number y.v).1<1)||decide ((x.T.length:Int)<(Val.number y.v).1)) ((m.cut 1).lay (Ma.MS.zaz 4),x.a.toNat) (m.cut 1,(x.T.getD ((Val.number y.v).1-1).toNat 0).toNat))).2:Nat):Int))/\Post B h w (cond ((Val.number y.v).2 !=0) ((m.cut 1).lay (Ma.MS.zaz (Val.number y.v).2),x.a.toNat) (cond (decide ((Val.number y.v).1<1)||decide ((x.T.length:Int)<(Val.number y.v).1)) ((m.cut 1).lay (Ma.MS.zaz 4),x.a.toNat) (m.cut 1,(x.T.getD ((Val.number y.v).1-1).toNat 0).toNat))).1.st w';generalize Val.number y.v=r at *;obtain ⟨n,e0⟩:=r;cases he:(e0 !=0)
  .have he0:e0=0:=by simpa using he
   subst he0;cases h1:decide (n<1)
   .cases h2:decide ((x.T.length:Int)<n)
    .have g1:=of_decide_eq_false h1;have g2:=of_decide_eq_false h2;obtain ⟨k,hk⟩:=Int.eq_ofNat_of_zero_le (show 0<=n-1 by omega);have hkl:k<x.T.length:=B1;have hkt:x.T[k]?=some x.T[k]:=List.getElem?_eq_getElem hkl;show Calls _ _ _ w fun e w'=>e=jr (jI (((x.T.getD (n-1).toNat 0).toNat:Nat):Int))/\Post B h w (m.cut 1).st w';rw[hc,hk,Int.toNat_natCast,List.getD_eq_getElem?_getD,hkt,Option.getD_some,Int.toNat_of_nonneg (hJ.T _ (List.getElem_mem hkl))];exact zvr C B h w g o x tg hB ha hx a y hal hs h10 n HC h1 h2 _ k B1 hkt hJ.Tl
    .show Calls _ _ _ w fun e w'=>e=jr (jI ((x.a.toNat:Nat):Int))/\Post B h w ((m.cut 1).st++ [Ma.MS.zaz 4]) w';rw[hc,hra];exact zvt C B h w g o x tg hB ha hx a y hal hs h10 n HC h1 h2
   .show Calls _ _ _ w fun e w'=>e=jr (jI ((x.a.toNat:Nat):Int))/\Post B h w ((m.cut 1).st++ [Ma.MS.zaz 4]) w';rw[hc,hra];exact zvs C B h w g o x tg hB ha hx a y hal hs h10 n HC h1
  .show Calls _ _ _ w fun e w'=>e=jr (jI ((x.a.toNat:Nat):Int))/\Post B h w ((m.cut 1).st++ [Ma.MS.zaz e0]) w';rw[hc,hra];exact zrr C B h w g o x tg hB ha hx a y hal hs h10 n e0 HC he
 .have h2:=hJ.two h11;obtain ⟨a',z,e⟩:=snoc (show 1<=m.st.length by omega);have hal':a'.length+1=m.st.length:=by rw[e];simp
  obtain ⟨a,y,e2⟩:=snoc (l:=a') B1;have ht:=zdx e;have hc:=zho e;have ht2:(m.cut 1).top=y:=zdx (hc.trans e2);have hc2:(m.cut 2).st=a:=zxg (m:=m) (a:=a) (b:=[y]++ [z]) (by rw[e,e2];simp) rfl;have hal:a.length<=100000:=by have:a.length+1=a'.length:=(by rw[e2];simp);omega
  unfold Ma.MS.jump;rw[if_neg B1,if_neg B1,if_neg B1,if_neg B1,if_pos h11,ht,ht2];rw[e,e2] at hs;have HC:=jH fun u=>zdf y.v z.v u;generalize Val.cmpG (Val.good y.v) (Val.good z.v)=cm at *;cases hcm:(cm !=0)
  .show Calls _ _ _ w fun e w'=>e=jr (jI (tg:Int))/\Post B h w (m.cut 2).st w';rw[hc2];exact zvq C B h w g o x tg hB ha hx a y z hal hs h11 cm hcm HC
  .show Calls _ _ _ w fun e w'=>e=jr (jI ((x.a.toNat:Nat):Int))/\Post B h w (m.cut 1).st w';rw[hc,e2,hra];exact zvp C B h w g o x tg hB ha hx a y z hal hs h11 cm hcm HC
 .unfold Ma.MS.jump;rw[if_neg B1,if_neg B1,if_neg B1,if_neg B1,if_neg B1];show Calls _ _ _ w fun e w'=>e=jr (jI ((x.a.toNat:Nat):Int))/\Post B h w m.st w';rw[hra];exact jump_13 C B h w g o x tg hB ha hx m.st hs h13
def valC(v:Val.V):List Value:=[jI v.k,jI v.n,jS v.t]
def zd9(l:List Val.V):List Value:=l.flatMap valC
theorem zlk(l m:List Val.V):zd9 (l++m)=zd9 l++zd9 m:=by unfold zd9;exact List.flatMap_append
theorem zlj:∀(l:List Val.V) (j:Nat) (x:Val.V),l[j]?=some x->(zd9 l)[j*3]?=some (jI x.k)/\(zd9 l)[j*3+1]?=some (jI x.n)/\(zd9 l)[j*3+2]?=some (jS x.t)
 |[],j,x,h=>by simp at h
 |y::l,0,x,h=>by
  simp only[List.getElem?_cons_zero,Option.some.injEq] at h;subst h;exact ⟨rfl,rfl,rfl⟩
 |y::l,j+1,x,h=>by
  have:=zlj l j x B38;have e:zd9 (y::l)=jI y.k::jI y.n::jS y.t::zd9 l:=rfl;rw[e,show (j+1)*3=j*3+1+1+1 by omega];exact this
abbrev TV:TypeId:=41
def M81(h:jp:=by
 subst hn;rcases hown.2 with ⟨rfl,h0⟩|⟨g,cap,cur,rfl,hb,hg,_⟩
 .rw[h0];refine ⟨_,_,rfl,fun k x hx=> ?_⟩;rw[List.eq_nil_of_length_eq_zero h0] at hx;simp at hx
 .refine ⟨_,_,rfl,fun k x hx=> ⟨g,rfl,(jg hg),?_⟩⟩;have hs:Stk w (jP g 0 l.length cap) l:=⟨hown.1,hown.2.imp_right fun ⟨g',cap',cur',e,_,r⟩=> ⟨g',cap',cur',e,Nat.zero_le _,r⟩⟩;exact hs.item hx):=h
def B31(h:jp:=by simp[results,results36,go_sem]):=h
def C42(h:jp:=by
 obtain ⟨-,T,⟨hlt,c0,c1,c2,c3,c4,c5⟩,-,-⟩:=hx;rw[hop] at c0;go_enter func36,ntmps36;go_wp2_with fail;exact K42):=h
def X167.K42(h:jp:=by
 refine jM HTk.out ?_;intro w1 hp;go_wp2_with fail;exact jY jT B31 ⟨rfl,hp⟩):=h
def M97(h:jp:=by
 obtain ⟨-,T,⟨hlt,c0,c1,c2,c3,c4,c5⟩,-,-⟩:=hx;rw[hop] at c0;have hw1:=zfr _ h0 h1;obtain ⟨m0,m1,m2,m3,m4,m5,m6,m7,m8,m9,m10,m11,m12,mf⟩:=hB.cells;have hBl:=hB.lt;go_enter func36,ntmps36;go_wp2_with fail;refine jM HL.out ?_;intro w1 hp;go_wp2_with fail;exact jY jT B31 ⟨rfl,hp⟩):=h
def B130(h:jp:=by rw[<-q4];exact hk):=h
def X166.K42(h:jp:=by
 refine HTk.out.mono ?_;rintro e w1 ⟨v,sv,rfl,hown,q1,q2,q3,q4⟩;have hp1:Post B h w l w1:=⟨sv,q1,q2,q3.mono fun i _ e=> .inl e,fun k hk=> .inl B130⟩;have hst:=znm (l:=[y,z]) rfl hown;have hge:=fun k e=>(hown.lt k e).1;obtain ⟨sg,scap,rfl,hle⟩:=hst.shape B7;have hsg:sg<w1.heap.size:=(hst.lt rfl).1;have hsgw:w.heap.size<=sg:=hge sg rfl;have hsB:sg≠B:=B1;have hsS:sv.ownBlock≠some sg:=fun e=>by have:=hstl.out sg (by rw[<-q4];exact e);omega
 obtain ⟨i0,i1,i2,i3,i4,i5,i6,i7⟩:=hst.item (i:=0) (x:=y) rfl;obtain ⟨j0,j1,j2,j3,j4,j5,j6,j7⟩:=hst.item (i:=1) (x:=z) rfl;simp only[Nat.zero_mul,Nat.zero_add,Nat.one_mul] at i0 i1 i2 i3 i4 i5 i6 i7 j0 j1 j2 j3 j4 j5 j6 j7;have hx1:=hp1.ins ha hx0;have ha1:=hp1.apart ha sv q1;have hx1':=hx1;obtain ⟨-,T1,⟨hgl,c0,c1,c2,c3,c4,c5⟩,-,-⟩:=hx1;have hgB:g≠B:=fun e=>ha.b (by rw[<-e];exact hx0.1);have hgS:sv.ownBlock≠some g:=fun e=>ha1.s g e hx0.1;clear hown hst hle i0 i1 i2 i3 i4 j0 j1 j2 j3 j4 c0 c2 c3 c4 c5 hge;have q1d:=q1.below (Below.refl w1.heap.size w1).drew;go_wp2_with fail;go_region_held3 (fun w'=>w'.cell? (jA g (o+1))=some (jI x.a)/\w'.cell? (jA sg 5)=some (jI y.v.k)/\w'.cell? (jA sg 6)=some (jI y.v.n)/\w'.cell? (jA sg 7)=some (jS y.v.t)/\w'.cell? (jA sg (8+5))=some (jI z.v.k)/\w'.cell? (jA sg (8+6))=some (jI z.v.n)/\w'.cell? (jA sg (8+7))=some (jS z.v.t))
  (first|go_keep|exact ⟨s1,s2,s3,s4,s5,s6,s7⟩)
  (first
   |(go_at_call 71;refine (HU.out _ (zeo hE.num (hE.post (hp1.below (Below.refl w1.heap.size w1).drew)))).mono ?_;rintro e w3 ⟨rfl,hb2⟩;have s1:=jQ hb2 c1 hgl;have s2:=jQ hb2 i5 hsg;have s3:=jQ hb2 i6 hsg;have s4:=jQ hb2 i7 hsg;have s5:=jQ hb2 j5 hsg;have s6:=jQ hb2 j6 hsg;have s7:=jQ hb2 j7 hsg)
   |(go_at_call 23;have hbd:=(Below.refl w1.heap.size w1).drew.trans hb2;refine (HV.out sv _ (q1.below hbd) (q2.kept fun g' e=>hbd.block g' (q2.lt e).1)).mono ?_;rintro e w4 ⟨rfl,hp3⟩;have hsz:=hbd.size;have hk1:=hp3.other g B1 hgB hgS;have hk2:=hp3.other sg B1 hsB hsS;have s1:=(zag hk1).trans s1;have s2:=(zag hk2).trans s2;have s3:=(zag hk2).trans s3;have s4:=(zag hk2).trans s4;have s5:=(zag hk2).trans s5;have s6:=(zag hk2).trans s6;have s7:=(zag hk2).trans s7))
 all_goals
  go_wp2_with fail;exact jY jT B31 ⟨rfl,Post.then (hp1.below hbd).choose_spec.2.2.1 (fun k hk=> .inl B130) hp3⟩):=h
def C23(h:jp:=by
 obtain ⟨-,T,⟨hlt,c0,c1,c2,c3,c4,c5⟩,-,-⟩:=hx;rw[hop] at c0;obtain ⟨sg,scap,hst,hle⟩:=hs.shape B57;have hsg:sg<w.heap.size:=(hs.lt B84).1;have hs0:=hs;rw[hst] at hs;rw[List.length_append,List.length_singleton] at hst hle hs;obtain ⟨i0,i1,i2,i3,i4,i5,i6,i7⟩:=hs.item (i:=l.length) (x:=y) B33;have HB:=jH hB;have HS0:=jH hs0;obtain ⟨m0,m1,m2,m3,m4,m5,m6,m7,m8,m9,m10,m11,m12,mf⟩:=hB.cells;have hBl:=hB.lt;rw[hst] at m5;have hw:IntKind.i64.wrap (((l.length+1:Nat):Int)-1)=(l.length:Int):=B13;have hw':IntKind.i64.wrap (l.length:Int)=(l.length:Int):=B13;have hw1':(0:Int)<=(l.length:Int):=B1;have hw2':(l.length:Int)<(l.length:Int)+1:=B1;clear m0 m1 m2 m3 m4 m6 m7 m8 m9 m10 m11 m12 mf hst hle hs hs0 hB;go_enter func36,ntmps36;go_wp2_with fail;go_still_tail 12,(by kernel_rfl);change wpList _ _ _ _ _ w.drew;go_wp2_with fail;refine jM (HE.out _) ?_;intro w1 hb1;exact K23):=h
def X110.K23(h:jp:=by
 have hbd:Below w.heap.size w w1:=(jB.drew).trans hb1;go_wp2_with fail;exact jY jT B31 ⟨rfl,(Post.refl HB.out HS0.out).below hbd⟩):=h
def X111.K23(h:jp:=by
 have hbd:Below w.heap.size w w1:=(jB.drew).trans hb1;have hx1:=hx0.below ha.lt hbd;have hx1':=hx1;have ha1:=ha.below hbd;obtain ⟨-,T1,⟨hgl,c0,c1,c2,c3,c4,c5⟩,-,-⟩:=hx1;have hBd:=HB.out.below (hbd.trans jB.drew);have hsd:=HS0.out.kept (w':=w1.drew) fun g' e=>hbd.block g' (HS0.out.lt e).1;clear c0 c2 c3 c4 c5 i0 i1 i2 i3 i4 i5 i6 i7 m5;go_wp2_with fail;go_region_held3 (fun w'=>w'.cell? (jA g (o+1))=some (jI x.a)/\g<w'.heap.size)
  (first|go_keep|exact ⟨s1,s2⟩)
  (first
   |(go_at_call 29;refine (HTk.out _ hBd hsd).mono ?_;rintro e w2 ⟨rfl,hp1⟩;have hx2:=(hp1.pre (Below.refl w1.heap.size w1).drew).ins ha1 hx1';have s1:=hx2.2.choose_spec.1.c1;have s2:=hx2.2.choose_spec.1.lt)
   |(go_at_call 75;refine (HU.out _).mono ?_;rintro e w3 ⟨rfl,hb2⟩;have s1:=jQ hb2 s1 s2;have s2:=jL s2 hb2.size)
   |(go_at_call 74;have hp12:=(hp1.pre (Below.refl w1.heap.size w1).drew).below hb2;have hx2:=hp12.ins ha1 hx1';have ha2:=hp12.apart ha1;obtain ⟨sv,q1,q2,q3,q4⟩:=hp12;refine (HV.out sv _ q1 q2).mono ?_;rintro e w4 ⟨rfl,hp3⟩;have hx3:=hp3.ins (ha2 sv q1) hx2;have s1:=hx3.2.choose_spec.1.c1;have s2:=hx3.2.choose_spec.1.lt))
 all_goals
  go_wp2_with fail;exact jY jT B31 ⟨rfl,(Post.then q3 q4 hp3).pre hbd⟩):=h
theorem zun{w:World}{lo n:Nat}{v:Value}{l:List Val.V}(h:w.ownsRow lo TV 3 v n (zd9 l))(hn:n=l.length):∃a cap,v= .slice a n cap/\HCellP w a n (fun k=>l.getD k Cal.zero):=by
 subst hn;rcases h.2 with ⟨rfl,h0⟩|⟨g,cap,cur,rfl,hb,hg,hle,_,hs,ht⟩
 .exact ⟨none,0,by rw[h0],fun k hk=>by omega⟩
 .refine ⟨some (jA g 0),cap,rfl,fun k hk=> ⟨g,0,rfl,(jg hg),?_⟩⟩;have hx:l[k]?=some l[k]:=List.getElem?_eq_getElem hk;have e:l.getD k Cal.zero=l[k]:=by rw[List.getD_eq_getElem?_getD,hx];rfl
  obtain ⟨q0,q1,q2⟩:=zlj l k _ hx;have hc:∀(j:Nat) (u:Value),(zd9 l)[j]?=some u->w.cell? (jA g j)=some u:=fun j u hu=>by
   have h1:=World.ownsRow.cells h (g:=g) rfl j u hu;have hadd:((jA g 0):Addr).add j=(jA g j):=B16;rw[hadd] at h1;exact h1
  simp only[e,Nat.zero_add];exact ⟨hc _ _ q0,hc _ _ q1,hc _ _ q2⟩
theorem infoVl:(prog.info? TV).map (fun i=>(i.zero,i.size,i.bytes))=some (some (.agg #[jI 0,jI 0,jS ⟨#[]⟩]),3,32):=by kernel_rfl
theorem zqm(lo n:Nat)(v:Value)(l:List Ma.Arg)(w:World)(hn:n=l.length)(hl:n<=1000000)(hown:w.ownsRow lo TA 8 v n (argsC l)):Calls prog 73 #[v] w fun e w'=>∃v',e=jr v'/\w'.ownsRow w.heap.size TV 3 v' n (zd9 (l.map (·.v)))/\Below w.heap.size w w':=by
 obtain ⟨i0,hi,hz0,hz1,hz2⟩:=info_parts infoVl;obtain ⟨ga,gc,rfl,hitem⟩:∃a c,v= .slice a n c/\∀(k:Nat) (x:Ma.Arg),l[k]?=some x->∃g,a=some ⟨g,0,none⟩/\g<w.heap.size/\ItemAt w g (k*8) x:=by
  exact M81
 have HI:=jH hitem;have HN:=jH hn;clear hitem hown hn;go_enter func73,ntmps73;go_wp2;go_loopw [3,5,8] (fun vs _ i wr=>∃k:Nat,k<=n/\i=jI (k:Int)/\wr.ownsRow w.heap.size TV 3 vs k (zd9 ((l.map (·.v)).take k))/\Below w.heap.size w wr) (fun _ _ i _=>n-(intOf i).toNat)
 case atStart=>exact ⟨0,Nat.zero_le _,rfl,World.ownsRow_nil _ _ _ _,jB⟩
 case round=>
  obtain ⟨k,hk,rfl,hown,hb⟩:=hrel
  by_cases hlt:k<n
  .obtain ⟨x,hx⟩:∃x,l[k]?=some x:=⟨_,List.getElem?_eq_getElem (by rw[<-HN.out];exact hlt)⟩;obtain ⟨g,e1,hg,⟨q0,q1,q2,q3,q4,q5,q6,q7⟩⟩:=HI.out k x hx;cases e1;have hgr:g<wr.heap.size:=jL hg hb.size;replace q0:=jQ hb q0 hg;replace q1:=jQ hb q1 hg;replace q2:=jQ hb q2 hg;replace q3:=jQ hb q3 hg;replace q4:=jQ hb q4 hg;replace q5:=jQ hb q5 hg;replace q6:=jQ hb q6 hg;replace q7:=jQ hb q7 hg;have hsn:=jH (show zd9 ((l.map (·.v)).take (k+1))=zd9 ((l.map (·.v)).take k)++valC x.v by rw[List.take_add_one,List.getElem?_map,hx,zlk];rfl);have hkk:k*8+8<=n*8:=B1;clear hx;obtain ⟨xa,⟨x1,x2,x3,x4⟩,⟨xk,xn,xt⟩⟩:=x;have O1:Below wr.heap.size wr ((wr.alloc (.cells #[.bool xa,jI x1,jI x2,jI x3,jI x4,jI xk,jI xn,jS xt] TA)).alloc (.cells #[jI xk,jI xn,jS xt] TV)):=(below1 _ _).alloc B7 _;have hnb:=heap_alloc_new (wr.alloc (.cells #[.bool xa,jI x1,jI x2,jI x3,jI x4,jI xk,jI xn,jS xt] TA)) (.cells #[jI xk,jI xn,jS xt] TV);rw[show (wr.alloc (.cells #[.bool xa,jI x1,jI x2,jI x3,jI x4,jI xk,jI xn,jS xt] TA)).heap.size=wr.heap.size+1 by simp] at hnb;have hown2:=zci hown O1;have hb2:=jN hb O1;have hnews:∀(j:Nat) (u:Value),(valC ⟨xk,xn,xt⟩)[j]?=some u->((wr.alloc (.cells #[.bool xa,jI x1,jI x2,jI x3,jI x4,jI xk,jI xn,jS xt] TA)).alloc (.cells #[jI xk,jI xn,jS xt] TV)).cell? (((jA (wr.heap.size+1) 0):Addr).add j)=some u:=by
    intro j u hj;have hadd:((jA (wr.heap.size+1) 0):Addr).add j=(jA (wr.heap.size+1) j):=B16;rw[hadd,Lib.cell_of_heap hnb,<-hj];simp[valC]
   have Q1:=jH hnews;have Q2:=jH (show k+1<=maxLen by unfold maxLen;omega);have Q3:=jH (show (k+1)*32<=140737488355328 by omega);clear hnews O1 hnb hown hb;obtain ⟨va,vc,rfl⟩:∃a c,u3= .slice a k c:=by
    exact N21
   go_wp2_with (first|(at_builtin;refine wpList_append_own _ rfl _ _ 23 rfl w.heap.size TV i0 _ 3 32 underlying23 hi hz0 hz1 hz2 rfl B3 _ _ _ rfl hown2 (jA (wr.heap.size+1) 0) 1 1 (valC ⟨xk,xn,xt⟩) rfl rfl Q1.out (by intro u hu;simp[valC] at hu;rcases hu with rfl|rfl|rfl <;> rfl) Q2.out Q3.out hb2.size ?_)|fail);intro v3 w3 hown3 hgrow _;have hb5:=hb2.grown hgrow hb2.size (fun j hj=>(hown2.lt j hj).1);have hown4:w3.ownsRow w.heap.size TV 3 v3 (k+1) (zd9 ((l.map (·.v)).take (k+1))):=by rw[hsn.out];exact hown3
   clear hown3 hgrow hown2;go_wp2_with fail;go_roundw
   case rel=>exact ⟨k+1,by omega,by go_num,hown4,hb5⟩
   case measure=>simp[intOf];omega
  .obtain rfl:k=n:=by omega
   rw[List.take_of_length_le (by rw[List.length_map,<-HN.out];exact jE)] at hown;obtain ⟨va,vc,rfl⟩:∃a c,u3= .slice a k c:=by
    exact M16
   go_wp2_with fail;go_ret;exact ⟨_,rfl,hown,hb⟩
section
variable(w0:World)(C:Nat->Prop)(B:Nat)(h:MH)(w:World)(g o:Nat)(x:Ma.Ins)(hE:Env w0 w B h)(hB:At w B h)(ha:Apart C w B h)(hx:InsIn C w g o x)(l:List Ma.Arg)
include w0 C B h w g o x hE hB ha hx l
theorem zrd(hl:l.length<=100000)(hs:Stk w h.st l)(hop:x.op=3):Calls prog 36 #[PT B,PI g o] w fun e w'=>e=jr jT/\Post B h w (l++ [Ma.aArg ⟨x.a,x.b,x.c,x.d⟩]) w':=by
 have HL:=jH fun (u:World) (hB:At u B h) (hs:Stk u h.st l)=>lay_p B h l (Ma.aArg ⟨x.a,x.b,x.c,x.d⟩) u hB hs B1;obtain ⟨-,T,⟨hlt,c0,c1,c2,c3,c4,c5⟩,-,-⟩:=hx;rw[hop] at c0;have hBl:=hB.lt;go_enter func36,ntmps36;go_wp2_with fail;go_still_tail 19,(by kernel_rfl);change wpList _ _ _ _ _ w.drew;go_wp2_with fail;refine jM (HL.out _ (hB.below jB.drew) hs.drew) ?_;intro w1 hp;go_wp2_with fail;exact jY jT B31 ⟨rfl,hp.pre jB.drew⟩
theorem zrb(y:Ma.Arg)(hl:l.length<=100000)(hs:Stk w h.st (l++ [y]))(hop:x.op=12):Calls prog 36 #[PT B,PI g o] w fun e w'=>e=jr jT/\Post B h w l w':=by
 have HTk:=jH Bp26
 open X167 in exact C42
section
variable(hl:l.length<=100000)(hs:Stk w h.st l)(hop:x.op=14)
include hl hs hop
theorem zi7(ht:(x.a==47)=true)(h0:0<=h.ar)(h1:h.ar<=1000000):Calls prog 36 #[PT B,PI g o] w fun e w'=>e=jr jT/\Post B h w (l++ [Ma.vArg (Cal.num (h.ar+1))]) w':=by
 have HL:=jH (zkv B h l (h.ar+1) w hB hs B1);exact M97
theorem zi8(ht:(x.a==47)=false)(h0:0<=h.ac)(h1:h.ac<=1000000):Calls prog 36 #[PT B,PI g o] w fun e w'=>e=jr jT/\Post B h w (l++ [Ma.vArg (Cal.num (h.ac+1))]) w':=by
 have HL:=jH (zkv B h l (h.ac+1) w hB hs B1);exact M97
end
theorem plain_un(y:Ma.Arg)(hl:l.length<=100000)(hs:Stk w h.st (l++ [y]))(hop:x.op=4)(hv:VB y.v):Calls prog 36 #[PT B,PI g o] w fun e w'=>e=jr jT/\Post B h w (l++ [Ma.vArg (Cal.un x.a y.v)]) w':=by
 have hx0:=hx;have HTk:=jH fun (u:World) (hB:At u B h) (hs:Stk u h.st (l++ [y]))=>zgi B h l y u hB hs B1;have HV:=jH fun (sv:Value) (u:World) (hB:At u B {h with st:=sv}) (hs:Stk u sv l)=>zeh B {h with st:=sv} l (Cal.un x.a y.v) u hB hs B1;have HU:=jH fun (u:World) (hN:NumW u)=>un_any x.a y.v u hv hN;have hfd:=ziq y;obtain ⟨-,T,⟨hlt,c0,c1,c2,c3,c4,c5⟩,-,-⟩:=hx;rw[hop] at c0;have hBd:=hB.below (Below.refl w.heap.size w).drew;have hsd:=hs.drew;have hgl:=hlt;clear c2 c3 c4 c5;go_enter func36,ntmps36;go_wp2_with fail;go_region_held3 (fun w'=>w'.cell? (jA g (o+1))=some (jI x.a)/\g<w'.heap.size)
  (first|go_keep|exact ⟨s1,s2⟩)
  (first
   |(go_at_call 29;refine (HTk.out _ hBd hsd).mono ?_;rintro e w1 ⟨rfl,hp1⟩;have hx1:=(hp1.pre (Below.refl w.heap.size w).drew).ins ha hx0;have s1:=hx1.2.choose_spec.1.c1;have s2:=hx1.2.choose_spec.1.lt)
   |(go_at_call 70;refine (HU.out _ (zeo hE.num (hE.post (hp1.pre (Below.refl w.heap.size w).drew)))).mono ?_;rintro e w2 ⟨rfl,hb2⟩;have s1:=jQ hb2 s1 s2;have s2:=jL s2 hb2.size)
   |(go_at_call 23;have hp12:=(hp1.pre (Below.refl w.heap.size w).drew).below hb2;have hx2:=hp12.ins ha hx0;have ha2:=hp12.apart ha;obtain ⟨sv,q1,q2,q3,q4⟩:=hp12;refine (HV.out sv _ q1 q2).mono ?_;rintro e w3 ⟨rfl,hp3⟩;have hx3:=hp3.ins (ha2 sv q1) hx2;have s1:=hx3.2.choose_spec.1.c1;have s2:=hx3.2.choose_spec.1.lt))
 all_goals
  go_wp2_with fail;exact jY jT B31 ⟨rfl,Post.then q3 q4 hp3⟩
end
theorem znm{w:World}{lo n:Nat}{v:Value}{l:List Ma.Arg}(hn:n=l.length)(h:w.ownsRow lo TA 8 v n (argsC l)):Stk w v l:=by
 subst hn;exact ⟨h.1,h.2.imp_right fun ⟨g',cap',cur',e,_,r⟩=> ⟨g',cap',cur',e,Nat.zero_le _,r⟩⟩
section
variable(w0:World)(C:Nat->Prop)(B:Nat)(h:MH)(w:World)(g o:Nat)(x:Ma.Ins)(hE:Env w0 w B h)(hB:At w B h)(ha:Apart C w B h)(hx:InsIn C w g o x)(l:List Ma.Arg)
include w0 C B h w g o x hE hB ha hx l
theorem zui(y z:Ma.Arg)(hl:l.length<=100000)(hs:Stk w h.st (l++ [y,z]))(hop:x.op=5)(hy:VB y.v)(hz:VB z.v):Calls prog 36 #[PT B,PI g o] w fun e w'=>e=jr jT/\Post B h w (l++ [Ma.vArg (Cal.bin x.a y.v z.v)]) w':=by
 have hx0:=hx;have HTk:Hid (Calls prog 32 #[PT B,jI 2] w fun e w'=>∃v sv,e=jr v/\w'.ownsRow w.heap.size TA 8 v 2 (argsC [y,z])/\At w' B {h with st:=sv}/\Stk w' sv l/\Foot (fun k=>k=B) w w'/\sv.ownBlock=h.st.ownBlock):=jH (zhz B h l [y,z] w hB hs B14);have HV:=jH fun (sv:Value) (u:World) (hB:At u B {h with st:=sv}) (hs:Stk u sv l)=>zeh B {h with st:=sv} l (Cal.bin x.a y.v z.v) u hB hs B1;have HU:=jH fun (u:World) (hN:NumW u)=>bin_any x.a y.v z.v u hy hz hN;have hBl:=hB.lt;have hstl:=jH fun k (e:h.st.ownBlock=some k)=>(hs.lt e).1
 open X166 in exact C42
section
variable(y:Ma.Arg)(hl:l.length<=100000)(hs:Stk w h.st (l++ [y]))(hop:x.op=15)
include y hl hs hop
theorem zi5(hy:Ma.isErr y=true):Calls prog 36 #[PT B,PI g o] w fun e w'=>e=jr jT/\Post B h w (l++ [y]) w':=by
 have HE:=jH fun u=>zdn y u;rw[show (!y.isA&&y.v.k==4)=true from hy] at HE
 open X110 in exact C23
theorem zh7(hy:Ma.isErr y=false)(hm:zc6 y.a.t y.a.l y.a.b y.a.r=true):Calls prog 36 #[PT B,PI g o] w fun e w'=>e=jr jT/\Post B h w (l++ [Ma.vArg (Cal.num (Ma.MS.placeN x.a y.a))]) w':=by
 have hx0:=hx;have HE:=jH fun u=>zdn y u;rw[show (!y.isA&&y.v.k==4)=false from hy] at HE;have HTk:=jH fun (u:World) (hB:At u B h) (hs:Stk u h.st (l++ [y]))=>zgi B h l y u hB hs B1;have HV:=jH fun (sv:Value) (u:World) (hB:At u B {h with st:=sv}) (hs:Stk u sv l)=>zkv B {h with st:=sv} l (Ma.MS.placeN x.a y.a) u hB hs B1;have HU:Hid (∀u,Ret 75 #[jI x.a,AR y.a.t y.a.l y.a.b y.a.r] u (jI (Ma.MS.placeN x.a y.a))):=jH fun u=>place_any x.a y.a.t y.a.l y.a.b y.a.r u hm;have hfd:=field_a y
 open X111 in exact C23
end
end
end Mb
namespace Ma
namespace MS
variable {p:Code} {T:Nat->St} {sort:List Int->List Int} {read:List UInt8->Ar×Int}
def stop(m:MS):Bool:=m.over||m.wants
def B176(h:jp:=by change m.walk=some w at e;rw[hG.walk] at e;cases e):=h
def _root_.B199(h:jp:=by rw[<-hk];exact hc.1.1):=h
def Bp100(h:jp:=by exact ⟨hk.over,hk.wants,hk.great,hk.walk,hk.n⟩):=h
def _root_.M160(h:jp:=by
 rcases h.goes ho hw with hG|⟨hP,w,hwk,_⟩
 .exact hG
 .obtain ⟨_,x',hx',h20'⟩:=hP.walk w hwk;rw[hx] at hx';cases hx';exact absurd h20' h20):=h
def _root_.M166(h:jp:=by
 cases hg:m.great
 .rfl
 .rw[h.great hg] at ho;cases ho):=h
theorem zli{i:Nat}{e:Int×St}(hw:Way p T i e){m q:MS}(h:Go p T m)(hk:Keeps m q)(hip:q.ip=e.1.toNat)(hst:stk q.st e.2):Go p T q/\i+1<=q.ip:=by
 have h1:=hw.lo;have h2:=hw.hi;exact ⟨⟨hk.over.trans h.over,hk.wants.trans h.wants,hk.great.trans h.great,hk.walk.trans h.walk,by omega,by rw[hip];exact zji hst hw.le,by rw[hk.n];exact h.n⟩,B1⟩
theorem zm7{a:Arg}{x:Int}(h:item a x):stk [a] [x]:=⟨h,trivial⟩
theorem zla{m:MS}(hp:Pend p T m)(hn:m.n<=65536)(hh:m.st.length<=1024)(ho:m.over=false)(hg:m.great=false)(hw:m.wants=false){s:Sp}(hs:mayS s=true)(hwk:∀w,m.walk=some w->w.over=false/\w.wants=true/\w.next=s):Inv p T (m.asks s)/\(m.asks s).stop=true:=by
 unfold MS.asks;cases hc:m.n==65536
 .have hne:m.n≠65536:=by simpa using hc
  refine ⟨⟨Nat.le_of_lt hp.ip,hn,hh,fun e=> ?_,fun e=> ?_,fun _ _=> ⟨⟨hp.ip,hp.st,hp.walk⟩,hs,by show m.n<65536;omega,hwk⟩,fun _ e=>(nomatch e)⟩,?_⟩
  .change m.over=true at e;rw[ho] at e;cases e
  .change m.great=true at e;rw[hg] at e;cases e
  .show (m.over||true)=true;simp
 .exact ⟨⟨Nat.le_of_lt hp.ip,hn,hh,fun _=> ⟨hw,nofun⟩,fun _=>rfl,nofun,nofun⟩,rfl⟩
theorem zvf(hT:Typed p T){m:MS}{i:Nat}(h:stk m.st (T i)):m.st.length<=1024:=by rw[zb0 h];exact hT.len _
theorem zsy(hT:Typed p T){m:MS}(hp:Pend p T m){w:FZ}(hw:m.walk=some w)(hs:w.stop=true)(hn:m.n<=65536)(hh:m.st.length<=1024)(ho:m.over=false)(hg:m.great=false)(hwa:m.wants=false):
 Inv p T (cond w.wants (m.asks w.next) {({m with walk:=none}.lay (vArg w.fin)) with ip:=m.ip+1})/\
 ((cond w.wants (m.asks w.next) {({m with walk:=none}.lay (vArg w.fin)) with ip:=m.ip+1}).stop=false->m.ip+1<=(cond w.wants (m.asks w.next) {({m with walk:=none}.lay (vArg w.fin)) with ip:=m.ip+1}).ip):=by
 obtain ⟨hI,_⟩:=hp.walk w hw;cases hww:w.wants
 .have hov:w.over=true:=by unfold FZ.stop at hs;rw[hww,Bool.or_false] at hs;exact hs
  obtain ⟨s,hs1,hs2⟩:=hp.st;have hG:Go p T {({m with walk:=none}.lay (vArg w.fin)) with ip:=m.ip+1}:=
   ⟨ho,hwa,hg,rfl,hp.ip,zji (zbr hs1 (zm7 (zfg (hI.fin hov).2))) hs2,hn⟩
  exact ⟨zee hT hG,fun _=>jE⟩
 .have hov:w.over=false:=by
   cases hov:w.over
   .rfl
   .have:=(hI.fin hov).1;rw[hww] at this;cases this
  have hA:=zla hp hn hh ho hg hwa (hI.want hov hww).1 (s:=w.next) fun w' hw'=>by
   rw[hw] at hw';cases hw';exact ⟨hov,hww,rfl⟩
  exact ⟨hA.1,fun e=>by
   change (m.asks w.next).stop=false at e;rw[hA.2] at e;cases e⟩
theorem on1_ok(hC:Ctx sort read)(hT:Typed p T)(hcon:∀v∈p.con,okV v){at_:Sp}(hat:mayS at_=true){m:MS}(h:Inv p T m)(hs:m.stop=false):
 Inv p T (on1 sort read p at_ m)/\((on1 sort read p at_ m).stop=false->m.ip+1<=(on1 sort read p at_ m).ip):=by
 have hs':=hs;unfold MS.stop at hs';rw[Bool.or_eq_false_iff] at hs';obtain ⟨ho,hw⟩:=hs';have hgr:m.great=false:=by
  exact M166
 unfold MS.on1;rw[show (m.over||m.wants)=false by rw[ho,hw];rfl];simp only[cond_false];cases hx:p.ins[m.ip]? with
 |none=>
  have hip:=h.ip;have hge:p.ins.length<=m.ip:=List.getElem?_eq_none_iff.1 hx;refine ⟨⟨hip,h.n,h.h,fun _=> ⟨hw,fun _=> ⟨by show m.ip=_;omega,?_⟩⟩,fun _=>rfl,nofun,nofun⟩,nofun⟩;rcases h.goes ho hw with hG|⟨hP,_⟩
  .exact hG.st
  .have:=hP.ip;omega
 |some x=>
  simp only;obtain ⟨l,hl,hto⟩:=hT.step m.ip x hx;have hform:=hT.good m.ip x hx;obtain ⟨o1,o2,hgood⟩:=zes hform;have hway:∀e∈l,Way p T m.ip e:=fun e he=> ⟨(hto e he).1,(hto e he).2.1,(hto e he).2.2⟩;have hlt:m.ip<p.ins.length:=(jl hx);have hnx:((m.ip:Int)+1).toNat=m.ip+1:=B1
  by_cases h20:x.op=20
  .rw[if_neg B1,if_neg B1,if_neg B1,if_pos h20];rcases h.goes ho hw with hG|⟨hP,w,hwk,hst⟩
   .rw[hG.walk];simp only;rw[zg3 h20] at hl;obtain ⟨he,rfl⟩:=za1 hl;have hb:=of_decide_eq_false he;have hlen:=zb0 hG.st;have hfun:funcOf x [6]=true:=by simpa[goodI,h20] using hgood
    have hW:=hway _ (.head _);have hle:=hW.le;rw[hnx] at hle;obtain ⟨hb0,hbeg⟩:0<=x.b/\FZ.zfm x.a (m.last x.b.toNat)=FZ.badArg (m.last x.b.toNat):=by
     unfold funcOf at hfun;cases hc:((infoV x.a).2 !=0||decide (x.b<(infoV x.a).1.2.2.1)||(decide (0<=(infoV x.a).1.2.2.2)&&decide ((infoV x.a).1.2.2.2<x.b)))
     .rw[hc] at hfun;simp only[Bool.or_eq_false_iff,bne_eq_false_iff_eq,decide_eq_false_iff_not,Bool.and_eq_false_iff] at hc;have h6:(infoV x.a).1.2.1=6:=by simpa using hfun
      obtain ⟨k,hk⟩:=zfh hc.1.1;have h1:1<=(infoV x.a).1.2.2.1:=by
       have:=(FZ.zxp k B199 (by rw[<-hk];exact h6)).2.1;rw[<-hk] at this;exact this
      refine ⟨by omega,?_⟩;have hll:((m.last x.b.toNat).length:Int)=x.b:=by
       unfold MS.last;rw[List.length_drop];omega
      unfold FZ.zfm;rw[if_neg B1,hll,if_neg B1]
     .rw[hc] at hfun;cases hfun
    have hokl:∀a∈m.last x.b.toNat,okG a:=fun a ha=>zeb hG.st a (List.mem_of_mem_drop ha);have hcal:FZ.Called x.a (m.last x.b.toNat):=FZ.called (by rw[hbeg];exact FZ.zit hokl);have hS:=FZ.zlp hC.sort hcal hokl (by
     unfold MS.last;rw[List.length_drop];have:=zvf hT hG.st;omega)
    have hP:Pend p T {m.cut x.b.toNat with walk:=some (FZ.start sort x.a (m.last x.b.toNat))}:=by
     refine ⟨hlt,⟨(T m.ip).take ((T m.ip).length-x.b.toNat),?_,hle⟩,fun w e=> ?_⟩
     .show stk (m.st.take (m.st.length-x.b.toNat)) _;rw[hlen];exact zdy _ hG.st
     .cases e;exact ⟨hS.1,x,hx,h20⟩
    have hh:(m.st.take (m.st.length-x.b.toNat)).length<=1024:=by
     rw[List.length_take];have:=zvf hT hG.st;omega
    exact zsy hT hP (w:=FZ.start sort x.a (m.last x.b.toNat)) rfl hS.2 hG.n hh ho hgr hw
   .rw[hwk];simp only;rw[hwk];exact zsy hT hP hwk hst h.n h.h ho hgr hw
  have hG:Go p T m:=by
   exact M160
  have hhl:=zvf hT hG.st
  by_cases h1:x.op=1
  .rw[if_pos h1];rw[znb h1] at hl;obtain rfl:=Option.some.inj hl;have hcv:okV (p.con.getD x.a.toNat Cal.zero):=by
    rw[List.getD_eq_getElem?_getD];cases hi:p.con[x.a.toNat]? with
    |none=>exact zd2
    |some a=>exact hcon a (List.mem_of_getElem? hi)
   have hit:item (vArg (p.con.getD x.a.toNat Cal.zero)) (cond ((p.con.getD x.a.toNat Cal.zero).k==4) 69 86):=by
    cases hk:(p.con.getD x.a.toNat Cal.zero).k==4
    .exact zfg hcv
    .exact zjq (FZ.zfa hcv) (by unfold isErr;rw[show (vArg (p.con.getD x.a.toNat Cal.zero)).v=p.con.getD x.a.toNat Cal.zero from rfl,hk];rfl) _
   have hst:=lays hG.st hit;have:=zli (q:={m.lay (vArg (p.con.getD x.a.toNat Cal.zero)) with ip:=m.ip+1}) (hway _ (.head _)) hG ⟨rfl,rfl,rfl,rfl,rfl⟩ hnx.symm hst;exact ⟨zee hT this.1,fun _=>this.2⟩
  rw[if_neg h1]
  by_cases h2:x.op=2
  .rw[if_pos h2];rw[zna h2] at hl;obtain ⟨_,rfl⟩:=zap hl;have hW:=(hway _ (.head _)).le;simp only at hW;rw[hnx] at hW;have hS:mayS ⟨x.a,x.b⟩=true:=by simpa[goodI,h2] using hgood
   have hP:Pend p T m:=⟨hlt,⟨T m.ip,hG.st,by rw[<-withS0];exact hW⟩,fun w e=>(by rw[hG.walk] at e;cases e)⟩;have hA:=zla hP hG.n hhl ho hgr hw hS fun w e=>(by rw[hG.walk] at e;cases e);exact ⟨hA.1,fun e=>by rw[hA.2] at e;cases e⟩
  rw[if_neg h2]
  by_cases h16:x.op=16
  .rw[if_pos h16];rw[zg7 h16] at hl;obtain ⟨he,rfl⟩:=zap hl;obtain ⟨_,t2,t3,t4⟩:=top1 hG.st he;have hW:=(hway _ (.head _)).le;simp only at hW;rw[hnx] at hW;cases hc:(m.top.isA&&m.top.a.t==m.top.a.b&&m.top.a.l==m.top.a.r)
   .cases hA:m.top.isA
    .have hE:isErr m.top=true:=by
      rcases t2.area rfl with h5|h5
      .rw[hA] at h5;cases h5
      .exact h5
     have hst:=stays hG.st t4 (zjq t2.ok hE 86);have:=zli (q:={m with ip:=m.ip+1}) (hway _ (.head _)) hG ⟨rfl,rfl,rfl,rfl,rfl⟩ hnx.symm hst;exact ⟨zee hT this.1,fun _=>this.2⟩
    .have hst:=zdr (k:=1) (more:=[]) hG.st (zb6 (e:=4) B3 B3 86);have:=zli (q:={(m.cut 1).lay (zaz 4) with ip:=m.ip+1}) (hway _ (.head _)) hG ⟨rfl,rfl,rfl,rfl,rfl⟩ hnx.symm hst;exact ⟨zee hT this.1,fun _=>this.2⟩
   .simp only[Bool.and_eq_true] at hc;have hm:=zba (t2.ok.area hc.1.1);have hb:=zed hm.1;have hS:mayS ⟨m.top.a.t,m.top.a.l⟩=true:=zdl B183;have hP:Pend p T (m.cut 1):=⟨hlt,⟨_,t3,hW⟩,fun w e=>B176⟩;have hA:=zla hP hG.n (by show (m.st.take _).length<=1024;rw[List.length_take];omega) ho hgr hw hS fun w e=>B176;exact ⟨hA.1,fun e=>by change ((m.cut 1).asks _).stop=false at e;rw[hA.2] at e;cases e⟩
  rw[if_neg h16,if_neg h20]
  by_cases hj:7<=x.op/\x.op<=11\/x.op=13
  .rw[if_pos hj];obtain ⟨hk,e,he,he1,he2⟩:=jump_ok hG.st hj hgood m.ip hl;have:=zli (q:={(m.jump x (m.ip+1)).1 with ip:=(m.jump x (m.ip+1)).2}) (hway e he) hG Bp100 he1 he2;exact ⟨zee hT this.1,fun _=>this.2⟩
  .rw[if_neg hj];obtain ⟨hk,t,he,he2⟩:=plain_ok (at_:=at_) (ncon:=p.con.length) hC hG.st hat hgood B1 m.ip hl;have:=zli (q:={m.plain read at_ x with ip:=m.ip+1}) (hway _ he) hG Bp100 hnx.symm he2;exact ⟨zee hT this.1,fun _=>this.2⟩
theorem on1_stop{at_:Sp}{m:MS}(h:m.stop=true):on1 sort read p at_ m=m:=by
 unfold MS.on1;unfold MS.stop at h;rw[h];rfl
theorem zhg{at_:Sp}:∀(k:Nat) {m:MS},m.stop=true->onN sort read p at_ k m=m
 |0,_,_=>rfl
 |k+1,m,h=>by unfold MS.onN;rw[on1_stop h];exact zhg k h
theorem onN_ok(hC:Ctx sort read)(hT:Typed p T)(hcon:∀v∈p.con,okV v){at_:Sp}(hat:mayS at_=true):∀(k:Nat) {m:MS},Inv p T m->p.ins.length<k+m.ip->Inv p T (onN sort read p at_ k m)/\(onN sort read p at_ k m).stop=true
 |0,m,h,hk=>by have:=h.ip;omega
 |k+1,m,h,hk=>by
  cases hs:m.stop
  .obtain ⟨h1,h2⟩:=on1_ok hC hT hcon hat h hs;unfold MS.onN;cases hs2:(on1 sort read p at_ m).stop
   .exact onN_ok hC hT hcon hat k h1 (by have:=h2 hs2;omega)
   .rw[zhg k hs2];exact ⟨h1,hs2⟩
  .rw[zhg (k+1) hs];exact ⟨h,hs⟩
theorem on_ok(hC:Ctx sort read)(hT:Typed p T)(hcon:∀v∈p.con,okV v){at_:Sp}(hat:mayS at_=true){m:MS}(h:Inv p T m):Inv p T (on sort read p at_ m)/\(on sort read p at_ m).stop=true:=
 onN_ok hC hT hcon hat _ h B1
theorem on_from{at_:Sp}:∀(k:Nat) {m q:MS},onN sort read p at_ k m=q->q.stop=true->k<=p.ins.length+1->on sort read p at_ m=q:=by
 intro k m q h hq hk;unfold MS.on;have:∀(a b:Nat) (m:MS),onN sort read p at_ (a+b) m=onN sort read p at_ b (onN sort read p at_ a m):=by
  intro a
  induction a with
  |zero=>intro b m;rw[Nat.zero_add];rfl
  |succ a ih=>intro b m;rw[show a+1+b=(a+b)+1 by omega];exact ih b _
 rw[show p.ins.length+1=k+(p.ins.length+1-k) by omega,this,h];exact zhg _ hq
section
variable(hC:Ctx sort read)(hT:Typed p T)(hcon:∀v∈p.con,okV v){at_:Sp}(hat:mayS at_=true)
include hC hT hcon at_ hat
theorem zux:Inv p T (new sort read p at_)/\(new sort read p at_).stop=true:=
 on_ok hC hT hcon hat (zee hT ⟨rfl,rfl,rfl,rfl,Nat.zero_le _,by show stk [] (T 0);rw[hT.start];trivial,Nat.zero_le _⟩)
theorem zwf{m:MS}(h:Inv p T m)(hw:m.wants=true){v:Val.V}(hv:okV v):
 Inv p T (give sort read p at_ m v)/\(give sort read p at_ m v).stop=true:=by
 have ho:m.over=false:=by
  cases ho:m.over
  .rfl
  .have:=(h.over ho).1;rw[hw] at this;cases this
 have hg:m.great=false:=by
  exact M166
 obtain ⟨hP,_,hn,hwk⟩:=h.wants ho hw;unfold MS.give;refine on_ok hC hT hcon hat ?_;cases hk:m.walk with
 |some w=>
  simp only;obtain ⟨hI,x,hx,h20⟩:=hP.walk w hk;obtain ⟨k1,k2,k3⟩:=hwk w hk;have hG:=FZ.zp2 hC.sort hI k1 k2 hv;refine ⟨h.ip,hn,h.h,fun e=> ?_,fun e=> ?_,fun _ e=>(nomatch e),fun _ _=> .inr ⟨⟨hP.ip,hP.st,fun w' e=> ?_⟩,_,rfl,hG.2⟩⟩
  .change m.over=true at e;rw[ho] at e;cases e
  .change m.great=true at e;rw[hg] at e;cases e
  .cases e;exact ⟨hG.1,x,hx,h20⟩
 |none=>
  obtain ⟨s,hs1,hs2⟩:=hP.st;exact zee hT ⟨ho,rfl,hg,hk,hP.ip,zji (zbr hs1 (zm7 (zfg hv))) hs2,hn⟩
end
theorem value_ok(hT:Typed p T){m:MS}(h:Inv p T m)(ho:m.over=true):m.value.2=true/\okV m.value.1:=by
 unfold MS.value;cases hg:m.great
 .rw[ho];obtain ⟨h1,h2⟩:=(h.over ho).2 hg;obtain ⟨y,hy,hf⟩:=hT.fin;rw[h1,hy] at h2;obtain ⟨a,ha,hi⟩:=stk1 h2;rw[ha];exact ⟨rfl,hi.ok.val⟩
 .exact ⟨rfl,zat B3 B3⟩
end MS
end Ma
namespace Mb
def mvR(t l dr dc:Int):Ma.Ar:=cond (moveAr t l t l dr dc==0) ⟨t+dr,l+dc,t+dr,l+dc⟩ ⟨0,0,0,0⟩
theorem znq(t l dr dc:Int):cond (moveAr t l t l dr dc==0) (AR (t+dr) (l+dc) (t+dr) (l+dc)) (AR 0 0 0 0)=AR (mvR t l dr dc).t (mvR t l dr dc).l (mvR t l dr dc).b (mvR t l dr dc).r:=by
 unfold mvR;cases moveAr t l t l dr dc==0 <;> rfl
theorem mv_some(t l dr dc:Int):Ma.MS.moveA ⟨t,l,t,l⟩ dr dc=cond (moveAr t l t l dr dc==0) (some (mvR t l dr dc)) none:=by
 have e1:∀a b c d:Int,Ma.mayA ⟨a,b,c,d⟩=zc6 a b c d:=fun a b c d=>rfl;unfold mvR Ma.MS.moveA moveAr;simp only[e1];cases h1:zc6 t l t l
 .rfl
 .cases h2:(decide (dr < -65536)||decide (65536<dr)||decide (dc < -702)||decide (702<dc))
  .cases h3:zc6 (t+dr) (l+dc) (t+dr) (l+dc) <;> rfl
  .rfl
theorem zkw{t l dr dc:Int}(h:moveAr t l t l dr dc=0):0<=(mvR t l dr dc).t/\(mvR t l dr dc).t<=1000000/\0<=(mvR t l dr dc).l/\(mvR t l dr dc).l<=1000000:=by
 unfold mvR;rw[h];simp only[BEq.rfl,cond_true];unfold moveAr at h;cases h1:zc6 t l t l
 .rw[h1] at h;cases h
 .rw[h1] at h;cases h2:(decide (dr < -65536)||decide (65536<dr)||decide (dc < -702)||decide (702<dc))
  .rw[h2] at h;cases h3:zc6 (t+dr) (l+dc) (t+dr) (l+dc)
   .rw[h3] at h;cases h
   .have:=zf6 h3;omega
  .rw[h2] at h;cases h
def offR(a:Ma.Ar)(a0 a1 h v:Int):Ma.Ar:=cond (offNo (moveAr a.t a.l a.t a.l a0 a1) h v) a ⟨(mvR a.t a.l a0 a1).t,(mvR a.t a.l a0 a1).l,(mvR a.t a.l a0 a1).t+h-1,(mvR a.t a.l a0 a1).l+v-1⟩
theorem zia(a:Ma.Ar)(a0 a1 h v:Int):(match Ma.MS.moveA ⟨a.t,a.l,a.t,a.l⟩ a0 a1 with
 |none=>none
 |some b=>cond (decide (h<1)||decide (65536<h)||decide (v<1)||decide (702<v)) none (some ⟨b.t,b.l,b.t+h-1,b.l+v-1⟩))=cond (!offNo (moveAr a.t a.l a.t a.l a0 a1) h v) (some (offR a a0 a1 h v)) none:=by
 rw[mv_some];unfold offR offNo;cases hm:moveAr a.t a.l a.t a.l a0 a1==0
 .have:(moveAr a.t a.l a.t a.l a0 a1 !=0)=true:=by unfold bne;rw[hm];rfl
  rw[this];rfl
 .have:(moveAr a.t a.l a.t a.l a0 a1 !=0)=false:=by unfold bne;rw[hm];rfl
  rw[this];simp only[cond_true,Bool.false_or];cases (decide (h<1)||decide (65536<h)||decide (v<1)||decide (702<v)) <;> rfl
theorem zrh(a:Ma.Ar)(ns:List Int)(h2:2<=ns.length)(h4:ns.length<=4)(ha:Ma.mayA a=true)(g cap:Nat)(w:World)(hns:NsAt w g ns):Calls prog 141 #[AR a.t a.l a.b a.r,jP g 0 ns.length cap] w fun e w'=>
 ∃(r:Ma.Ar) (ok:Bool),e=jr (.tuple #[AR r.t r.l r.b r.r,.bool ok])/\Below w.heap.size w w'/\Ma.MS.offset a ns=cond ok (some r) none:=by
 have hb:=zf6 (show zc6 a.t a.l a.b a.r=true from ha);have e1:IntKind.i64.wrap (a.b-a.t)=a.b-a.t:=zae B1 B1;have e2:IntKind.i64.wrap (a.b-a.t+1)=a.b-a.t+1:=zae B1 B1;have e3:IntKind.i64.wrap (a.r-a.l)=a.r-a.l:=zae B1 B1;have e4:IntKind.i64.wrap (a.r-a.l+1)=a.r-a.l+1:=zae B1 B1;have AC:∀(c:Bool) (r s:Ma.Ar),cond c (AR r.t r.l r.b r.r) (AR s.t s.l s.b s.r)=AR (cond c r s).t (cond c r s).l (cond c r s).b (cond c r s).r:=fun c r s=>by cases c <;> rfl
 match ns,h2,h4,hns with
 |[a0,a1],_,_,hns=>
  refine (offset_2 a.t a.l a.b a.r a0 a1 _ _ _ _ g cap w hns.1 (hns.2 0 a0 rfl) (hns.2 1 a1 rfl) e1 e2 e3 e4 _ _ _ _ _ zkw Bp59 (jH fun u=>(ziu a.t a.l a.t a.l a0 a1 u).mono fun e w' ⟨h1,h2⟩=> ⟨by rw[<-znq];exact h1,h2⟩)).mono ?_;rintro e w' ⟨rfl,hb⟩;refine ⟨offR a a0 a1 (a.b-a.t+1) (a.r-a.l+1),!offNo (moveAr a.t a.l a.t a.l a0 a1) (a.b-a.t+1) (a.r-a.l+1),?_,hb,zia a a0 a1 (a.b-a.t+1) (a.r-a.l+1)⟩;unfold offR;cases offNo (moveAr a.t a.l a.t a.l a0 a1) (a.b-a.t+1) (a.r-a.l+1) <;> rfl
 |[a0,a1,a2],_,_,hns=>
  refine (offset_3 a.t a.l a.b a.r a0 a1 a2 _ _ _ _ g cap w hns.1 (hns.2 0 a0 rfl) (hns.2 1 a1 rfl) (hns.2 2 a2 rfl) e1 e2 e3 e4 _ _ _ _ _ zkw Bp59 (jH fun u=>(ziu a.t a.l a.t a.l a0 a1 u).mono fun e w' ⟨h1,h2⟩=> ⟨by rw[<-znq];exact h1,h2⟩)).mono ?_;rintro e w' ⟨rfl,hb⟩;refine ⟨offR a a0 a1 a2 (a.r-a.l+1),!offNo (moveAr a.t a.l a.t a.l a0 a1) a2 (a.r-a.l+1),?_,hb,zia a a0 a1 a2 (a.r-a.l+1)⟩;unfold offR;cases offNo (moveAr a.t a.l a.t a.l a0 a1) a2 (a.r-a.l+1) <;> rfl
 |[a0,a1,a2,a3],_,_,hns=>
  refine (offset_4 a.t a.l a.b a.r a0 a1 a2 a3 _ _ _ _ g cap w hns.1 (hns.2 0 a0 rfl) (hns.2 1 a1 rfl) (hns.2 2 a2 rfl) (hns.2 3 a3 rfl) e1 e2 e3 e4 _ _ _ _ _ zkw Bp59 (jH fun u=>(ziu a.t a.l a.t a.l a0 a1 u).mono fun e w' ⟨h1,h2⟩=> ⟨by rw[<-znq];exact h1,h2⟩)).mono ?_;rintro e w' ⟨rfl,hb⟩;refine ⟨offR a a0 a1 a2 a3,!offNo (moveAr a.t a.l a.t a.l a0 a1) a2 a3,?_,hb,zia a a0 a1 a2 a3⟩;unfold offR;cases offNo (moveAr a.t a.l a.t a.l a0 a1) a2 a3 <;> rfl
theorem zvw(a:Ma.Ar)(ns:List Int)(h1:1<=ns.length)(h2:ns.length<=2)(ha:Ma.mayA a=true)(g cap:Nat)(w:World)(hns:NsAt w g ns):Calls prog 140 #[AR a.t a.l a.b a.r,jP g 0 ns.length cap] w fun e w'=>
 ∃(r:Ma.Ar) (ok:Bool),e=jr (.tuple #[AR r.t r.l r.b r.r,.bool ok])/\Below w.heap.size w w'/\Ma.MS.zv3 a ns=cond ok (some r) none:=by
 match ns,h1,h2,hns with
 |i::ns,_,h2,hns=>
  refine (zrv a.t a.l a.b a.r i ns g cap w ha hns B70).mono ?_;rintro e w' ⟨rfl,hb⟩;refine ⟨cond (insideOk a.t a.l a.b a.r i (ns.getD 0 1)) ⟨a.t+i-1,a.l+ns.getD 0 1-1,a.t+i-1,a.l+ns.getD 0 1-1⟩ a,insideOk a.t a.l a.b a.r i (ns.getD 0 1),?_,hb,?_⟩
  .cases insideOk a.t a.l a.b a.r i (ns.getD 0 1) <;> rfl
  .unfold Ma.MS.zv3 insideOk;simp only[List.getD_cons_zero,List.getD_cons_succ];cases (decide (i<1)||decide (a.b-a.t+1<i)||decide (ns.getD 0 1<1)||decide (a.r-a.l+1<ns.getD 0 1)) <;> rfl
def ItemsIn(w:World)(a:Option Addr)(l:List Ma.Arg):Prop:=∀(k:Nat) (x:Ma.Arg),l[k]?=some x->∃g,a=some (jA g 0)/\g<w.heap.size/\ItemAt w g (k*8) x
theorem zh9{w:World}{lo n:Nat}{v:Value}{l:List Ma.Arg}(hn:n=l.length)(hown:w.ownsRow lo TA 8 v n (argsC l)):∃a c,v= .slice a n c/\ItemsIn w a l:=by
 exact M81
theorem ItemAt.below{w w':World}{g o:Nat}{x:Ma.Arg}(h:ItemAt w g o x)(hg:g<w.heap.size)(hb:Below w.heap.size w w'):ItemAt w' g o x:=by
 obtain ⟨q0,q1,q2,q3,q4,q5,q6,q7⟩:=h;exact ⟨jQ hb q0 hg,jQ hb q1 hg,jQ hb q2 hg,jQ hb q3 hg,jQ hb q4 hg,jQ hb q5 hg,jQ hb q6 hg,jQ hb q7 hg⟩
theorem ItemsIn.below{w w':World}{a:Option Addr}{l:List Ma.Arg}(h:ItemsIn w a l)(hb:Below w.heap.size w w'):ItemsIn w' a l:=fun k x hx=>by
 obtain ⟨g,e,hg,h1⟩:=h k x hx;exact ⟨g,e,jL hg hb.size,h1.below hg hb⟩
theorem find_at{l:List Ma.Arg}{k:Nat}{x:Ma.Arg}(hx:l[k]?=some x)(hn:∀j y,j<k->l[j]?=some y->Ma.isErr y=false)(he:Ma.isErr x=true):l.find? Ma.isErr=some x:=by
 induction l generalizing k with
 |nil=>simp at hx
 |cons y l ih=>
  cases k with
  |zero=>
   simp only[List.getElem?_cons_zero,Option.some.injEq] at hx;subst hx;simp[List.find?_cons,he]
  |succ k=>
   have h0:=hn 0 y B1 rfl;rw[List.find?_cons,h0];exact ih (by simpa using hx) (fun j z hj hz=>hn (j+1) z B1 (by simpa using hz))
theorem find_no{l:List Ma.Arg}(hn:∀j y,j<l.length->l[j]?=some y->Ma.isErr y=false):l.find? Ma.isErr=none:=by
 rw[List.find?_eq_none];intro x hx;obtain ⟨j,hj⟩:=List.getElem?_of_mem hx;rw[hn j x (jl hj) hj];decide
theorem idx_any(l:List Ma.Arg)(n:Nat)(a:Option Addr)(c:Nat)(w:World)(hn:n=l.length)(hl:n<=1000000)(hI:ItemsIn w a l):Calls prog 139 #[.slice a n c,.func (.func 66) #[] #[]] w fun e w'=>
 ∃z:Int,e=jr (jI z)/\Below w.heap.size w w'/\((∃(k:Nat) (x:Ma.Arg),z=(k:Int)/\l[k]?=some x/\l.find? Ma.isErr=some x)\/(z=-1/\l.find? Ma.isErr=none)):=by
 have HI:=jH hI;have HN:=jH hn;have HE:=jH fun (x:Ma.Arg) (u:World)=>zdn x u;clear hI hn;go_enter func139,ntmps139;go_wp2;go_loopw [8] (fun i wr=>∃k:Nat,k<=n/\i=jI (k:Int)/\Below w.heap.size w wr/\Hid (∀j y,j<k->l[j]?=some y->Ma.isErr y=false)) (fun i _=>n-(intOf i).toNat)
 case atStart=>exact ⟨0,Nat.zero_le _,rfl,jB,jH (fun j y h=>absurd h B1)⟩
 case round=>
  obtain ⟨k,hk,rfl,hb,hNo⟩:=hrel
  by_cases hlt:k<n
  .obtain ⟨x,hx⟩:∃x,l[k]?=some x:=⟨_,List.getElem?_eq_getElem (by rw[<-HN.out];exact hlt)⟩;obtain ⟨g,rfl,hg,hitem⟩:=HI.out k x hx;obtain ⟨q0,q1,q2,q3,q4,q5,q6,q7⟩:=hitem.below hg hb;have hgr:g<wr.heap.size:=jL hg hb.size;have Hx:=jH hx;clear hx hitem;have hkk:k*8+8<=n*8:=B1;have hD:∀b,Ma.isErr x=b->(!x.isA&&x.v.k==4)=b:=fun b h=>h;cases he:Ma.isErr x
   .have he2:=hD _ he;go_wp2_with fail;refine jM (HE.out x _) ?_;intro w2 hb2;go_wp2_with fail;go_roundw
    case rel=>exact ⟨k+1,by omega,by go_num,jN hb hb2,jH (fun j y hj hy=>by
     by_cases hjk:j<k
     .exact hNo.out j y hjk hy
     .obtain rfl:j=k:=by omega
      rw[Hx.out] at hy;cases hy;exact he)⟩
    case measure=>simp[intOf];omega
   .have he2:=hD _ he;go_wp2_with fail;refine jM (HE.out x _) ?_;intro w2 hb2;go_wp2_with fail;go_ret;exact ⟨_,rfl,jN hb hb2,.inl ⟨k,x,rfl,Hx.out,find_at Hx.out hNo.out he⟩⟩
  .obtain rfl:k=n:=by omega
   go_wp2_with fail;go_ret;exact ⟨_,rfl,hb,.inr ⟨rfl,find_no fun j y hj hy=>hNo.out j y (by rw[HN.out];exact hj) hy⟩⟩
theorem zuu:∀{l:List Ma.Arg},(∀j y,j<l.length->l[j]?=some y->(Val.number y.v).2=0)->Ma.MS.nums l=(l.map fun y=>(Val.number y.v).1,0)
 |[],_=>rfl
 |x::l,h=>by
  have h0:=h 0 x B7 rfl;have ih:=zuu (l:=l) fun j y hj hy=>h (j+1) y B69 (by simpa using hy);unfold Ma.MS.nums;rw[h0,ih];rfl
theorem zpf:∀{l:List Ma.Arg} {k:Nat} {x:Ma.Arg},l[k]?=some x->(∀j y,j<k->l[j]?=some y->(Val.number y.v).2=0)->(Val.number x.v).2≠0->(Ma.MS.nums l).2=(Val.number x.v).2
 |[],k,x,h,_,_=>by simp at h
 |y::l,0,x,h,_,hne=>by
  simp only[List.getElem?_cons_zero,Option.some.injEq] at h;subst h;unfold Ma.MS.nums;have:((Val.number y.v).2==0)=false:=by simpa using hne
  rw[this];rfl
 |y::l,k+1,x,h,hn,hne=>by
  have h0:=hn 0 y B1 rfl;have ih:=zpf (l:=l) (k:=k) (x:=x) B38 (fun j z hj hz=>hn (j+1) z B1 (by simpa using hz)) hne;unfold Ma.MS.nums;rw[h0];exact ih
def numC(l:List Ma.Arg):List Value:=l.map fun y=>jI (Val.number y.v).1
def B47(h:jp:=by simp[results,results77,go_sem]):=h
def B59(h:jp:=by rintro e w' ⟨rfl,hp⟩;exact ⟨rfl,Post.then q3 q4 (hp.pre hu)⟩):=h
def B75(h:jp:=by rw[Hmv.out];simp only[cond_true];rw[hz2];exact hp):=h
def B129(h:jp:=by rw[List.length_map];omega):=h
def _root_.B143(h:jp:=by intro u hu;simp at hu;subst hu;rfl):=h
def Bp63(h:jp:=by exact zad (zad (zad (zad hk6 0 (jI r.t)) 1 (jI r.l)) 2 (jI r.b)) 3 (jI r.r)):=h
def Bp87(h:jp:=by exact HF.out _ _ hbw7):=h
def M24(h:jp:=by
 have HS:=jH fun (t l b r:Int) (u:World)=>zfo t l b r u;rw[hop] at c0;go_wp2_with fail;refine (HO.out _ _ _ (by rw[List.length_map]) hns5).mono ?_;rintro e w6 ⟨r,ok,rfl,hb6,hoff⟩;have hk6:=(hb6.block _ B7).trans hkk;have hbw6:=jN hbw5 hb6;clear hns5 hns O5 hbw5 hb6 hkk r1 r2 r3 r4;obtain ⟨y0,y1,y2,y3⟩:=zah hk6;obtain ⟨f0,f1,f2,f3⟩:=zas hk6;have hl6:=(jg hk6);generalize wr.heap.size=b6 at *;go_wp2_with fail;refine jM (HS.out _ _ _ _ _) ?_;intro w7 hb7;have hk7:=(hb7.block b6 (by simpa using hl6)).trans Bp63;have hbw7:Below w1.heap.size w1 w7:=(setB (setB (setB (setB hbw6 h1s) h1s) h1s) h1s).trans (hb7.mono (by simpa using hbw6.size));clear hb7 hk6 hbw6 y0 y1 y2 y3 f0 f1 f2 f3;obtain ⟨y0,y1,y2,y3⟩:=zah hk7;have hl7:=(jg hk7);have hmv:Ma.MS.zdk x (a0::rst)=(match cond ok (some r) none with|none=>Ma.MS.zaz 3|some a=>cond ((sizeAr a.t a.l a.b a.r).2==0) (Ma.aArg a) (Ma.MS.zaz 3)):=by
  unfold Ma.MS.zdk;rw[hf];simp only[List.drop_succ_cons,List.drop_zero];rw[hnums,<-hoff,hop];rfl
 have Hmv:=jH hmv;clear hmv;cases ok
 .go_wp2_with fail;refine jM Bp87 ?_;intro w8 hp;go_wp2_with fail;exact jX jT B47 ⟨rfl,by rw[Hmv.out];exact hp⟩
 .cases hz:((sizeAr r.t r.l r.b r.r).2 !=0)
  .have hz2:((sizeAr r.t r.l r.b r.r).2==0)=true:=by simpa using hz
   go_wp2_with fail;refine jM (HL.out (Ma.aArg r) _ hbw7) ?_;intro w8 hp;go_wp2_with fail;exact jY jT B47 ⟨rfl,B75⟩
  .have hz2:((sizeAr r.t r.l r.b r.r).2==0)=false:=by simpa using hz
   go_wp2_with fail;refine jM Bp87 ?_;intro w8 hp;go_wp2_with fail;exact jX jT B47 ⟨rfl,B75⟩):=h
def C38(h:jp:=by
 have HF:=jH fun (n:Int) (u:World) (hu:Below w1.heap.size w1 u)=>(zk6 B {h with st:=sv} l n u (q1.below hu) (q2.kept fun g hg=>hu.block g (q2.lt hg).1) B1).mono (R':=fun e w'=>e=jr jT/\Post B h w (l++ [Ma.MS.zaz n]) w') B59;exact K38):=h
def X158.K38(h:jp:=by
 obtain ⟨ig,vc,rfl,hvc,hig,hI⟩:=zrg (l:=a0::rst) rfl B7 hown;rw[List.length_cons] at hvc;have hC:=jH fun (u:World) (hu:Below w1.heap.size w1 u)=>hx1.below ha1.lt hu;clear hown hx1 q1 q2 q3 q4 c0 c1;go_wp2_with fail;refine (HX.out _ _ _ hI).mono ?_;rintro e w2 ⟨z,rfl,hb2,hz⟩;have hI2:=hI.below hb2;replace hig:=jL hig hb2.size;rcases hz with ⟨k,y,rfl,hy,hf⟩|⟨rfl,hf⟩
 .obtain ⟨_,e,-,q0,q1,q2,q3,q4,q5,q6,q7⟩:=hI2 k y hy;cases e;have hkl:k<rst.length+1:=(jl hy);have hdk:decide ((0:Int)<=(k:Int))=true:=decide_eq_true B1;clear hy;go_wp2_with fail;refine jM (HL.out y _ hb2) ?_;intro w3 hp;go_wp2_with fail;refine jX jT B47 ⟨rfl,by unfold Ma.MS.zdk;rw[hf];exact hp⟩
 .go_wp2_with fail;go_loopw [6,8,9,10,35] (fun ns _ _ _ i wr=>∃k:Nat,k<=rst.length/\i=jI (k:Int)/\wr.ownsRow w2.heap.size 2 1 ns k (numC (rst.take k))/\Below w2.heap.size w2 wr/\Hid (∀j y,j<k->rst[j]?=some y->(Val.number y.v).2=0)) (fun _ _ _ _ i _=>rst.length-(intOf i).toNat)
  case atStart=>exact ⟨0,Nat.zero_le _,rfl,World.ownsRow_nil _ _ _ _,jB,jH (fun j y hj=>absurd hj B1)⟩
  case round=>
   obtain ⟨k,hk,rfl,hown,hb,hNo⟩:=hrel
   by_cases hlt:k<rst.length
   .obtain ⟨y,hy⟩:∃y,rst[k]?=some y:=⟨_,List.getElem?_eq_getElem hlt⟩;obtain ⟨_,e,-,hitem⟩:=hI2 (k+1) y (by simpa using hy);cases e;obtain ⟨q0,q1,q2,q3,q4,q5,q6,q7⟩:=hitem.below hig hb;rw[show (k+1)*8=8+k*8 by omega] at q0 q1 q2 q3 q4 q5 q6 q7;have higr:ig<wr.heap.size:=jL hig hb.size;have hyv:=jH (HVB.out y (List.mem_of_getElem? hy));have Hy:=jH hy;have hkk:8+k*8+8<=(rst.length+1)*8:=B1;have hsn:=jH (show numC (rst.take (k+1))=numC (rst.take k)++ [jI (Val.number y.v).1] by unfold numC;rw[List.take_add_one,hy,List.map_append];rfl);clear hy hitem;obtain ⟨ya,⟨y1,y2,y3,y4⟩,⟨yk,yn,yt⟩⟩:=y;have hbw:=jN hb2 hb;have O1:Below wr.heap.size wr (wr.alloc (.cells #[.bool ya,jI y1,jI y2,jI y3,jI y4,jI yk,jI yn,jS yt] TA)):=below1 _ _;go_wp2_with fail;refine jM (HNu.out ⟨ya,⟨y1,y2,y3,y4⟩,⟨yk,yn,yt⟩⟩ _ hyv.out (HNm.out _ (jN hbw O1))) ?_;intro w3 hb3;have hb23:=jN O1 hb3;have hbw3:=jN hbw hb23;have hb2r:=jN hb hb23;have hown3:=zci hown hb23;cases hc:((Val.number ⟨yk,yn,yt⟩).2 !=0)
    .have hcz:(Val.number ⟨yk,yn,yt⟩).2=0:=by simpa using hc
     have HCZ:=jH hcz;clear hown hb O1 hb3 hb23 hbw hcz q0 q1 q2 q3 q4 q5 q6 q7;have O2:=below1 w3 (.cells #[jI (Val.number ⟨yk,yn,yt⟩).1] 2);have hnb:=heap_alloc_new w3 (.cells #[jI (Val.number ⟨yk,yn,yt⟩).1] 2);have hown4:=zci hown3 O2;have hb2s:=jN hb2r O2;have hnews:∀(j:Nat) (u:Value),[jI (Val.number ⟨yk,yn,yt⟩).1][j]?=some u->(w3.alloc (.cells #[jI (Val.number ⟨yk,yn,yt⟩).1] 2)).cell? (((jA w3.heap.size 0):Addr).add j)=some u:=by
      intro j u hj;have hadd:((jA w3.heap.size 0):Addr).add j=(jA w3.heap.size j):=B16;rw[hadd,Lib.cell_of_heap hnb,<-hj];simp
     have Q1:=jH hnews;have Q2:=jH (show k+1<=maxLen by unfold maxLen;omega);have Q3:=jH (show (k+1)*8<=140737488355328 by omega);clear hnews O2 hnb hown3;obtain ⟨sa,sc,rfl⟩:∃a c,u6= .slice a k c:=by
      rcases hown4.2 with ⟨rfl,h0⟩|⟨g,cap,cur,rfl,_⟩
      .rw[h0];exact ⟨_,_,rfl⟩
      .exact ⟨_,_,rfl⟩
     go_wp2_with (first|(at_builtin;refine wpList_append_own _ rfl _ _ 168 rfl w2.heap.size 2 i0 _ 1 8 underlying168 hi hz0 hz1 hz2 rfl B3 _ _ _ rfl hown4 (jA w3.heap.size 0) 1 1 [jI (Val.number ⟨yk,yn,yt⟩).1] rfl rfl Q1.out B143 Q2.out Q3.out hb2s.size ?_)|fail);intro v5 w5 hown5 hgrow _;have hb5:=hb2s.grown hgrow hb2s.size (fun j hj=>(hown4.lt j hj).1);have hown6:w5.ownsRow w2.heap.size 2 1 v5 (k+1) (numC (rst.take (k+1))):=by rw[hsn.out];exact hown5
     clear hown5 hgrow hown4;go_wp2_with fail;go_roundw
     case rel=>exact ⟨k+1,by omega,by go_num,hown6,hb5,jH (fun j z hj hz=>by
      by_cases hjk:j<k
      .exact hNo.out j z hjk hz
      .obtain rfl:j=k:=by omega
       rw[Hy.out] at hz;cases hz;exact HCZ.out)⟩
     case measure=>simp[intOf];omega
    .clear hown hown3 q0 q1 q2 q3 q4 q5 q6 q7;go_wp2_with fail;refine jM (HF.out _ _ hbw3) ?_;intro w4 hp;go_wp2_with fail;have hcn:(Val.number ⟨yk,yn,yt⟩).2≠0:=B155;have hbad:=zpf Hy.out hNo.out hcn;refine jX jT B47 ⟨rfl,?_⟩;unfold Ma.MS.zdk;rw[hf];simp only[List.drop_succ_cons,List.drop_zero];rw[hbad,hc];exact hp
   .obtain rfl:k=rst.length:=by omega
    rw[List.take_length] at hown;have hnums:=zuu hNo.out;have hbw:=jN hb2 hb;have hA0:=HA.out (by
     have:=List.find?_eq_none.1 hf a0 (.head _);simpa using this)
    obtain ⟨_,e,-,hitem⟩:=hI2 0 a0 rfl;cases e;obtain ⟨-,r1,r2,r3,r4,-,-,-⟩:=hitem.below hig hb;simp only[Nat.zero_mul,Nat.zero_add] at r1 r2 r3 r4;have higr:ig<wr.heap.size:=jL hig hb.size;obtain ⟨-,T2,⟨hgl,c0,-,-,-,-,-⟩,-,-⟩:=hC.out _ hbw;obtain ⟨gn,cn,rfl,hns⟩:=ns_own rfl h1 hown;clear hown hI2 hI hitem HX HTk HNu HVB hNo hE1;have h1s:=hbw.size;have hkk:=heap_alloc_new wr (Obj.cells #[jI a0.a.t,jI a0.a.l,jI a0.a.b,jI a0.a.r] 62);have O5:=below1 wr (Obj.cells #[jI a0.a.t,jI a0.a.l,jI a0.a.b,jI a0.a.r] 62);have hns5:=hns.below hns.1 O5;have hbw5:=jN hbw O5;have hgl5:g<wr.heap.size:=hgl;rcases hOP.out with ⟨hop,hr2⟩|⟨hop,hr2⟩
    .have HO:=jH fun (n cap:Nat) (u:World) (hn:n=(rst.map fun (y:Ma.Arg)=>(Val.number y.v).1).length) (hns:NsAt u gn (rst.map fun (y:Ma.Arg)=>(Val.number y.v).1))=>(show Calls prog 141 #[AR a0.a.t a0.a.l a0.a.b a0.a.r,jP gn 0 n cap] u _ from hn▸zrh a0.a (rst.map fun (y:Ma.Arg)=>(Val.number y.v).1) B129 B129 hA0 gn cap u hns);exact M24
    .have HO:=jH fun (n cap:Nat) (u:World) (hn:n=(rst.map fun (y:Ma.Arg)=>(Val.number y.v).1).length) (hns:NsAt u gn (rst.map fun (y:Ma.Arg)=>(Val.number y.v).1))=>(show Calls prog 140 #[AR a0.a.t a0.a.l a0.a.b a0.a.r,jP gn 0 n cap] u _ from hn▸zvw a0.a (rst.map fun (y:Ma.Arg)=>(Val.number y.v).1) B129 B129 hA0 gn cap u hns);exact M24):=h
theorem ns_own{W:World}{lo n:Nat}{v:Value}{l:List Ma.Arg}(hn:n=l.length)(h0:1<=n)(h:W.ownsRow lo 2 1 v n (numC l)):∃g c,v=jP g 0 n c/\NsAt W g (l.map fun y=>(Val.number y.v).1):=by
 obtain ⟨k,rfl⟩:∃k,n=k+1:=⟨n-1,B1⟩;obtain ⟨g,c,e,hg,hc⟩:=zal h;refine ⟨g,c,e,hg,fun j z hz=>hc j _ ?_⟩;rw[List.getElem?_map] at hz;unfold numC;rw[List.getElem?_map];cases hl:l[j]? with
 |none=>rw[hl] at hz;cases hz
 |some y=>rw[hl] at hz;cases hz;rfl
theorem zrg{w:World}{lo n:Nat}{v:Value}{l:List Ma.Arg}(hn:n=l.length)(h1:1<=n)(hown:w.ownsRow lo TA 8 v n (argsC l)):∃g c,v=jP g 0 n c/\n<=c/\g<w.heap.size/\ItemsIn w (some (jA g 0)) l:=by
 obtain ⟨a,c,e,hI⟩:=zh9 hn hown;have hst:=znm hn hown;obtain ⟨sg,scap,e2,hle⟩:=hst.shape B1;have hlt:=(hst.lt (by rw[e2];rfl)).1;rw[e2] at e;cases e;exact ⟨sg,c,by rw[e2,hn],by omega,hlt,hI⟩
theorem zu0(w0:World)(C:Nat->Prop)(B:Nat)(h:MH)(w:World)(g o:Nat)(x:Ma.Ins)(hE:Env w0 w B h)(hB:At w B h)(ha:Apart C w B h)(hx:InsIn C w g o x)(l rst:List Ma.Arg)(a0:Ma.Arg)(hl:(l++a0::rst).length<=100000)(hs:Stk w h.st (l++a0::rst))(hlen:(rst.length:Int)=x.a)(h1:1<=rst.length)(h4:rst.length<=4)(hop:x.op=18/\2<=rst.length\/x.op=19/\rst.length<=2)(hA:Ma.isErr a0=false->Ma.mayA a0.a=true)(hvb:∀y∈rst,VB y.v):Calls prog 77 #[PT B,PI g o] w fun e w'=>e=jr jT/\Post B h w (l++ [Ma.MS.zdk x (a0::rst)]) w':=by
 have hx0:=hx;have hll:l.length<=100000:=by rw[List.length_append] at hl;omega
 have HTk:=jH fun (z:Int) (hz:z=((a0::rst).length:Int))=>(show Calls prog 32 #[PT B,jI z] w _ from hz▸zm5 B h l (a0::rst) w hB hs B1);have HX:=jH fun (a:Option Addr) (c:Nat) (u:World) (hI:ItemsIn u a (a0::rst))=>idx_any (a0::rst) (rst.length+1) a c u rfl B1 hI;have HNu:=jH fun (y:Ma.Arg) (u:World) (hy:VB y.v) (hN:NumW u)=>za8 y.v u hy hN;obtain ⟨i0,hi,hz0,hz1,hz2⟩:=info_parts zny;have hw1:IntKind.i64.wrap (x.a+1)=x.a+1:=zfr _ B1 B1;have hOP:=jH hop;have HVB:=jH hvb;have HA:=jH hA;have hBl:=hB.lt;obtain ⟨-,T,⟨hlt,c0,c1,c2,c3,c4,c5⟩,-,-⟩:=hx;clear hop hvb hA c2 c3 c4 c5;go_enter func77,ntmps77;go_wp2_with fail;refine (HTk.out _ (by rw[List.length_cons];omega)).mono ?_;rintro e w1 ⟨v,rfl,hown,hp1⟩;have hx1:=hp1.ins ha hx0;have ha1:=hp1.apart ha;have hE1:=hE.post hp1;have HNm:=jH fun (u:World) (hu:Below w1.heap.size w1 u)=>zeo hE.num (jN hE1 hu);obtain ⟨sv,q1,q2,q3,q4⟩:=hp1;replace ha1:=ha1 sv q1;have HL:=jH fun (y:Ma.Arg) (u:World) (hu:Below w1.heap.size w1 u)=>(lay_p B {h with st:=sv} l y u (q1.below hu) (q2.kept fun g hg=>hu.block g (q2.lt hg).1) B1).mono (R':=fun e w'=>e=jr jT/\Post B h w (l++ [y]) w') B59
 open X158 in exact C38
