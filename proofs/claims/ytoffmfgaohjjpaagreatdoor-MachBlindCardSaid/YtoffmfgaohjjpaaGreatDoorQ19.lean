import Derived.Test.YtoffmfgaohjjpaaGreatDoorQ16
import Derived.Test.YtoffmfgaohjjpaaGreatDoorQ17
set_option linter.unusedVariables false
set_option linter.unusedSectionVars false
set_option linter.unusedSimpArgs false
open Go.Proofs.Tryz
set_option maxHeartbeats 8000000
variable{jp:Sort _}
set_option maxRecDepth 100000
namespace Go.Proofs.YtoffmfgaohjjpaaGreatDoor
section
open Go.RowKit
namespace Fd
open Mb
def B26(h:jp:=by simp[results,results144,go_sem]):=h
def M6(h:jp:=by
 have HNu:=jH fun (u:World) (hu:Below w.heap.size w u)=>za8 v u hv (hN.below hu);have c0:=bF.cell;have c1:=bA.cell;have l0:=bF.lt;have l1:=bA.lt;have hb1:Below w.heap.size w (w.alloc (Obj.cells #[jI v.k,jI v.n,jS v.t] 41)):=below1 _ _;cases cell
 .have K4:=jH (H4 rfl);have K5:=jH (H5 rfl);clear H1 H2 H3 H4 H5;generalize Val.number v=nc at *;obtain ⟨n,c⟩:=nc;simp only at K4 K5;cases tc:(c==0)
  .have tc2:(c !=0)=true:=by unfold bne;rw[tc];rfl
   have K:=jH (K5.out tc);clear K4 K5;go_enter func144,ntmps144;go_wp2_with fail;refine jM (HNu.out _ hb1) ?_;intro w1 hb;have hbw:=jN hb1 hb;have d0:=jQ hbw c0 l0;go_wp2_with fail;refine jM (K.out _ hbw) ?_;intro w2 hq;go_wp2_with fail;exact jX jT B26 ⟨rfl,hq⟩
  .have tc2:(c !=0)=false:=by unfold bne;rw[tc];rfl
   have K:=jH (K4.out tc);clear K4 K5;go_enter func144,ntmps144;go_wp2_with fail;refine jM (HNu.out _ hb1) ?_;intro w1 hb;have hbw:=jN hb1 hb;have d1:=jQ hbw c1 l1;go_wp2_with fail;refine jM (K.out _ hbw) ?_;intro w2 hq;go_wp2_with fail;exact jY jT B26 ⟨rfl,hq⟩
 .cases t4:(v.k==4)
  .cases t1:(v.k==1)
   .have K:=jH (H3 rfl t4 t1);clear H1 H2 H3 H4 H5;go_enter func144,ntmps144;go_wp2_with fail;exact jY jT B26 ⟨rfl,K.out _ hb1⟩
   .have K:=jH (H2 rfl t4 t1);clear H1 H2 H3 H4 H5;go_enter func144,ntmps144;go_wp2_with fail;refine jM (K.out _ hb1) ?_;intro w2 hq;go_wp2_with fail;exact jY jT B26 ⟨rfl,hq⟩
  .have K:=jH (H1 rfl t4);clear H1 H2 H3 H4 H5;go_enter func144,ntmps144;go_wp2_with fail;refine jM (K.out _ hb1) ?_;intro w2 hq;go_wp2_with fail;exact jY jT B26 ⟨rfl,hq⟩):=h
def Bp95(h:jp:=by exact Foot.set (i:=0) (x:=jI n') (Foot.refl _ w1) rfl):=h
def C15(h:jp:=by
 have hAN:=hA1.box.ne kN1 B8;have hbN:w.heap.size≠bN:=by have:=kN.lt;omega
 have hl1:w.heap.size<(w.alloc (Obj.cells #[jI v.k,jI v.n,jS v.t] 41)).heap.size:=B7;obtain ⟨n',hw⟩:∃n',IntKind.i64.wrap (n+1)=n':=⟨_,rfl⟩;rw[hw];go_enter func109,ntmps109;go_upto_region 1 with fail;generalize (w.alloc (Obj.cells #[jI v.k,jI v.n,jS v.t] 41))=w1 at *;have d0:=kN1.cell;have d1:=kN1.lt;have d2:=kN1.frozen;go_upto_region 2 with fail;have hf3:Foot (fun k=>k=X\/k=bN) w1 (w1.setCell (jA bN 0) (jI n')):=Foot.set (Foot.refl _ _) (.inr rfl);have hX3:=zbs (x:=jI n') hX1 hNX;have hA3:=hA1.foot (F:=fun k=>k=bN) Bp95 hAN hgN;have kF3:=kF1.set_other (x:=jI n') hFN;have kN3:=kN1.set (jI n');have kb3:=(heap_setCell_other w1 (jA bN 0) w.heap.size (jI n') hbN).trans kb;have hl3:w.heap.size<(w1.setCell (jA bN 0) (jI n')).heap.size:=by simpa using hl1
 clear hX hA kF hX1 hA1 kF1 kN1 kb d0 d1 d2 hl1;generalize w1.setCell (jA bN 0) (jI n')=w3 at *;have hfw:Foot (fun k=>k=X\/k=bN) w w3:=zaf hf3 hb1;obtain ⟨v0,v1,v2⟩:=zaa kb3;obtain ⟨-,-,-,-,-,q5,q6,q7⟩:=hA3.item hx0;simp only[Nat.zero_mul,Nat.zero_add] at q5 q6 q7;exact K15):=h
def D16(h:jp:=by
 have a0:=hA3.box.cell;have al:=hA3.box.lt;have gl:=hA3.lt;go_still_tail 5,(by kernel_rfl);change wpList _ _ _ _ _ w3.drew;have hbd:Below w3.heap.size w3 w3.drew:=jB.drew;go_wp2_with fail;refine jM (HEq.out _) ?_;intro w4 hb4;have hb34:=hbd.trans hb4;have hX4:=hX3.below2 hb34;have kF4:=kF3.below hb34;have kN4:=kN3.below hb34;have hf4:Foot (fun k=>k=X\/k=bN) w w4:=hfw.trans (Foot.of_below hb34);clear hX3 hA3 kF3 kN3 kb3 hb4 hbd hb34 hf3 hfw v0 v1 v2 q5 q6 q7 a0 al gl hl3;rw[he];exact J16):=h
def V49.J16(h:jp:=by
 go_wp2_with fail;exact jY jT (by simp[results,results109,go_sem]) ⟨rfl,hX4,kN4,hf4⟩):=h
def X80.K15(h:jp:=by
 open V49 in exact D16):=h
def V32.J11(h:jp:=by
 have hn0:0<na:=B106;have hX1:=hX.below2 hb1;have hA1:=hA.below hb1;have kF1:=kF.below hb1;have kN1:=kN.below hb1;have hNX:=kN1.ne_at hX1;have hFN:=kF1.ne kN1 B8
 open X80 in exact C15):=h
def V50.J16(h:jp:=by
 have c0:=kF4.cell;have c1:=kN4.cell;have l0:=kF4.lt;have l1:=kN4.lt;go_wp2_with fail;have dd:w4.drew.cell? (jA bF 0)=some (PT X):=c0;have de:w4.drew.cell? (jA bN 0)=some (jI n'):=c1;have df:bF<w4.drew.heap.size:=l0;go_region_held3 (fun w'=>w'.cell? (jA bF 0)=some (PT X)/\w'.cell? (jA bN 0)=some (jI n')/\bF<w'.heap.size)
  (first|with_reducible exact ⟨s1,s2,s3⟩|with_reducible exact ⟨dd,de,df⟩|fail)
  (first
   |(go_at_call 97;refine (HNm.out _ _).mono ?_;rintro e w5 ⟨rfl,hb5⟩;have hb45:Below w4.heap.size w4 w5:=(Below.refl w4.heap.size w4).drew.trans hb5;have kF5:=kF4.below hb45;have kN5:=kN4.below hb45;have s1:=kF5.cell;have s2:=kN5.cell;have s3:=kF5.lt)
   |(go_at_call 78;refine (HE.out _ _ (hX4.below2 hb45)).mono ?_;rintro e w6 ⟨rfl,k1,k2⟩;have s1:=(kF5.foot k2 (kF5.ne_at (hX4.below2 hb45)).symm).cell;have s2:=(kN5.foot k2 hNX.symm).cell;have s3:=jL s3 k2.size))
 all_goals
  go_wp2_with fail;exact jY jT (by simp[results,results109,go_sem]) ⟨rfl,k1,kN5.foot k2 hNX.symm,zdo hf4 (zaf k2 hb45) fun i e=> .inl e⟩):=h
def X81.K15(h:jp:=by
 open V50 in exact D16):=h
def V33.J11(h:jp:=by
 have hn0:0<na:=B106;have hX1:=hX.below2 hb1;have hA1:=hA.below hb1;have kF1:=kF.below hb1;have kN1:=kN.below hb1;have hNX:=kN1.ne_at hX1;have hFN:=kF1.ne kN1 B8
 open X81 in exact C15):=h
def B62(h:jp:=by simp[results,results153,go_sem]):=h
def B66(h:jp:=by first|omega|(have:sep.data.toList.length=sep.size:=rfl;rw[List.length_append];omega)):=h
def B187(h:jp:=by have:=of_decide_eq_false tl;rw[hln] at this;omega):=h
def B189(h:jp:=by have:=of_decide_eq_true tl;rw[hln] at this;omega):=h
def M87(h:jp:=by
 go_wp2_with fail;refine (HF.out _ hX5).mono ?_;rintro e w6 ⟨rfl,k1,k2⟩;go_wp2_with fail;exact jY jT B62 ⟨rfl,by rw[tl];exact k1,kO5.foot k2 m2.symm,_,kB5.foot k2 m1.symm,by rw[hln];exact own5.kept (row:=some X) ⟨k2.os,k2.tape,k2.output,k2.size,fun k hk hn=>k2.block k hk fun e=>hn B196⟩ (.inr n15),hf5.trans (k2.mono fun i _ e=> .inl e),hbl5⟩):=h
def M154(h:jp:=by
 cases skips <;> cases cell <;> cases tk:(v.k==0)
 all_goals first
  |(exfalso;rw[tk] at hk;cases hk;done)
  |(go_wp2_with fail
    go_meet;exact ⟨rfl,rfl⟩)):=h
def M196(h:jp:=by
 go_wp2_with fail;exact jY jT B62 ⟨rfl,by rw[tl];exact hX5,kO5,_,kB5,by rw[hln];exact own5,hf5,hbl5⟩):=h
def C20(h:jp:=by
 have HT:=jH fun (u:World) (hu:Below w.heap.size w u)=>zbu v u hv (hW.below hu);have HF:=jH fun (u:World) (hX:Fd.At u X h)=>za6 X h 4 u hX;have hts:=zak hv;have m1:=kB.ne_at hX;have m2:=kO.ne_at hX;have c0:=kK.cell;have l0:=kK.lt;have hb1:Below w.heap.size w (w.alloc (Obj.cells #[jI v.k,jI v.n,jS v.t] 41)):=below1 _ _;generalize Val.asText v=nc at *;obtain ⟨s,c⟩:=nc;simp only at hc hts ⊢;have tc:(c !=0)=false:=B148;obtain ⟨sa,sc,rfl⟩:∃a c,sv= .slice a b.length c:=by
  exact M16
 have bFB:bF≠bB:=kF.ne kB B8;have bOB:bO≠bB:=kO.ne kB B8;have bSB:bS≠bB:=kS.ne kB B8;have bFO:bF≠bO:=kF.ne kO B8;have bSO:bS≠bO:=kS.ne kO B8;go_enter func153,ntmps153;go_upto_region 1 with fail;have kK1:=(kK.below hb1).cell;have hK1:=(kK.below hb1).lt;have kb1:=heap_alloc_new w (Obj.cells #[jI v.k,jI v.n,jS v.t] 41);have hl1:w.heap.size<(w.alloc (Obj.cells #[jI v.k,jI v.n,jS v.t] 41)).heap.size:=B7;generalize (w.alloc (Obj.cells #[jI v.k,jI v.n,jS v.t] 41))=w1 at *;exact K20):=h
def D7(h:jp:=by
 have hX5:=hX4.foot ft5 (by rintro (e|e);exact m1 e;exact n14 e);have kF5:=kF4.foot ft5 (by rintro (e|e);exact bFB e;exact n24 e);have kO5:=kO4.foot ft5 (by rintro (e|e);exact bOB e;exact n34 e);have kS5:=kS4.foot ft5 (by rintro (e|e);exact bSB e;exact n44 e);have n15:=q5 X hX4.lt n14;have n25:=q5 bF kF4.lt n24;have n35:=q5 bO kO4.lt n34;have n45:=q5 bS kS4.lt n44;have HR5:=jH hr5;have cB5:=kB4.cell;have cq5:=kq5.cell;have fq5:=kq5.frozen;have lq5:=kq5.lt;have lB5:=kB4.lt;clear hr5;go_upto_region 9 with (first|(at_builtin;refine list_append rfl (.tmp 34) (.tmp 35) 179 9 rfl _ _ rfl rfl _ _ HR5.out ?_)|fail);generalize World.setCell u5' _ _=w5 at *;clear HR5 cB5 cq5 fq5 lq5 lB5 kq5 q5;have hs24:w.heap.size<=w4.heap.size:=hf4.size;exact J7):=h
def V22.J7(h:jp:=by
 have hf5:=hf4.next ft5 (fun i hi e=>by
  rcases e with e|e
  .exact .inr (.inr (.inl e))
  .rcases own2b i e with h|h
   .exact .inr (.inr (.inr h))
   .omega)
 have hbl5:∀k,Value.ownBlock (.slice a5 ((b.length)+s.size) c5)=some k->Value.ownBlock (.slice sa b.length sc)=some k\/w.heap.size<=k:=fun k e=>by
  rcases bl5 k e with h|h
  .exact own2b k h
  .exact .inr (jR hs24 h)
 have r0:=kB5.cell;have r1:=kB5.lt;have r2:=kF5.cell;have r3:=kF5.lt;have hln:((b)++s.data.toList).length=b.length+s.size:=by simp only[List.length_append];rfl
 cases tl:decide (32767<((b)++s.data.toList).length)
 .have tl2:decide ((32767:Int)<(b.length:Int)+(s.size:Int))=false:=decide_eq_false B187;exact M196
 .have tl2:decide ((32767:Int)<(b.length:Int)+(s.size:Int))=true:=decide_eq_true B189;exact M87):=h
def Da4(h:jp:=by
 obtain ⟨rfl,rfl⟩:=hcut;clear kK1 hK1 hk c0 l0;go_wp2_with fail;refine jM (HT.out _ hb1) ?_;intro w2 hb;have hbw:=jN hb1 hb;have hX2:=hX.below2 hbw;have kF2:=kF.below hbw;have kO2:=kO.below hbw;have kB2:=kB.below hbw;have kS2:=kS.below hbw;have own2:=own_bel hown hbw;have hf2:Foot (fun k=>k=X\/k=bO\/k=bB\/Value.ownBlock (.slice sa b.length sc)=some k) w w2:=Foot.of_below hbw;have ne2:=hne;have n12:=n1;have n22:=n2;have n32:=n3;have n42:=n4;have hsz2:w.heap.size<=w2.heap.size:=hbw.size;have o0:=kO2.cell;have o1:=kO2.lt;clear hb1 hb hbw hX kF kO kB kS hown HT hv hW v0 v1 v2 kb1 hl1 kK;exact Ja4):=h
def Va9.Ja4(h:jp:=by
 go_upto_region 7 with fail;have own2b:∀k,Value.ownBlock (.slice sa b.length sc)=some k->Value.ownBlock (.slice sa b.length sc)=some k\/w.heap.size<=k:=fun k e=> .inl e;clear o0 o1;have o0:=kO2.cell;have o1:=kO2.lt;have o2:=kO2.frozen;go_upto_region 8 with fail;have hX4:=zbs (x:= .bool true) hX2 m2;have kF4:=kF2.set_other (x:= .bool true) bFO;have kO4:=kO2.set (.bool true);have kB4:=kB2.set_other (x:= .bool true) bOB.symm;have kS4:=kS2.set_other (x:= .bool true) bSO;have own4:=own2.kept (row:=some bO) (zcj w2 bO 0 (.bool true)) (.inr n32);have hf4:=hf2.set (i:=0) (x:= .bool true) (B:=bO) (.inr (.inl rfl));have hs4:w2.heap.size<=(w2.setCell (jA bO 0) (.bool true)).heap.size:=B7;generalize World.setCell w2 _ _=w4 at *;have ne4:=ne2;have n14:=n12;have n24:=n22;have n34:=n32;have n44:=n42;clear o0 o1 o2;obtain ⟨a5,c5,u5',hr5,kq5,kB5,own5,ne5,ft5,bl5⟩:=zya w4 bB (.slice sa b.length sc) (b) (b.length) s 179 (rfl) kB4 own4 ne4 B66 B1;have q5:∀z,z<w4.heap.size->Value.ownBlock (.slice sa b.length sc)≠some z->Value.ownBlock (.slice a5 ((b.length)+s.size) c5)≠some z:=fun z hz hn e=>by
  rcases bl5 z e with h|h
  .exact hn h
  .omega
 open V22 in exact D7):=h
def X99.K20(h:jp:=by
 obtain ⟨v0,v1,v2⟩:=zaa kb1;go_cut [19] (fun s wx=>s= .bool false/\w1=wx)
 case first=>
  exact M154
 case rest=>
 open Va9 in exact Da4):=h
def V23.J7(h:jp:=by
 have hf5:=hf4.next ft5 (fun i hi e=>by
  rcases e with e|e
  .exact .inr (.inr (.inl e))
  .rcases own3b i e with h|h
   .exact .inr (.inr (.inr h))
   .omega)
 have hbl5:∀k,Value.ownBlock (.slice a5 ((b.length+sep.size)+s.size) c5)=some k->Value.ownBlock (.slice sa b.length sc)=some k\/w.heap.size<=k:=fun k e=>by
  rcases bl5 k e with h|h
  .exact own3b k h
  .exact .inr (jR hs24 h)
 have r0:=kB5.cell;have r1:=kB5.lt;have r2:=kF5.cell;have r3:=kF5.lt;have hln:((b++sep.data.toList)++s.data.toList).length=b.length+sep.size+s.size:=by simp only[List.length_append];rfl
 cases tl:decide (32767<((b++sep.data.toList)++s.data.toList).length)
 .have tl2:decide ((32767:Int)<(b.length:Int)+(sep.size:Int)+(s.size:Int))=false:=decide_eq_false B187;exact M196
 .have tl2:decide ((32767:Int)<(b.length:Int)+(sep.size:Int)+(s.size:Int))=true:=decide_eq_true B189;exact M87):=h
def Va10.Ja4(h:jp:=by
 have p0:=kS2.cell;have p1:=kS2.lt;obtain ⟨a3,c3,u3',hr3,kq3,kB3,own3,ne3,ft3,bl3⟩:=zya w2 bB (.slice sa b.length sc) (b) (b.length) sep 179 (rfl) kB2 own2 ne2 B66 B1;have q3:∀z,z<w2.heap.size->Value.ownBlock (.slice sa b.length sc)≠some z->Value.ownBlock (.slice a3 ((b.length)+sep.size) c3)≠some z:=fun z hz hn e=>by
  rcases bl3 z e with h|h
  .exact hn h
  .omega
 have hX3:=hX2.foot ft3 (by rintro (e|e);exact m1 e;exact n12 e);have kF3:=kF2.foot ft3 (by rintro (e|e);exact bFB e;exact n22 e);have kO3:=kO2.foot ft3 (by rintro (e|e);exact bOB e;exact n32 e);have kS3:=kS2.foot ft3 (by rintro (e|e);exact bSB e;exact n42 e);have n13:=q3 X hX2.lt n12;have n23:=q3 bF kF2.lt n22;have n33:=q3 bO kO2.lt n32;have n43:=q3 bS kS2.lt n42;have HR3:=jH hr3;have cB3:=kB2.cell;have cq3:=kq3.cell;have fq3:=kq3.frozen;have lq3:=kq3.lt;have lB3:=kB2.lt;clear hr3;go_upto_region 7 with (first|(at_builtin;refine list_append rfl (.tmp 31) (.tmp 32) 179 9 rfl _ _ rfl rfl _ _ HR3.out ?_)|fail);generalize World.setCell u3' _ _=w3 at *;clear HR3 cB3 cq3 fq3 lq3 lB3 kq3 q3;clear p0 p1;have hf3:=hf2.trans (ft3.mono (G:=fun k=>k=X\/k=bO\/k=bB\/Value.ownBlock (.slice sa b.length sc)=some k) fun i _ e=>e.elim (fun e=> .inr (.inr (.inl e))) fun e=> .inr (.inr (.inr e)));have own3b:∀k,Value.ownBlock (.slice a3 (b.length+sep.size) c3)=some k->Value.ownBlock (.slice sa b.length sc)=some k\/w.heap.size<=k:=fun k e=>(bl3 k e).imp_right fun h=>jR hsz2 h;clear o0 o1;have o0:=kO3.cell;have o1:=kO3.lt;have o2:=kO3.frozen;go_upto_region 8 with fail;have hX4:=zbs (x:= .bool true) hX3 m2;have kF4:=kF3.set_other (x:= .bool true) bFO;have kO4:=kO3.set (.bool true);have kB4:=kB3.set_other (x:= .bool true) bOB.symm;have kS4:=kS3.set_other (x:= .bool true) bSO;have own4:=own3.kept (row:=some bO) (zcj w3 bO 0 (.bool true)) (.inr n33);have hf4:=hf3.set (i:=0) (x:= .bool true) (B:=bO) (.inr (.inl rfl));have hs4:w3.heap.size<=(w3.setCell (jA bO 0) (.bool true)).heap.size:=B7;generalize World.setCell w3 _ _=w4 at *;have ne4:=ne3;have n14:=n13;have n24:=n23;have n34:=n33;have n44:=n43;clear o0 o1 o2;obtain ⟨a5,c5,u5',hr5,kq5,kB5,own5,ne5,ft5,bl5⟩:=zya w4 bB (.slice a3 (b.length+sep.size) c3) (b++sep.data.toList) (b.length+sep.size) s 179 (by rw[List.length_append];rfl) kB4 own4 ne4 B66 B1;have q5:∀z,z<w4.heap.size->Value.ownBlock (.slice a3 (b.length+sep.size) c3)≠some z->Value.ownBlock (.slice a5 ((b.length+sep.size)+s.size) c5)≠some z:=fun z hz hn e=>by
  rcases bl5 z e with h|h
  .exact hn h
  .omega
 open V23 in exact D7):=h
def X100.K20(h:jp:=by
 obtain ⟨v0,v1,v2⟩:=zaa kb1;go_cut [19] (fun s wx=>s= .bool false/\w1=wx)
 case first=>
  exact M154
 case rest=>
 open Va10 in exact Da4):=h
theorem zr2(X gF gA p0 p1 p2:Nat)(v:Val.V)(cell:Bool)(w:World)(bF:Box w gF (PT X))(bA:Box w gA (.func (.func 94) #[] #[PT p0,PT p1,PT p2]))(hv:VB v)(hN:NumW w)(Q:World->Prop)(H1:cell=true->(v.k==4)=true->∀u,Below w.heap.size w u->Calls prog 78 #[PT X,VL v] u fun e w'=>e=jr jT/\Q w')(H2:cell=true->(v.k==4)=false->(v.k==1)=true->∀u,Below w.heap.size w u->Calls prog 94 #[jI v.n,PT p0,PT p1,PT p2] u fun e w'=>e=jr jT/\Q w')(H3:cell=true->(v.k==4)=false->(v.k==1)=false->∀u,Below w.heap.size w u->Q u)(H4:cell=false->((Val.number v).2==0)=true->∀u,Below w.heap.size w u->Calls prog 94 #[jI (Val.number v).1,PT p0,PT p1,PT p2] u fun e w'=>e=jr jT/\Q w')(H5:cell=false->((Val.number v).2==0)=false->∀u,Below w.heap.size w u->Calls prog 101 #[PT X,jI (Val.number v).2] u fun e w'=>e=jr jT/\Q w'):
 Calls prog 144 #[VL v,.bool cell,PT gF,PT gA] w fun e w'=>e=jr jT/\Q w':=by
 exact M6
theorem zn8(X gF gA p0 p1:Nat)(v:Val.V)(cell:Bool)(w:World)(bF:Box w gF (PT X))(bA:Box w gA (.func (.func 99) #[] #[PT p0,PT p1]))(hv:VB v)(hN:NumW w)(Q:World->Prop)(H1:cell=true->(v.k==4)=true->∀u,Below w.heap.size w u->Calls prog 78 #[PT X,VL v] u fun e w'=>e=jr jT/\Q w')(H2:cell=true->(v.k==4)=false->(v.k==1)=true->∀u,Below w.heap.size w u->Calls prog 99 #[jI v.n,PT p0,PT p1] u fun e w'=>e=jr jT/\Q w')(H3:cell=true->(v.k==4)=false->(v.k==1)=false->∀u,Below w.heap.size w u->Q u)(H4:cell=false->((Val.number v).2==0)=true->∀u,Below w.heap.size w u->Calls prog 99 #[jI (Val.number v).1,PT p0,PT p1] u fun e w'=>e=jr jT/\Q w')(H5:cell=false->((Val.number v).2==0)=false->∀u,Below w.heap.size w u->Calls prog 101 #[PT X,jI (Val.number v).2] u fun e w'=>e=jr jT/\Q w'):
 Calls prog 144 #[VL v,.bool cell,PT gF,PT gA] w fun e w'=>e=jr jT/\Q w':=by
 exact M6
theorem zn6(X gF gA p0:Nat)(v:Val.V)(cell:Bool)(w:World)(bF:Box w gF (PT X))(bA:Box w gA (.func (.func 147) #[] #[PT p0]))(hv:VB v)(hN:NumW w)(Q:World->Prop)(H1:cell=true->(v.k==4)=true->∀u,Below w.heap.size w u->Calls prog 78 #[PT X,VL v] u fun e w'=>e=jr jT/\Q w')(H2:cell=true->(v.k==4)=false->(v.k==1)=true->∀u,Below w.heap.size w u->Calls prog 147 #[jI v.n,PT p0] u fun e w'=>e=jr jT/\Q w')(H3:cell=true->(v.k==4)=false->(v.k==1)=false->∀u,Below w.heap.size w u->Q u)(H4:cell=false->((Val.number v).2==0)=true->∀u,Below w.heap.size w u->Calls prog 147 #[jI (Val.number v).1,PT p0] u fun e w'=>e=jr jT/\Q w')(H5:cell=false->((Val.number v).2==0)=false->∀u,Below w.heap.size w u->Calls prog 101 #[PT X,jI (Val.number v).2] u fun e w'=>e=jr jT/\Q w'):
 Calls prog 144 #[VL v,.bool cell,PT gF,PT gA] w fun e w'=>e=jr jT/\Q w':=by
 exact M6
section
variable(X ba g na ca bN bF:Nat)(h:FH)(l:List Ma.Arg)(x0:Ma.Arg)(n:Int)(v:Val.V)(cell:Bool)(w:World)(hX:Fd.At w X h)(hA:ArgsAt w ba g na ca l)(hx0:l[0]?=some x0)(kN:Box w bN (jI n))(kF:Box w bF (PT X))(hgN:g≠bN)
include X ba g na ca bN bF h l x0 n v cell w hX hA hx0 kN kF hgN
theorem match_no(he:Ma.equal x0.v v=false):Calls prog 109 #[VL v,.bool cell,PT bN,PT ba,PT bF] w fun e w'=>e=jr jT/\Fd.At w' X h/\Box w' bN (jI (IntKind.i64.wrap (n+1)))/\Foot (fun k=>k=X\/k=bN) w w':=by
 have HEq:=jH fun (u:World)=>zdq x0.v v u
 open V32 in exact D11
theorem zu6(he:Ma.equal x0.v v=true):Calls prog 109 #[VL v,.bool cell,PT bN,PT ba,PT bF] w fun e w'=>e=jr jT/\Fd.At w' X (h.ends ⟨1,IntKind.i64.wrap (n+1),⟨#[]⟩⟩)/\Box w' bN (jI (IntKind.i64.wrap (n+1)))/\Foot (fun k=>k=X\/k=bN) w w':=by
 have HE:=jH fun (z:Int) (u:World) (hX:Fd.At u X h)=>ends_any X h ⟨1,z,⟨#[]⟩⟩ u hX;have HNm:=jH fun (z:Int) (u:World)=>zbi z u;have HEq:=jH fun (u:World)=>zdq x0.v v u
 open V33 in exact D11
end
theorem zya(w:World)(bB:Nat)(sv:Value)(b:List UInt8)(n:Nat)(t:ByteArray)(ty:TypeId)(hn:n=b.length)(hB:Box w bB sv)(hown:w.ownsRow 0 5 1 sv n (bytC b))(hne:sv.ownBlock≠some bB)(hl:b.length<=10000000)(ht:t.size<=10000000):
 ∃a' c' w',(Builtin.append_ #[179,9] ty #[sv,jS t]).run prog w= .ok (.slice a' (n+t.size) c') w'/\Box w' bB sv/\Box (w'.setCell (jA bB 0) (.slice a' (n+t.size) c')) bB (.slice a' (n+t.size) c')/\
  (w'.setCell (jA bB 0) (.slice a' (n+t.size) c')).ownsRow 0 5 1 (.slice a' (n+t.size) c') (n+t.size) (bytC (b++t.data.toList))/\Value.ownBlock (.slice a' (n+t.size) c')≠some bB/\
  Foot (fun k=>k=bB\/sv.ownBlock=some k) w (w'.setCell (jA bB 0) (.slice a' (n+t.size) c'))/\(∀k,Value.ownBlock (.slice a' (n+t.size) c')=some k->sv.ownBlock=some k\/w.heap.size<=k):=by
 subst hn;obtain ⟨i0,hi,hz0,hz1,hz2⟩:=info_parts info8;obtain ⟨v',w',hrun,hown2,hgrow,_⟩:=Lib.run_append_own_string (P:=prog) w 0 179 9 ty 5 i0 underlying179 underlying9 hi hz0 hz1 hz2 sv _ _ hown t B53 B1 (Nat.zero_le _);have hblk:=zg1 0 179 9 ty 5 i0 underlying179 underlying9 hi hz0 hz1 hz2 sv _ _ hown t B53 B1 v' w' hrun;have hB2:Box w' bB sv:=hB.foot (F:=fun k=>sv.ownBlock=some k) (Foot.of_grown hgrow fun k e=>e) hne;have hnb:v'.ownBlock≠some bB:=fun e=>by
  rcases hblk bB e with h|h
  .exact hne h
  .have:=hB.lt;omega
 have hcc:bytC b++Lib.strCells t=bytC (b++t.data.toList):=by unfold bytC Lib.strCells;rw[List.map_append]
 rw[hcc] at hown2;obtain ⟨a',c',rfl⟩:∃a' c',v'= .slice a' (b.length+t.size) c':=by
  rcases hown2.2 with ⟨rfl,h0⟩|⟨g,cap,cur,rfl,_⟩
  .exact ⟨_,_,by rw[h0]⟩
  .exact ⟨_,_,rfl⟩
 exact ⟨a',c',w',hrun,hB2,hB2.set _,hown2.kept (row:=some bB) (zcj _ _ _ _) (.inr hnb),hnb,Foot.set (Foot.of_grown hgrow fun k e=> .inr e) (.inl rfl),hblk⟩
section
variable(X bK bF bO bB bS:Nat)(skips:Bool)(v:Val.V)(cell:Bool)(w:World)
include X bK bF bO bB bS skips v cell w
theorem zqr(kK:Box w bK (.bool skips))(hk:(skips&&cell&&v.k==0)=true):Ret 153 #[VL v,.bool cell,PT bK,PT bF,PT bO,PT bB,PT bS] w jT:=by
 simp only[Bool.and_eq_true] at hk;obtain ⟨⟨rfl,rfl⟩,hk⟩:=hk;have c0:=kK.cell;have l0:=kK.lt;have hb1:Below w.heap.size w (w.alloc (Obj.cells #[jI v.k,jI v.n,jS v.t] 41)):=below1 _ _;go_enter func153,ntmps153;go_wp2_with fail;exact jX jT B62 ⟨rfl,hb1⟩
theorem zqt(kK:Box w bK (.bool skips))(kF:Box w bF (PT X))(hk:(skips&&cell&&v.k==0)=false)(hv:VB v)(hW:NumW w)(hc:((Val.asText v).2==0)=false)(Q:World->Prop)(H:∀u,Below w.heap.size w u->Calls prog 101 #[PT X,jI (Val.asText v).2] u fun e w'=>e=jr jT/\Q w'):Calls prog 153 #[VL v,.bool cell,PT bK,PT bF,PT bO,PT bB,PT bS] w fun e w'=>e=jr jT/\Q w':=by
 have HT:=jH fun (u:World) (hu:Below w.heap.size w u)=>zbu v u hv (hW.below hu);have K:=jH H;clear H;have c0:=kK.cell;have l0:=kK.lt;have hb1:Below w.heap.size w (w.alloc (Obj.cells #[jI v.k,jI v.n,jS v.t] 41)):=below1 _ _;generalize Val.asText v=nc at *;obtain ⟨s,c⟩:=nc;simp only at hc K;have tc:(c !=0)=true:=B148;cases skips <;> cases cell <;> cases tk:(v.k==0)
 all_goals first
  |(exfalso;rw[tk] at hk;cases hk;done)
  |(go_enter func153,ntmps153
    go_wp2_with fail;refine jM (HT.out _ hb1) ?_;intro w1 hb;have hbw:=jN hb1 hb;have d0:=(kF.below hbw).cell;go_wp2_with fail;refine jM (K.out _ hbw) ?_;intro w2 hq;go_wp2_with fail;exact jX jT B62 ⟨rfl,hq⟩)
section
variable(h:FH)(sv:Value)(b:List UInt8)(sep:ByteArray)(hX:Fd.At w X h)(kK:Box w bK (.bool skips))(kF:Box w bF (PT X))
include h sv b sep hX kK kF
theorem zi2(kO:Box w bO (.bool false))(kB:Box w bB sv)(kS:Box w bS (jS sep))(hown:w.ownsRow 0 5 1 sv b.length (bytC b))(hne:sv.ownBlock≠some bB)(n1:sv.ownBlock≠some X)(n2:sv.ownBlock≠some bF)(n3:sv.ownBlock≠some bO)(n4:sv.ownBlock≠some bS)(hl:b.length<=32767)(hsep:sep.size<=32767)(hk:(skips&&cell&&v.k==0)=false)(hv:VB v)(hW:NumW w)(hc:((Val.asText v).2==0)=true):
 Calls prog 153 #[VL v,.bool cell,PT bK,PT bF,PT bO,PT bB,PT bS] w fun e w'=>e=jr jT/\Fd.At w' X (cond (decide (32767<(b++(Val.asText v).1.data.toList).length)) (h.fails 4) h)/\Box w' bO (.bool true)/\∃sv',Box w' bB sv'/\w'.ownsRow 0 5 1 sv' (b++(Val.asText v).1.data.toList).length (bytC (b++(Val.asText v).1.data.toList))/\Foot (fun k=>k=X\/k=bO\/k=bB\/sv.ownBlock=some k) w w'/\(∀k,sv'.ownBlock=some k->sv.ownBlock=some k\/w.heap.size<=k):=by
 open X99 in exact C20
theorem zj7(kO:Box w bO (.bool true))(kB:Box w bB sv)(kS:Box w bS (jS sep))(hown:w.ownsRow 0 5 1 sv b.length (bytC b))(hne:sv.ownBlock≠some bB)(n1:sv.ownBlock≠some X)(n2:sv.ownBlock≠some bF)(n3:sv.ownBlock≠some bO)(n4:sv.ownBlock≠some bS)(hl:b.length<=32767)(hsep:sep.size<=32767)(hk:(skips&&cell&&v.k==0)=false)(hv:VB v)(hW:NumW w)(hc:((Val.asText v).2==0)=true):
 Calls prog 153 #[VL v,.bool cell,PT bK,PT bF,PT bO,PT bB,PT bS] w fun e w'=>e=jr jT/\Fd.At w' X (cond (decide (32767<(b++sep.data.toList++(Val.asText v).1.data.toList).length)) (h.fails 4) h)/\Box w' bO (.bool true)/\∃sv',Box w' bB sv'/\w'.ownsRow 0 5 1 sv' (b++sep.data.toList++(Val.asText v).1.data.toList).length (bytC (b++sep.data.toList++(Val.asText v).1.data.toList))/\Foot (fun k=>k=X\/k=bO\/k=bB\/sv.ownBlock=some k) w w'/\(∀k,sv'.ownBlock=some k->sv.ownBlock=some k\/w.heap.size<=k):=by
 open X100 in exact C20
end
end
structure Like(h:FH)(x:Ma.FZ):Prop where
 i:h.i=(x.i:Int)
 pos:h.pos=(x.pos:Int)
 hr:h.hr=x.here.r
 hc:h.hc=x.here.c
 nr:h.nr=x.next.r
 nc:h.nc=x.next.c
 wants:h.wants=x.wants
 over:h.over=x.over
 fk:h.fk=x.fin.k
 fi:h.fi=x.fin.n
 ft:h.ft=x.fin.t
theorem Like.ends{h:FH}{x:Ma.FZ}(k:Like h x)(v:Val.V):Like (h.ends v) (x.ends v):=by
 obtain ⟨a1,a2,a3,a4,a5,a6,a7,a8,a9,a10,a11⟩:=k;unfold FH.ends Ma.FZ.ends;rw[a8];cases x.over
 .exact ⟨a1,a2,a3,a4,a5,a6,rfl,rfl,rfl,rfl,rfl⟩
 .exact ⟨a1,a2,a3,a4,a5,a6,a7,a8,a9,a10,a11⟩
theorem Like.fails{h:FH}{x:Ma.FZ}(k:Like h x)(e:Int):Like (h.fails e) (x.fails e):=k.ends _
theorem ends_same(h:FH)(v:Val.V):(h.ends v).tk=h.tk/\(h.ends v).fn=h.fn/\(h.ends v).th=h.th/\(h.ends v).items=h.items:=by
 unfold FH.ends;cases h.over <;> exact ⟨rfl,rfl,rfl,rfl⟩
structure Core(w:World)(F:Nat->Prop)(X:Nat)(x:Ma.FZ)(h:FH):Prop where
 cells:Fd.At w X h
 like:Like h x
 fx:F X
 lt:∀k,F k->k<w.heap.size
theorem Core.below{w w':World}{F:Nat->Prop}{X:Nat}{x:Ma.FZ}{h:FH}(k:Core w F X x h)(hb:Below w.heap.size w w'):Core w' F X x h:=⟨k.cells.below2 hb,k.like,k.fx,fun i hi=>jL (k.lt i hi) hb.size⟩
abbrev Cl(id:FuncId)(bs:Array Value):Value:= .func (.func id) #[] bs
def FBox(w:World)(F:Nat->Prop)(b:Nat)(v:Value):Prop:=Box w b v/\F b
theorem FBox.below{w w':World}{F:Nat->Prop}{b:Nat}{v:Value}(h:FBox w F b v)(hb:Below w.heap.size w w'):FBox w' F b v:=⟨h.1.below hb,h.2⟩
theorem FBox.foot{w w':World}{F G:Nat->Prop}{b:Nat}{v:Value}(h:FBox w F b v)(hf:Foot G w w')(hn:¬G b):FBox w' F b v:=⟨h.1.foot hf hn,h.2⟩
def TQ(S:(Nat->Prop)->World->Ma.FZ->Value->Prop)(w:World)(F:Nat->Prop)(X:Nat)(h:FH)(y:Ma.FZ)(w':World):Prop:=∃F' h',Core w' F' X y h'/\h'.tk=h.tk/\h'.fn=h.fn/\h'.items=h.items/\(y.over=false->S F' w' y h'.th)/\Foot F w w'/\∀k,F' k->F k\/w.heap.size<=k
def Bp80(h:jp:=by exact hC.cells.below2 hu):=h
section
variable(S:(Nat->Prop)->World->Ma.FZ->Value->Prop){w u:World}{F:Nat->Prop}{X:Nat}{x:Ma.FZ}{h:FH}(hC:Core w F X x h)
include S w u F X x h hC
theorem TQ.ends(v:Val.V)(hu:Below w.heap.size w u):Calls prog 78 #[PT X,VL v] u fun e w'=>e=jr jT/\TQ S w F X h (x.ends v) w':=by
 refine (ends_any X h v u Bp80).mono ?_;rintro e w' ⟨rfl,q1,q2⟩;have hfo:Foot F w w':=zaf (q2.mono fun i _ e=>by rw[e];exact hC.fx) hu;have hs:=ends_same h v;exact ⟨rfl,F,_,⟨q1,hC.like.ends v,hC.fx,fun k hk=>jL (hC.lt k hk) hfo.size⟩,hs.1,hs.2.1,hs.2.2.2,fun e=>absurd ((show (x.ends v).over=true from Ma.FZ.zax).symm.trans e) B3,hfo,fun k hk=> .inl hk⟩
theorem TQ.fails(n:Int)(hu:Below w.heap.size w u):Calls prog 101 #[PT X,jI n] u fun e w'=>e=jr jT/\TQ S w F X h (x.fails n) w':=by
 refine (za6 X h n u Bp80).mono ?_;rintro e w' ⟨rfl,q1,q2⟩;have hfo:Foot F w w':=zaf (q2.mono fun i _ e=>by rw[e];exact hC.fx) hu;have hs:=ends_same h ⟨4,n,⟨#[]⟩⟩;exact ⟨rfl,F,_,⟨q1,hC.like.fails n,hC.fx,fun k hk=>jL (hC.lt k hk) hfo.size⟩,hs.1,hs.2.1,hs.2.2.2,fun e=>absurd ((show (x.fails n).over=true from Ma.FZ.zax).symm.trans e) B3,hfo,fun k hk=> .inl hk⟩
end
section
variable{S:(Nat->Prop)->World->Ma.FZ->Value->Prop}
include S
theorem TQ.none{w u:World}{F:Nat->Prop}{X:Nat}{x:Ma.FZ}{h:FH}(hC:Core w F X x h)(hu:Below w.heap.size w u)(hS:S F u x h.th):TQ S w F X h x u:=⟨F,h,hC.below hu,rfl,rfl,rfl,fun _=>hS,Foot.of_below hu,fun k hk=> .inl hk⟩
theorem TQ.mk{w w':World}{F:Nat->Prop}{X:Nat}{x y:Ma.FZ}{h h':FH}(hC:Core w F X x h)(hX:Fd.At w' X h')(hL:Like h' y)(e1:h'.tk=h.tk)(e2:h'.fn=h.fn)(e3:h'.items=h.items)(hS:y.over=false->S F w' y h'.th)(hf:Foot F w w'):TQ S w F X h y w':=
 ⟨F,h',⟨hX,hL,hC.fx,fun k hk=>jL (hC.lt k hk) hf.size⟩,e1,e2,e3,hS,hf,fun k hk=> .inl hk⟩
end
def SumAt(w:World)(F:Nat->Prop)(X:Nat)(f n all:Int)(tk fn:Value):Prop:=∃bU bF bN bA gF gA,tk=Cl 144 #[PT gF,PT gA]/\fn=Cl 96 #[PT bU,PT bA,PT bN]/\
 FBox w F bU (jI f)/\FBox w F bF (PT X)/\FBox w F bN (jI n)/\FBox w F bA (jI all)/\FBox w F gF (PT X)/\FBox w F gA (Cl 94 #[PT bN,PT bF,PT bA])/\bN≠bA/\bU≠bN/\bU≠bA
theorem SumAt.below{w w':World}{F:Nat->Prop}{X:Nat}{f n all:Int}{tk fn:Value}(h:SumAt w F X f n all tk fn)(hb:Below w.heap.size w w'):SumAt w' F X f n all tk fn:=by
 obtain ⟨bU,bF,bN,bA,gF,gA,e1,e2,k1,k2,k3,k4,k5,k6,r⟩:=h;exact ⟨bU,bF,bN,bA,gF,gA,e1,e2,k1.below hb,k2.below hb,k3.below hb,k4.below hb,k5.below hb,k6.below hb,r⟩
def SumS(X:Nat)(tk fn:Value)(F:Nat->Prop)(w:World)(y:Ma.FZ)(th:Value):Prop:=SumAt w F X y.f y.n y.all tk fn/\th= .nilFunc
def Bp2(h:jp:=by exact ⟨hL.i,hL.pos,hL.hr,hL.hc,hL.nr,hL.nc,hL.wants,hL.over,hL.fk,hL.fi,hL.ft⟩):=h
def Bp11(h:jp:=by exact ⟨hC.like.i,hC.like.pos,hC.like.hr,hC.like.hc,hC.like.nr,hC.like.nc,hC.like.wants,hC.like.over,hC.like.fk,hC.like.fi,hC.like.ft⟩):=h
def Bp84(h:jp:=by exact this.symm.trans e):=h
def M126(h:jp:=by
 have:x.gather v cell=x.fails (Val.number v).2:=by unfold Ma.FZ.gather;rw[hc,h2];rfl
 rw[this];exact TQ.fails _ hC _ hu):=h
def M141(h:jp:=by
 have:x.gather v cell=x.ends v:=by unfold Ma.FZ.gather;rw[hc,h4];rfl
 rw[this];exact TQ.ends _ hC v hu):=h
def M193(h:jp:=by
 have:x.gather v cell=x.add (Val.number v).1:=by unfold Ma.FZ.gather;rw[hc,h2];rfl
 rw[this];exact ADD _ hfn u hu):=h
def M199(h:jp:=by
 have:x.gather v cell=x.add v.n:=by unfold Ma.FZ.gather;rw[hc,h4,h1];rfl
 rw[this];exact ADD v.n hfv u hu):=h
def B144(h:jp:=by rw[hf];rfl):=h
def C12(h:jp:=by
 have END:∀e w',e=Ending.returned (VL (x.finish sortI))/\Below w.heap.size w w'->e=Ending.returned (VL (x.finish sortI))/\Core w' F X x h/\Foot F w w':=fun e w' ⟨he,hb⟩=> ⟨he,hC.below hb,Foot.of_below hb⟩;exact K12):=h
def X66.K12(h:jp:=by
 rcases hf with hf|hf
 .have:x.finish sortI=⟨1,x.all,⟨#[]⟩⟩:=by unfold Ma.FZ.finish;rw[if_pos (.inl hf)];rfl
  rw[this] at END ⊢;exact (zok bU bA bN x.f x.all x.n w k1.1 k4.1 k3.1 B144).mono END
 .cases hz:(x.n==0)
  .have:x.finish sortI=⟨1,x.all.tdiv x.n,⟨#[]⟩⟩:=by unfold Ma.FZ.finish;rw[if_neg B1,if_pos hf,hz];rfl
   rw[this] at END ⊢;exact (zoj bU bA bN x.f x.all x.n w k1.1 k4.1 k3.1 B144 hz hn hall).mono END
  .have:x.finish sortI=⟨4,5,⟨#[]⟩⟩:=by unfold Ma.FZ.finish;rw[if_neg B1,if_pos hf,hz];rfl
   rw[this] at END ⊢;exact (zmi bU bA bN x.f x.all x.n w k1.1 k4.1 k3.1 B144 hz).mono END):=h
section
variable(w:World)(F:Nat->Prop)(X:Nat)(x:Ma.FZ)(h:FH)
include w F X x h
theorem take_sum(v:Val.V)(hC:Core w F X x h)(hS:SumS X h.tk h.fn F w x h.th)(ho:x.over=false)(hf:x.f=54\/x.f=61)(hall:Ma.Fit x.all)(hv:VB v)(hfv:Ma.Fit v.n)(hfn:Ma.Fit (Val.number v).1)(hW:NumW w):
 ∃id bs,h.tk=Cl id bs/\(∀args w,(callFunc id args).run prog w= .ok (.enter id args) w)/\∀cell,Calls prog id (#[VL v,.bool cell]++bs) w fun e w'=>e=jr jT/\TQ (SumS X h.tk h.fn) w F X h (x.gather v cell) w':=by
 obtain ⟨bU,bF,bN,bA,gF,gA,e1,e2,k1,k2,k3,k4,k5,k6,n1,n2,n3⟩:=hS.1;refine ⟨_,_,e1,fun args w=>by kernel_rfl,fun cell=> ?_⟩;have ADD:∀n,Ma.Fit n->∀u,Below w.heap.size w u->Calls prog 94 #[jI n,PT bN,PT bF,PT bA] u fun e w'=>e=jr jT/\TQ (SumS X h.tk h.fn) w F X h (x.add n) w':=fun n hn u hu=>by
  refine (add_sum X bN bF bA h x.n x.all n u Bp80 (k3.1.below hu) (k2.1.below hu) (k4.1.below hu) n1 hall hn).mono ?_;rintro e w' ⟨rfl,q1,q2,q3,q4⟩;have ea:x.add n=Ma.FZ.sum {x with n:=Ma.FZ.i64 (x.n+1)} n:=by unfold Ma.FZ.add;rw[if_pos hf]
  have hfo:Foot F w w':=zaf (q4.mono fun i _ e=>by rcases e with rfl|rfl|rfl <;> first|exact hC.fx|exact k3.2|exact k4.2) hu;have u1:=k1.1.ne_at hC.cells;have u2:=k2.1.ne_at hC.cells;have u5:=k5.1.ne_at hC.cells;have u6:=k6.1.ne_at hC.cells;have a1:=k2.1.ne k3.1 B8;have a2:=k2.1.ne k4.1 B8;have a3:=k5.1.ne k3.1 B8;have a4:=k5.1.ne k4.1 B8;have a5:=k6.1.ne k3.1 B8;have a6:=k6.1.ne k4.1 B8;rw[ea];have hL:Like h {x with n:=Ma.FZ.i64 (x.n+1)}:=Bp11;unfold Ma.FZ.sum;cases hfb:Ref.fitB (x.all+n)
  .rw[hfb] at q1;have hL2:=hL.fails 2;have hs:=ends_same h ⟨4,2,⟨#[]⟩⟩;refine ⟨rfl,TQ.mk hC q1 ⟨hL2.i,hL2.pos,hL2.hr,hL2.hc,hL2.nr,hL2.nc,hL2.wants,hL2.over,hL2.fk,hL2.fi,hL2.ft⟩ hs.1 hs.2.1 hs.2.2.2 (fun e=> ?_) hfo⟩;have:(Ma.FZ.fails {x with n:=Ma.FZ.i64 (x.n+1)} 2).over=true:=Ma.FZ.zax;exact absurd Bp84 B3
  .rw[hfb] at q1;refine ⟨rfl,TQ.mk hC q1 Bp2 rfl rfl rfl (fun _=> ⟨?_,hS.2⟩) hfo⟩;have nf:∀b,X≠b->b≠bN->b≠bA->¬(b=X\/b=bN\/b=bA):=fun b p q r e=>by
    rcases e with e|e|e
    .exact p e.symm
    .exact q e
    .exact r e
   exact ⟨bU,bF,bN,bA,gF,gA,e1,e2,(k1.below hu).foot q4 (nf _ u1 n2 n3),(k2.below hu).foot q4 (nf _ u2 a1 a2),⟨q2,k3.2⟩,⟨q3,k4.2⟩,(k5.below hu).foot q4 (nf _ u5 a3 a4),(k6.below hu).foot q4 (nf _ u6 a5 a6),n1,n2,n3⟩
 refine zr2 X gF gA bN bF bA v cell w k5.1 k6.1 hv hW _ (fun hc h4 u hu=> ?_) (fun hc h4 h1 u hu=> ?_) (fun hc h4 h1 u hu=> ?_) (fun hc h2 u hu=> ?_) (fun hc h2 u hu=> ?_)
 .exact M141
 .exact M199
 .have:x.gather v cell=x:=by unfold Ma.FZ.gather;rw[hc,h4,h1];rfl
  rw[this];exact TQ.none hC hu ⟨SumAt.below hS.1 hu,hS.2⟩
 .exact M193
 .exact M126
theorem end_sum(hC:Core w F X x h)(hS:SumS X h.tk h.fn F w x h.th)(hf:x.f=54\/x.f=61)(hall:Ma.Fit x.all)(hn:0<=x.n):
 ∃id bs,h.fn=Cl id bs/\(∀args w,(callFunc id args).run prog w= .ok (.enter id args) w)/\Calls prog id bs w fun e w'=>e=jr (VL (x.finish sortI))/\Core w' F X x h/\Foot F w w':=by
 obtain ⟨bU,bF,bN,bA,gF,gA,e1,e2,k1,k2,k3,k4,k5,k6,n1,n2,n3⟩:=hS.1;refine ⟨_,_,e2,fun args w=>by kernel_rfl,?_⟩
 open X66 in exact C12
end
def ProdAt(w:World)(F:Nat->Prop)(X:Nat)(all:Int)(tk fn:Value):Prop:=∃bF bA gF gA,tk=Cl 144 #[PT gF,PT gA]/\fn=Cl 102 #[PT bA]/\
 FBox w F bF (PT X)/\FBox w F bA (jI all)/\FBox w F gF (PT X)/\FBox w F gA (Cl 99 #[PT bA,PT bF])
theorem ProdAt.below{w w':World}{F:Nat->Prop}{X:Nat}{all:Int}{tk fn:Value}(h:ProdAt w F X all tk fn)(hb:Below w.heap.size w w'):ProdAt w' F X all tk fn:=by
 obtain ⟨bF,bA,gF,gA,e1,e2,k2,k4,k5,k6⟩:=h;exact ⟨bF,bA,gF,gA,e1,e2,k2.below hb,k4.below hb,k5.below hb,k6.below hb⟩
def zov(X:Nat)(tk fn:Value)(F:Nat->Prop)(w:World)(y:Ma.FZ)(th:Value):Prop:=ProdAt w F X y.all tk fn/\th= .nilFunc
def X62.K12(h:jp:=by
 have:x.finish sortI=⟨1,x.all,⟨#[]⟩⟩:=by unfold Ma.FZ.finish;rw[if_pos (.inr (.inl hf))];rfl
 rw[this] at END ⊢;exact (fin_prod bA x.all w k4.1).mono END):=h
section
variable(w:World)(F:Nat->Prop)(X:Nat)(x:Ma.FZ)(h:FH)
include w F X x h
theorem zte(v:Val.V)(hC:Core w F X x h)(hS:zov X h.tk h.fn F w x h.th)(hf:x.f=55)(hall:Ma.Fit x.all)(hv:VB v)(hfv:Ma.Fit v.n)(hfn:Ma.Fit (Val.number v).1)(hW:NumW w):
 ∃id bs,h.tk=Cl id bs/\(∀args w,(callFunc id args).run prog w= .ok (.enter id args) w)/\∀cell,Calls prog id (#[VL v,.bool cell]++bs) w fun e w'=>e=jr jT/\TQ (zov X h.tk h.fn) w F X h (x.gather v cell) w':=by
 obtain ⟨bF,bA,gF,gA,e1,e2,k2,k4,k5,k6⟩:=hS.1;refine ⟨_,_,e1,fun args w=>by kernel_rfl,fun cell=> ?_⟩;have ADD:∀n,Ma.Fit n->∀u,Below w.heap.size w u->Calls prog 99 #[jI n,PT bA,PT bF] u fun e w'=>e=jr jT/\TQ (zov X h.tk h.fn) w F X h (x.add n) w':=fun n hn u hu=>by
  refine (add_prod X bF bA h x.all n u Bp80 (k2.1.below hu) (k4.1.below hu) hall hn).mono ?_;rintro e w' ⟨rfl,q1,q3,q4⟩;have ea:x.add n=Ma.FZ.prod x n:=by unfold Ma.FZ.add;rw[if_neg B1,if_pos hf]
  have hfo:Foot F w w':=zaf (q4.mono fun i _ e=>by rcases e with rfl|rfl <;> first|exact hC.fx|exact k4.2) hu;have u2:=k2.1.ne_at hC.cells;have u5:=k5.1.ne_at hC.cells;have u6:=k6.1.ne_at hC.cells;have a2:=k2.1.ne k4.1 B8;have a4:=k5.1.ne k4.1 B8;have a6:=k6.1.ne k4.1 B8;rw[ea];unfold Ma.FZ.prod;cases hfb:Ref.fitB (x.all*n)
  .rw[hfb] at q1;have hL:=hC.like.fails 2;have hs:=ends_same h ⟨4,2,⟨#[]⟩⟩;refine ⟨rfl,TQ.mk hC q1 Bp2 hs.1 hs.2.1 hs.2.2.2 (fun e=> ?_) hfo⟩;have:(Ma.FZ.fails x 2).over=true:=Ma.FZ.zax;exact absurd Bp84 B3
  .rw[hfb] at q1;have hL:=hC.like;have nf:∀b,X≠b->b≠bA->¬(b=X\/b=bA):=fun b p q e=>by
    rcases e with e|e
    .exact p e.symm
    .exact q e
   exact ⟨rfl,TQ.mk hC q1 Bp2 rfl rfl rfl (fun _=> ⟨⟨bF,bA,gF,gA,e1,e2,(k2.below hu).foot q4 (nf _ u2 a2),⟨q3,k4.2⟩,(k5.below hu).foot q4 (nf _ u5 a4),(k6.below hu).foot q4 (nf _ u6 a6)⟩,hS.2⟩) hfo⟩
 refine zn8 X gF gA bA bF v cell w k5.1 k6.1 hv hW _ (fun hc h4 u hu=> ?_) (fun hc h4 h1 u hu=> ?_) (fun hc h4 h1 u hu=> ?_) (fun hc h2 u hu=> ?_) (fun hc h2 u hu=> ?_)
 .exact M141
 .exact M199
 .have:x.gather v cell=x:=by unfold Ma.FZ.gather;rw[hc,h4,h1];rfl
  rw[this];exact TQ.none hC hu ⟨ProdAt.below hS.1 hu,hS.2⟩
 .exact M193
 .exact M126
theorem end_prod(hC:Core w F X x h)(hS:zov X h.tk h.fn F w x h.th)(hf:x.f=55):∃id bs,h.fn=Cl id bs/\(∀args w,(callFunc id args).run prog w= .ok (.enter id args) w)/\Calls prog id bs w fun e w'=>e=jr (VL (x.finish sortI))/\Core w' F X x h/\Foot F w w':=by
 obtain ⟨bF,bA,gF,gA,e1,e2,k2,k4,k5,k6⟩:=hS.1;refine ⟨_,_,e2,fun args w=>by kernel_rfl,?_⟩
 open X62 in exact C12
end
def CountAt(w:World)(F:Nat->Prop)(f n:Int)(tk fn:Value):Prop:=∃bF bN,tk=Cl 145 #[PT bF,PT bN]/\fn=Cl 146 #[PT bN]/\FBox w F bF (jI f)/\FBox w F bN (jI n)/\bF≠bN
def zj1(X:Nat)(tk fn:Value)(F:Nat->Prop)(w:World)(y:Ma.FZ)(th:Value):Prop:=CountAt w F y.f y.n tk fn/\th= .nilFunc
def M184(h:jp:=by
 exact ⟨rfl,TQ.mk hC hX Bp2 rfl rfl rfl (fun _=> ⟨⟨bF,bN,e1,e2,k1.foot q2 n1,⟨q1,k2.2⟩,n1⟩,hS.2⟩) hfo⟩):=h
def X63.K12(h:jp:=by
 have:x.finish sortI=⟨1,x.n,⟨#[]⟩⟩:=by unfold Ma.FZ.finish;rw[if_neg B1,if_neg B1,if_pos B1];rfl
 rw[this] at END ⊢;exact (zwz bN x.n w k2.1).mono END):=h
section
variable(w:World)(F:Nat->Prop)(X:Nat)(x:Ma.FZ)(h:FH)
include w F X x h
theorem zqx(v:Val.V)(hC:Core w F X x h)(hS:zj1 X h.tk h.fn F w x h.th)(hv:VB v)(hW:NumW w):∃id bs,h.tk=Cl id bs/\(∀args w,(callFunc id args).run prog w= .ok (.enter id args) w)/\∀cell,Calls prog id (#[VL v,.bool cell]++bs) w fun e w'=>e=jr jT/\TQ (zj1 X h.tk h.fn) w F X h (x.count v cell) w':=by
 obtain ⟨bF,bN,e1,e2,k1,k2,n1⟩:=hS.1;refine ⟨_,_,e1,fun args w=>by kernel_rfl,fun cell=> ?_⟩;refine (zsd bF bN x.f x.n v cell w k1.1 k2.1 hv hW).mono ?_;rintro e w' ⟨rfl,q1,q2⟩;have hfo:Foot F w w':=q2.mono fun i _ e=>by rw[e];exact k2.2
 have hX:=hC.cells.foot q2 (k2.1.ne_at hC.cells);have hL:=hC.like;unfold Ma.FZ.count;generalize hc:(cond (x.f==57) (v.k !=0)<|cond (x.f==58) (v.k==0)<|cond cell (v.k==1) ((Val.number v).2==0))=c at *;cases c
 .exact M184
 .exact M184
theorem zxc(hC:Core w F X x h)(hS:zj1 X h.tk h.fn F w x h.th)(hf:x.f=56\/x.f=57\/x.f=58):∃id bs,h.fn=Cl id bs/\(∀args w,(callFunc id args).run prog w= .ok (.enter id args) w)/\Calls prog id bs w fun e w'=>e=jr (VL (x.finish sortI))/\Core w' F X x h/\Foot F w w':=by
 obtain ⟨bF,bN,e1,e2,k1,k2,n1⟩:=hS.1;refine ⟨_,_,e2,fun args w=>by kernel_rfl,?_⟩
 open X63 in exact C12
end
def FirstAt(w:World)(F:Nat->Prop)(X:Nat)(tk fn:Value):Prop:=∃bF,tk=Cl 114 #[PT bF]/\fn=Cl 115 #[]/\FBox w F bF (PT X)
def zmy(X:Nat)(tk fn:Value)(F:Nat->Prop)(w:World)(y:Ma.FZ)(th:Value):Prop:=FirstAt w F X tk fn/\th= .nilFunc
def Bp30(h:jp:=by unfold Ma.FZ.finish;rw[if_neg B1,if_neg B1,if_neg B1,if_neg B1,if_neg B1,if_neg B1];rfl):=h
def X64.K12(h:jp:=by
 have:x.finish sortI=⟨4,6,⟨#[]⟩⟩:=Bp30;rw[this] at END ⊢;exact (zwy w).mono END):=h
section
variable(w:World)(F:Nat->Prop)(X:Nat)(x:Ma.FZ)(h:FH)
include w F X x h
theorem zqw(v:Val.V)(hC:Core w F X x h)(hS:zmy X h.tk h.fn F w x h.th):∃id bs,h.tk=Cl id bs/\(∀args w,(callFunc id args).run prog w= .ok (.enter id args) w)/\∀cell,Calls prog id (#[VL v,.bool cell]++bs) w fun e w'=>e=jr jT/\TQ (zmy X h.tk h.fn) w F X h (cond (v.k !=0) (x.ends v) x) w':=by
 obtain ⟨bF,e1,e2,k1⟩:=hS.1;refine ⟨_,_,e1,fun args w=>by kernel_rfl,fun cell=> ?_⟩;refine zr5 X bF v cell w k1.1 _ (fun h0 u hu=> ?_) (fun h0 u hu=> ?_)
 .rw[h0];exact TQ.ends _ hC v hu
 .rw[h0];exact TQ.none hC hu ⟨⟨bF,e1,e2,k1.below hu⟩,hS.2⟩
theorem zxb(hC:Core w F X x h)(hS:zmy X h.tk h.fn F w x h.th)(hf:x.f=76):∃id bs,h.fn=Cl id bs/\(∀args w,(callFunc id args).run prog w= .ok (.enter id args) w)/\Calls prog id bs w fun e w'=>e=jr (VL (x.finish sortI))/\Core w' F X x h/\Foot F w w':=by
 obtain ⟨bF,e1,e2,k1⟩:=hS.1;refine ⟨_,_,e2,fun args w=>by kernel_rfl,?_⟩
 open X64 in exact C12
end
theorem zc1{x:Ma.FZ}{i:Nat}{y:Ma.Arg}(h:x.a[i]?=some y):x.arg i=y:=by unfold Ma.FZ.arg;rw[List.getD_eq_getElem?_getD,h];rfl
def MatchAt(w:World)(F R:Nat->Prop)(X:Nat)(a:List Ma.Arg)(n:Int)(tk fn:Value):Prop:=∃bN ba bF g na ca,tk=Cl 109 #[PT bN,PT ba,PT bF]/\fn=Cl 157 #[]/\FBox w F bN (jI n)/\FBox w F bF (PT X)/\ArgsAt w ba g na ca a/\F ba/\R g/\g≠bN/\g≠X
def zj0(R:Nat->Prop)(X:Nat)(tk fn:Value)(F:Nat->Prop)(w:World)(y:Ma.FZ)(th:Value):Prop:=MatchAt w F R X y.a y.n tk fn/\th= .nilFunc
def M86(h:jp:=by
 refine ⟨_,_,e2,fun args w=>by kernel_rfl,?_⟩;have END:∀e w',e=Ending.returned (VL (x.finish sortI))/\Below w.heap.size w w'->e=Ending.returned (VL (x.finish sortI))/\Core w' F X x h/\Foot F w w':=fun e w' ⟨he,hb⟩=> ⟨he,hC.below hb,Foot.of_below hb⟩;have:x.finish sortI=⟨4,6,⟨#[]⟩⟩:=Bp30;rw[this] at END ⊢;exact (zwx w).mono END):=h
section
variable(w:World)(F R:Nat->Prop)(X:Nat)(x:Ma.FZ)(h:FH)
include w F R X x h
theorem zqv(v:Val.V)(x0:Ma.Arg)(hC:Core w F X x h)(hS:zj0 R X h.tk h.fn F w x h.th)(hx:x.a[0]?=some x0):
 ∃id bs,h.tk=Cl id bs/\(∀args w,(callFunc id args).run prog w= .ok (.enter id args) w)/\∀cell,Calls prog id (#[VL v,.bool cell]++bs) w fun e w'=>e=jr jT/\TQ (zj0 R X h.tk h.fn) w F X h ((cond (Ma.equal (x.arg 0).v v) (Ma.FZ.ends {x with n:=Ma.FZ.i64 (x.n+1)} (Cal.num (Ma.FZ.i64 (x.n+1)))) {x with n:=Ma.FZ.i64 (x.n+1)})) w':=by
 obtain ⟨bN,ba,bF,g,na,ca,e1,e2,k1,k2,kA,f1,f2,n1,n2⟩:=hS.1;refine ⟨_,_,e1,fun args w=>by kernel_rfl,fun cell=> ?_⟩;rw[zc1 hx];have m1:=k2.1.ne k1.1 B8;have m2:=kA.box.ne k1.1 B8;have u1:=k1.1.ne_at hC.cells;have u2:=k2.1.ne_at hC.cells;have u3:=kA.box.ne_at hC.cells;have hL:Like h {x with n:=Ma.FZ.i64 (x.n+1)}:=Bp11;cases he:Ma.equal x0.v v
 .refine (match_no X ba g na ca bN bF h x.a x0 x.n v cell w hC.cells kA hx k1.1 k2.1 n1 he).mono ?_;rintro e w' ⟨rfl,q1,q2,q3⟩;have hfo:Foot F w w':=q3.mono fun i _ e=>by rcases e with rfl|rfl <;> first|exact hC.fx|exact k1.2
  exact ⟨rfl,TQ.mk hC q1 Bp2 rfl rfl rfl (fun _=> ⟨⟨bN,ba,bF,g,na,ca,e1,e2,⟨q2,k1.2⟩,k2.foot q3 (fun e=>e.elim (fun e=>u2 e.symm) m1),kA.foot q3 (fun e=>e.elim (fun e=>u3 e.symm) m2) (fun e=>e.elim n2 n1),f1,f2,n1,n2⟩,hS.2⟩) hfo⟩
 .refine (zu6 X ba g na ca bN bF h x.a x0 x.n v cell w hC.cells kA hx k1.1 k2.1 n1 he).mono ?_;rintro e w' ⟨rfl,q1,q2,q3⟩;have hfo:Foot F w w':=q3.mono fun i _ e=>by rcases e with rfl|rfl <;> first|exact hC.fx|exact k1.2
  have hs:=ends_same h ⟨1,IntKind.i64.wrap (x.n+1),⟨#[]⟩⟩;exact ⟨rfl,TQ.mk hC q1 (hL.ends _) hs.1 hs.2.1 hs.2.2.2 (fun e=>absurd ((show (Ma.FZ.ends {x with n:=Ma.FZ.i64 (x.n+1)} (Cal.num (Ma.FZ.i64 (x.n+1)))).over=true from Ma.FZ.zax).symm.trans e) B3) hfo⟩
theorem zxa(hC:Core w F X x h)(hS:zj0 R X h.tk h.fn F w x h.th)(hf:x.f=70):∃id bs,h.fn=Cl id bs/\(∀args w,(callFunc id args).run prog w= .ok (.enter id args) w)/\Calls prog id bs w fun e w'=>e=jr (VL (x.finish sortI))/\Core w' F X x h/\Foot F w w':=by
 obtain ⟨bN,ba,bF,g,na,ca,e1,e2,k1,k2,kA,f1,f2,n1,n2⟩:=hS.1;exact M86
end
theorem Like.want{h:FH}{x:Ma.FZ}(k:Like h x)(r c:Int)(th:Value)(v:Val.V):Like (h.want r c th) (x.want ⟨r,c⟩ v):=⟨k.i,k.pos,k.hr,k.hc,rfl,rfl,rfl,k.over,k.fk,k.fi,k.ft⟩
def LookAt(w:World)(F R:Nat->Prop)(X:Nat)(a:List Ma.Arg)(f k:Int)(r:Ma.Ar)(tk fn:Value):Prop:=∃ba bF bR bK bU g na ca,tk=Cl 158 #[PT ba,PT bF,PT bR,PT bK,PT bU]/\fn=Cl 157 #[]/\FBox w F bF (PT X)/\FBox w F bK (jI k)/\FBox w F bU (jI f)/\
 w.heap[bR]?=some (.cells #[jI r.t,jI r.l,jI r.b,jI r.r] 62 (0,0))/\F bR/\bR≠X/\ArgsAt w ba g na ca a/\F ba/\R g/\g≠X
theorem LookAt.foot{w w':World}{F R:Nat->Prop}{X:Nat}{a:List Ma.Arg}{f k:Int}{r:Ma.Ar}{tk fn:Value}{h:FH}(hX:Fd.At w X h)(hh:LookAt w F R X a f k r tk fn)(hf:Foot (fun k=>k=X) w w'):LookAt w' F R X a f k r tk fn:=by
 obtain ⟨ba,bF,bR,bK,bU,g,na,ca,e1,e2,k1,k2,k3,kR,f0,n0,kA,f1,f2,n1⟩:=hh;exact ⟨ba,bF,bR,bK,bU,g,na,ca,e1,e2,k1.foot hf (k1.1.ne_at hX).symm,k2.foot hf (k2.1.ne_at hX).symm,k3.foot hf (k3.1.ne_at hX).symm,(hf.block bR (jg kR) n0).trans kR,f0,n0,kA.foot hf (kA.box.ne_at hX).symm n1,f1,f2,n1⟩
def zmw(R:Nat->Prop)(X:Nat)(tk fn:Value)(F:Nat->Prop)(w:World)(y:Ma.FZ)(th:Value):Prop:=LookAt w F R X y.a y.f y.k (y.arg 1).a tk fn/\(y.pend=none->th= .nilFunc)/\(y.pend≠none->th= .func (.func 78) #[PT X] #[])
section
variable(w:World)(F R:Nat->Prop)(X:Nat)(x:Ma.FZ)(h:FH)
include w F R X x h
theorem ztf(v:Val.V)(x0:Ma.Arg)(hC:Core w F X x h)(hS:zmw R X h.tk h.fn F w x h.th)(hx:x.a[0]?=some x0)(hf:x.f=71\/x.f=72)(hk:1<=x.k/\x.k<=65536)(hl:0<=(x.arg 1).a.l/\(x.arg 1).a.l<=702)(ht:0<=(x.arg 1).a.t/\(x.arg 1).a.t<=65536):
 ∃id bs,h.tk=Cl id bs/\(∀args w,(callFunc id args).run prog w= .ok (.enter id args) w)/\∀cell,Calls prog id (#[VL v,.bool cell]++bs) w fun e w'=>e=jr jT/\TQ (zmw R X h.tk h.fn) w F X h (x.lookup v) w':=by
 obtain ⟨ba,bF,bR,bK,bU,g,na,ca,e1,e2,k1,k2,k3,kR,f0,n0,kA,f1,f2,n1⟩:=hS.1;refine ⟨_,_,e1,fun args w=>by kernel_rfl,fun cell=> ?_⟩;unfold Ma.FZ.lookup;rw[zc1 hx];generalize (x.arg 1).a=ra at *;have w1:IntKind.i64.wrap (ra.l+x.k)=ra.l+x.k:=zae B1 B1;have w2:IntKind.i64.wrap (ra.l+x.k-1)=ra.l+x.k-1:=zae B1 B1;have w3:IntKind.i64.wrap (ra.t+x.k)=ra.t+x.k:=zae B1 B1;have w4:IntKind.i64.wrap (ra.t+x.k-1)=ra.t+x.k-1:=zae B1 B1;have WANT:∀(r c:Int) e w',e=Ending.returned jT/\Fd.At w' X (h.want r c (.func (.func 78) #[PT X] #[]))/\Foot (fun k=>k=X) w w'->e=Ending.returned jT/\TQ (zmw R X h.tk h.fn) w F X h (x.want ⟨r,c⟩ v) w':=fun r c e w' ⟨he,q1,q2⟩=>
  ⟨he,TQ.mk hC q1 (hC.like.want r c _ v) rfl rfl rfl (fun _=> ⟨LookAt.foot hC.cells hS.1 q2,nofun,fun _=>rfl⟩) (q2.mono fun i _ e=>by rw[e];exact hC.fx)⟩
 cases he:Ma.equal x0.v v
 .refine (zu9 X ba g na ca bF bR bK bU h x.a x0 x.f x.k ra.t ra.l ra.b ra.r v cell w hC.cells kA hx k1.1 kR k2.1 k3.1 he).mono ?_;rintro e w' ⟨rfl,hb⟩;exact ⟨rfl,TQ.none hC hb ⟨LookAt.foot hC.cells hS.1 Bp38,hS.2⟩⟩
 .rcases hf with hf|hf
  .have:cond (x.f==72) (Ma.Sp.mk (ra.t+x.k-1) x.here.c) ⟨x.here.r,ra.l+x.k-1⟩=⟨x.here.r,ra.l+x.k-1⟩:=by rw[hf];rfl
   rw[this,<-hC.like.hr];exact (zrn X ba g na ca bF bR bK bU h x.a x0 x.f x.k ra.t ra.l ra.b ra.r v cell w hC.cells kA hx k1.1 kR k2.1 k3.1 he _ _ 0 0 B144 w1 w2).mono (WANT _ _)
  .have:cond (x.f==72) (Ma.Sp.mk (ra.t+x.k-1) x.here.c) ⟨x.here.r,ra.l+x.k-1⟩=⟨ra.t+x.k-1,x.here.c⟩:=by rw[hf];rfl
   rw[this,<-hC.like.hc];exact (zrm X ba g na ca bF bR bK bU h x.a x0 x.f x.k ra.t ra.l ra.b ra.r v cell w hC.cells kA hx k1.1 kR k2.1 k3.1 he _ _ _ _ B144 w1 w2 w3 w4).mono (WANT _ _)
theorem end_look(hC:Core w F X x h)(hS:zmw R X h.tk h.fn F w x h.th)(hf:x.f=71\/x.f=72):∃id bs,h.fn=Cl id bs/\(∀args w,(callFunc id args).run prog w= .ok (.enter id args) w)/\Calls prog id bs w fun e w'=>e=jr (VL (x.finish sortI))/\Core w' F X x h/\Foot F w w':=by
 obtain ⟨ba,bF,bR,bK,bU,g,na,ca,e1,e2,_⟩:=hS.1;exact M86
end
section
variable(X bF bN bO bK:Nat)(h:FH)(f n:Int)(odd:Bool)(v:Val.V)(w:World)(hX:Fd.At w X h)(kF:Box w bF (PT X))(kN:Box w bN (jI n))(kO:Box w bO (.bool odd))(kK:Box w bK (jI f))(hnk:bN≠bK)
include X bF bN bO bK h f n odd v w hX kF kN kO kK hnk
theorem zj4(hk4:(v.k==4)=false)(tk2:(v.k !=2)=false)(b:Bool)(tb:(v.n !=0)=b):Calls prog 150 #[VL v,.bool true,PT bF,PT bN,PT bO,PT bK] w fun e w'=>e=jr jT/\Fd.At w' X (cond ((f==65&& !b)||(f==66&&b)) (h.ends ⟨2,cond b 1 0,⟨#[]⟩⟩) h)/\Box w' bN (jI (IntKind.i64.wrap (n+1)))/\Box w' bO (.bool (odd !=b))/\Foot (fun k=>k=X\/k=bN\/k=bO) w w':=by
 cases b
 .rw[show (odd !=false)=odd by cases odd <;> rfl];cases t5:(f==65)
  .cases t6:(f==66)
   .exact zfw X bF bN bO bK h f n odd v w hX kF kN kO kK hnk hk4 tk2 tb t5 t6
   .exact zfv X bF bN bO bK h f n odd v w hX kF kN kO kK hnk hk4 tk2 tb t5 t6
  .rw[show ((true&& !false)||(f==66&&false))=true by simp];exact zfu X bF bN bO bK h f n odd v w hX kF kN kO kK hnk hk4 tk2 tb t5
 .rw[show (odd !=true)=!odd by cases odd <;> rfl];cases t6:(f==66)
  .cases t5:(f==65)
   .exact zgt X bF bN bO bK h f n odd v w hX kF kN kO kK hnk hk4 tk2 tb t5 t6
   .exact zgs X bF bN bO bK h f n odd v w hX kF kN kO kK hnk hk4 tk2 tb t5 t6
  .have t5:(f==65)=false:=by rw[beq_iff_eq] at t6;rw[beq_eq_false_iff_ne];omega
   rw[t5];exact zgr X bF bN bO bK h f n odd v w hX kF kN kO kK hnk hk4 tk2 tb t5 t6
theorem zj5(hk4:(v.k==4)=false)(tk2:(v.k !=2)=true)(tk1:(v.k !=1)=false)(b:Bool)(tb:(v.n !=0)=b):Calls prog 150 #[VL v,.bool true,PT bF,PT bN,PT bO,PT bK] w fun e w'=>e=jr jT/\Fd.At w' X (cond ((f==65&& !b)||(f==66&&b)) (h.ends ⟨2,cond b 1 0,⟨#[]⟩⟩) h)/\Box w' bN (jI (IntKind.i64.wrap (n+1)))/\Box w' bO (.bool (odd !=b))/\Foot (fun k=>k=X\/k=bN\/k=bO) w w':=by
 cases b
 .rw[show (odd !=false)=odd by cases odd <;> rfl];cases t5:(f==65)
  .cases t6:(f==66)
   .exact zfz X bF bN bO bK h f n odd v w hX kF kN kO kK hnk hk4 tk2 tk1 tb t5 t6
   .exact zfy X bF bN bO bK h f n odd v w hX kF kN kO kK hnk hk4 tk2 tk1 tb t5 t6
  .rw[show ((true&& !false)||(f==66&&false))=true by simp];exact zfx X bF bN bO bK h f n odd v w hX kF kN kO kK hnk hk4 tk2 tk1 tb t5
 .rw[show (odd !=true)=!odd by cases odd <;> rfl];cases t6:(f==66)
  .cases t5:(f==65)
   .exact zgw X bF bN bO bK h f n odd v w hX kF kN kO kK hnk hk4 tk2 tk1 tb t5 t6
   .exact zgv X bF bN bO bK h f n odd v w hX kF kN kO kK hnk hk4 tk2 tk1 tb t5 t6
  .have t5:(f==65)=false:=by rw[beq_iff_eq] at t6;rw[beq_eq_false_iff_ne];omega
   rw[t5];exact zgu X bF bN bO bK h f n odd v w hX kF kN kO kK hnk hk4 tk2 tk1 tb t5 t6
theorem zi1(tc:((Val.truth v).2==0)=true)(b:Bool)(tb:(Val.truth v).1=b):Calls prog 150 #[VL v,.bool false,PT bF,PT bN,PT bO,PT bK] w fun e w'=>e=jr jT/\Fd.At w' X (cond ((f==65&& !b)||(f==66&&b)) (h.ends ⟨2,cond b 1 0,⟨#[]⟩⟩) h)/\Box w' bN (jI (IntKind.i64.wrap (n+1)))/\Box w' bO (.bool (odd !=b))/\Foot (fun k=>k=X\/k=bN\/k=bO) w w':=by
 cases b
 .rw[show (odd !=false)=odd by cases odd <;> rfl];cases t5:(f==65)
  .cases t6:(f==66)
   .exact ze3 X bF bN bO bK h f n odd v w hX kF kN kO kK hnk tc tb t5 t6
   .exact ze2 X bF bN bO bK h f n odd v w hX kF kN kO kK hnk tc tb t5 t6
  .rw[show ((true&& !false)||(f==66&&false))=true by simp];exact ze1 X bF bN bO bK h f n odd v w hX kF kN kO kK hnk tc tb t5
 .rw[show (odd !=true)=!odd by cases odd <;> rfl];cases t6:(f==66)
  .cases t5:(f==65)
   .exact zf2 X bF bN bO bK h f n odd v w hX kF kN kO kK hnk tc tb t5 t6
   .exact zf1 X bF bN bO bK h f n odd v w hX kF kN kO kK hnk tc tb t5 t6
  .have t5:(f==65)=false:=by rw[beq_iff_eq] at t6;rw[beq_eq_false_iff_ne];omega
   rw[t5];exact zf0 X bF bN bO bK h f n odd v w hX kF kN kO kK hnk tc tb t5 t6
end
def TruAt(w:World)(F:Nat->Prop)(X:Nat)(f n:Int)(odd:Bool)(tk fn:Value):Prop:=∃bF bN bO bK,tk=Cl 150 #[PT bF,PT bN,PT bO,PT bK]/\fn=Cl 152 #[PT bN,PT bK,PT bO]/\FBox w F bF (PT X)/\FBox w F bN (jI n)/\FBox w F bO (.bool odd)/\FBox w F bK (jI f)/\bN≠bK
theorem TruAt.below{w w':World}{F:Nat->Prop}{X:Nat}{f n:Int}{odd:Bool}{tk fn:Value}(h:TruAt w F X f n odd tk fn)(hb:Below w.heap.size w w'):TruAt w' F X f n odd tk fn:=by
 obtain ⟨bF,bN,bO,bK,e1,e2,k1,k2,k3,k4,n1⟩:=h;exact ⟨bF,bN,bO,bK,e1,e2,k1.below hb,k2.below hb,k3.below hb,k4.below hb,n1⟩
def TruS(X:Nat)(tk fn:Value)(F:Nat->Prop)(w:World)(y:Ma.FZ)(th:Value):Prop:=TruAt w F X y.f y.n y.odd tk fn/\th= .nilFunc
def X68.K12(h:jp:=by
 have hfin:x.finish sortI=cond (x.n==0) (Cal.bad 4) (cond (x.f==67) (Cal.tru x.odd) (Cal.tru (x.f==65))):=by unfold Ma.FZ.finish;rw[if_neg B1,if_neg B1,if_neg B1,if_neg B1,if_pos hf]
 cases hn:(x.n==0)
 .cases h7:(x.f==67)
  .have:x.finish sortI=⟨2,cond (x.f==65) 1 0,⟨#[]⟩⟩:=by rw[hfin,hn,h7];rfl
   rw[this] at END ⊢;exact (zja bN bK bO x.n x.f x.odd w k2.1 k4.1 k3.1 hn h7).mono END
  .have:x.finish sortI=⟨2,cond x.odd 1 0,⟨#[]⟩⟩:=by rw[hfin,hn,h7];rfl
   rw[this] at END ⊢;exact (zi9 bN bK bO x.n x.f x.odd w k2.1 k4.1 k3.1 hn h7).mono END
 .have:x.finish sortI=⟨4,4,⟨#[]⟩⟩:=by rw[hfin,hn];rfl
  rw[this] at END ⊢;exact (zip bN bK bO x.n x.f x.odd w k2.1 k4.1 k3.1 hn).mono END):=h
section
variable(w:World)(F:Nat->Prop)(X:Nat)(x:Ma.FZ)(h:FH)
include w F X x h
theorem take_tru(v:Val.V)(hC:Core w F X x h)(hS:TruS X h.tk h.fn F w x h.th):∃id bs,h.tk=Cl id bs/\(∀args w,(callFunc id args).run prog w= .ok (.enter id args) w)/\∀cell,Calls prog id (#[VL v,.bool cell]++bs) w fun e w'=>e=jr jT/\TQ (TruS X h.tk h.fn) w F X h (x.truths v cell) w':=by
 obtain ⟨bF,bN,bO,bK,e1,e2,k1,k2,k3,k4,n1⟩:=hS.1;refine ⟨_,_,e1,fun args w=>by kernel_rfl,fun cell=> ?_⟩;have GO:∀(b:Bool) e w',e=Ending.returned jT/\Fd.At w' X (cond ((x.f==65&& !b)||(x.f==66&&b)) (h.ends ⟨2,cond b 1 0,⟨#[]⟩⟩) h)/\Box w' bN (jI (IntKind.i64.wrap (x.n+1)))/\Box w' bO (.bool (x.odd !=b))/\Foot (fun k=>k=X\/k=bN\/k=bO) w w'->e=Ending.returned jT/\TQ (TruS X h.tk h.fn) w F X h (x.truths1 b) w':=by
  rintro b e w' ⟨he,q1,q2,q3,q4⟩;refine ⟨he,?_⟩;have hfo:Foot F w w':=q4.mono fun i _ e=>by rcases e with rfl|rfl|rfl <;> first|exact hC.fx|exact k2.2|exact k3.2
  have hL:Like h {x with n:=Ma.FZ.i64 (x.n+1),odd:=x.odd !=b}:=Bp11;have u1:=k1.1.ne_at hC.cells;have u4:=k4.1.ne_at hC.cells;have m1:=k1.1.ne k2.1 B8;have m2:=k1.1.ne k3.1 B8;have m3:=k4.1.ne k3.1 B8;unfold Ma.FZ.truths1;simp only;cases hc:((x.f==65&& !b)||(x.f==66&&b))
  .rw[hc] at q1;exact TQ.mk hC q1 Bp2 rfl rfl rfl (fun _=> ⟨⟨bF,bN,bO,bK,e1,e2,k1.foot q4 (fun e=>e.elim (fun e=>u1 e.symm) (fun e=>e.elim m1 m2)),⟨q2,k2.2⟩,⟨q3,k3.2⟩,k4.foot q4 (fun e=>e.elim (fun e=>u4 e.symm) (fun e=>e.elim (fun e=>n1 e.symm) m3)),n1⟩,hS.2⟩) hfo
  .rw[hc] at q1;have hs:=ends_same h ⟨2,cond b 1 0,⟨#[]⟩⟩;have ht:Cal.tru b=⟨2,cond b 1 0,⟨#[]⟩⟩:=by cases b <;> rfl
   refine TQ.mk hC q1 ?_ hs.1 hs.2.1 hs.2.2.2 (fun e=>absurd ((show (Ma.FZ.ends {x with n:=Ma.FZ.i64 (x.n+1),odd:=x.odd !=b} (Cal.tru b)).over=true from Ma.FZ.zax).symm.trans e) B3) hfo;show Like _ (Ma.FZ.ends {x with n:=Ma.FZ.i64 (x.n+1),odd:=x.odd !=b} (Cal.tru b));rw[ht];exact hL.ends _
 unfold Ma.FZ.truths;cases cell
 .cases hc:((Val.truth v).2==0)
  .exact zm4 X bF bN bO bK v w k1.1 _ hc fun u hu=>TQ.fails _ hC _ hu
  .exact (zi1 X bF bN bO bK h x.f x.n x.odd v w hC.cells k1.1 k2.1 k3.1 k4.1 n1 hc _ rfl).mono (GO _)
 .cases h4:(v.k==4)
  .cases h2:(v.k !=2)
   .exact (zj4 X bF bN bO bK h x.f x.n x.odd v w hC.cells k1.1 k2.1 k3.1 k4.1 n1 h4 h2 _ rfl).mono (GO _)
   .cases h1:(v.k !=1)
    .exact (zj5 X bF bN bO bK h x.f x.n x.odd v w hC.cells k1.1 k2.1 k3.1 k4.1 n1 h4 h2 h1 _ rfl).mono (GO _)
    .exact zm3 X bF bN bO bK v w k1.1 _ h4 h2 h1 fun u hu=>TQ.none hC hu ⟨TruAt.below hS.1 hu,hS.2⟩
  .exact zqn X bF bN bO bK v w k1.1 _ h4 fun u hu=>TQ.ends _ hC v hu
theorem end_tru(hC:Core w F X x h)(hS:TruS X h.tk h.fn F w x h.th)(hf:x.f=65\/x.f=66\/x.f=67):∃id bs,h.fn=Cl id bs/\(∀args w,(callFunc id args).run prog w= .ok (.enter id args) w)/\Calls prog id bs w fun e w'=>e=jr (VL (x.finish sortI))/\Core w' F X x h/\Foot F w w':=by
 obtain ⟨bF,bN,bO,bK,e1,e2,k1,k2,k3,k4,n1⟩:=hS.1;refine ⟨_,_,e2,fun args w=>by kernel_rfl,?_⟩
 open X68 in exact C12
end
def PrdAt(w:World)(F R:Nat->Prop)(X:Nat)(a:List Ma.Arg)(all:Int)(p:Option Val.V)(tk fn th:Value):Prop:=∃bF ba bA g ca,tk=Cl 164 #[PT bF,PT ba,PT bA]/\fn=Cl 166 #[PT bA]/\FBox w F bF (PT X)/\FBox w F bA (jI all)/\ArgsAt w ba g 2 ca a/\F ba/\R g/\g≠X/\g≠bA/\
 (p=none->th= .nilFunc)/\∀v,p=some v->∃bv,th= .func (.func 165) #[] #[PT bF,PT bv,PT bA]/\F bv/\bv≠X/\bv≠bA/\w.heap[bv]?=some (.cells #[jI v.k,jI v.n,jS v.t] 41 (0,0))
theorem PrdAt.below{w w':World}{F R:Nat->Prop}{X:Nat}{a:List Ma.Arg}{all:Int}{p:Option Val.V}{tk fn th:Value}(h:PrdAt w F R X a all p tk fn th)(hb:Below w.heap.size w w'):PrdAt w' F R X a all p tk fn th:=by
 obtain ⟨bF,ba,bA,g,ca,e1,e2,k1,k2,kA,f1,f2,n1,n2,p1,p2⟩:=h;exact ⟨bF,ba,bA,g,ca,e1,e2,k1.below hb,k2.below hb,kA.below hb,f1,f2,n1,n2,p1,fun v hv=>by
  obtain ⟨bv,q1,q2,q3,q4,q5⟩:=p2 v hv;exact ⟨bv,q1,q2,q3,q4,(hb.block bv (jg q5)).trans q5⟩⟩
def PrdS(R:Nat->Prop)(X:Nat)(tk fn:Value)(F:Nat->Prop)(w:World)(y:Ma.FZ)(th:Value):Prop:=PrdAt w F R X y.a y.all y.pend tk fn th
def X69.K12(h:jp:=by
 have:x.finish sortI=⟨1,x.all,⟨#[]⟩⟩:=by unfold Ma.FZ.finish;rw[if_pos B1];rfl
 rw[this] at END ⊢;exact (zww bA x.all w k2.1).mono END):=h
def B81(h:jp:=by rw[ha];rfl):=h
def B184(h:jp:=by rw[hC.like.hc];exact W _ (.inr (.inr (.inl rfl)))):=h
def Bp99(h:jp:=by exact hC.cells.below2 hz):=h
def M131(h:jp:=by
 rw[hfb] at s1;have hL:=hC.like.fails 2;have hs:=ends_same h ⟨4,2,⟨#[]⟩⟩;refine TQ.mk hC s1 Bp2 hs.1 hs.2.1 hs.2.2.2 (fun e=> ?_) hfo;have:(Ma.FZ.fails x 2).over=true:=Ma.FZ.zax;exact absurd Bp84 B3):=h
def B50(h:jp:=by obtain ⟨a,c,rfl⟩:=sh;intro e;cases e):=h
def M198(h:jp:=by
 rcases own.2 with ⟨rfl,h0⟩|⟨g,cap,cur,rfl,_⟩
 .rw[h0];exact ⟨_,_,rfl⟩
 .exact ⟨_,_,rfl⟩):=h
section
variable(w:World)(F R:Nat->Prop)(X:Nat)(x:Ma.FZ)(h:FH)
include w F R X x h
theorem end_prd(hC:Core w F X x h)(hS:PrdS R X h.tk h.fn F w x h.th)(hf:x.f=75):∃id bs,h.fn=Cl id bs/\(∀args w,(callFunc id args).run prog w= .ok (.enter id args) w)/\Calls prog id bs w fun e w'=>e=jr (VL (x.finish sortI))/\Core w' F X x h/\Foot F w w':=by
 obtain ⟨bF,ba,bA,g,ca,e1,e2,k1,k2,_⟩:=hS;refine ⟨_,_,e2,fun args w=>by kernel_rfl,?_⟩
 open X69 in exact C12
theorem take_prd(v:Val.V)(x0 x1:Ma.Arg)(hC:Core w F X x h)(hS:PrdS R X h.tk h.fn F w x h.th)(ha:x.a=[x0,x1])(hb:∀z:Int,z=x1.a.t+x.here.r\/z=x1.a.t+x.here.r-x0.a.t\/z=x1.a.l+x.here.c\/z=x1.a.l+x.here.c-x0.a.l->-9223372036854775808<=z/\z<=9223372036854775807):
 ∃id bs,h.tk=Cl id bs/\(∀args w,(callFunc id args).run prog w= .ok (.enter id args) w)/\∀cell,Calls prog id (#[VL v,.bool cell]++bs) w fun e w'=>e=jr jT/\TQ (PrdS R X h.tk h.fn) w F X h (x.product v) w':=by
 obtain ⟨bF,ba,bA,g,ca,e1,e2,k1,k2,kA,f1,f2,n1,n2,p1,p2⟩:=hS;refine ⟨_,_,e1,fun args w=>by kernel_rfl,fun cell=> ?_⟩;have hx0:x.arg 0=x0:=zc1 B81;have hx1:x.arg 1=x1:=zc1 B81;unfold Ma.FZ.product;rw[hx0,hx1];cases h4:(v.k==4)
 .rw[ha] at kA;have W:∀z:Int,z=x1.a.t+x.here.r\/z=x1.a.t+x.here.r-x0.a.t\/z=x1.a.l+x.here.c\/z=x1.a.l+x.here.c-x0.a.l->IntKind.i64.wrap z=z:=fun z hz=>zae (hb z hz).1 (hb z hz).2;refine (zq8 X bF ba bA g ca h x0 x1 (x1.a.t+x.here.r) (x1.a.t+x.here.r-x0.a.t) (x1.a.l+x.here.c) (x1.a.l+x.here.c-x0.a.l) v cell w hC.cells kA k1.1 h4 (by rw[hC.like.hr];exact W _ (.inl rfl)) (W _ (.inr (.inl rfl))) B184 (W _ (.inr (.inr (.inr rfl))))).mono ?_;rintro e w' ⟨rfl,q1,q2,q3⟩;have hlt:=(jg q2);have u1:=k1.1.ne_at hC.cells;have u2:=k2.1.ne_at hC.cells;have u3:=kA.box.ne_at hC.cells;have hXl:=hC.cells.lt;have hAl:=k2.1.lt;refine ⟨rfl,fun k=>F k\/k=w.heap.size,_,⟨q1,hC.like.want _ _ _ v,.inl hC.fx,fun k hk=> ?_⟩,rfl,rfl,rfl,fun _=> ?_,q3.mono fun i _ e=>by rw[e];exact hC.fx,fun k hk=>hk.imp_right fun e=>by omega⟩
  .rcases hk with hk|hk
   .exact jL (hC.lt k hk) q3.size
   .omega
  .refine ⟨bF,ba,bA,g,ca,e1,e2,⟨k1.1.foot q3 u1.symm,.inl k1.2⟩,⟨k2.1.foot q3 u2.symm,.inl k2.2⟩,?_,.inl f1,f2,n1,n2,nofun,fun z hz=> ?_⟩
   .show ArgsAt w' ba g 2 ca x.a;rw[ha];exact kA.foot q3 u3.symm n1
   .cases hz;exact ⟨w.heap.size,rfl,.inr rfl,by omega,by omega,q2⟩
 .exact zt8 X bF ba bA v cell w k1.1 h4 _ fun u hu=>TQ.ends _ hC v hu
theorem zs9(v u:Val.V)(th:Value)(hC:Core w F X x h)(hth:th= .func (.func 78) #[PT X] #[])(hf:x.f=71\/x.f=72):∃id fs bs,th= .func (.func id) fs bs/\(∀args w,(callFunc id args).run prog w= .ok (.enter id args) w)/\Calls prog id (fs++ #[VL u]++bs) w fun e w'=>e=jr jT/\TQ (zmw R X h.tk h.fn) w F X h (x.after v u) w':=by
 refine ⟨_,_,_,hth,fun args w=>by kernel_rfl,?_⟩;have:x.after v u=x.ends u:=by unfold Ma.FZ.after;rw[if_pos hf]
 rw[this];exact TQ.ends _ hC u jB
theorem then_prd(v u:Val.V)(th:Value)(hC:Core w F X x h)(hS:PrdAt w F R X x.a x.all (some v) h.tk h.fn th)(hp:x.pend=none)(hn:h.th= .nilFunc)(hf:x.f=75)(hall:Ma.Fit x.all)(hv:Ma.Fit v.n)(hu:Ma.Fit u.n):∃id fs bs,th= .func (.func id) fs bs/\(∀args w,(callFunc id args).run prog w= .ok (.enter id args) w)/\Calls prog id (fs++ #[VL u]++bs) w fun e w'=>e=jr jT/\TQ (PrdS R X h.tk h.fn) w F X h (x.after v u) w':=by
 obtain ⟨bF,ba,bA,g,ca,e1,e2,k1,k2,kA,f1,f2,n1,n2,p1,p2⟩:=hS;obtain ⟨bv,q1,q2,q3,q4,q5⟩:=p2 v rfl;refine ⟨_,_,_,q1,fun args w=>by kernel_rfl,?_⟩;have ea:x.after v u=(cond (u.k==4) (x.ends u)<|cond (v.k !=1||u.k !=1) x<|cond (Ref.fitB (v.n*u.n)) (x.sum (v.n*u.n)) (x.fails 2)):=by unfold Ma.FZ.after;rw[if_neg B1,if_neg B1]
 rw[ea];have S0:∀z,Below w.heap.size w z->PrdS R X h.tk h.fn F z x h.th:=fun z hz=>PrdAt.below ⟨bF,ba,bA,g,ca,e1,e2,k1,k2,kA,f1,f2,n1,n2,fun _=>hn,fun t ht=>by rw[hp] at ht;cases ht⟩ hz;refine zq9 X bF bv bA v u w k1.1 q5 hv hu _ (fun h4 z hz=> ?_) (fun h4 h1 z hz=> ?_) (fun h4 h1 hb z hz=> ?_) (fun h4 h1 hb z hz=> ?_)
 .rw[h4];exact TQ.ends _ hC u hz
 .rw[h4,h1];exact TQ.none hC hz (S0 z hz)
 .rw[h4,h1,hb];have hfit:Ref.fitV (v.n*u.n)=v.n*u.n:=by
   unfold Ref.fitB at hb;unfold Ref.fitV;have:PowG.Fits (v.n*u.n):=by simpa using hb
   rw[if_pos this]
  rw[hfit];have hF2:Ma.Fit (v.n*u.n):=by
   have:=Ma.zk3 (v.n*u.n);rw[hfit] at this;exact this
  refine (zm6 X bA h x.all (v.n*u.n) z Bp99 (k2.1.below hz) hall hF2).mono ?_;rintro e w' ⟨rfl,s1,s2,s3⟩;have hfo:Foot F w w':=zaf (s3.mono fun i _ e=>by rcases e with rfl|rfl <;> first|exact hC.fx|exact k2.2) hz;have u1:=k1.1.ne_at hC.cells;have u3:=kA.box.ne_at hC.cells;have m1:=k1.1.ne k2.1 B8;have m2:=kA.box.ne k2.1 B8;refine ⟨rfl,?_⟩;unfold Ma.FZ.sum;show TQ (PrdS R X h.tk h.fn) w F X h _ w';cases hfb:Ref.fitB (x.all+v.n*u.n)
  .exact M131
  .rw[hfb] at s1;have hL:=hC.like;have nf:∀b,X≠b->b≠bA->¬(b=X\/b=bA):=fun b p q e=>by
    rcases e with e|e
    .exact p e.symm
    .exact q e
   refine TQ.mk hC s1 Bp2 rfl rfl rfl (fun _=> ?_) hfo;exact ⟨bF,ba,bA,g,ca,e1,e2,(k1.below hz).foot s3 (nf _ u1 m1),⟨s2,k2.2⟩,(kA.below hz).foot s3 (nf _ u3 m2) (fun e=>e.elim n1 n2),f1,f2,n1,n2,fun _=>hn,fun t ht=>(by
    have ht:x.pend=some t:=ht;rw[hp] at ht;cases ht)⟩
 .rw[h4,h1,hb];exact TQ.fails _ hC 2 hz
end
theorem TQ.from{S:(Nat->Prop)->World->Ma.FZ->Value->Prop}{w u w':World}{F:Nat->Prop}{X:Nat}{h:FH}{y:Ma.FZ}(hf:Foot F w u)(hq:TQ S u F X h y w'):TQ S w F X h y w':=by
 obtain ⟨F',h',h1,h2,h3,h4,h5,h6,h7⟩:=hq;exact ⟨F',h',h1,h2,h3,h4,h5,hf.trans h6,fun k hk=>(h7 k hk).imp_right fun e=>jR hf.size e⟩
structure IfsB(w:World)(F R:Nat->Prop)(X:Nat)(a:List Ma.Arg)(f n all:Int)(ba bN bF bA bU g ca:Nat):Prop where
 kN:FBox w F bN (jI n)
 kF:FBox w F bF (PT X)
 kA:FBox w F bA (jI all)
 kU:FBox w F bU (jI f)
 ar:ArgsAt w ba g a.length ca a
 fa:F ba
 fg:R g
 gX:g≠X
 gN:g≠bN
 gA:g≠bA
 nU:bN≠bU
 nA:bN≠bA
 uA:bU≠bA
section
variable{w w':World}{F R:Nat->Prop}{X:Nat}{a:List Ma.Arg}
include w w' F R X a
theorem IfsB.below{f n all:Int}{ba bN bF bA bU g ca:Nat}(h:IfsB w F R X a f n all ba bN bF bA bU g ca)(hb:Below w.heap.size w w'):IfsB w' F R X a f n all ba bN bF bA bU g ca:=
 ⟨h.kN.below hb,h.kF.below hb,h.kA.below hb,h.kU.below hb,h.ar.below hb,h.fa,h.fg,h.gX,h.gN,h.gA,h.nU,h.nA,h.uA⟩
section
variable{f n all m:Int}{ba bN bF bA bU g ca:Nat}{h:FH}(hX:Fd.At w X h)(k:IfsB w F R X a f n all ba bN bF bA bU g ca)
include f n all m ba bN bF bA bU g ca h hX k
theorem IfsB.setN(hN:Box w' bN (jI m))(hf:Foot (fun k=>k=X\/k=bN) w w'):IfsB w' F R X a f m all ba bN bF bA bU g ca:=by
 have u2:=k.kF.1.ne_at hX;have u3:=k.kA.1.ne_at hX;have u4:=k.kU.1.ne_at hX;have u5:=k.ar.box.ne_at hX;have m2:bF≠bN:=k.kF.1.ne k.kN.1 B8;have m5:ba≠bN:=k.ar.box.ne k.kN.1 B8;exact ⟨⟨hN,k.kN.2⟩,k.kF.foot hf (fun e=>e.elim u2.symm m2),k.kA.foot hf (fun e=>e.elim u3.symm k.nA.symm),k.kU.foot hf (fun e=>e.elim u4.symm k.nU.symm),k.ar.foot hf (fun e=>e.elim u5.symm m5) (fun e=>e.elim k.gX k.gN),k.fa,k.fg,k.gX,k.gN,k.gA,k.nU,k.nA,k.uA⟩
theorem IfsB.setA(hN:Box w' bA (jI m))(hf:Foot (fun k=>k=X\/k=bA) w w'):IfsB w' F R X a f n m ba bN bF bA bU g ca:=by
 have u2:=k.kF.1.ne_at hX;have u3:=k.kN.1.ne_at hX;have u4:=k.kU.1.ne_at hX;have u5:=k.ar.box.ne_at hX;have m2:bF≠bA:=k.kF.1.ne k.kA.1 B8;have m5:ba≠bA:=k.ar.box.ne k.kA.1 B8;exact ⟨k.kN.foot hf (fun e=>e.elim u3.symm k.nA),k.kF.foot hf (fun e=>e.elim u2.symm m2),⟨hN,k.kA.2⟩,k.kU.foot hf (fun e=>e.elim u4.symm k.uA),k.ar.foot hf (fun e=>e.elim u5.symm m5) (fun e=>e.elim k.gX k.gA),k.fa,k.fg,k.gX,k.gN,k.gA,k.nU,k.nA,k.uA⟩
end
end
def IfsAt(w:World)(F R:Nat->Prop)(X:Nat)(a:List Ma.Arg)(f n all:Int)(p:Option Val.V)(tk fn th:Value):Prop:=∃ba bN bF bA bU g ca,tk=Cl 161 #[PT ba,PT bN,PT bF,PT bA,PT bU]/\fn=Cl 163 #[PT bU,PT bN,PT bA]/\IfsB w F R X a f n all ba bN bF bA bU g ca/\
 (p=none->th= .nilFunc)/\(p≠none->th= .func (.func 162) #[] #[PT bF,PT bA])
def IfsS(R:Nat->Prop)(X:Nat)(tk fn:Value)(F:Nat->Prop)(w:World)(y:Ma.FZ)(th:Value):Prop:=IfsAt w F R X y.a y.f y.n y.all y.pend tk fn th
def X67.K12(h:jp:=by
 rcases hf with hf|hf
 .have:x.finish sortI=⟨1,x.all,⟨#[]⟩⟩:=by unfold Ma.FZ.finish;rw[if_pos B1];rfl
  rw[this] at END ⊢;exact (zol bU bN bA x.f x.n x.all w k.kU.1 k.kN.1 k.kA.1 B144).mono END
 .have:x.finish sortI=⟨1,x.n,⟨#[]⟩⟩:=by unfold Ma.FZ.finish;rw[if_neg B1,if_neg B1,if_pos B1];rfl
  rw[this] at END ⊢;exact (zk5 bU bN bA x.f x.n x.all w k.kU.1 k.kN.1 k.kA.1 B144).mono END):=h
section
variable(w:World)(F R:Nat->Prop)(X:Nat)(x:Ma.FZ)(h:FH)
include w F R X x h
theorem zyi(v:Val.V)(ba bN bF bA bU g ca:Nat)(hC:Core w F X x h)(e1:h.tk=Cl 161 #[PT ba,PT bN,PT bF,PT bA,PT bU])(e2:h.fn=Cl 163 #[PT bU,PT bN,PT bA])(k:IfsB w F R X x.a x.f x.n x.all ba bN bF bA bU g ca)(hp:x.pend=none)(hn:h.th= .nilFunc)(hall:Ma.Fit x.all)(hv:Ma.Fit v.n):Calls prog 162 #[VL v,PT bF,PT bA] w fun e w'=>e=jr jT/\TQ (IfsS R X h.tk h.fn) w F X h (x.addIf v) w':=by
 unfold Ma.FZ.addIf;refine zyh X bF bA v w k.kF.1 _ (fun h4 z hz=> ?_) (fun h4 h1 z hz=> ?_) (fun h4 h1 z hz=> ?_)
 .rw[h4];exact TQ.ends _ hC v hz
 .rw[h4,h1];refine (zm6 X bA h x.all v.n z Bp99 (k.kA.1.below hz) hall hv).mono ?_;rintro e w' ⟨rfl,s1,s2,s3⟩;have hfo:Foot F w w':=zaf (s3.mono fun i _ e=>by rcases e with rfl|rfl <;> first|exact hC.fx|exact k.kA.2) hz;refine ⟨rfl,?_⟩;show TQ (IfsS R X h.tk h.fn) w F X h (x.sum v.n) w';unfold Ma.FZ.sum;cases hfb:Ref.fitB (x.all+v.n)
  .exact M131
  .rw[hfb] at s1;have hL:=hC.like;refine TQ.mk hC s1 Bp2 rfl rfl rfl (fun _=> ?_) hfo;exact ⟨ba,bN,bF,bA,bU,g,ca,e1,e2,(k.below hz).setA Bp99 s2 s3,fun _=>hn,fun e=>absurd hp e⟩
 .rw[h4,h1];exact TQ.none hC hz ⟨ba,bN,bF,bA,bU,g,ca,e1,e2,k.below hz,fun _=>hn,fun e=>absurd hp e⟩
theorem then_ifs(v u:Val.V)(th:Value)(hC:Core w F X x h)(hS:IfsAt w F R X x.a x.f x.n x.all (some v) h.tk h.fn th)(hp:x.pend=none)(hn:h.th= .nilFunc)(hf:x.f=73)(hall:Ma.Fit x.all)(hu:Ma.Fit u.n):∃id fs bs,th= .func (.func id) fs bs/\(∀args w,(callFunc id args).run prog w= .ok (.enter id args) w)/\Calls prog id (fs++ #[VL u]++bs) w fun e w'=>e=jr jT/\TQ (IfsS R X h.tk h.fn) w F X h (x.after v u) w':=by
 obtain ⟨ba,bN,bF,bA,bU,g,ca,e1,e2,k,p1,p2⟩:=hS;refine ⟨_,_,_,p2 B8,fun args w=>by kernel_rfl,?_⟩;have:x.after v u=x.addIf u:=by unfold Ma.FZ.after;rw[if_neg B1,if_pos hf]
 rw[this];exact zyi w F R X x h u ba bN bF bA bU g ca hC e1 e2 k hp hn hall hu
theorem take_ifs(v:Val.V)(x0 x1:Ma.Arg)(r:List Ma.Arg)(hC:Core w F X x h)(hS:IfsS R X h.tk h.fn F w x h.th)(hf:x.f=73\/x.f=74)(hp:x.pend=none)(ha:x.a=x0::x1::r)(hr:r=[]\/x.f=73/\∃x2,r=[x2])(hb:∀x2,r=[x2]->∀z:Int,z=x2.a.t+x.here.r\/z=x2.a.t+x.here.r-x0.a.t\/z=x2.a.l+x.here.c\/z=x2.a.l+x.here.c-x0.a.l->-9223372036854775808<=z/\z<=9223372036854775807)(hall:Ma.Fit x.all)(hv:Ma.Fit v.n):
 ∃id bs,h.tk=Cl id bs/\(∀args w,(callFunc id args).run prog w= .ok (.enter id args) w)/\∀cell,Calls prog id (#[VL v,.bool cell]++bs) w fun e w'=>e=jr jT/\TQ (IfsS R X h.tk h.fn) w F X h (x.ifs v) w':=by
 obtain ⟨ba,bN,bF,bA,bU,g,ca,e1,e2,k,p1,p2⟩:=hS;have hn:=p1 hp;refine ⟨_,_,e1,fun args w=>by kernel_rfl,fun cell=> ?_⟩;have hx0:x.arg 0=x0:=zc1 B81;have hx1:x.arg 1=x1:=zc1 B81;have u1:=k.kN.1.ne_at hC.cells;have hL:Like h {x with n:=Ma.FZ.i64 (x.n+1)}:=Bp11;unfold Ma.FZ.ifs;rw[hx1];have kar:=k.ar;cases he:Ma.equal x1.v v
 .simp only[cond_false];have NO:∀e w',e=Ending.returned jT/\Below w.heap.size w w'->e=Ending.returned jT/\TQ (IfsS R X h.tk h.fn) w F X h x w':=fun e w' ⟨q,hz⟩=> ⟨q,TQ.none hC hz ⟨ba,bN,bF,bA,bU,g,ca,e1,e2,k.below hz,p1,p2⟩⟩;rcases hr with rfl|⟨_,x2,rfl⟩
  .rw[ha] at kar;exact (ifs_no X ba g ca bN bF bA bU h x0 x1 x.f x.n v cell w hC.cells kar k.kN.1 k.kF.1 k.kU.1 k.nU k.gN he).mono NO
  .rw[ha] at kar;exact (ifs_no3 X ba g ca bN bF bA bU h x0 x1 x2 x.f x.n v cell w hC.cells kar k.kN.1 k.kF.1 k.kU.1 k.nU k.gN he).mono NO
 .simp only[cond_true];cases h74:(x.f==74)
  .rcases hr with rfl|⟨hf3,x2,rfl⟩
   .rw[ha] at kar;rw[show (x.a.length==3)=false by rw[ha];rfl];refine ifs_add X ba g ca bN bF bA bU h x0 x1 x.f x.n v cell w hC.cells kar k.kN.1 k.kF.1 k.kU.1 k.nU k.gN he h74 _ fun u q1 q2 q3=> ?_;have hfo:Foot F w u:=q3.mono fun i _ e=>by rcases e with rfl|rfl <;> first|exact hC.fx|exact k.kN.2
    refine (zyi u F R X {x with n:=Ma.FZ.i64 (x.n+1)} h v ba bN bF bA bU g ca ⟨q1,hL,hC.fx,fun k hk=>jL (hC.lt k hk) hfo.size⟩ e1 e2 (k.setN hC.cells q2 q3) hp hn hall hv).mono ?_;rintro e w' ⟨rfl,hq⟩;exact ⟨rfl,TQ.from hfo hq⟩
   .rw[ha] at kar;have hx2:x.arg 2=x2:=zc1 B81;rw[show (x.a.length==3)=true by rw[ha];rfl,hx0,hx2];have W:∀z:Int,z=x2.a.t+x.here.r\/z=x2.a.t+x.here.r-x0.a.t\/z=x2.a.l+x.here.c\/z=x2.a.l+x.here.c-x0.a.l->IntKind.i64.wrap z=z:=fun z hz=>zae (hb x2 rfl z hz).1 (hb x2 rfl z hz).2;refine (ifs_want X ba g ca bN bF bA bU h x0 x1 x2 x.f x.n v cell w hC.cells kar k.kN.1 k.kF.1 k.kU.1 k.nU k.gN he h74 (x2.a.t+x.here.r) (x2.a.t+x.here.r-x0.a.t) (x2.a.l+x.here.c) (x2.a.l+x.here.c-x0.a.l) (by rw[hC.like.hr];exact W _ (.inl rfl)) (W _ (.inr (.inl rfl))) B184 (W _ (.inr (.inr (.inr rfl))))).mono ?_;rintro e w' ⟨rfl,q1,q2,q3⟩;have hfo:Foot F w w':=q3.mono fun i _ e=>by rcases e with rfl|rfl <;> first|exact hC.fx|exact k.kN.2
    exact ⟨rfl,TQ.mk hC q1 (hL.want _ _ _ v) rfl rfl rfl (fun _=> ⟨ba,bN,bF,bA,bU,g,ca,e1,e2,k.setN hC.cells q2 q3,nofun,fun _=>rfl⟩) hfo⟩
  .rcases hr with rfl|⟨hf3,x2,rfl⟩
   .rw[ha] at kar;refine (zv8 X ba g ca bN bF bA bU h x0 x1 x.f x.n v cell w hC.cells kar k.kN.1 k.kF.1 k.kU.1 k.nU k.gN he h74).mono ?_;rintro e w' ⟨rfl,q1,q2,q3⟩;have hfo:Foot F w w':=q3.mono fun i _ e=>by rcases e with rfl|rfl <;> first|exact hC.fx|exact k.kN.2
    exact ⟨rfl,TQ.mk hC q1 Bp2 rfl rfl rfl (fun _=> ⟨ba,bN,bF,bA,bU,g,ca,e1,e2,k.setN hC.cells q2 q3,p1,p2⟩) hfo⟩
   .rw[hf3] at h74;cases h74
theorem end_ifs(hC:Core w F X x h)(hS:IfsS R X h.tk h.fn F w x h.th)(hf:x.f=73\/x.f=74):∃id bs,h.fn=Cl id bs/\(∀args w,(callFunc id args).run prog w= .ok (.enter id args) w)/\Calls prog id bs w fun e w'=>e=jr (VL (x.finish sortI))/\Core w' F X x h/\Foot F w w':=by
 obtain ⟨ba,bN,bF,bA,bU,g,ca,e1,e2,k,_⟩:=hS;refine ⟨_,_,e2,fun args w=>by kernel_rfl,?_⟩
 open X67 in exact C12
end
def SizeAt(w:World)(F:Nat->Prop)(X:Nat)(f k:Int)(l:List Int)(tk fn:Value):Prop:=∃gF gA bL bK bk sv,tk=Cl 144 #[PT gF,PT gA]/\fn=Cl 148 #[PT bL,PT bK,PT bk]/\
 FBox w F gF (PT X)/\FBox w F gA (Cl 147 #[PT bL])/\FBox w F bL sv/\FBox w F bK (jI f)/\FBox w F bk (jI k)/\w.ownsRow 0 2 1 sv l.length (intC l)/\(f=59\/f=60\/f=62->k=1)/\
 (∀k,sv.ownBlock=some k->F k)/\sv.ownBlock≠some X/\sv.ownBlock≠some gF/\sv.ownBlock≠some gA/\sv.ownBlock≠some bL/\sv.ownBlock≠some bK/\sv.ownBlock≠some bk
theorem SizeAt.below{w w':World}{F:Nat->Prop}{X:Nat}{f k:Int}{l:List Int}{tk fn:Value}(h:SizeAt w F X f k l tk fn)(hb:Below w.heap.size w w'):SizeAt w' F X f k l tk fn:=by
 obtain ⟨gF,gA,bL,bK,bk,sv,e1,e2,k1,k2,k3,k4,k5,own,r⟩:=h;exact ⟨gF,gA,bL,bK,bk,sv,e1,e2,k1.below hb,k2.below hb,k3.below hb,k4.below hb,k5.below hb,own_bel own hb,r⟩
def zou(X:Nat)(tk fn:Value)(F:Nat->Prop)(w:World)(y:Ma.FZ)(th:Value):Prop:=SizeAt w F X y.f y.k y.l tk fn/\th= .nilFunc
def B159(h:jp:=by unfold Ma.FZ.zbh;simp only[zau];rw[hlz,h0,d1,d2];rfl):=h
def B169(h:jp:=by unfold Ma.FZ.zbh;simp only[zau];rw[hlz,h0];rfl):=h
theorem ztd(w:World)(F:Nat->Prop)(X:Nat)(x:Ma.FZ)(h:FH)(v:Val.V)(hC:Core w F X x h)(hS:zou X h.tk h.fn F w x h.th)(hf:x.f=59\/x.f=60\/x.f=62\/x.f=63\/x.f=64)(hl:x.l.length<=10000000000)(hv:VB v)(hW:NumW w):∃id bs,h.tk=Cl id bs/\(∀args w,(callFunc id args).run prog w= .ok (.enter id args) w)/\∀cell,Calls prog id (#[VL v,.bool cell]++bs) w fun e w'=>e=jr jT/\TQ (zou X h.tk h.fn) w F X h (x.gather v cell) w':=by
 obtain ⟨gF,gA,bL,bK,bk,sv,e1,e2,k1,k2,k3,k4,k5,own,hk,fo,n1,n2,n3,n4,n5,n6⟩:=hS.1;refine ⟨_,_,e1,fun args w=>by kernel_rfl,fun cell=> ?_⟩;have ADD:∀n,∀u,Below w.heap.size w u->Calls prog 147 #[jI n,PT bL] u fun e w'=>e=jr jT/\TQ (zou X h.tk h.fn) w F X h (x.add n) w':=fun n u hu=>by
  refine (add_size bL sv x.l n u (k3.1.below hu) (own_bel own hu) n4 hl).mono ?_;rintro e w' ⟨rfl,sv',q3,q4,q5,q6⟩;refine ⟨rfl,?_⟩;have ea:x.add n={x with l:=x.l++ [n]}:=by unfold Ma.FZ.add;rw[if_neg B1,if_neg B1]
  rw[ea];have hL:Like h {x with l:=x.l++ [n]}:=Bp11;have hfo:Foot F w w':=zaf (q5.mono fun i _ e=>by rcases e with rfl|e <;> first|exact k3.2|exact fo _ e) hu;have sh:∃a c,sv= .slice a x.l.length c:=by
   exact M198
  have u3:=k3.1.ne_at hC.cells;have a1:gF≠bL:=k1.1.ne k3.1 B50;have a2:gA≠bL:=k2.1.ne k3.1 B50;have a4:bK≠bL:=k4.1.ne k3.1 B50;have a5:bk≠bL:=k5.1.ne k3.1 B50;have nf:∀b,b≠bL->sv.ownBlock≠some b->¬(b=bL\/sv.ownBlock=some b):=fun b p q e=>e.elim p q;have hsz:=hu.size;have ne:∀b,b<w.heap.size->sv.ownBlock≠some b->sv'.ownBlock≠some b:=fun b hb hn e=>by
   rcases q6 b e with e|e
   .exact hn e
   .omega
  have q4':w'.ownsRow 0 2 1 sv' (x.l++ [n]).length (intC (x.l++ [n])):=by rw[List.length_append];exact q4
  refine ⟨fun k=>F k\/sv'.ownBlock=some k,h,⟨(hC.cells.below2 hu).foot q5 (nf _ u3 n1),hL,.inl hC.fx,fun k hk=> ?_⟩,rfl,rfl,rfl,fun _=> ⟨?_,hS.2⟩,hfo,fun k hk=> ?_⟩
  .rcases hk with hk|hk
   .exact jL (hC.lt k hk) hfo.size
   .exact (q4'.lt _ hk).2
  .exact ⟨gF,gA,bL,bK,bk,sv',e1,e2,⟨(k1.1.below hu).foot q5 (nf _ a1 n2),.inl k1.2⟩,⟨(k2.1.below hu).foot q5 (nf _ a2 n3),.inl k2.2⟩,⟨q3,.inl k3.2⟩,⟨(k4.1.below hu).foot q5 (nf _ a4 n5),.inl k4.2⟩,⟨(k5.1.below hu).foot q5 (nf _ a5 n6),.inl k5.2⟩,q4',hk,fun k hk=> .inr hk,
    ne _ hC.cells.lt n1,ne _ k1.1.lt n2,ne _ k2.1.lt n3,ne _ k3.1.lt n4,ne _ k4.1.lt n5,ne _ k5.1.lt n6⟩
  .rcases hk with hk|hk
   .exact .inl hk
   .exact (q6 k hk).imp (fo k) fun e=>jR hsz e
 refine zn6 X gF gA bL v cell w k1.1 k2.1 hv hW _ (fun hc h4 u hu=> ?_) (fun hc h4 h1 u hu=> ?_) (fun hc h4 h1 u hu=> ?_) (fun hc h2 u hu=> ?_) (fun hc h2 u hu=> ?_)
 .exact M141
 .have:x.gather v cell=x.add v.n:=by unfold Ma.FZ.gather;rw[hc,h4,h1];rfl
  rw[this];exact ADD v.n u hu
 .have:x.gather v cell=x:=by unfold Ma.FZ.gather;rw[hc,h4,h1];rfl
  rw[this];exact TQ.none hC hu ⟨SizeAt.below hS.1 hu,hS.2⟩
 .have:x.gather v cell=x.add (Val.number v).1:=by unfold Ma.FZ.gather;rw[hc,h2];rfl
  rw[this];exact ADD _ u hu
 .exact M126
theorem getS{l:List Int}{i:Nat}(h:i<l.length):(sortI l)[i]?=some ((sortI l).getD i 0):=by
 rw[List.getD_eq_getElem?_getD,List.getElem?_eq_getElem (by rw[zau];exact h)];rfl
theorem size_end(bL bK bk:Nat)(sv:Value)(l:List Int)(w:World)(f k:Int)(kL:Box w bL sv)(kK:Box w bK (jI f))(kk:Box w bk (jI k))(hown:w.ownsRow 0 2 1 sv l.length (intC l))(hl:l.length<=10000000000)(n1:sv.ownBlock≠some bL)(n2:sv.ownBlock≠some bK)(n3:sv.ownBlock≠some bk)(hf:f=59\/f=60\/f=62\/f=63\/f=64)(hk1:f=59\/f=60\/f=62->k=1)(hfit:∀y∈l,Ma.Fit y):Calls prog 148 #[PT bL,PT bK,PT bk] w fun e w'=>e=jr (VL (Ma.FZ.zbh f k (sortI l)))/\Foot (fun k=>sv.ownBlock=some k) w w':=by
 have hfs:∀i,Ma.Fit ((sortI l).getD i 0):=Ma.FZ.zd5 (zhd l hfit);have hlz:((l.length:Int)==0)=(l.length==0):=by
  cases h:(l.length==0)
  .rw[beq_eq_false_iff_ne] at h ⊢;omega
  .rw[beq_iff_eq] at h ⊢;omega
 rcases hf with rfl|rfl|rfl|rfl|rfl
 .obtain rfl:=hk1 (.inl rfl);cases h0:(l.length==0)
  .have h0':0<l.length:=by have:=(beq_eq_false_iff_ne).1 h0;omega
   have:Ma.FZ.zbh 59 1 (sortI l)=⟨1,(sortI l).getD 0 0,⟨#[]⟩⟩:=B169;rw[this];exact sz_min _ bL bK bk sv l w kL kK kk hown hl n1 n2 n3 (getS h0') h0'
  .have:Ma.FZ.zbh 59 1 (sortI l)=⟨1,0,⟨#[]⟩⟩:=by unfold Ma.FZ.zbh;simp only[zau];rw[hlz,h0];rfl
   rw[this];exact sz_min0 bL bK bk sv l w kL kK kk hown hl n1 n2 n3 B71
 .obtain rfl:=hk1 (.inr (.inl rfl));cases h0:(l.length==0)
  .have h0':0<l.length:=by have:=(beq_eq_false_iff_ne).1 h0;omega
   have:Ma.FZ.zbh 60 1 (sortI l)=⟨1,(sortI l).getD ((l.length:Int)-1).toNat 0,⟨#[]⟩⟩:=B169;rw[this];have ei:((l.length:Int)-1).toNat=l.length-1:=B1;rw[ei];exact sz_max _ (l.length-1) bL bK bk sv l w kL kK kk hown hl n1 n2 n3 (getS B1) B1
  .have:Ma.FZ.zbh 60 1 (sortI l)=⟨1,0,⟨#[]⟩⟩:=by unfold Ma.FZ.zbh;simp only[zau];rw[hlz,h0];rfl
   rw[this];exact sz_max0 bL bK bk sv l w kL kK kk hown hl n1 n2 n3 B71
 .obtain rfl:=hk1 (.inr (.inr rfl));cases h0:(l.length==0)
  .have h0':0<l.length:=by have:=(beq_eq_false_iff_ne).1 h0;omega
   have hd1:decide ((l.length:Int)<1)=false:=decide_eq_false B1;cases ho:(l.length%2==1)
   .have hm:l.length%2=0:=by have:=(beq_eq_false_iff_ne).1 ho;omega
    have hi:l.length=2*(l.length/2-1+1):=B1;have ei:l.length/2=l.length/2-1+1:=B1;have ha:=getS (l:=l) (i:=l.length/2-1) B1;have hb:=getS (l:=l) (i:=l.length/2-1+1) B1;have fa:=hfs (l.length/2-1);have fb:=hfs (l.length/2-1+1);have e:Ma.FZ.zbh 62 1 (sortI l)=cond (decide ((sortI l).getD (l.length/2-1) 0<0) !=decide ((sortI l).getD (l.length/2-1+1) 0<0)) (Cal.num (((sortI l).getD (l.length/2-1) 0+(sortI l).getD (l.length/2-1+1) 0).tdiv 2))
     (Cal.num (((sortI l).getD (l.length/2-1) 0).tdiv 2+((sortI l).getD (l.length/2-1+1) 0).tdiv 2+(((sortI l).getD (l.length/2-1) 0).tmod 2+((sortI l).getD (l.length/2-1+1) 0).tmod 2).tdiv 2)):=by
     unfold Ma.FZ.zbh;simp only[zau];rw[hlz,h0,hd1,ho,<-ei];rfl
    rw[e];generalize (sortI l).getD (l.length/2-1) 0=a at *;generalize (sortI l).getD (l.length/2-1+1) 0=b at *;cases da:decide (a<0) <;> cases db:decide (b<0)
    .exact zq2 a b _ bL bK bk sv l w kL kK kk hown hl n1 n2 n3 ha hb hi fa fb da db
    .exact zq1 a b _ bL bK bk sv l w kL kK kk hown hl n1 n2 n3 ha hb hi fa fb da db
    .exact zq0 a b _ bL bK bk sv l w kL kK kk hown hl n1 n2 n3 ha hb hi fa fb da db
    .exact zqz a b _ bL bK bk sv l w kL kK kk hown hl n1 n2 n3 ha hb hi fa fb da db
   .have hm:l.length=2*(l.length/2)+1:=by have:=(beq_iff_eq).1 ho;omega
    have:Ma.FZ.zbh 62 1 (sortI l)=⟨1,(sortI l).getD (l.length/2) 0,⟨#[]⟩⟩:=by unfold Ma.FZ.zbh;simp only[zau];rw[hlz,h0,hd1,ho];rfl
    rw[this];exact sz_odd _ (l.length/2) bL bK bk sv l w kL kK kk hown hl n1 n2 n3 (getS B1) hm
  .have:Ma.FZ.zbh 62 1 (sortI l)=⟨4,2,⟨#[]⟩⟩:=by unfold Ma.FZ.zbh;simp only[zau];rw[hlz,h0];rfl
   rw[this];exact sz_med0 bL bK bk sv l w kL kK kk hown hl n1 n2 n3 B71
 .cases h0:(l.length==0)
  .have h0':0<l.length:=by have:=(beq_eq_false_iff_ne).1 h0;omega
   cases d1:decide (k<1)
   .cases d2:decide ((l.length:Int)<k)
    .have g1:=of_decide_eq_false d1;have g2:=of_decide_eq_false d2;have:Ma.FZ.zbh 63 k (sortI l)=⟨1,(sortI l).getD ((l.length:Int)-k).toNat 0,⟨#[]⟩⟩:=B159;rw[this];exact sz_large k _ ((l.length:Int)-k).toNat bL bK bk sv l w kL kK kk hown hl n1 n2 n3 (getS B1) ⟨by omega,by omega,B1⟩
    .have:Ma.FZ.zbh 63 k (sortI l)=⟨4,2,⟨#[]⟩⟩:=by unfold Ma.FZ.zbh;simp only[zau];rw[hlz,h0,d1,d2];rfl
     rw[this];exact ztm k bL bK bk sv l w kL kK kk hown hl n1 n2 n3 h0' d1 d2
   .have:Ma.FZ.zbh 63 k (sortI l)=⟨4,2,⟨#[]⟩⟩:=by unfold Ma.FZ.zbh;simp only[zau];rw[hlz,h0,d1];rfl
    rw[this];exact ztn k bL bK bk sv l w kL kK kk hown hl n1 n2 n3 h0' d1
  .have:Ma.FZ.zbh 63 k (sortI l)=⟨4,2,⟨#[]⟩⟩:=by unfold Ma.FZ.zbh;simp only[zau];rw[hlz,h0];rfl
   rw[this];exact zto k bL bK bk sv l w kL kK kk hown hl n1 n2 n3 B71
 .cases h0:(l.length==0)
  .have h0':0<l.length:=by have:=(beq_eq_false_iff_ne).1 h0;omega
   cases d1:decide (k<1)
   .cases d2:decide ((l.length:Int)<k)
    .have g1:=of_decide_eq_false d1;have g2:=of_decide_eq_false d2;have:Ma.FZ.zbh 64 k (sortI l)=⟨1,(sortI l).getD (k-1).toNat 0,⟨#[]⟩⟩:=B159;rw[this];exact sz_small k _ (k-1).toNat bL bK bk sv l w kL kK kk hown hl n1 n2 n3 (getS B1) ⟨by omega,B1⟩
    .have:Ma.FZ.zbh 64 k (sortI l)=⟨4,2,⟨#[]⟩⟩:=by unfold Ma.FZ.zbh;simp only[zau];rw[hlz,h0,d1,d2];rfl
     rw[this];exact ztj k bL bK bk sv l w kL kK kk hown hl n1 n2 n3 h0' d1 d2
   .have:Ma.FZ.zbh 64 k (sortI l)=⟨4,2,⟨#[]⟩⟩:=by unfold Ma.FZ.zbh;simp only[zau];rw[hlz,h0,d1];rfl
    rw[this];exact ztk k bL bK bk sv l w kL kK kk hown hl n1 n2 n3 h0' d1
  .have:Ma.FZ.zbh 64 k (sortI l)=⟨4,2,⟨#[]⟩⟩:=by unfold Ma.FZ.zbh;simp only[zau];rw[hlz,h0];rfl
   rw[this];exact ztl k bL bK bk sv l w kL kK kk hown hl n1 n2 n3 B71
theorem end_size(w:World)(F:Nat->Prop)(X:Nat)(x:Ma.FZ)(h:FH)(hC:Core w F X x h)(hS:zou X h.tk h.fn F w x h.th)(hf:x.f=59\/x.f=60\/x.f=62\/x.f=63\/x.f=64)(hl:x.l.length<=10000000000)(hfit:∀y∈x.l,Ma.Fit y):∃id bs,h.fn=Cl id bs/\(∀args w,(callFunc id args).run prog w= .ok (.enter id args) w)/\Calls prog id bs w fun e w'=>e=jr (VL (x.finish sortI))/\Core w' F X x h/\Foot F w w':=by
 obtain ⟨gF,gA,bL,bK,bk,sv,e1,e2,k1,k2,k3,k4,k5,own,hk,fo,n1,n2,n3,n4,n5,n6⟩:=hS.1;refine ⟨_,_,e2,fun args w=>by kernel_rfl,?_⟩;have:x.finish sortI=Ma.FZ.zbh x.f x.k (sortI x.l):=by unfold Ma.FZ.finish;rw[if_neg B1,if_neg B1,if_neg B1,if_pos B1]
 rw[this];refine (size_end bL bK bk sv x.l w x.f x.k k3.1 k4.1 k5.1 own hl n4 n5 n6 hf hk hfit).mono ?_;rintro e w' ⟨rfl,q1⟩;exact ⟨rfl,⟨hC.cells.foot q1 n1,hC.like,hC.fx,fun k hk=>jL (hC.lt k hk) q1.size⟩,q1.mono fun i _ e=>fo i e⟩
def TextAt(w:World)(F:Nat->Prop)(X:Nat)(sk odd:Bool)(b sep:List UInt8)(tk fn:Value):Prop:=∃bK bF bO bB bS sv,tk=Cl 153 #[PT bK,PT bF,PT bO,PT bB,PT bS]/\fn=Cl 154 #[PT bB]/\
 FBox w F bK (.bool sk)/\FBox w F bF (PT X)/\FBox w F bO (.bool odd)/\FBox w F bB sv/\FBox w F bS (jS ⟨sep.toArray⟩)/\w.ownsRow 0 5 1 sv b.length (bytC b)/\bK≠bO/\
 (∀k,sv.ownBlock=some k->F k)/\sv.ownBlock≠some X/\sv.ownBlock≠some bK/\sv.ownBlock≠some bF/\sv.ownBlock≠some bO/\sv.ownBlock≠some bB/\sv.ownBlock≠some bS
theorem TextAt.below{w w':World}{F:Nat->Prop}{X:Nat}{sk odd:Bool}{b sep:List UInt8}{tk fn:Value}(h:TextAt w F X sk odd b sep tk fn)(hb:Below w.heap.size w w'):TextAt w' F X sk odd b sep tk fn:=by
 obtain ⟨bK,bF,bO,bB,bS,sv,e1,e2,k1,k2,k3,k4,k5,own,r⟩:=h;exact ⟨bK,bF,bO,bB,bS,sv,e1,e2,k1.below hb,k2.below hb,k3.below hb,k4.below hb,k5.below hb,own_bel own hb,r⟩
def zot(X:Nat)(tk fn:Value)(F:Nat->Prop)(w:World)(y:Ma.FZ)(th:Value):Prop:=TextAt w F X (y.f==69) y.odd y.b y.sep tk fn/\th= .nilFunc
def X65.K12(h:jp:=by
 have:x.finish sortI=⟨3,0,⟨x.b.toArray⟩⟩:=by unfold Ma.FZ.finish;rw[if_neg B1,if_neg B1,if_neg B1,if_neg B1,if_neg B1,if_pos B1];rfl
 rw[this] at END ⊢;exact (zwv bB sv x.b w k4.1 own).mono END):=h
section
variable(w:World)(F:Nat->Prop)(X:Nat)(x:Ma.FZ)(h:FH)
include w F X x h
theorem ztc(v:Val.V)(hC:Core w F X x h)(hS:zot X h.tk h.fn F w x h.th)(hb:x.b.length<=32767)(hsep:x.sep.length<=32767)(hv:VB v)(hW:NumW w):∃id bs,h.tk=Cl id bs/\(∀args w,(callFunc id args).run prog w= .ok (.enter id args) w)/\∀cell,Calls prog id (#[VL v,.bool cell]++bs) w fun e w'=>e=jr jT/\TQ (zot X h.tk h.fn) w F X h (x.texts v cell) w':=by
 obtain ⟨bK,bF,bO,bB,bS,sv,e1,e2,k1,k2,k3,k4,k5,own,n0,fo,n1,n2,n3,n4,n5,n6⟩:=hS.1;refine ⟨_,_,e1,fun args w=>by kernel_rfl,fun cell=> ?_⟩;have GO:∀(bb:List UInt8) e w',e=Ending.returned jT/\Fd.At w' X (cond (decide (32767<bb.length)) (h.fails 4) h)/\Box w' bO (.bool true)/\(∃sv',Box w' bB sv'/\w'.ownsRow 0 5 1 sv' bb.length (bytC bb)/\Foot (fun k=>k=X\/k=bO\/k=bB\/sv.ownBlock=some k) w w'/\(∀k,sv'.ownBlock=some k->sv.ownBlock=some k\/w.heap.size<=k))->e=Ending.returned jT/\TQ (zot X h.tk h.fn) w F X h (cond (decide (32767<bb.length)) (Ma.FZ.fails {x with odd:=true,b:=bb} 4) {x with odd:=true,b:=bb}) w':=by
  rintro bb e w' ⟨he,q1,q2,sv',q3,q4,q5,q6⟩;refine ⟨he,?_⟩;have hfo:Foot F w w':=q5.mono fun i _ e=>by rcases e with rfl|rfl|rfl|e <;> first|exact hC.fx|exact k3.2|exact k4.2|exact fo _ e
  have hL:Like h {x with odd:=true,b:=bb}:=Bp11;cases hd:decide (32767<bb.length)
  .rw[hd] at q1;have u1:=k1.1.ne_at hC.cells;have u2:=k2.1.ne_at hC.cells;have u5:=k5.1.ne_at hC.cells;have a1:bF≠bO:=k2.1.ne k3.1 B8;have a2:bS≠bO:=k5.1.ne k3.1 B8;have sh:∃a c,sv= .slice a x.b.length c:=by
    exact M198
   have a3:bK≠bB:=k1.1.ne k4.1 B50;have a4:bF≠bB:=k2.1.ne k4.1 B50;have a5:bS≠bB:=k5.1.ne k4.1 B50;have nf:∀b,X≠b->b≠bO->b≠bB->sv.ownBlock≠some b->¬(b=X\/b=bO\/b=bB\/sv.ownBlock=some b):=fun b p q r s e=>by
    rcases e with e|e|e|e
    .exact p e.symm
    .exact q e
    .exact r e
    .exact s e
   have ne:∀b,b<w.heap.size->sv.ownBlock≠some b->sv'.ownBlock≠some b:=fun b hb hn e=>by
    rcases q6 b e with e|e
    .exact hn e
    .omega
   refine ⟨fun k=>F k\/sv'.ownBlock=some k,h,⟨q1,hL,.inl hC.fx,fun k hk=> ?_⟩,rfl,rfl,rfl,fun _=> ⟨?_,hS.2⟩,hfo,fun k hk=> ?_⟩
   .rcases hk with hk|hk
    .exact jL (hC.lt k hk) hfo.size
    .exact (q4.lt _ hk).2
   .exact ⟨bK,bF,bO,bB,bS,sv',e1,e2,⟨k1.1.foot q5 (nf _ u1 n0 a3 n2),.inl k1.2⟩,⟨k2.1.foot q5 (nf _ u2 a1 a4 n3),.inl k2.2⟩,⟨q2,.inl k3.2⟩,⟨q3,.inl k4.2⟩,⟨k5.1.foot q5 (nf _ u5 a2 a5 n6),.inl k5.2⟩,q4,n0,fun k hk=> .inr hk,
     ne _ hC.cells.lt n1,ne _ k1.1.lt n2,ne _ k2.1.lt n3,ne _ k3.1.lt n4,ne _ k4.1.lt n5,ne _ k5.1.lt n6⟩
   .rcases hk with hk|hk
    .exact .inl hk
    .exact (q6 k hk).imp_left (fo k)
  .rw[hd] at q1;have hs:=ends_same h ⟨4,4,⟨#[]⟩⟩;exact TQ.mk hC q1 (hL.fails 4) hs.1 hs.2.1 hs.2.2.2 (fun e=>absurd ((show (Ma.FZ.fails {x with odd:=true,b:=bb} 4).over=true from Ma.FZ.zax).symm.trans e) B3) hfo
 cases hk:(x.f==69&&cell&&v.k==0)
 .cases hc:((Val.asText v).2==0)
  .have:x.texts v cell=x.fails (Val.asText v).2:=by unfold Ma.FZ.texts;rw[hk,hc];rfl
   rw[this];exact zqt X bK bF bO bB bS _ v cell w k1.1 k2.1 hk hv hW hc _ fun u hu=>TQ.fails _ hC _ hu
  .cases ho:x.odd
   .have:x.texts v cell=cond (decide (32767<(x.b++(Val.asText v).1.data.toList).length)) (Ma.FZ.fails {x with odd:=true,b:=x.b++(Val.asText v).1.data.toList} 4) {x with odd:=true,b:=x.b++(Val.asText v).1.data.toList}:=by
     unfold Ma.FZ.texts;rw[hk,hc,ho];show cond (decide (32767<(x.b++ []++(Val.asText v).1.data.toList).length)) (Ma.FZ.fails {x with odd:=true,b:=x.b++ []++(Val.asText v).1.data.toList} 4) {x with odd:=true,b:=x.b++ []++(Val.asText v).1.data.toList}=_;rw[List.append_nil]
    rw[this];rw[ho] at k3;exact (zi2 X bK bF bO bB bS _ v cell w h sv x.b ⟨x.sep.toArray⟩ hC.cells k1.1 k2.1 k3.1 k4.1 k5.1 own n5 n1 n3 n4 n6 hb hsep hk hv hW hc).mono (GO _)
   .have:x.texts v cell=cond (decide (32767<(x.b++x.sep++(Val.asText v).1.data.toList).length)) (Ma.FZ.fails {x with odd:=true,b:=x.b++x.sep++(Val.asText v).1.data.toList} 4) {x with odd:=true,b:=x.b++x.sep++(Val.asText v).1.data.toList}:=by
     unfold Ma.FZ.texts;rw[hk,hc,ho];rfl
    rw[this];rw[ho] at k3;exact (zj7 X bK bF bO bB bS _ v cell w h sv x.b ⟨x.sep.toArray⟩ hC.cells k1.1 k2.1 k3.1 k4.1 k5.1 own n5 n1 n3 n4 n6 hb hsep hk hv hW hc).mono (GO _)
 .have:x.texts v cell=x:=by unfold Ma.FZ.texts;rw[hk];rfl
  rw[this];refine (zqr X bK bF bO bB bS _ v cell w k1.1 hk).mono ?_;rintro e w' ⟨rfl,hbw⟩;exact ⟨rfl,TQ.none hC hbw ⟨TextAt.below hS.1 hbw,hS.2⟩⟩
theorem end_text(hC:Core w F X x h)(hS:zot X h.tk h.fn F w x h.th)(hf:x.f=68\/x.f=69):∃id bs,h.fn=Cl id bs/\(∀args w,(callFunc id args).run prog w= .ok (.enter id args) w)/\Calls prog id bs w fun e w'=>e=jr (VL (x.finish sortI))/\Core w' F X x h/\Foot F w w':=by
 obtain ⟨bK,bF,bO,bB,bS,sv,e1,e2,k1,k2,k3,k4,k5,own,r⟩:=hS.1;refine ⟨_,_,e2,fun args w=>by kernel_rfl,?_⟩
 open X65 in exact C12
end
structure Clos(R:Nat->Prop)(X:Nat)(f:Int)(tk fn:Value)(F:Nat->Prop)(w:World)(y:Ma.FZ)(th:Value):Prop where
 sum:f=54\/f=61->SumS X tk fn F w y th
 prod:f=55->zov X tk fn F w y th
 count:f=56\/f=57\/f=58->zj1 X tk fn F w y th
 size:f=59\/f=60\/f=62\/f=63\/f=64->zou X tk fn F w y th
 tru:f=65\/f=66\/f=67->TruS X tk fn F w y th
 text:f=68\/f=69->zot X tk fn F w y th
 mat:f=70->zj0 R X tk fn F w y th
 look:f=71\/f=72->zmw R X tk fn F w y th
 ifs:f=73\/f=74->IfsS R X tk fn F w y th
 prd:f=75->PrdS R X tk fn F w y th
 first:f=76->zmy X tk fn F w y th
def M74(h:jp:=by
 constructor <;> intro e <;> first|exact h|(exfalso;omega)):=h
def B132(h:jp:=by have:=List.mem_of_getElem? hit;rw[s1] at this;exact List.mem_singleton.1 this):=h
def M3(h:jp:=by
 unfold Ma.FZ.take
 first
  |rw[if_pos B1]
  |rw[if_neg B1,if_pos B1]
  |rw[if_neg B1,if_neg B1,if_pos B1]
  |rw[if_neg B1,if_neg B1,if_neg B1,if_pos B1]
  |rw[if_neg B1,if_neg B1,if_neg B1,if_neg B1,if_pos B1]
  |rw[if_neg B1,if_neg B1,if_neg B1,if_neg B1,if_neg B1,if_pos B1]
  |rw[if_neg B1,if_neg B1,if_neg B1,if_neg B1,if_neg B1,if_neg B1,if_pos B1]
  |rw[if_neg B1,if_neg B1,if_neg B1,if_neg B1,if_neg B1,if_neg B1,if_neg B1,if_pos B1]
  |rw[if_neg B1,if_neg B1,if_neg B1,if_neg B1,if_neg B1,if_neg B1,if_neg B1,if_neg B1]):=h
def M65(h:jp:=by
 exact ⟨id,bs,e1,e2,fun cell=>(e3 cell).mono fun e w' k=> ⟨k.1,TQ.cl M k.2⟩⟩):=h
section
variable{R:Nat->Prop}{X:Nat}{f:Int}
include R X f
theorem Clos.of_sum(hf:f=54\/f=61){tk fn:Value}{F:Nat->Prop}{w:World}{y:Ma.FZ}{th:Value}(h:SumS X tk fn F w y th):Clos R X f tk fn F w y th:=by
 exact M74
theorem Clos.of_prod(hf:f=55){tk fn:Value}{F:Nat->Prop}{w:World}{y:Ma.FZ}{th:Value}(h:zov X tk fn F w y th):Clos R X f tk fn F w y th:=by
 exact M74
theorem Clos.of_count(hf:f=56\/f=57\/f=58){tk fn:Value}{F:Nat->Prop}{w:World}{y:Ma.FZ}{th:Value}(h:zj1 X tk fn F w y th):Clos R X f tk fn F w y th:=by
 exact M74
theorem Clos.of_size(hf:f=59\/f=60\/f=62\/f=63\/f=64){tk fn:Value}{F:Nat->Prop}{w:World}{y:Ma.FZ}{th:Value}(h:zou X tk fn F w y th):Clos R X f tk fn F w y th:=by
 exact M74
theorem Clos.of_tru(hf:f=65\/f=66\/f=67){tk fn:Value}{F:Nat->Prop}{w:World}{y:Ma.FZ}{th:Value}(h:TruS X tk fn F w y th):Clos R X f tk fn F w y th:=by
 exact M74
theorem Clos.of_text(hf:f=68\/f=69){tk fn:Value}{F:Nat->Prop}{w:World}{y:Ma.FZ}{th:Value}(h:zot X tk fn F w y th):Clos R X f tk fn F w y th:=by
 exact M74
theorem Clos.of_mat(hf:f=70){tk fn:Value}{F:Nat->Prop}{w:World}{y:Ma.FZ}{th:Value}(h:zj0 R X tk fn F w y th):Clos R X f tk fn F w y th:=by
 exact M74
theorem Clos.of_look(hf:f=71\/f=72){tk fn:Value}{F:Nat->Prop}{w:World}{y:Ma.FZ}{th:Value}(h:zmw R X tk fn F w y th):Clos R X f tk fn F w y th:=by
 exact M74
theorem Clos.of_ifs(hf:f=73\/f=74){tk fn:Value}{F:Nat->Prop}{w:World}{y:Ma.FZ}{th:Value}(h:IfsS R X tk fn F w y th):Clos R X f tk fn F w y th:=by
 exact M74
theorem Clos.of_prd(hf:f=75){tk fn:Value}{F:Nat->Prop}{w:World}{y:Ma.FZ}{th:Value}(h:PrdS R X tk fn F w y th):Clos R X f tk fn F w y th:=by
 exact M74
theorem Clos.of_first(hf:f=76){tk fn:Value}{F:Nat->Prop}{w:World}{y:Ma.FZ}{th:Value}(h:zmy X tk fn F w y th):Clos R X f tk fn F w y th:=by
 exact M74
end
theorem TQ.cl{S S':(Nat->Prop)->World->Ma.FZ->Value->Prop}{w w':World}{F:Nat->Prop}{X:Nat}{h:FH}{y:Ma.FZ}(hS:∀F' z y th,S F' z y th->S' F' z y th)(hq:TQ S w F X h y w'):TQ S' w F X h y w':=by
 obtain ⟨F',h',h1,h2,h3,h4,h5,h6,h7⟩:=hq;exact ⟨F',h',h1,h2,h3,h4,fun e=>hS _ _ _ _ (h5 e),h6,h7⟩
theorem zgq{x:Ma.Arg}(h:Ma.okG x)(ha:x.isA=true):0<=x.a.t/\x.a.t<=x.a.b/\x.a.b<65536/\0<=x.a.l/\x.a.l<=x.a.r/\x.a.r<702:=Ma.zed (Ma.zba (h.area ha)).1
theorem alike_b{x y:Ma.Arg}(h:Ma.alike x y=true):x.isA=true/\y.isA=true/\x.a.b-x.a.t=y.a.b-y.a.t/\x.a.r-x.a.l=y.a.r-y.a.l:=by
 unfold Ma.alike at h;simp only[Bool.and_eq_true,beq_iff_eq] at h;exact ⟨h.1.1.1,h.1.1.2,h.1.2,h.2⟩
theorem len2{α:Type}:∀{l:List α},l.length=2->∃a b,l=[a,b]
 |[a,b],_=> ⟨a,b,rfl⟩
theorem len3{α:Type}:∀{l:List α},l.length=3->∃a b c,l=[a,b,c]
 |[a,b,c],_=> ⟨a,b,c,rfl⟩
theorem want_b{x0 x1:Ma.Arg}{s:Ma.Sp}(h0:Ma.okG x0)(h1:Ma.okG x1)(ha:Ma.alike x0 x1=true)(hi:Ma.inA x0.a s)(z:Int)(hz:z=x1.a.t+s.r\/z=x1.a.t+s.r-x0.a.t\/z=x1.a.l+s.c\/z=x1.a.l+s.c-x0.a.l):-9223372036854775808<=z/\z<=9223372036854775807:=by
 obtain ⟨a0,a1,a2,a3⟩:=alike_b ha;have b0:=zgq h0 a0;have b1:=zgq h1 a1;obtain ⟨i1,i2,i3,i4⟩:=hi;omega
section
variable(w:World)(F R:Nat->Prop)(X:Nat)(x:Ma.FZ)(h:FH)
include w F R X x h
theorem take_any(v:Val.V)(hC:Core w F X x h)(hS:Clos R X x.f h.tk h.fn F w x h.th)(hg:Ma.FZ.Goes x)(hl:x.l.length<=10000000000)(hv:Ma.okV v)(hin:70<=x.f->x.f<=75->∃it,x.items[x.i]?=some it/\it.isA=true/\Ma.inA it.a x.here)(hc:Ma.FZ.Called x.f x.a)(hW:NumW w):∃id bs,h.tk=Cl id bs/\(∀args w,(callFunc id args).run prog w= .ok (.enter id args) w)/\∀cell,Calls prog id (#[VL v,.bool cell]++bs) w fun e w'=>e=jr jT/\TQ (Clos R X x.f h.tk h.fn) w F X h (x.take v cell) w':=by
 have hb:=hg.body;have lo:=hc.lo;have hi:=hc.hi
 by_cases c_sum:x.f=54\/x.f=61
 .have S:=hS.sum c_sum;have et:∀cell,x.take v cell=x.gather v cell:=fun cell=>by
   exact M3
  simp only[et];have M:∀(F':Nat->Prop) (z:World) (y:Ma.FZ) (t:Value),SumS X h.tk h.fn F' z y t->Clos R X x.f h.tk h.fn F' z y t:=fun _ _ _ _ k=>Clos.of_sum c_sum k;obtain ⟨id,bs,e1,e2,e3⟩:=take_sum w F X x h v hC S hg.over c_sum hb.all hv.vb hv.fit hv.number.1 hW;exact M65
 by_cases c_prod:x.f=55
 .have S:=hS.prod c_prod;have et:∀cell,x.take v cell=x.gather v cell:=fun cell=>by
   exact M3
  simp only[et];have M:∀(F':Nat->Prop) (z:World) (y:Ma.FZ) (t:Value),zov X h.tk h.fn F' z y t->Clos R X x.f h.tk h.fn F' z y t:=fun _ _ _ _ k=>Clos.of_prod c_prod k;obtain ⟨id,bs,e1,e2,e3⟩:=zte w F X x h v hC S c_prod hb.all hv.vb hv.fit hv.number.1 hW;exact M65
 by_cases c_count:x.f=56\/x.f=57\/x.f=58
 .have S:=hS.count c_count;have et:∀cell,x.take v cell=x.count v cell:=fun cell=>by
   exact M3
  simp only[et];have M:∀(F':Nat->Prop) (z:World) (y:Ma.FZ) (t:Value),zj1 X h.tk h.fn F' z y t->Clos R X x.f h.tk h.fn F' z y t:=fun _ _ _ _ k=>Clos.of_count c_count k;obtain ⟨id,bs,e1,e2,e3⟩:=zqx w F X x h v hC S hv.vb hW;exact M65
 by_cases c_size:x.f=59\/x.f=60\/x.f=62\/x.f=63\/x.f=64
 .have S:=hS.size c_size;have et:∀cell,x.take v cell=x.gather v cell:=fun cell=>by
   exact M3
  simp only[et];have M:∀(F':Nat->Prop) (z:World) (y:Ma.FZ) (t:Value),zou X h.tk h.fn F' z y t->Clos R X x.f h.tk h.fn F' z y t:=fun _ _ _ _ k=>Clos.of_size c_size k;obtain ⟨id,bs,e1,e2,e3⟩:=ztd w F X x h v hC S c_size hl hv.vb hW;exact M65
 by_cases c_tru:x.f=65\/x.f=66\/x.f=67
 .have S:=hS.tru c_tru;have et:∀cell,x.take v cell=x.truths v cell:=fun cell=>by
   exact M3
  simp only[et];have M:∀(F':Nat->Prop) (z:World) (y:Ma.FZ) (t:Value),TruS X h.tk h.fn F' z y t->Clos R X x.f h.tk h.fn F' z y t:=fun _ _ _ _ k=>Clos.of_tru c_tru k;obtain ⟨id,bs,e1,e2,e3⟩:=take_tru w F X x h v hC S;exact M65
 by_cases c_text:x.f=68\/x.f=69
 .have S:=hS.text c_text;have et:∀cell,x.take v cell=x.texts v cell:=fun cell=>by
   exact M3
  simp only[et];have M:∀(F':Nat->Prop) (z:World) (y:Ma.FZ) (t:Value),zot X h.tk h.fn F' z y t->Clos R X x.f h.tk h.fn F' z y t:=fun _ _ _ _ k=>Clos.of_text c_text k;obtain ⟨id,bs,e1,e2,e3⟩:=ztc w F X x h v hC S hb.b hb.sep hv.vb hW;exact M65
 by_cases c_mat:x.f=70
 .have S:=hS.mat c_mat;have et:∀cell,x.take v cell=(cond (Ma.equal (x.arg 0).v v) (Ma.FZ.ends {x with n:=Ma.FZ.i64 (x.n+1)} (Cal.num (Ma.FZ.i64 (x.n+1)))) {x with n:=Ma.FZ.i64 (x.n+1)}):=fun cell=>by
   exact M3
  simp only[et];have M:∀(F':Nat->Prop) (z:World) (y:Ma.FZ) (t:Value),zj0 R X h.tk h.fn F' z y t->Clos R X x.f h.tk h.fn F' z y t:=fun _ _ _ _ k=>Clos.of_mat c_mat k;obtain ⟨x0,x1,ha⟩:=len2 (hc.max2 B1);obtain ⟨id,bs,e1,e2,e3⟩:=zqv w F R X x h v x0 hC S B81;exact M65
 by_cases c_look:x.f=71\/x.f=72
 .have S:=hS.look c_look;have et:∀cell,x.take v cell=x.lookup v:=fun cell=>by
   exact M3
  simp only[et];have M:∀(F':Nat->Prop) (z:World) (y:Ma.FZ) (t:Value),zmw R X h.tk h.fn F' z y t->Clos R X x.f h.tk h.fn F' z y t:=fun _ _ _ _ k=>Clos.of_look c_look k;obtain ⟨x0,x1,x2,ha⟩:=len3 (hc.three c_look);have hx1:x.arg 1=x1:=zc1 B81;obtain ⟨s1,s2,s3,s4⟩:=hb.shape.look c_look;have hA:=zgq (Ma.FZ.zc5 hb.args 1) s1;have hk:1<=x.k/\x.k<=65536:=⟨s2,by
   rcases c_look with e|e
   .have:=(s3 e).1;omega
   .have:=(s4 e).1;omega⟩
  obtain ⟨id,bs,e1,e2,e3⟩:=ztf w F R X x h v x0 hC S B81 c_look hk ⟨by omega,B1⟩ ⟨by omega,B1⟩;exact M65
 by_cases c_ifs:x.f=73\/x.f=74
 .have S:=hS.ifs c_ifs;have et:∀cell,x.take v cell=x.ifs v:=fun cell=>by
   exact M3
  simp only[et];have M:∀(F':Nat->Prop) (z:World) (y:Ma.FZ) (t:Value),IfsS R X h.tk h.fn F' z y t->Clos R X x.f h.tk h.fn F' z y t:=fun _ _ _ _ k=>Clos.of_ifs c_ifs k;obtain ⟨s1,s2⟩:=hb.shape.cond c_ifs;obtain ⟨it,hit,hia,hin⟩:=hin B1 B1;have hit0:it=x.arg 0:=B132;have h2:=hc.two B1;have h3:=hc.max3 B1;obtain ⟨x0,x1,r,ha,hr⟩:∃x0 x1 r,x.a=x0::x1::r/\(r=[]\/x.f=73/\∃x2,r=[x2]):=by
   by_cases hl:x.a.length=2
   .obtain ⟨a,b,e⟩:=len2 hl;exact ⟨a,b,[],e,.inl rfl⟩
   .obtain ⟨a,b,c,e⟩:=len3 (show x.a.length=3 by omega);have:x.f≠74:=fun e=>hl (hc.max2 B1);exact ⟨a,b,[c],e,.inr ⟨by omega,c,rfl⟩⟩
  have hx0:x.arg 0=x0:=zc1 B81;obtain ⟨id,bs,e1,e2,e3⟩:=take_ifs w F R X x h v x0 x1 r hC S c_ifs hg.pend ha hr (fun x2 e z hz=>by
   subst e;have hx2:x.arg 2=x2:=zc1 B81;have hal:=s2 B81;have o0:=Ma.FZ.zc5 hb.args 0;have o2:=Ma.FZ.zc5 hb.args 2;rw[hit0] at hin;rw[hx0] at hal o0 hin;rw[hx2] at hal o2;exact want_b o0 o2 hal hin z hz) hb.all hv.fit
  exact M65
 by_cases c_prd:x.f=75
 .have S:=hS.prd c_prd;have et:∀cell,x.take v cell=x.product v:=fun cell=>by
   exact M3
  simp only[et];have M:∀(F':Nat->Prop) (z:World) (y:Ma.FZ) (t:Value),PrdS R X h.tk h.fn F' z y t->Clos R X x.f h.tk h.fn F' z y t:=fun _ _ _ _ k=>Clos.of_prd c_prd k;obtain ⟨s1,s2⟩:=hb.shape.prod c_prd;obtain ⟨it,hit,hia,hin⟩:=hin B1 B1;have hit0:it=x.arg 0:=B132;obtain ⟨x0,x1,ha⟩:=len2 (hc.max2 B1);have hx0:x.arg 0=x0:=zc1 B81;have hx1:x.arg 1=x1:=zc1 B81;have o0:=Ma.FZ.zc5 hb.args 0;have o1:=Ma.FZ.zc5 hb.args 1;rw[hit0] at hin;rw[hx0] at s2 o0 hin;rw[hx1] at s2 o1;obtain ⟨id,bs,e1,e2,e3⟩:=take_prd w F R X x h v x0 x1 hC S ha (want_b o0 o1 s2 hin);exact M65
 have c_first:x.f=76:=B1;have S:=hS.first c_first;have et:∀cell,x.take v cell=cond (v.k !=0) (x.ends v) x:=fun cell=>by
  unfold Ma.FZ.take;rw[if_neg B1,if_neg B1,if_neg B1,if_neg B1,if_neg B1,if_neg B1,if_neg B1,if_neg B1]
 simp only[et];obtain ⟨id,bs,e1,e2,e3⟩:=zqw w F X x h v hC S;exact ⟨id,bs,e1,e2,fun cell=>(e3 cell).mono fun e w' k=> ⟨k.1,TQ.cl (fun _ _ _ _ k=>Clos.of_first c_first k) k.2⟩⟩
theorem end_any(hC:Core w F X x h)(hS:Clos R X x.f h.tk h.fn F w x h.th)(hb:Ma.FZ.Body x)(hl:x.l.length<=10000000000)(hc:Ma.FZ.Called x.f x.a):∃id bs,h.fn=Cl id bs/\(∀args w,(callFunc id args).run prog w= .ok (.enter id args) w)/\Calls prog id bs w fun e w'=>e=jr (VL (x.finish sortI))/\Core w' F X x h/\Foot F w w':=by
 have lo:=hc.lo;have hi:=hc.hi
 by_cases c_sum:x.f=54\/x.f=61
 .exact end_sum w F X x h hC (hS.sum c_sum) c_sum hb.all hb.n.1
 by_cases c_prod:x.f=55
 .exact end_prod w F X x h hC (hS.prod c_prod) c_prod
 by_cases c_count:x.f=56\/x.f=57\/x.f=58
 .exact zxc w F X x h hC (hS.count c_count) c_count
 by_cases c_size:x.f=59\/x.f=60\/x.f=62\/x.f=63\/x.f=64
 .exact end_size w F X x h hC (hS.size c_size) c_size hl hb.l
 by_cases c_tru:x.f=65\/x.f=66\/x.f=67
 .exact end_tru w F X x h hC (hS.tru c_tru) c_tru
 by_cases c_text:x.f=68\/x.f=69
 .exact end_text w F X x h hC (hS.text c_text) c_text
 by_cases c_mat:x.f=70
 .exact zxa w F R X x h hC (hS.mat c_mat) c_mat
 by_cases c_look:x.f=71\/x.f=72
 .exact end_look w F R X x h hC (hS.look c_look) c_look
 by_cases c_ifs:x.f=73\/x.f=74
 .exact end_ifs w F R X x h hC (hS.ifs c_ifs) c_ifs
 by_cases c_prd:x.f=75
 .exact end_prd w F R X x h hC (hS.prd c_prd) c_prd
 have c:x.f=76:=B1;exact zxb w F X x h hC (hS.first c) c
theorem then_any(v u:Val.V)(th:Value)(hC:Core w F X x h)(hS:Clos R X x.f h.tk h.fn F w {x with pend:=some v} th)(hp:x.pend=none)(hn:h.th= .nilFunc)(hf:x.f=71\/x.f=72\/x.f=73\/x.f=75)(hall:Ma.Fit x.all)(hv:Ma.Fit v.n)(hu:Ma.Fit u.n):∃id fs bs,th= .func (.func id) fs bs/\(∀args w,(callFunc id args).run prog w= .ok (.enter id args) w)/\Calls prog id (fs++ #[VL u]++bs) w fun e w'=>e=jr jT/\TQ (Clos R X x.f h.tk h.fn) w F X h (x.after v u) w':=by
 by_cases c:x.f=71\/x.f=72
 .obtain ⟨id,fs,bs,e1,e2,e3⟩:=zs9 w F R X x h v u th hC ((hS.look c).2.2 B8) c;exact ⟨id,fs,bs,e1,e2,e3.mono fun e w' k=> ⟨k.1,TQ.cl (fun _ _ _ _ k=>Clos.of_look c k) k.2⟩⟩
 .by_cases c2:x.f=73
  .obtain ⟨id,fs,bs,e1,e2,e3⟩:=then_ifs w F R X x h v u th hC (hS.ifs (.inl c2)) hp hn c2 hall hu;exact ⟨id,fs,bs,e1,e2,e3.mono fun e w' k=> ⟨k.1,TQ.cl (fun _ _ _ _ k=>Clos.of_ifs (.inl c2) k) k.2⟩⟩
  .have c3:x.f=75:=by omega
   obtain ⟨id,fs,bs,e1,e2,e3⟩:=then_prd w F R X x h v u th hC (hS.prd c3) hp hn c3 hall hv hu;exact ⟨id,fs,bs,e1,e2,e3.mono fun e w' k=> ⟨k.1,TQ.cl (fun _ _ _ _ k=>Clos.of_prd c3 k) k.2⟩⟩
end
structure FEnv(w0 w:World)(F:Nat->Prop):Prop where
 num:NumW w0
 below:Below w0.heap.size w0 w
 f:∀k,F k->w0.heap.size<=k
theorem FEnv.numW{w0 w:World}{F:Nat->Prop}(h:FEnv w0 w F):NumW w:=h.num.below h.below
theorem FEnv.next{w0 w w':World}{F F':Nat->Prop}(h:FEnv w0 w F)(hf:Foot F w w')(hn:∀k,F' k->F k\/w.heap.size<=k):FEnv w0 w' F':=
 ⟨h.num,zao h.below hf h.f,fun k hk=>(hn k hk).elim (h.f k) fun e=>jR h.below.size e⟩
theorem box_new(w:World)(v:Value)(T:TypeId):Box (w.alloc (.cells #[v] T)) w.heap.size v:=⟨T,heap_alloc_new w _⟩
section
variable{w:World}
include w
theorem Box.al{b:Nat}{v:Value}(h:Box w b v)(o:Obj):Box (w.alloc o) b v:=h.below (below1 w o)
theorem Box.so{b c i:Nat}{v x:Value}(h:Box w b v)(hne:b≠c):Box (w.setCell (jA c i) x) b v:=h.foot (F:=fun k=>k=c) Bp10 hne
theorem at_al{X:Nat}{h:FH}(k:Fd.At w X h)(o:Obj):Fd.At (w.alloc o) X h:=zai k
theorem at_so{X c i:Nat}{h:FH}{x:Value}(k:Fd.At w X h)(hne:X≠c):Fd.At (w.setCell (jA c i) x) X h:=by
 unfold Fd.At;rw[heap_setCell_other w _ X x hne];exact k
section
variable{X:Nat}{h:FH}(k:Fd.At w X h)(v:Value)
include X h k v
theorem at_tk:Fd.At (w.setCell (jA X 12) v) X {h with tk:=v}:=zad k 12 v
theorem at_fn:Fd.At (w.setCell (jA X 13) v) X {h with fn:=v}:=zad k 13 v
theorem zfn:Fd.At (w.setCell (jA X 0) v) X {h with items:=v}:=zad k 0 v
end
end
def ItemsO(w:World)(g o:Nat)(l:List Ma.Arg):Prop:=∀(k:Nat) (x:Ma.Arg),l[k]?=some x->ItemAt w g (o+k*8) x
section
variable{w w':World}{g o:Nat}
include w w' g o
theorem _root_.Go.Proofs.YtoffmfgaohjjpaaGreatDoor.Mb.ItemAt.same{x:Ma.Arg}(h:ItemAt w g o x)(hk:w'.heap[g]?=w.heap[g]?):ItemAt w' g o x:=by
 obtain ⟨q0,q1,q2,q3,q4,q5,q6,q7⟩:=h;exact ⟨(zag hk).trans q0,(zag hk).trans q1,(zag hk).trans q2,(zag hk).trans q3,(zag hk).trans q4,(zag hk).trans q5,(zag hk).trans q6,(zag hk).trans q7⟩
theorem ItemsO.foot{l:List Ma.Arg}{F:Nat->Prop}(h:ItemsO w g o l)(hlt:g<w.heap.size)(hf:Foot F w w')(hg:¬F g):ItemsO w' g o l:=fun k x hx=>(h k x hx).same (hf.block g hlt hg)
theorem ItemsO.below{l:List Ma.Arg}(h:ItemsO w g o l)(hlt:g<w.heap.size)(hb:Below w.heap.size w w'):ItemsO w' g o l:=fun k x hx=>(h k x hx).same (hb.block g hlt)
end
theorem ItemsO.one{w:World}{g:Nat}{x:Ma.Arg}(h:w.heap[g]?=some (.cells #[.bool x.isA,jI x.a.t,jI x.a.l,jI x.a.b,jI x.a.r,jI x.v.k,jI x.v.n,jS x.v.t] TA (0,0))):ItemsO w g 0 [x]:=by
 intro k y hy
 match k,hy with
 |0,hy=>
  cases hy;constructor <;> (rw[Lib.cell_of_heap h];rfl)
section
variable{w:World}{g o:Nat}{l:List Ma.Arg}(h:ItemsO w g o l)
include w g o l h
theorem ItemsO.take(n:Nat):ItemsO w g o (l.take n):=fun k x hx=>h k x (by
 rw[List.getElem?_take] at hx;split at hx
 .exact hx
 .cases hx)
theorem ItemsO.drop1:ItemsO w g (o+8) (l.drop 1):=fun k x hx=>by
 have:=h (1+k) x (by rw[List.getElem?_drop] at hx;exact hx);rw[show o+8+k*8=o+(1+k)*8 by omega];exact this
end
def RowsAt(w:World)(R:Nat->Prop)(v:Value)(l:List Ma.Arg):Prop:=∃g o c,v=jP g o l.length c/\R g/\g<w.heap.size/\l.length<=c/\ItemsO w g o l
theorem RowsAt.foot{w w':World}{R F:Nat->Prop}{v:Value}{l:List Ma.Arg}(h:RowsAt w R v l)(hf:Foot F w w')(hn:∀k,R k->¬F k):RowsAt w' R v l:=by
 obtain ⟨g,o,c,e,hr,hl,hc,hi⟩:=h;exact ⟨g,o,c,e,hr,jL hl hf.size,hc,hi.foot hl hf (hn g hr)⟩
structure FoldAt(w:World)(F R:Nat->Prop)(X:Nat)(x:Ma.FZ)(h:FH):Prop where
 core:Core w F X x h
 rows:RowsAt w R h.items x.items
 dis:∀k,R k->¬F k
 rlt:∀k,R k->k<w.heap.size
 clos:x.over=false->Clos R X x.f h.tk h.fn F w x h.th
 len:x.over=false->(x.l.length:Int)<=4096*x.i+x.pos
 called:Ma.FZ.Called x.f x.a
def BQ(w:World)(X g:Nat)(y:Ma.FZ)(w':World):Prop:=∃F R h',FoldAt w' F R X y h'/\Foot (fun k=>k=X) w w'/\(∀k,F k->k=X\/w.heap.size<=k)/\∀k,R k->k=g\/w.heap.size<=k
theorem BQ.pre{w u w':World}{X g:Nat}{y:Ma.FZ}(hb:Below w.heap.size w u)(h:BQ u X g y w'):BQ w X g y w':=by
 obtain ⟨F,R,h',h1,h2,h3,h4⟩:=h;exact ⟨F,R,h',h1,zaf h2 hb,fun k hk=>(h3 k hk).imp_right (jR hb.size),fun k hk=>(h4 k hk).imp_right (jR hb.size)⟩
structure Fresh(w:World)(X g c:Nat)(f:Int)(l:List Ma.Arg)(h:FH):Prop where
 at':Fd.At w X h
 like:Like h (Ma.FZ.blank f l)
 th:h.th= .nilFunc
 items:h.items=jP g 0 l.length c
 lt:g<w.heap.size
 ne:g≠X
 cap:l.length<=c
 row:ItemsO w g 0 l
 called:Ma.FZ.Called f l
 ok:∀x∈l,Ma.okG x
theorem Fresh.below{w w':World}{X g c:Nat}{f:Int}{l:List Ma.Arg}{h:FH}(k:Fresh w X g c f l h)(hb:Below w.heap.size w w'):Fresh w' X g c f l h:=
 ⟨k.at'.below2 hb,k.like,k.th,k.items,jL k.lt hb.size,k.ne,k.cap,k.row.below k.lt hb,k.called,k.ok⟩
def New(w w':World)(X g:Nat):Nat->Prop:=fun k=>k=X\/w.heap.size<=k/\k<w'.heap.size/\k≠g
def B2(h:jp:=by repeat (first|(with_reducible refine box_at ?_;simp;done)|with_reducible refine Box.al ?_ _)):=h
def B12(h:jp:=by repeat (first|with_reducible exact hX|with_reducible refine at_al ?_ _|with_reducible refine at_fn ?_ _|with_reducible refine at_tk ?_ _)):=h
def B36(h:jp:=by repeat (first|with_reducible exact Foot.refl _ _|with_reducible refine Foot.alloc ?_|refine Foot.set ?_ rfl)):=h
def B9(h:jp:=by rw[<-hW];exact (by repeat (first|with_reducible exact hX|with_reducible refine at_al ?_ _))):=h
def Bp7(h:jp:=by rw[<-hW];exact B2):=h
def B5(h:jp:=by repeat (first|with_reducible exact jB|refine Below.alloc ?_ (by simp;try omega) _)):=h
def B17(h:jp:=by simp[results,results65,go_sem]):=h
def Bp108(h:jp:=by exact Foot.set hfo rfl):=h
def C24(h:jp:=by
 have hX:=hF.at';have hXl:=hX.lt;have hgl:=hF.lt;have hL:=hF.like;have c0:=hX.cells.c0;rw[hF.items] at c0;have f0:=hX.cells.f;exact K24):=h
def D27(h:jp:=by
 go_enter func65,ntmps65;go_wp2_with fail;refine (HG.out _ _ _ B12).mono ?_;rintro e w1 ⟨rfl,gF,gA,k1,k2,k3,k4,k5,k6⟩;simp at k4 k5;have hz:=k6.size;simp at hz;exact J27):=h
def Da13(h:jp:=by
 have b5:Box w1 (w.heap.size+3) (jI 0):=Box.foot (F:=fun k=>k=X) B2 k6 B1;have b6:Box w1 (w.heap.size+4) (jI 0):=Box.foot (F:=fun k=>k=X) B2 k6 B1;have d0:=b2.cell;have d1:=b2.lt;have d2:=k1.cells.c13;have d3:=k1.cells.f;have hfo:Foot (fun k=>k=X) w w1:=zaf k6 B5;clear c0 f0 k6;exact Ja13):=h
def Va33.Ja13(h:jp:=by
 go_wp2_with fail;exact jY jT B17 ⟨rfl,BQ.same hF (at_fn k1 _) Bp108 Bp2 rfl rfl (fun _=>Clos.of_sum (.inl rfl) ⟨⟨w.heap.size+1,w.heap.size,w.heap.size+4,w.heap.size+3,gF,gA,rfl,rfl,FBox.new (b3.so B1) B1 B1,FBox.new (b2.so B1) B1 B1,FBox.new (b6.so B1) B1 B1,FBox.new (b5.so B1) B1 B1,FBox.new (k2.so B1) B1 B1,FBox.new (k3.so B1) B1 B1,by omega,by omega,B1⟩,hF.th⟩) rfl rfl rfl⟩):=h
def V81.J27(h:jp:=by
 have b2:Box w1 w.heap.size (PT X):=Box.foot (F:=fun k=>k=X) B2 k6 B1;have b3:Box w1 (w.heap.size+1) (jI 54):=Box.foot (F:=fun k=>k=X) B2 k6 B1
 open Va33 in exact Da13):=h
def X112.K24(h:jp:=by
 show Calls _ _ _ w fun e w'=>e=jr jT/\BQ w X g (Ma.FZ.blank 54 l) w'
 open V81 in exact D27):=h
def Va34.Ja13(h:jp:=by
 go_wp2_with fail;exact jY jT B17 ⟨rfl,BQ.same hF (at_fn k1 _) Bp108 Bp2 rfl rfl (fun _=>Clos.of_sum (.inr rfl) ⟨⟨w.heap.size+1,w.heap.size,w.heap.size+4,w.heap.size+3,gF,gA,rfl,rfl,FBox.new (b3.so B1) B1 B1,FBox.new (b2.so B1) B1 B1,FBox.new (b6.so B1) B1 B1,FBox.new (b5.so B1) B1 B1,FBox.new (k2.so B1) B1 B1,FBox.new (k3.so B1) B1 B1,by omega,by omega,B1⟩,hF.th⟩) rfl rfl rfl⟩):=h
def V82.J27(h:jp:=by
 have b2:Box w1 w.heap.size (PT X):=Box.foot (F:=fun k=>k=X) B2 k6 B1;have b3:Box w1 (w.heap.size+1) (jI 61):=Box.foot (F:=fun k=>k=X) B2 k6 B1
 open Va34 in exact Da13):=h
def X113.K24(h:jp:=by
 show Calls _ _ _ w fun e w'=>e=jr jT/\BQ w X g (Ma.FZ.blank 61 l) w'
 open V82 in exact D27):=h
def V83.J27(h:jp:=by
 have b2:Box w1 (w.heap.size) (PT X):=Box.foot (F:=fun k=>k=X) B2 k6 B1;have b5:Box w1 (w.heap.size+1+1+1) (jI 1):=Box.foot (F:=fun k=>k=X) B2 k6 B1;have d0:=b2.cell;have d1:=b2.lt;have d2:=k1.cells.c13;have d3:=k1.cells.f;have hfo:Foot (fun k=>k=X) w w1:=zaf k6 B5;clear c0 f0 k6;go_wp2_with fail;exact jY jT B17 ⟨rfl,BQ.same hF (at_fn k1 _) Bp108 Bp2 rfl rfl (fun _=>Clos.of_prod rfl ⟨⟨w.heap.size,w.heap.size+3,gF,gA,rfl,rfl,FBox.new (b2.so B1) B1 B1,FBox.new (b5.so B1) B1 B1,FBox.new (k2.so B1) B1 B1,FBox.new (k3.so B1) B1 B1⟩,hF.th⟩) rfl rfl rfl⟩):=h
def X114.K24(h:jp:=by
 show Calls _ _ _ w fun e w'=>e=jr jT/\BQ w X g ({Ma.FZ.blank 55 l with all:=1}) w'
 open V83 in exact D27):=h
def B193(h:jp:=by first|exact k4|exact k6):=h
def D23(h:jp:=by
 go_enter func65,ntmps65;go_wp2_with fail;refine (HC.out _ B12).mono ?_;rintro e w1 ⟨rfl,bF,bN,k1,k2,k3,k4,k5,k6,k7⟩;simp at k4 k5;have hfo:Foot (fun k=>k=X) w w1:=zaf k7 B5;clear c0 f0;exact J23):=h
def V71.J23(h:jp:=by
 go_wp2_with fail;exact jY jT B17 ⟨rfl,BQ.same hF k1 hfo Bp2 rfl rfl (fun _=>Clos.of_count (.inl rfl) ⟨⟨bF,bN,rfl,rfl,FBox.new k2 B1 B1,FBox.new k3 B1 B1,B193⟩,hF.th⟩) rfl rfl rfl⟩):=h
def X115.K24(h:jp:=by
 show Calls _ _ _ w fun e w'=>e=jr jT/\BQ w X g (Ma.FZ.blank 56 l) w'
 open V71 in exact D23):=h
def V72.J23(h:jp:=by
 go_wp2_with fail;exact jY jT B17 ⟨rfl,BQ.same hF k1 hfo Bp2 rfl rfl (fun _=>Clos.of_count (.inr (.inl rfl)) ⟨⟨bF,bN,rfl,rfl,FBox.new k2 B1 B1,FBox.new k3 B1 B1,B193⟩,hF.th⟩) rfl rfl rfl⟩):=h
def X116.K24(h:jp:=by
 show Calls _ _ _ w fun e w'=>e=jr jT/\BQ w X g (Ma.FZ.blank 57 l) w'
 open V72 in exact D23):=h
def V73.J23(h:jp:=by
 go_wp2_with fail;exact jY jT B17 ⟨rfl,BQ.same hF k1 hfo Bp2 rfl rfl (fun _=>Clos.of_count (.inr (.inr rfl)) ⟨⟨bF,bN,rfl,rfl,FBox.new k2 B1 B1,FBox.new k3 B1 B1,B193⟩,hF.th⟩) rfl rfl rfl⟩):=h
def X117.K24(h:jp:=by
 show Calls _ _ _ w fun e w'=>e=jr jT/\BQ w X g (Ma.FZ.blank 58 l) w'
 open V73 in exact D23):=h
def D19(h:jp:=by
 go_enter func65,ntmps65;go_wp2_with fail;refine (HC.out _ B12).mono ?_;rintro e w1 ⟨rfl,bF,bN,bO,bK,k1,k2,k3,k4,k5,l1,l2,l3,l4,ne,k7⟩;simp at l1 l2 l3 l4;have hfo:Foot (fun k=>k=X) w w1:=zaf k7 B5;clear c0 f0;exact J19):=h
def V55.J19(h:jp:=by
 go_wp2_with fail;exact jY jT B17 ⟨rfl,BQ.same hF k1 hfo Bp2 rfl rfl (fun _=>Clos.of_tru (.inl rfl) ⟨⟨bF,bN,bO,bK,rfl,rfl,FBox.new k2 B1 B1,FBox.new k3 B1 B1,FBox.new k4 B1 B1,FBox.new k5 B1 B1,ne⟩,hF.th⟩) rfl rfl rfl⟩):=h
def X118.K24(h:jp:=by
 show Calls _ _ _ w fun e w'=>e=jr jT/\BQ w X g (Ma.FZ.blank 65 l) w'
 open V55 in exact D19):=h
def V56.J19(h:jp:=by
 go_wp2_with fail;exact jY jT B17 ⟨rfl,BQ.same hF k1 hfo Bp2 rfl rfl (fun _=>Clos.of_tru (.inr (.inl rfl)) ⟨⟨bF,bN,bO,bK,rfl,rfl,FBox.new k2 B1 B1,FBox.new k3 B1 B1,FBox.new k4 B1 B1,FBox.new k5 B1 B1,ne⟩,hF.th⟩) rfl rfl rfl⟩):=h
def X119.K24(h:jp:=by
 show Calls _ _ _ w fun e w'=>e=jr jT/\BQ w X g (Ma.FZ.blank 66 l) w'
 open V56 in exact D19):=h
def V57.J19(h:jp:=by
 go_wp2_with fail;exact jY jT B17 ⟨rfl,BQ.same hF k1 hfo Bp2 rfl rfl (fun _=>Clos.of_tru (.inr (.inr rfl)) ⟨⟨bF,bN,bO,bK,rfl,rfl,FBox.new k2 B1 B1,FBox.new k3 B1 B1,FBox.new k4 B1 B1,FBox.new k5 B1 B1,ne⟩,hF.th⟩) rfl rfl rfl⟩):=h
def X120.K24(h:jp:=by
 show Calls _ _ _ w fun e w'=>e=jr jT/\BQ w X g (Ma.FZ.blank 67 l) w'
 open V57 in exact D19):=h
def X121.K24(h:jp:=by
 show Calls _ _ _ w fun e w'=>e=jr jT/\BQ w X g (Ma.FZ.blank 68 l) w';go_enter func65,ntmps65;go_wp2_with fail;refine (HC.out _ _ _ B12).mono ?_;rintro e w1 ⟨rfl,bK,bF,bO,bB,bS,k1,k2,k3,k4,k5,k6,l1,l2,l3,l4,l5,ne,k7⟩;simp at l1 l2 l3 l4 l5;have hfo:Foot (fun k=>k=X) w w1:=zaf k7 B5;clear c0 f0;go_wp2_with fail;exact jY jT B17 ⟨rfl,BQ.same hF k1 hfo Bp2 rfl rfl (fun _=>Clos.of_text (.inl rfl) ⟨⟨bK,bF,bO,bB,bS,jZ,rfl,rfl,FBox.new k2 B1 B1,FBox.new k3 B1 B1,FBox.new k4 B1 B1,FBox.new k5 B1 B1,FBox.new k6 B1 B1,⟨rfl,.inl ⟨rfl,rfl⟩⟩,ne,fun k e=>(nomatch e),nofun,nofun,nofun,nofun,nofun,nofun⟩,hF.th⟩) rfl rfl rfl⟩):=h
theorem BQ.mk{w w':World}{X g c:Nat}{f:Int}{l:List Ma.Arg}{h h':FH}{y:Ma.FZ}(hF:Fresh w X g c f l h)(g2 o c2:Nat)(hX:Fd.At w' X h')(hL:Like h' y)(hI:h'.items=jP g2 o y.items.length c2)(hc:y.items.length<=c2)(hi:ItemsO w' g2 o y.items)(hg:g2=g\/w.heap.size<=g2)(hl:g2<w'.heap.size)(hcl:y.over=false->Clos (fun k=>k=g\/k=g2) X y.f h'.tk h'.fn (New w w' X g2) w' y h'.th)(hf:Foot (fun k=>k=X) w w')(e1:y.f=f)(e2:y.a=l)(e3:y.l=[]):BQ w X g y w':=by
 have hXl:=hF.at'.lt;have hgl:=hF.lt;have hne:=hF.ne;have hsz:=hf.size;refine ⟨New w w' X g2,fun k=>k=g\/k=g2,h',⟨⟨hX,hL,.inl rfl,fun k hk=> ?_⟩,⟨g2,o,c2,hI,.inr rfl,hl,hc,hi⟩,fun k hk hn=> ?_,fun k hk=> ?_,hcl,fun _=> ?_,?_⟩,hf,fun k hk=> ?_,fun k hk=> ?_⟩
 .rcases hk with hk|hk <;> omega
 .rcases hn with hn|hn <;> rcases hk with hk|hk <;> omega
 .rcases hk with hk|hk <;> omega
 .rw[e3];show ((0:Nat):Int)<=_;omega
 .rw[e1,e2];exact hF.called
 .rcases hk with hk|hk
  .exact .inl hk
  .exact .inr hk.1
 .rcases hk with hk|hk
  .exact .inl hk
  .exact hg.imp (fun e=>hk.trans e) fun e=>by omega
theorem FBox.new{w w':World}{X g b:Nat}{v:Value}(h:Box w' b v)(h1:w.heap.size<=b)(h2:b≠g):FBox w' (New w w' X g) b v:=⟨h,.inr ⟨h1,h.lt,h2⟩⟩
theorem BQ.same{w w':World}{X g c:Nat}{f:Int}{l:List Ma.Arg}{h h':FH}{y:Ma.FZ}(hF:Fresh w X g c f l h)(hX:Fd.At w' X h')(hf:Foot (fun k=>k=X) w w')(hL:Like h' y)(hI:h'.items=h.items)(e0:y.items=l)(hcl:y.over=false->Clos (fun k=>k=g\/k=g) X y.f h'.tk h'.fn (New w w' X g) w' y h'.th)(e1:y.f=f)(e2:y.a=l)(e3:y.l=[]):BQ w X g y w':=
 BQ.mk hF g 0 c hX hL (by rw[hI,e0];exact hF.items) (by rw[e0];exact hF.cap) (by rw[e0];exact hF.row.foot hF.lt hf hF.ne) (.inl rfl) (jL hF.lt hf.size) hcl hf e1 e2 e3
theorem box_at{w:World}{k:Nat}{v:Value}{T:TypeId}(h:k=w.heap.size):Box (w.alloc (.cells #[v] T)) k v:=h▸box_new w v T
section
variable(X:Nat)(h:FH)
include X h
theorem zcy(id:FuncId)(bs:Array Value)(w:World)(hX:Fd.At w X h):Calls prog 93 #[PT X,.func (.func id) #[] bs] w fun e w'=>e=jr jT/\∃gF gA,Fd.At w' X {h with tk:=Cl 144 #[PT gF,PT gA]}/\Box w' gF (PT X)/\Box w' gA (Cl id bs)/\w.heap.size<=gF/\w.heap.size<=gA/\Foot (fun k=>k=X) w w':=by
 have hlt:=hX.lt;obtain ⟨-,-,-,-,-,-,-,-,-,-,-,-,c12,c13,-,fz⟩:=hX.cells;go_enter func93,ntmps93;go_wp2_with fail;exact jY jT (by simp[results,results93,go_sem]) ⟨rfl,w.heap.size,w.heap.size+1,B12,B2,B2,by omega,by omega,B36⟩
theorem zom(f:Int)(w:World)(hX:Fd.At w X h):Calls prog 103 #[PT X,jI f] w fun e w'=>e=jr jT/\∃bF bN,Fd.At w' X {h with tk:=Cl 145 #[PT bF,PT bN],fn:=Cl 146 #[PT bN]}/\Box w' bF (jI f)/\Box w' bN (jI 0)/\w.heap.size<=bF/\w.heap.size<=bN/\bF≠bN/\Foot (fun k=>k=X) w w':=by
 have hlt:=hX.lt;obtain ⟨-,-,-,-,-,-,-,-,-,-,-,-,c12,c13,-,fz⟩:=hX.cells;go_enter func103,ntmps103;go_wp2_with fail;exact jY jT (by simp[results,results103,go_sem]) ⟨rfl,w.heap.size,w.heap.size+1,(by repeat (first|with_reducible exact hX|with_reducible refine at_al ?_ _|(refine at_fn (h:={h with tk:=Cl 145 #[PT (w.heap.size),PT (w.heap.size+1)]}) ?_ _)|with_reducible refine at_tk ?_ _)),B2,B2,by omega,by omega,by omega,B36⟩
theorem zj3(f:Int)(w:World)(hX:Fd.At w X h):Calls prog 105 #[PT X,jI f] w fun e w'=>e=jr jT/\∃bF bN bO bK,Fd.At w' X {h with tk:=Cl 150 #[PT bF,PT bN,PT bO,PT bK],fn:=Cl 152 #[PT bN,PT bK,PT bO]}/\Box w' bF (PT X)/\Box w' bN (jI 0)/\Box w' bO (.bool false)/\Box w' bK (jI f)/\w.heap.size<=bF/\w.heap.size<=bN/\w.heap.size<=bO/\w.heap.size<=bK/\bN≠bK/\Foot (fun k=>k=X) w w':=by
 have hlt:=hX.lt;obtain ⟨-,-,-,-,-,-,-,-,-,-,-,-,c12,c13,-,fz⟩:=hX.cells;go_enter func105,ntmps105;go_upto_region 2 with fail;generalize hW:World.alloc _ _=w1;have kX:Fd.At w1 X h:=B9;have k0:Box w1 (w.heap.size) (PT X):=Bp7;have k1:Box w1 (w.heap.size+1+1) (jI 0):=Bp7;have k2:Box w1 (w.heap.size+1+1+1) (.bool false):=Bp7;have k3:Box w1 (w.heap.size+1) (jI f):=Bp7;have hf1:Foot (fun k=>k=X) w w1:=by rw[<-hW];exact B36
 clear hW c12 c13 fz;have d0:=k0.cell;have d1:=k0.lt;have d2:=kX.cells.c13;have d3:=kX.cells.f;have d4:=kX.lt;have d5:=kX.cells.c12;have d6:w.heap.size≠X:=B1;have d7:X≠w.heap.size:=B1;go_wp2_with fail;exact jY jT (by simp[results,results105,go_sem]) ⟨rfl,w.heap.size,w.heap.size+1+1,w.heap.size+1+1+1,w.heap.size+1,at_fn (at_tk kX _) _,(k0.so B1).so B1,(k1.so B1).so B1,(k2.so B1).so B1,(k3.so B1).so B1,by omega,by omega,by omega,by omega,by omega,Foot.set (Foot.set hf1 rfl) rfl⟩
theorem zta(s:ByteArray)(sk:Bool)(w:World)(hX:Fd.At w X h):Calls prog 106 #[PT X,jS s,.bool sk] w fun e w'=>e=jr jT/\∃bK bF bO bB bS,Fd.At w' X {h with tk:=Cl 153 #[PT bK,PT bF,PT bO,PT bB,PT bS],fn:=Cl 154 #[PT bB]}/\Box w' bK (.bool sk)/\Box w' bF (PT X)/\Box w' bO (.bool false)/\Box w' bB jZ/\Box w' bS (jS s)/\w.heap.size<=bK/\w.heap.size<=bF/\w.heap.size<=bO/\w.heap.size<=bB/\w.heap.size<=bS/\bK≠bO/\Foot (fun k=>k=X) w w':=by
 have hlt:=hX.lt;obtain ⟨-,-,-,-,-,-,-,-,-,-,-,-,c12,c13,-,fz⟩:=hX.cells;go_enter func106,ntmps106;go_upto_region 3 with fail;generalize hW:World.alloc _ _=w1;have kX:Fd.At w1 X h:=B9;have k0:Box w1 (w.heap.size+1+1) (.bool sk):=Bp7;have k1:Box w1 (w.heap.size) (PT X):=Bp7;have k2:Box w1 (w.heap.size+1+1+1+1) (.bool false):=Bp7;have k3:Box w1 (w.heap.size+1+1+1) jZ:=Bp7;have k4:Box w1 (w.heap.size+1) (jS s):=Bp7;have hf1:Foot (fun k=>k=X) w w1:=by rw[<-hW];exact B36
 clear hW c12 c13 fz;have d0:=k1.cell;have d1:=k1.lt;have d2:=kX.cells.c13;have d3:=kX.cells.f;have d4:=kX.lt;have d5:=kX.cells.c12;have d6:w.heap.size≠X:=B1;have d7:X≠w.heap.size:=B1;go_wp2_with fail;exact jY jT (by simp[results,results106,go_sem]) ⟨rfl,w.heap.size+1+1,w.heap.size,w.heap.size+1+1+1+1,w.heap.size+1+1+1,w.heap.size+1,at_fn (at_tk kX _) _,(k0.so B1).so B1,(k1.so B1).so B1,(k2.so B1).so B1,(k3.so B1).so B1,(k4.so B1).so B1,by omega,by omega,by omega,by omega,by omega,by omega,Foot.set (Foot.set hf1 rfl) rfl⟩
end
section
variable(X g c:Nat)(l:List Ma.Arg)(h:FH)(w:World)
include X g c l h w
theorem begin_54(hF:Fresh w X g c 54 l h):Calls prog 65 #[PT X,jI 54] w fun e w'=>e=jr jT/\BQ w X g (Ma.FZ.begin 54 l) w':=by
 have HG:=jH fun (id:FuncId) (bs:Array Value) (u:World) (hX:Fd.At u X h)=>zcy X h id bs u hX
 open X112 in exact C24
theorem begin_61(hF:Fresh w X g c 61 l h):Calls prog 65 #[PT X,jI 61] w fun e w'=>e=jr jT/\BQ w X g (Ma.FZ.begin 61 l) w':=by
 have HG:=jH fun (id:FuncId) (bs:Array Value) (u:World) (hX:Fd.At u X h)=>zcy X h id bs u hX
 open X113 in exact C24
theorem begin_55(hF:Fresh w X g c 55 l h):Calls prog 65 #[PT X,jI 55] w fun e w'=>e=jr jT/\BQ w X g (Ma.FZ.begin 55 l) w':=by
 have HG:=jH fun (id:FuncId) (bs:Array Value) (u:World) (hX:Fd.At u X h)=>zcy X h id bs u hX
 open X114 in exact C24
theorem begin_56(hF:Fresh w X g c 56 l h):Calls prog 65 #[PT X,jI 56] w fun e w'=>e=jr jT/\BQ w X g (Ma.FZ.begin 56 l) w':=by
 have HC:=jH fun (u:World) (hX:Fd.At u X h)=>zom X h 56 u hX
 open X115 in exact C24
theorem begin_57(hF:Fresh w X g c 57 l h):Calls prog 65 #[PT X,jI 57] w fun e w'=>e=jr jT/\BQ w X g (Ma.FZ.begin 57 l) w':=by
 have HC:=jH fun (u:World) (hX:Fd.At u X h)=>zom X h 57 u hX
 open X116 in exact C24
theorem begin_58(hF:Fresh w X g c 58 l h):Calls prog 65 #[PT X,jI 58] w fun e w'=>e=jr jT/\BQ w X g (Ma.FZ.begin 58 l) w':=by
 have HC:=jH fun (u:World) (hX:Fd.At u X h)=>zom X h 58 u hX
 open X117 in exact C24
theorem begin_65(hF:Fresh w X g c 65 l h):Calls prog 65 #[PT X,jI 65] w fun e w'=>e=jr jT/\BQ w X g (Ma.FZ.begin 65 l) w':=by
 have HC:=jH fun (u:World) (hX:Fd.At u X h)=>zj3 X h 65 u hX
 open X118 in exact C24
theorem begin_66(hF:Fresh w X g c 66 l h):Calls prog 65 #[PT X,jI 66] w fun e w'=>e=jr jT/\BQ w X g (Ma.FZ.begin 66 l) w':=by
 have HC:=jH fun (u:World) (hX:Fd.At u X h)=>zj3 X h 66 u hX
 open X119 in exact C24
theorem begin_67(hF:Fresh w X g c 67 l h):Calls prog 65 #[PT X,jI 67] w fun e w'=>e=jr jT/\BQ w X g (Ma.FZ.begin 67 l) w':=by
 have HC:=jH fun (u:World) (hX:Fd.At u X h)=>zj3 X h 67 u hX
 open X120 in exact C24
theorem begin_68(hF:Fresh w X g c 68 l h):Calls prog 65 #[PT X,jI 68] w fun e w'=>e=jr jT/\BQ w X g (Ma.FZ.begin 68 l) w':=by
 have HC:=jH fun (s:ByteArray) (sk:Bool) (u:World) (hX:Fd.At u X h)=>zta X h s sk u hX
 open X121 in exact C24
end
section
variable {w w':World} {F R G:Nat->Prop} {X:Nat} {hh:FH}
theorem SumAt.frame{f n all:Int}{tk fn:Value}(h:SumAt w F X f n all tk fn)(hX:Fd.At w X hh)(hf:Foot G w w')(hn:∀k,F k->k≠X->¬G k):SumAt w' F X f n all tk fn:=by
 obtain ⟨bU,bF,bN,bA,gF,gA,e1,e2,k1,k2,k3,k4,k5,k6,r⟩:=h;exact ⟨bU,bF,bN,bA,gF,gA,e1,e2,k1.foot hf (hn _ k1.2 (k1.1.ne_at hX).symm),k2.foot hf (hn _ k2.2 (k2.1.ne_at hX).symm),k3.foot hf (hn _ k3.2 (k3.1.ne_at hX).symm),k4.foot hf (hn _ k4.2 (k4.1.ne_at hX).symm),k5.foot hf (hn _ k5.2 (k5.1.ne_at hX).symm),k6.foot hf (hn _ k6.2 (k6.1.ne_at hX).symm),r⟩
theorem ProdAt.frame{all:Int}{tk fn:Value}(h:ProdAt w F X all tk fn)(hX:Fd.At w X hh)(hf:Foot G w w')(hn:∀k,F k->k≠X->¬G k):ProdAt w' F X all tk fn:=by
 obtain ⟨bF,bA,gF,gA,e1,e2,k2,k4,k5,k6⟩:=h;exact ⟨bF,bA,gF,gA,e1,e2,k2.foot hf (hn _ k2.2 (k2.1.ne_at hX).symm),k4.foot hf (hn _ k4.2 (k4.1.ne_at hX).symm),k5.foot hf (hn _ k5.2 (k5.1.ne_at hX).symm),k6.foot hf (hn _ k6.2 (k6.1.ne_at hX).symm)⟩
theorem CountAt.frame{f n:Int}{tk fn:Value}(h:CountAt w F f n tk fn)(hX:Fd.At w X hh)(hf:Foot G w w')(hn:∀k,F k->k≠X->¬G k):CountAt w' F f n tk fn:=by
 obtain ⟨bF,bN,e1,e2,k1,k2,n1⟩:=h;exact ⟨bF,bN,e1,e2,k1.foot hf (hn _ k1.2 (k1.1.ne_at hX).symm),k2.foot hf (hn _ k2.2 (k2.1.ne_at hX).symm),n1⟩
theorem FirstAt.frame{tk fn:Value}(h:FirstAt w F X tk fn)(hX:Fd.At w X hh)(hf:Foot G w w')(hn:∀k,F k->k≠X->¬G k):FirstAt w' F X tk fn:=by
 obtain ⟨bF,e1,e2,k1⟩:=h;exact ⟨bF,e1,e2,k1.foot hf (hn _ k1.2 (k1.1.ne_at hX).symm)⟩
theorem TruAt.frame{f n:Int}{odd:Bool}{tk fn:Value}(h:TruAt w F X f n odd tk fn)(hX:Fd.At w X hh)(hf:Foot G w w')(hn:∀k,F k->k≠X->¬G k):TruAt w' F X f n odd tk fn:=by
 obtain ⟨bF,bN,bO,bK,e1,e2,k1,k2,k3,k4,n1⟩:=h;exact ⟨bF,bN,bO,bK,e1,e2,k1.foot hf (hn _ k1.2 (k1.1.ne_at hX).symm),k2.foot hf (hn _ k2.2 (k2.1.ne_at hX).symm),k3.foot hf (hn _ k3.2 (k3.1.ne_at hX).symm),k4.foot hf (hn _ k4.2 (k4.1.ne_at hX).symm),n1⟩
theorem zlv{base:Nat}{e:TypeId}{size:Nat}{v:Value}{n:Nat}{xs:List Value}(h:w.ownsRow base e size v n xs)(hf:Foot G w w')(hn:∀k,v.ownBlock=some k->¬G k):w'.ownsRow base e size v n xs:=by
 obtain ⟨h1,h2⟩:=h;refine ⟨h1,?_⟩;rcases h2 with h2|⟨g,cap,cur,rfl,hb,hg,r⟩
 .exact .inl h2
 .exact .inr ⟨g,cap,cur,rfl,hb,(hf.block g (jg hg) (hn g rfl)).trans hg,r⟩
theorem TextAt.frame{sk odd:Bool}{b sep:List UInt8}{tk fn:Value}(h:TextAt w F X sk odd b sep tk fn)(hX:Fd.At w X hh)(hf:Foot G w w')(hn:∀k,F k->k≠X->¬G k):TextAt w' F X sk odd b sep tk fn:=by
 obtain ⟨bK,bF,bO,bB,bS,sv,e1,e2,k1,k2,k3,k4,k5,own,n0,fo,nx,r⟩:=h;exact ⟨bK,bF,bO,bB,bS,sv,e1,e2,k1.foot hf (hn _ k1.2 (k1.1.ne_at hX).symm),k2.foot hf (hn _ k2.2 (k2.1.ne_at hX).symm),k3.foot hf (hn _ k3.2 (k3.1.ne_at hX).symm),k4.foot hf (hn _ k4.2 (k4.1.ne_at hX).symm),k5.foot hf (hn _ k5.2 (k5.1.ne_at hX).symm),zlv own hf (fun k e=>hn k (fo k e) fun q=>nx (q▸e)),n0,fo,nx,r⟩
theorem SizeAt.frame{f k:Int}{l:List Int}{tk fn:Value}(h:SizeAt w F X f k l tk fn)(hX:Fd.At w X hh)(hf:Foot G w w')(hn:∀k,F k->k≠X->¬G k):SizeAt w' F X f k l tk fn:=by
 obtain ⟨gF,gA,bL,bK,bk,sv,e1,e2,k1,k2,k3,k4,k5,own,hk,fo,nx,r⟩:=h;exact ⟨gF,gA,bL,bK,bk,sv,e1,e2,k1.foot hf (hn _ k1.2 (k1.1.ne_at hX).symm),k2.foot hf (hn _ k2.2 (k2.1.ne_at hX).symm),k3.foot hf (hn _ k3.2 (k3.1.ne_at hX).symm),k4.foot hf (hn _ k4.2 (k4.1.ne_at hX).symm),k5.foot hf (hn _ k5.2 (k5.1.ne_at hX).symm),zlv own hf (fun k e=>hn k (fo k e) fun q=>nx (q▸e)),hk,fo,nx,r⟩
section
variable{a:List Ma.Arg}
include a
theorem MatchAt.frame{n:Int}{tk fn:Value}(h:MatchAt w F R X a n tk fn)(hX:Fd.At w X hh)(hf:Foot G w w')(hn:∀k,F k->k≠X->¬G k)(hr:∀k,R k->¬G k):MatchAt w' F R X a n tk fn:=by
 obtain ⟨bN,ba,bF,g,na,ca,e1,e2,k1,k2,kA,f1,f2,n1,n2⟩:=h;exact ⟨bN,ba,bF,g,na,ca,e1,e2,k1.foot hf (hn _ k1.2 (k1.1.ne_at hX).symm),k2.foot hf (hn _ k2.2 (k2.1.ne_at hX).symm),kA.foot hf (hn _ f1 (kA.box.ne_at hX).symm) (hr _ f2),f1,f2,n1,n2⟩
theorem LookAt.frame{f k:Int}{r:Ma.Ar}{tk fn:Value}(h:LookAt w F R X a f k r tk fn)(hX:Fd.At w X hh)(hf:Foot G w w')(hn:∀k,F k->k≠X->¬G k)(hr:∀k,R k->¬G k):LookAt w' F R X a f k r tk fn:=by
 obtain ⟨ba,bF,bR,bK,bU,g,na,ca,e1,e2,k1,k2,k3,kR,f0,n0,kA,f1,f2,n1⟩:=h;exact ⟨ba,bF,bR,bK,bU,g,na,ca,e1,e2,k1.foot hf (hn _ k1.2 (k1.1.ne_at hX).symm),k2.foot hf (hn _ k2.2 (k2.1.ne_at hX).symm),k3.foot hf (hn _ k3.2 (k3.1.ne_at hX).symm),(hf.block bR (jg kR) (hn _ f0 n0)).trans kR,f0,n0,kA.foot hf (hn _ f1 (kA.box.ne_at hX).symm) (hr _ f2),f1,f2,n1⟩
theorem IfsB.frame{f n all:Int}{ba bN bF bA bU g ca:Nat}(h:IfsB w F R X a f n all ba bN bF bA bU g ca)(hX:Fd.At w X hh)(hf:Foot G w w')(hn:∀k,F k->k≠X->¬G k)(hr:∀k,R k->¬G k):IfsB w' F R X a f n all ba bN bF bA bU g ca:=
 ⟨h.kN.foot hf (hn _ h.kN.2 (h.kN.1.ne_at hX).symm),h.kF.foot hf (hn _ h.kF.2 (h.kF.1.ne_at hX).symm),h.kA.foot hf (hn _ h.kA.2 (h.kA.1.ne_at hX).symm),h.kU.foot hf (hn _ h.kU.2 (h.kU.1.ne_at hX).symm),h.ar.foot hf (hn _ h.fa (h.ar.box.ne_at hX).symm) (hr _ h.fg),h.fa,h.fg,h.gX,h.gN,h.gA,h.nU,h.nA,h.uA⟩
theorem IfsAt.frame{f n all:Int}{p:Option Val.V}{tk fn th:Value}(h:IfsAt w F R X a f n all p tk fn th)(hX:Fd.At w X hh)(hf:Foot G w w')(hn:∀k,F k->k≠X->¬G k)(hr:∀k,R k->¬G k):IfsAt w' F R X a f n all p tk fn th:=by
 obtain ⟨ba,bN,bF,bA,bU,g,ca,e1,e2,k,r⟩:=h;exact ⟨ba,bN,bF,bA,bU,g,ca,e1,e2,k.frame hX hf hn hr,r⟩
theorem PrdAt.frame{all:Int}{p:Option Val.V}{tk fn th:Value}(h:PrdAt w F R X a all p tk fn th)(hX:Fd.At w X hh)(hf:Foot G w w')(hn:∀k,F k->k≠X->¬G k)(hr:∀k,R k->¬G k):PrdAt w' F R X a all p tk fn th:=by
 obtain ⟨bF,ba,bA,g,ca,e1,e2,k1,k2,kA,f1,f2,n1,n2,p1,p2⟩:=h;exact ⟨bF,ba,bA,g,ca,e1,e2,k1.foot hf (hn _ k1.2 (k1.1.ne_at hX).symm),k2.foot hf (hn _ k2.2 (k2.1.ne_at hX).symm),kA.foot hf (hn _ f1 (kA.box.ne_at hX).symm) (hr _ f2),f1,f2,n1,n2,p1,fun v hv=>(by obtain ⟨bv,q1,q2,q3,q4,q5⟩:=p2 v hv;exact ⟨bv,q1,q2,q3,q4,(hf.block bv (jg q5) (hn _ q2 q3)).trans q5⟩)⟩
end
theorem Clos.frame{f:Int}{tk fn th:Value}{y:Ma.FZ}(h:Clos R X f tk fn F w y th)(hX:Fd.At w X hh)(hf:Foot G w w')(hn:∀k,F k->k≠X->¬G k)(hr:∀k,R k->¬G k):Clos R X f tk fn F w' y th:=
 ⟨fun e=> ⟨(h.sum e).1.frame hX hf hn,(h.sum e).2⟩,fun e=> ⟨(h.prod e).1.frame hX hf hn,(h.prod e).2⟩,fun e=> ⟨(h.count e).1.frame hX hf hn,(h.count e).2⟩,fun e=> ⟨(h.size e).1.frame hX hf hn,(h.size e).2⟩,fun e=> ⟨(h.tru e).1.frame hX hf hn,(h.tru e).2⟩,fun e=> ⟨(h.text e).1.frame hX hf hn,(h.text e).2⟩,
  fun e=> ⟨(h.mat e).1.frame hX hf hn hr,(h.mat e).2⟩,fun e=> ⟨(h.look e).1.frame hX hf hn hr,(h.look e).2⟩,fun e=>IfsAt.frame (h.ifs e) hX hf hn hr,fun e=>PrdAt.frame (h.prd e) hX hf hn hr,fun e=> ⟨(h.first e).1.frame hX hf hn,(h.first e).2⟩⟩
section
variable{x:Ma.FZ}{h:FH}(k:FoldAt w F R X x h)
include x h k
theorem FoldAt.frame(hf:Foot G w w')(hn:∀k,F k\/R k->¬G k):FoldAt w' F R X x h:=
 ⟨⟨k.core.cells.foot hf (hn _ (.inl k.core.fx)),k.core.like,k.core.fx,fun i hi=>jL (k.core.lt i hi) hf.size⟩,k.rows.foot hf fun i hi=>hn i (.inr hi),k.dis,fun i hi=>jL (k.rlt i hi) hf.size,fun e=>(k.clos e).frame k.core.cells hf (fun i hi _=>hn i (.inl hi)) fun i hi=>hn i (.inr hi),k.len,k.called⟩
theorem FoldAt.below(hb:Below w.heap.size w w'):FoldAt w' F R X x h:=k.frame (G:=fun _=>False) ⟨hb.os,hb.tape,hb.output,hb.size,fun i hi _=>hb.block i hi⟩ fun _ _ e=>e
end
theorem FoldAt.self{x y:Ma.FZ}{h h':FH}(k:FoldAt w F R X x h)(hX:Fd.At w' X h')(hf:Foot (fun k=>k=X) w w')(hL:Like h' y)(e1:h'.tk=h.tk)(e2:h'.fn=h.fn)(e3:h'.items=h.items)(hI:y.items=x.items)(hF:y.f=x.f)(ha:y.a=x.a)(hl:y.over=false->(y.l.length:Int)<=4096*y.i+y.pos)(hc:y.over=false->Clos R X x.f h.tk h.fn F w x h.th->Clos R X y.f h'.tk h'.fn F w y h'.th)(ho:y.over=x.over):FoldAt w' F R X y h':=
 ⟨⟨hX,hL,k.core.fx,fun i hi=>jL (k.core.lt i hi) hf.size⟩,(by rw[e3,hI];exact k.rows.foot hf fun i hi e=>k.dis i hi (by rw[e];exact k.core.fx)),k.dis,fun i hi=>jL (k.rlt i hi) hf.size,
  fun e=>(hc e (k.clos (ho▸e))).frame k.core.cells hf (fun i _ hne e=>hne e) fun i hi e=>k.dis i hi (by rw[e];exact k.core.fx),hl,by rw[hF,ha];exact k.called⟩
end
def FQ(w:World)(F R:Nat->Prop)(X:Nat)(y:Ma.FZ)(w':World):Prop:=∃F' h',FoldAt w' F' R X y h'/\Foot F w w'/\∀k,F' k->F k\/w.heap.size<=k
theorem FQ.refl{w:World}{F R:Nat->Prop}{X:Nat}{x:Ma.FZ}{h:FH}(k:FoldAt w F R X x h):FQ w F R X x w:=⟨F,h,k,Foot.refl _ _,fun _ e=> .inl e⟩
theorem FQ.next{w u w':World}{F G R:Nat->Prop}{X:Nat}{y:Ma.FZ}(hf:Foot F w u)(hG:∀k,G k->F k\/w.heap.size<=k)(h:FQ u G R X y w'):FQ w F R X y w':=by
 obtain ⟨F',h',h1,h2,h3⟩:=h;refine ⟨F',h',h1,hf.next h2 fun i hi e=> ?_,fun k hk=> ?_⟩
 .rcases hG i e with e|e
  .exact e
  .omega
 .rcases h3 k hk with e|e
  .exact hG k e
  .exact .inr (jR hf.size e)
theorem FQ.over{w w':World}{F R:Nat->Prop}{X:Nat}{x:Ma.FZ}{h:FH}(k:FoldAt w F R X x h)(v:Val.V)(hX:Fd.At w' X (h.ends v))(hf:Foot F w w'):FQ w F R X (x.ends v) w':=by
 have hs:=ends_same h v;have ho:(x.ends v).over=true:=Ma.FZ.zax;have hsm:=Ma.FZ.ends_same x v;refine ⟨F,_,⟨⟨hX,k.core.like.ends v,k.core.fx,fun i hi=>jL (k.core.lt i hi) hf.size⟩,?_,k.dis,fun i hi=>jL (k.rlt i hi) hf.size,fun e=>absurd (ho.symm.trans e) B3,fun e=>absurd (ho.symm.trans e) B3,?_⟩,hf,fun k hk=> .inl hk⟩
 .rw[hs.2.2.2,hsm.items];exact k.rows.foot hf k.dis
 .rw[hsm.f,hsm.a];exact k.called
theorem FQ.took{w w':World}{F R:Nat->Prop}{X:Nat}{x y:Ma.FZ}{h:FH}(k:FoldAt w F R X x h)(hs:Ma.FZ.Same x y)(hl:y.over=false->(y.l.length:Int)<=4096*y.i+y.pos)(hq:TQ (Clos R X x.f h.tk h.fn) w F X h y w'):FQ w F R X y w':=by
 obtain ⟨F',h',h1,h2,h3,h4,h5,h6,h7⟩:=hq;have hd:∀i,R i->¬F' i:=fun i hi e=>by
  rcases h7 i e with e|e
  .exact k.dis i hi e
  .have:=k.rlt i hi;omega
 refine ⟨F',h',⟨h1,?_,hd,fun i hi=>jL (k.rlt i hi) h6.size,fun e=> ?_,hl,?_⟩,h6,h7⟩
 .rw[h4,hs.items];exact k.rows.foot h6 k.dis
 .rw[h2,h3,hs.f];exact h5 e
 .rw[hs.f,hs.a];exact k.called
end Fd
end
open Go.RowKit
namespace Ma
namespace FZ
def SL(x y:FZ):Prop:=y.l=x.l
def LL(x y:FZ):Prop:=y.l.length<=x.l.length+1
theorem SL.ll{x y:FZ}(h:SL x y):LL x y:=by unfold SL at h;unfold LL;rw[h];omega
theorem zaw{x y z:FZ}{c:Bool}(h:SL x y)(k:SL x z):SL x (cond c y z):=B146
theorem zkx{x y z:FZ}{c:Bool}(h:LL x y)(k:LL x z):LL x (cond c y z):=B146
theorem sl_refl(x:FZ):SL x x:=rfl
theorem SL.trans{x y z:FZ}(h:SL x y)(k:SL y z):SL x z:=Eq.trans k h
theorem zcg(x:FZ)(v:Val.V):SL x (x.ends v):=zaw rfl rfl
theorem zc3(x:FZ)(e:Int):SL x (x.fails e):=zcg x _
theorem sl_all{x y:FZ}(h:SL x y)(n:Int):SL x {y with all:=n}:=h
section
variable(x:FZ)
include x
theorem ztv(n:Int):SL x (x.sum n):=sl_all (zaw rfl (zc3 x _)) _
theorem sl_prod(n:Int):SL x (x.prod n):=sl_all (zaw rfl (zc3 x _)) _
theorem sl_n(n:Int):SL x {x with n:=n}:=rfl
theorem ll_add(n:Int):LL x (x.add n):=by
 unfold FZ.add;split
 .exact ((sl_n x _).trans (ztv _ _)).ll
 .split
  .exact (sl_prod x n).ll
  .unfold LL;simp
theorem zvd(v:Val.V)(cell:Bool):LL x (x.gather v cell):=
 zkx (zkx (zcg x v).ll (zkx (ll_add x _) (sl_refl x).ll)) (zkx (ll_add x _) (zc3 x _).ll)
theorem zjj(b:Bool):SL x (x.truths1 b):=
 zaw (SL.trans (y:={x with n:=i64 (x.n+1),odd:=x.odd !=b}) rfl (zcg _ _)) rfl
theorem sl_texts(v:Val.V)(cell:Bool):SL x (x.texts v cell):=by
 unfold FZ.texts;simp only;generalize x.b++(cond x.odd x.sep [])++(Val.asText v).1.data.toList=b;exact zaw rfl (zaw (zaw (SL.trans (y:={x with odd:=true,b:=b}) rfl (zc3 _ _)) rfl) (zc3 x _))
theorem zo5(w:Val.V):SL x (x.addIf w):=zaw (zcg x w) (zaw (ztv x _) rfl)
theorem znc(s:Sp)(v:Val.V):SL x (x.want s v):=rfl
theorem zvc(v:Val.V)(cell:Bool):LL x (x.take v cell):=by
 unfold FZ.take;split
 .exact zvd x v cell
 .refine SL.ll ?_;split
  .exact zaw (sl_n x _) rfl
  .split
   .exact zaw (zaw (zcg x v) (zaw rfl (zjj x _))) (zaw (zjj x _) (zc3 x _))
   .split
    .exact sl_texts x v cell
    .split
     .exact zaw ((sl_n x _).trans (zcg _ _)) (sl_n x _)
     .split
      .exact zaw (znc x _ _) rfl
      .split
       .exact zaw (zaw (sl_n x _) (zaw ((sl_n x _).trans (znc _ _ _)) ((sl_n x _).trans (zo5 _ _)))) rfl
       .split
        .exact zaw (zcg x v) (znc x _ _)
        .exact zaw (zcg x v) rfl
theorem sl_after(v w:Val.V):SL x (x.after v w):=by
 unfold FZ.after;split
 .exact zcg x w
 .split
  .exact zo5 x w
  .exact zaw (zcg x w) (zaw rfl (zaw (ztv x _) (zc3 x _)))
end
structure Ready(x:FZ)(v:Val.V):Prop where
 goes:Goes x
 n:x.n+1<=4096*x.i+x.pos
 v:okV v
 at':70<=x.f->x.f<=75->∃it,x.items[x.i]?=some it/\it.isA=true/\inA it.a x.here
theorem zye{x:FZ}{it:Arg}(h:Inv x)(hs:x.stop=false)(hit:x.items[x.i]?=some it)(ha:it.isA=false):Ready {x with i:=x.i+1} it.v:=by
 have hg:=h.goes hs (h.pend0 hs);have hlt:x.i<x.items.length:=(jl hit);have hpos:=hg.pos it hit;rw[ha] at hpos;have hp0:x.pos=0:=by simp only[cond_false] at hpos;omega
 have hg2:Goes {x with i:=x.i+1}:=zij hg hlt x.pos (.inr ⟨rfl,hp0⟩);have h1:=hg.body.n;refine ⟨hg2,?_,(hg.body.items it (List.mem_of_getElem? hit)).val,fun h70 h75=> ?_⟩
 .show x.n+1<=4096*((x.i+1:Nat):Int)+(x.pos:Int);omega
 .exact M161
theorem zr1{x:FZ}{w:Val.V}(h:Inv x)(ho:x.over=false)(hw:x.wants=true)(hv:okV w)(hp:x.pend=none):Ready {x with wants:=false,here:=x.next,pos:=x.pos+1} w:=by
 have hB:=h.body ho;obtain ⟨_,hw2⟩:=h.want ho hw;obtain ⟨it,hit,hia,hlt,hnx⟩:=hw2 hp;have hsz:=zba ((hB.items it (List.mem_of_getElem? hit)).area hia);have hn:=hB.n;refine ⟨⟨⟨hB.args,hB.items,hB.all,⟨hn.1,?_⟩,?_,hB.sz,hB.k,hB.l,hB.b,hB.sep,Bp41⟩,ho,rfl,hp,fun it' hit'=> ?_,h.i⟩,?_,hv,fun _ _=> ⟨it,hit,hia,?_⟩⟩
 .show x.n<=4096*(x.i:Int)+((x.pos+1:Nat):Int);omega
 .show x.pos+1<=4096;have:=hsz.2.1;omega
 .exact M181
 .show x.n+1<=4096*(x.i:Int)+((x.pos+1:Nat):Int);omega
 .show inA it.a x.next;rw[hnx];exact zh2 hsz.1 hlt
end FZ
end Ma
namespace Fd
open Mb
theorem zsr{n:Nat}(h:n<=4000000000):IntKind.i64.wrap ((n:Int)+1)=((n+1:Nat):Int):=by
 rw[show ((n+1:Nat):Int)=(n:Int)+1 by omega];exact zae B1 B1
theorem zdv{sort:List Int->List Int}:∀{n:Nat} {x y z:Ma.FZ},Ma.FZ.advN sort n x=y->Ma.FZ.adv1 sort y=z->Ma.FZ.advN sort (n+1) x=z
 |0,x,y,z,h,k=>by subst h;exact k
 |n+1,x,y,z,h,k=>by
  unfold Ma.FZ.advN at h ⊢;exact zdv (n:=n) h k
def togo(X N:Nat)(w:World):Nat:=2*(N-(intOf ((w.cell? (jA X 1)).getD .nilFunc)).toNat)+(match w.cell? (jA X 7) with|some (.bool true)=>0|_=>1)
def B141(h:jp:=by simp[results,results37,go_sem]):=h
def Bp20(h:jp:=by exact ⟨c.sum,c.prod,c.count,c.size,c.tru,c.text,c.mat,c.look,c.ifs,c.prd,c.first⟩):=h
def _root_.Bp103(h:jp:=by exact Foot.of_below hbd):=h
def M163(h:jp:=by
 have HQ:=jH (show FQ w F R X fin wr by rw[fin_eq];exact ⟨F',h',kA,kf,kF⟩);clear fin_eq;go_wp2_with fail;exact jY jT B141 ⟨rfl,HQ.out⟩):=h
def B60(h:jp:=by rw[<-hW];simp):=h
def Bp15(h:jp:=by rw[<-hW];exact B5):=h
def Bp78(h:jp:=by exact Foot.set (Foot.of_below hb1) rfl):=h
def C3(h:jp:=by
 have hX:=hF.at';have hXl:=hX.lt;have hgl:=hF.lt;have hgX:=hF.ne;have hL:=hF.like;have c0:=hX.cells.c0;rw[hF.items] at c0;have f0:=hX.cells.f;go_enter func65,ntmps65;go_upto_region 2 with fail;generalize hW:World.alloc _ _=w1;have kX:Fd.At w1 X h:=B9;have b2:Box w1 (w.heap.size) (PT X):=Bp7;exact K3):=h
def D1(h:jp:=by
 have b4:Box w1 (w.heap.size+1+1) (jP g 0 l.length c):=Bp7;have hb1:Below w.heap.size w w1:=Bp15;have hz1:w1.heap.size=w.heap.size+1+1+1:=B60;clear hW c0 f0;have d0:=b2.cell;have d1:=b2.lt;have d6:w.heap.size≠X:=B1;have d7:X≠w.heap.size:=B1;have d8:=kX.lt;have e3:=b3.cell;have e4:=b3.lt;exact J1):=h
def V1.J1(h:jp:=by
 have d2:=kX.cells.c13;have d3:=kX.cells.f;have d5:=kX.cells.c12;go_wp2_with fail;exact jY jT B17 ⟨rfl,BQ.same hF (at_fn (at_tk kX _) _) (Foot.set Bp78 rfl) Bp2 rfl rfl (fun _=>Clos.of_first rfl ⟨⟨w.heap.size,rfl,rfl,FBox.new ((b2.so B1).so B1) B1 B1⟩,hF.th⟩) rfl rfl rfl⟩):=h
def X23.K3(h:jp:=by
 have b3:Box w1 (w.heap.size+1) (jI 76):=Bp7
 open V1 in exact D1):=h
def B54(h:jp:=by simp[results,results104,go_sem]):=h
def Da12(h:jp:=by
 go_wp2_with fail;refine (HC.out _ kX).mono ?_;rintro e w2 ⟨rfl,gF,gA,bL,bK,bk,k1,k2,k3,k4,k5,k6,l1,l2,l3,l4,l5,k7⟩;have hfo:Foot (fun k=>k=X) w w2:=zaf k7 hb1;exact Ja12):=h
def Va30.Ja12(h:jp:=by
 go_wp2_with fail;exact jY jT B17 ⟨rfl,BQ.same hF k1 hfo Bp2 rfl rfl (fun _=>Clos.of_size (.inl rfl) ⟨⟨gF,gA,bL,bK,bk,jZ,rfl,rfl,FBox.new k2 B1 B1,FBox.new k3 B1 B1,FBox.new k4 B1 B1,FBox.new k5 B1 B1,FBox.new k6 B1 B1,⟨rfl,.inl ⟨rfl,rfl⟩⟩,fun _=>rfl,fun k e=>(nomatch e),nofun,nofun,nofun,nofun,nofun,nofun⟩,hF.th⟩) rfl rfl rfl⟩):=h
def V2.J1(h:jp:=by
 open Va30 in exact Da12):=h
def X24.K3(h:jp:=by
 have b3:Box w1 (w.heap.size+1) (jI 59):=Bp7
 open V2 in exact D1):=h
def Va31.Ja12(h:jp:=by
 go_wp2_with fail;exact jY jT B17 ⟨rfl,BQ.same hF k1 hfo Bp2 rfl rfl (fun _=>Clos.of_size (.inr (.inl rfl)) ⟨⟨gF,gA,bL,bK,bk,jZ,rfl,rfl,FBox.new k2 B1 B1,FBox.new k3 B1 B1,FBox.new k4 B1 B1,FBox.new k5 B1 B1,FBox.new k6 B1 B1,⟨rfl,.inl ⟨rfl,rfl⟩⟩,fun _=>rfl,fun k e=>(nomatch e),nofun,nofun,nofun,nofun,nofun,nofun⟩,hF.th⟩) rfl rfl rfl⟩):=h
def V3.J1(h:jp:=by
 open Va31 in exact Da12):=h
def X25.K3(h:jp:=by
 have b3:Box w1 (w.heap.size+1) (jI 60):=Bp7
 open V3 in exact D1):=h
def Va32.Ja12(h:jp:=by
 go_wp2_with fail;exact jY jT B17 ⟨rfl,BQ.same hF k1 hfo Bp2 rfl rfl (fun _=>Clos.of_size (.inr (.inr (.inl rfl))) ⟨⟨gF,gA,bL,bK,bk,jZ,rfl,rfl,FBox.new k2 B1 B1,FBox.new k3 B1 B1,FBox.new k4 B1 B1,FBox.new k5 B1 B1,FBox.new k6 B1 B1,⟨rfl,.inl ⟨rfl,rfl⟩⟩,fun _=>rfl,fun k e=>(nomatch e),nofun,nofun,nofun,nofun,nofun,nofun⟩,hF.th⟩) rfl rfl rfl⟩):=h
def V4.J1(h:jp:=by
 open Va32 in exact Da12):=h
def X26.K3(h:jp:=by
 have b3:Box w1 (w.heap.size+1) (jI 62):=Bp7
 open V4 in exact D1):=h
theorem zhx{X N:Nat}{w:World}{h:FH}{x:Ma.FZ}(hX:Fd.At w X h)(hL:Like h x):togo X N w=2*(N-x.i)+cond x.wants 0 1:=by
 unfold togo;rw[hX.cells.c1,hX.cells.c7,hL.i,hL.wants];cases x.wants <;> simp[intOf] <;> rfl
theorem zew(w0 w:World)(F R:Nat->Prop)(X:Nat)(x:Ma.FZ)(h:FH)(hE:FEnv w0 w F)(hA:FoldAt w F R X x h)(hI:Ma.FZ.Inv x):Calls prog 37 #[PT X] w fun e w'=>e=jr jT/\FQ w F R X (Ma.FZ.advance sortI x) w':=by
 have HF:=jH (fun (n:Nat) (y:Ma.FZ) (e:Ma.FZ.advN sortI n x=y) (hs:y.stop=true) (hn:n<=x.items.length+1)=>Ma.FZ.zmv n e hs hn);generalize Ma.FZ.advance sortI x=fin at *;go_enter func37,ntmps37;go_wp2_with fail;go_loopw [2,3,4] (fun _ _ _ wr=>∃(n:Nat) (y:Ma.FZ),Hid (Ma.FZ.advN sortI n x=y/\((y.stop=false->n+x.i<=y.i)/\n<=x.items.length+1)/\y.items=x.items/\Ma.FZ.Inv y)/\FQ w F R X y wr) (fun _ _ _ wr=>togo X x.items.length wr)
 case atStart=>exact ⟨0,x,jH ⟨rfl,⟨fun _=>by omega,B1⟩,rfl,hI⟩,FQ.refl hA⟩
 case round=>
  obtain ⟨n,y,HI,hq⟩:=hrel;obtain ⟨hy1,⟨hy2s,hy2n⟩,hy3,hyI⟩:=HI.out;obtain ⟨F',h',kA,kf,kF⟩:=hq;have hE':=hE.next kf kF;have hyi:y.i<=x.items.length:=by rw[<-hy3];exact hyI.i
  have kX:=kA.core.cells;have kL:=kA.core.like;have hszI:y.items.length<=1048576\/y.over=true:=by
   cases ho:y.over
   .exact .inl (hyI.body ho).sz
   .exact .inr rfl
  cases ho:y.over
  case true=>
   have c8:=kX.cells.c8;rw[kL.over,ho] at c8;have l0:=kX.lt;have fin_eq:=HF.out n y hy1 (by unfold Ma.FZ.stop;rw[ho];rfl) hy2n;exact M163
  have c8:=kX.cells.c8;rw[kL.over,ho] at c8;have l0:=kX.lt;have c7:=kX.cells.c7;rw[kL.wants] at c7;cases hw:y.wants
  case true=>
   rw[hw] at c7;have fin_eq:=HF.out n y hy1 (by unfold Ma.FZ.stop;rw[ho,hw];rfl) hy2n;exact M163
  rw[hw] at c7;have hs:y.stop=false:=by unfold Ma.FZ.stop;rw[ho,hw];rfl
  have hy2:=hy2s hs;clear hy2s hy2n;have hb:=hyI.body ho;have hl10:y.l.length<=10000000000:=by have:=kA.len ho;have:=hb.p;have:=hb.sz;have:=hyI.i;omega
  obtain ⟨g,of,c,e0,hR,hgl,hcap,hrow⟩:=kA.rows;have c0:=kX.cells.c0;rw[e0] at c0;have c1:=kX.cells.c1;rw[kL.i] at c1;cases hit:y.items[y.i]? with
  |none=>
   have hge:y.items.length<=y.i:=List.getElem?_eq_none_iff.1 hit;have te:((y.i:Int)==(y.items.length:Int))=true:=by rw[beq_iff_eq];have:=hyI.i;omega
   have ea:Ma.FZ.adv1 sortI y=y.ends (y.finish sortI):=by unfold Ma.FZ.adv1;rw[hs,hit];rfl
   have fin_eq:=HF.out (n+1) _ (zdv hy1 ea) (by unfold Ma.FZ.stop;rw[Ma.FZ.zax];rfl) (by have:=hyI.i;omega);have FE:=jH fin_eq;have HI2:=jH (And.intro hyI hb);clear fin_eq hb hyI hge ea hy1 hy2 hy3 HI;go_wp2_with fail;go_quiet (fail);have hbq:Below wr.heap.size wr (wr.drewN nq):=⟨rfl,rfl,rfl,jE,fun _ _=>rfl⟩;have kA2:=kA.below hbq;generalize wr.drewN nq=w2 at *;obtain ⟨id,bs,en,hcf,hcall⟩:=end_any w2 F' R X y h' kA2.core (kA2.clos ho) HI2.out.2 hl10 kA2.called;have HE:=jH fun (v:Val.V) (u:World) (hX:Fd.At u X h')=>ends_any X h' v u hX;have HC:=jH hcall;clear hcall c0 c1 c7 c8;have kX2:=kA2.core.cells;have c13:=kX2.cells.c13;rw[en] at c13;have l2:=kX2.lt;go_wp2_with fail;refine HC.out.mono ?_;rintro e w3 ⟨rfl,hC3,hf3⟩;go_wp2_with fail;refine (HE.out _ _ hC3.cells).mono ?_;rintro e w4 ⟨rfl,q1,q2⟩;go_wp2_with fail;refine jX jT B141 ⟨rfl,?_⟩;rw[FE.out];exact FQ.next kf kF (FQ.over kA _ q1 ((Foot.of_below hbq).trans (hf3.trans (q2.mono fun i _ e=>by rw[e];exact hC3.fx))))
  |some it=>
   have hlt:y.i<y.items.length:=(jl hit);have te:((y.i:Int)==(y.items.length:Int))=false:=B39;obtain ⟨i0,i1,i2,i3,i4,i5,i6,i7⟩:=hrow y.i it hit;have HI2:=jH (And.intro hyI hb);have HW:=jH (show IntKind.i64.wrap ((y.i:Int)+1)=((y.i+1:Nat):Int) from zsr (by have:=hb.sz;omega));have HY3:=jH (And.intro hy1 (And.intro hy2 hy3));clear hyI hb HI hy1 hy2 hy3;go_wp2_with fail;go_quiet (fail);have hbq:Below wr.heap.size wr (wr.drewN nq):=⟨rfl,rfl,rfl,jE,fun _ _=>rfl⟩;have kA2:=kA.below hbq;have ir2:=(hrow y.i it hit).same (w':=wr.drewN nq) rfl;clear i0 i1 i2 i3 i4 i5 i6 i7 c0 c1 c7 c8;generalize wr.drewN nq=w2 at *;have kX2:=kA2.core.cells;have c0:=kX2.cells.c0;rw[e0] at c0;have c1:=kX2.cells.c1;rw[kL.i] at c1;have l2:=kX2.lt;go_wp2_with fail;go_quiet (fail);have hbq2:Below w2.heap.size w2 (w2.drewN nq):=⟨rfl,rfl,rfl,jE,fun _ _=>rfl⟩;have kA3:=kA2.below hbq2;have ir3:=ir2.same (w':=w2.drewN nq) rfl;have hf3:Foot F' wr (w2.drewN nq):=(Foot.of_below hbq).trans (Foot.of_below hbq2);have hg3:=jL hgl hf3.size;clear kA2 ir2 kX2 c0 c1 l2;generalize w2.drewN nq=w3 at *;have kX3:=kA3.core.cells;obtain ⟨i0,i1,i2,i3,i4,i5,i6,i7⟩:=ir3;have l3:=kX3.lt;have c1:=kX3.cells.c1;rw[kL.i] at c1;have f3:=kX3.cells.f;have hgX:g≠X:=fun e=>kA.dis g hR (by rw[e];exact kA.core.fx);cases ha:it.isA
   case false=>
    rw[ha] at i0;have hw1:=HW.out;have ea:Ma.FZ.adv1 sortI y=Ma.FZ.take {y with i:=y.i+1} it.v false:=by unfold Ma.FZ.adv1;rw[hs,hit];show cond false y (cond it.isA _ _)=_;rw[ha];rfl
    have hrd:=Ma.FZ.zye HI2.out.1 hs hit ha;have hsm:=Ma.FZ.zh0 {y with i:=y.i+1} it.v false;have hll:=Ma.FZ.zvc {y with i:=y.i+1} it.v false;have hzI:=Ma.FZ.zhq zhd HI2.out.1;rw[ea] at hzI;obtain ⟨hy1,hy2,hy3⟩:=HY3.out;have HZ:=jH (show Ma.FZ.advN sortI (n+1) x=Ma.FZ.take {y with i:=y.i+1} it.v false/\(((Ma.FZ.take {y with i:=y.i+1} it.v false).stop=false->(n+1)+x.i<=(Ma.FZ.take {y with i:=y.i+1} it.v false).i)/\n+1<=x.items.length+1)/\(Ma.FZ.take {y with i:=y.i+1} it.v false).items=x.items/\Ma.FZ.Inv (Ma.FZ.take {y with i:=y.i+1} it.v false) from
     ⟨zdv hy1 ea,⟨fun _=>by rw[hsm.i];show n+1+x.i<=y.i+1;omega,B1⟩,hsm.items.trans hy3,hzI⟩)
    have HLen:=jH (show (Ma.FZ.take {y with i:=y.i+1} it.v false).over=false->((Ma.FZ.take {y with i:=y.i+1} it.v false).l.length:Int)<=4096*((Ma.FZ.take {y with i:=y.i+1} it.v false).i:Int)+((Ma.FZ.take {y with i:=y.i+1} it.v false).pos:Int) from fun _=>by
     have h1:=kA.len ho;unfold Ma.FZ.LL at hll;rw[hsm.i,hsm.pos];show _<=4096*((y.i+1:Nat):Int)+(y.pos:Int);have hll':(Ma.FZ.take {y with i:=y.i+1} it.v false).l.length<=y.l.length+1:=hll;omega)
    have HSM:=jH hsm;have HRD:=jH hrd;have HM:=jH (show togo X x.items.length wr=2*(x.items.length-y.i)+1 by rw[zhx kX kL,hw];rfl);have hN:y.items.length=x.items.length:=by rw[hy3]
    have HNN:=jH (show y.i<x.items.length by rw[<-hN];exact hlt);have hiz:(Ma.FZ.take {y with i:=y.i+1} it.v false).i=y.i+1:=hsm.i;have HIZ:=jH hiz;clear hiz hN hsm hrd hll hzI ea hy1 hy2 hy3;generalize hzz:Ma.FZ.take {y with i:=y.i+1} it.v false=z at HZ HLen HSM HIZ;have HZZ:=jH hzz;clear hzz;go_upto_region 6 with fail;have kA4:=kA3.self (y:={y with i:=y.i+1}) (h':={h' with i:=(y.i:Int)+1}) (w':=w3.setCell (jA X 1) (jI ((y.i:Int)+1))) (zad kX3 1 _) Bp10 ⟨by show (y.i:Int)+1=((y.i+1:Nat):Int);omega,kL.pos,kL.hr,kL.hc,kL.nr,kL.nc,kL.wants,kL.over,kL.fk,kL.fi,kL.ft⟩ rfl rfl rfl rfl rfl rfl (fun e=>by have:=kA3.len e;show (y.l.length:Int)<=4096*((y.i+1:Nat):Int)+(y.pos:Int);omega) (fun _ c=> Bp20) rfl;have hf4:Foot F' wr (w3.setCell (jA X 1) (jI ((y.i:Int)+1))):=Foot.set hf3 kA.core.fx;have ib:(w3.setCell (jA X 1) (jI ((y.i:Int)+1))).heap[g]?=w3.heap[g]?:=heap_setCell_other w3 _ g _ hgX;have g5:=(zag (o:=of+y.i*8+5) ib).trans i5;have g6:=(zag (o:=of+y.i*8+6) ib).trans i6;have g7:=(zag (o:=of+y.i*8+7) ib).trans i7;have hg4:=jL hgl hf4.size;clear ib i0 i1 i2 i3 i4 i5 i6 i7 c1 f3 l3 kA3 kX3 hw1;generalize w3.setCell (jA X 1) (jI ((y.i:Int)+1))=w4 at *;have hbd:Below w4.heap.size w4 w4.drew:=jB.drew;have kA5:=kA4.below hbd;have hE5:=hE'.next (hf4.trans Bp103) fun k e=> .inl e;obtain ⟨id,bs,en,hcf,hcall⟩:=take_any w4.drew F' R X {y with i:=y.i+1} _ it.v kA5.core (kA5.clos ho) HRD.out.goes hl10 HRD.out.v HRD.out.at' kA5.called hE5.numW;have HC:=jH (hcall false);clear hcall;have kX4:=kA4.core.cells;have c12:=kX4.cells.c12;have l4:=kX4.lt;rw[en] at c12;go_still_tail 8,(by kernel_rfl);change wpList _ _ _ _ _ w4.drew;go_wp2_with fail;refine jM HC.out ?_;intro w5 hq;rw[HZZ.out] at hq;have hQ5:FQ wr F' R X z w5:=FQ.next (hf4.trans Bp103) (fun k e=> .inl e) (FQ.took kA5 HSM.out HLen.out hq);have hM5:togo X x.items.length w5<togo X x.items.length wr:=by
     obtain ⟨F5,h5,k5,_,_⟩:=hQ5;rw[HM.out,zhx k5.core.cells k5.core.like,HIZ.out];have:=HNN.out;cases z.wants <;> simp only[cond_true,cond_false] <;> omega
    have HQ5:=jH (FQ.next kf kF hQ5);have HM5:=jH hM5;clear hQ5 hM5 hq;go_wp2_with fail;go_roundw
    case rel=>exact ⟨n+1,z,HZ,HQ5.out⟩
    case measure=>exact HM5.out
   case true=>
    rw[ha] at i0;have hw1:=HW.out;have HS:=jH fun (u:World)=>zfo it.a.t it.a.l it.a.b it.a.r u;go_wp2_with fail;refine jM (HS.out _) ?_;intro w4 hb4;generalize hsz:sizeAr it.a.t it.a.l it.a.b it.a.r=sz at *;obtain ⟨m,mc⟩:=sz;have hS1:(Ma.sizeA it.a).1=m:=congrArg Prod.fst hsz;have kA4:=kA3.below hb4;have hf4:Foot F' wr w4:=hf3.trans (Foot.of_below hb4);have hg4:=jL hgl hf4.size;obtain ⟨hy1,hy2,hy3⟩:=HY3.out;have hN:y.items.length=x.items.length:=by rw[hy3]
    have HM:=jH (show togo X x.items.length wr=2*(x.items.length-y.i)+1 by rw[zhx kX kL,hw];rfl);have HNN:=jH (show y.i<x.items.length by rw[<-hN];exact hlt);obtain ⟨-,j1,j2,j3,j4,-,-,-⟩:=(show ItemAt w3 g (of+y.i*8) it from ⟨by rw[ha];exact i0,i1,i2,i3,i4,i5,i6,i7⟩).same (hb4.block g hg3);have hzI:=Ma.FZ.zhq zhd HI2.out.1;have hlen:=kA.len ho;have hpp:=HI2.out.2.p;clear hsz HS hN i0 i1 i2 i3 i4 i5 i6 i7 c1 f3 l3 kA3 kX3;have kX4:=kA4.core.cells;have c1:=kX4.cells.c1;rw[kL.i] at c1;have c2:=kX4.cells.c2;rw[kL.pos] at c2;have f4:=kX4.cells.f;have l4:=kX4.lt;cases te2:((y.pos:Int)==m)
    case true=>
     have ea:Ma.FZ.adv1 sortI y={y with i:=y.i+1,pos:=0}:=by unfold Ma.FZ.adv1;rw[hs,hit];show cond false y (cond it.isA (cond ((Ma.sizeA it.a).1==(y.pos:Int)) _ _) _)=_;rw[ha,hS1,show (m==(y.pos:Int))=true by rw[beq_iff_eq];exact (beq_iff_eq.1 te2).symm];rfl
     rw[ea] at hzI;have HZ:=jH (show Ma.FZ.advN sortI (n+1) x={y with i:=y.i+1,pos:=0}/\((y.stop=false->(n+1)+x.i<=y.i+1)/\n+1<=x.items.length+1)/\y.items=x.items/\Ma.FZ.Inv {y with i:=y.i+1,pos:=0} from ⟨zdv hy1 ea,⟨fun _=>by omega,B1⟩,hy3,hzI⟩);clear ea hzI hy1 hy2 hy3;go_wp2_with fail;have kA5:=kA4.self (y:={y with i:=y.i+1,pos:=0}) (h':={h' with i:=(y.i:Int)+1,pos:=0}) (w':=(w4.setCell (jA X 1) (jI ((y.i:Int)+1))).setCell (jA X 2) (jI 0)) (zad (zad kX4 1 _) 2 _) (Foot.set Bp10 rfl) ⟨by show (y.i:Int)+1=((y.i+1:Nat):Int);omega,rfl,kL.hr,kL.hc,kL.nr,kL.nc,kL.wants,kL.over,kL.fk,kL.fi,kL.ft⟩ rfl rfl rfl rfl rfl rfl (fun e=>by show (y.l.length:Int)<=4096*((y.i+1:Nat):Int)+((0:Nat):Int);omega) (fun _ c=> Bp20) rfl;have hM5:togo X x.items.length ((w4.setCell (jA X 1) (jI ((y.i:Int)+1))).setCell (jA X 2) (jI 0))<togo X x.items.length wr:=by
      rw[HM.out,zhx kA5.core.cells kA5.core.like];have:=HNN.out;show 2*(x.items.length-(y.i+1))+cond y.wants 0 1<_;cases y.wants <;> simp only[cond_true,cond_false] <;> omega
     have hQ5:FQ w F R X _ ((w4.setCell (jA X 1) (jI ((y.i:Int)+1))).setCell (jA X 2) (jI 0)):=FQ.next kf kF ⟨F',_,kA5,Foot.set (Foot.set hf4 kA.core.fx) kA.core.fx,fun k e=> .inl e⟩;have HQ5:=jH hQ5;have HM5:=jH hM5;clear hQ5 hM5;go_roundw
     case rel=>exact ⟨n+1,_,HZ,HQ5.out⟩
     case measure=>exact HM5.out
    case false=>
     have hab:=zgq (HI2.out.2.items it (List.mem_of_getElem? hit)) ha;have ea:Ma.FZ.adv1 sortI y={y with next:=Ma.zb1 it.a y.pos,wants:=true}:=by unfold Ma.FZ.adv1;rw[hs,hit];show cond false y (cond it.isA (cond ((Ma.sizeA it.a).1==(y.pos:Int)) _ _) _)=_;rw[ha,hS1,show (m==(y.pos:Int))=false by rw[beq_eq_false_iff_ne] at te2 ⊢;exact fun e=>te2 e.symm];rfl
     rw[ea] at hzI;have HZ:=jH (show Ma.FZ.advN sortI (n+1) x={y with next:=Ma.zb1 it.a y.pos,wants:=true} from zdv hy1 ea);have fin_eq:=HF.out (n+1) _ HZ.out (by show (y.over||true)=true;simp) B1;obtain ⟨s1,hs1⟩:∃s1,it.a.t+(y.pos:Int)/(it.a.r-it.a.l+1)=s1:=⟨_,rfl⟩;obtain ⟨s2,hs2⟩:∃s2,it.a.l+(y.pos:Int)%(it.a.r-it.a.l+1)=s2:=⟨_,rfl⟩;have hww:0<it.a.r-it.a.l+1:=B1;have hd1:0<=(y.pos:Int)/(it.a.r-it.a.l+1):=Int.ediv_nonneg B1 B1;have hd2:(y.pos:Int)/(it.a.r-it.a.l+1)<=y.pos:=Int.ediv_le_self _ B1;have hd3:=Int.emod_nonneg (y.pos:Int) (show it.a.r-it.a.l+1≠0 by omega);have hd4:=Int.emod_lt_of_pos (y.pos:Int) hww;have HSp:=jH fun (u:World)=>ztu it.a.t it.a.l it.a.b it.a.r (y.pos:Int) (it.a.r-it.a.l) (it.a.r-it.a.l+1) ((y.pos:Int)/(it.a.r-it.a.l+1)) s1 s2 u (zae B1 B1) (zae B1 B1) B1 (by rw[Int.tdiv_eq_ediv_of_nonneg B1];exact zae B1 B1) (by rw[hs1];exact zae B1 B1) (by rw[Int.tmod_eq_emod_of_nonneg B1,hs2];exact zae B1 B1);have HS12:=jH (And.intro hs1 hs2);have HZ2:=jH (And.intro fin_eq (And.intro hy2 (And.intro hy3 hzI)));clear hd1 hd2 hd3 hd4 hs1 hs2 ea hzI hy1 hy2 hy3 fin_eq hww;have SX:∀w':World,(w'.cell? (jA g (of+y.i*8+1))=some (jI it.a.t)/\w'.cell? (jA g (of+y.i*8+2))=some (jI it.a.l)/\w'.cell? (jA g (of+y.i*8+3))=some (jI it.a.b)/\w'.cell? (jA g (of+y.i*8+4))=some (jI it.a.r)/\w'.cell? (jA X 2)=some (jI (y.pos:Int))/\g<w'.heap.size/\X<w'.heap.size)->∀i v,i≠2->((w'.setCell (jA X i) v).cell? (jA g (of+y.i*8+1))=some (jI it.a.t)/\(w'.setCell (jA X i) v).cell? (jA g (of+y.i*8+2))=some (jI it.a.l)/\(w'.setCell (jA X i) v).cell? (jA g (of+y.i*8+3))=some (jI it.a.b)/\(w'.setCell (jA X i) v).cell? (jA g (of+y.i*8+4))=some (jI it.a.r)/\(w'.setCell (jA X i) v).cell? (jA X 2)=some (jI (y.pos:Int))/\g<(w'.setCell (jA X i) v).heap.size/\X<(w'.setCell (jA X i) v).heap.size):=fun w' ⟨a1,a2,a3,a4,a5,a6,a7⟩ i v hi=>by
      have hb:=heap_setCell_other w' (jA X i) g v hgX;exact ⟨(zag hb).trans a1,(zag hb).trans a2,(zag hb).trans a3,(zag hb).trans a4,(World.cell?_setCell_other w' (jA X i) (jA X 2) v (by intro e;cases e;exact hi rfl)).trans a5,by simpa using a6,by simpa using a7⟩
     have S0:w4.drew.cell? (jA g (of+y.i*8+1))=some (jI it.a.t)/\w4.drew.cell? (jA g (of+y.i*8+2))=some (jI it.a.l)/\w4.drew.cell? (jA g (of+y.i*8+3))=some (jI it.a.b)/\w4.drew.cell? (jA g (of+y.i*8+4))=some (jI it.a.r)/\w4.drew.cell? (jA X 2)=some (jI (y.pos:Int))/\g<w4.drew.heap.size/\X<w4.drew.heap.size:=⟨j1,j2,j3,j4,c2,hg4,l4⟩;have SXh:=SX;go_wp2_with fail;go_region_held3 (fun w'=>w'.cell? (jA g (of+y.i*8+1))=some (jI it.a.t)/\w'.cell? (jA g (of+y.i*8+2))=some (jI it.a.l)/\w'.cell? (jA g (of+y.i*8+3))=some (jI it.a.b)/\w'.cell? (jA g (of+y.i*8+4))=some (jI it.a.r)/\w'.cell? (jA X 2)=some (jI (y.pos:Int))/\g<w'.heap.size/\X<w'.heap.size)
      (first|with_reducible exact S0|with_reducible exact S1|with_reducible exact SX _ S1 7 _ B3|with_reducible exact SX _ (SX _ S1 5 _ B3) 6 _ B3|with_reducible exact SX _ (SX _ (SX _ S1 5 _ B3) 6 _ B3) 7 _ B3|with_reducible exact SX _ (SX _ (SX _ S1 7 _ B3) 5 _ B3) 6 _ B3|fail)
      (first
       |(go_at_call 79;refine (HSp.out _).mono ?_;rintro e w5 ⟨rfl,hb5⟩;have hb45:Below w4.heap.size w4 w5:=(Below.refl w4.heap.size w4).drew.trans hb5;have kA5:=kA4.below hb45;have S1:w5.cell? (jA g (of+y.i*8+1))=some (jI it.a.t)/\w5.cell? (jA g (of+y.i*8+2))=some (jI it.a.l)/\w5.cell? (jA g (of+y.i*8+3))=some (jI it.a.b)/\w5.cell? (jA g (of+y.i*8+4))=some (jI it.a.r)/\w5.cell? (jA X 2)=some (jI (y.pos:Int))/\g<w5.heap.size/\X<w5.heap.size:=⟨jQ hb45 j1 hg4,jQ hb45 j2 hg4,jQ hb45 j3 hg4,jQ hb45 j4 hg4,jQ hb45 c2 l4,jL hg4 hb45.size,jL l4 hb45.size⟩;have d5:=kA5.core.cells.cells.c5;have d6:=kA5.core.cells.cells.c6;have d7:=kA5.core.cells.cells.c7;have df:=kA5.core.cells.cells.f;have dl:=kA5.core.cells.lt))
     obtain ⟨fin_eq,hy2,hy3,hzI⟩:=HZ2.out;have hsp:(⟨s1,s2⟩:Ma.Sp)=Ma.zb1 it.a y.pos:=by unfold Ma.zb1;rw[HS12.out.1,HS12.out.2]
     have kA6:=kA5.self (y:={y with next:=Ma.zb1 it.a y.pos,wants:=true}) (h':={h' with nr:=s1,nc:=s2,wants:=true}) (w':=((w5.setCell (jA X 5) (jI s1)).setCell (jA X 6) (jI s2)).setCell (jA X 7) (.bool true)) (zad (zad (zad kA5.core.cells 5 _) 6 _) 7 _) (Foot.set (Foot.set Bp10 rfl) rfl) ⟨kL.i,kL.pos,kL.hr,kL.hc,(by show s1=(Ma.zb1 it.a y.pos).r;rw[<-hsp]),(by show s2=(Ma.zb1 it.a y.pos).c;rw[<-hsp]),rfl,kL.over,kL.fk,kL.fi,kL.ft⟩ rfl rfl rfl rfl rfl rfl (fun e=>hlen) (fun _ c=> Bp20) rfl;have hM5:togo X x.items.length (((w5.setCell (jA X 5) (jI s1)).setCell (jA X 6) (jI s2)).setCell (jA X 7) (.bool true))<togo X x.items.length wr:=by
      rw[HM.out,zhx kA6.core.cells kA6.core.like];show 2*(x.items.length-y.i)+0<_;omega
     have hQ5:FQ w F R X _ (((w5.setCell (jA X 5) (jI s1)).setCell (jA X 6) (jI s2)).setCell (jA X 7) (.bool true)):=FQ.next kf kF ⟨F',_,kA6,Foot.set (Foot.set (Foot.set (hf4.trans (Foot.of_below hb45)) kA.core.fx) kA.core.fx) kA.core.fx,fun k e=> .inl e⟩;have hni:n<=y.i:=B1;have HQ5:=jH hQ5;have HM5:=jH hM5;have HR:=jH (show n+x.i<=y.i/\y.items=x.items from ⟨hy2,hy3⟩);have HI:=jH hzI;clear hQ5 hM5 fin_eq hy2 hy3 hzI hsp;go_roundw
     case rel=>
      have HZ9:=jH (show Ma.FZ.advN sortI (n+1) x={y with next:=Ma.zb1 it.a y.pos,wants:=true}/\((({y with next:=Ma.zb1 it.a y.pos,wants:=true}:Ma.FZ).stop=false->(n+1)+x.i<=y.i)/\n+1<=x.items.length+1)/\y.items=x.items/\Ma.FZ.Inv {y with next:=Ma.zb1 it.a y.pos,wants:=true} from ⟨HZ.out,⟨fun e=>by
       have e:(y.over||true)=false:=e;simp at e,by have:=HR.out.1;omega⟩,HR.out.2,HI.out⟩)
      first|exact ⟨n+1,_,HZ9,HQ5.out⟩|((repeat apply Exists.intro);exact ⟨⟨n+1,_,HZ9,HQ5.out⟩,rfl⟩)
     case measure=>exact HM5.out
theorem begin_76(X g c:Nat)(l:List Ma.Arg)(h:FH)(w:World)(hF:Fresh w X g c 76 l h):Calls prog 65 #[PT X,jI 76] w fun e w'=>e=jr jT/\BQ w X g (Ma.FZ.begin 76 l) w':=by
 open X23 in exact C3
theorem znd(X:Nat)(h:FH)(f:Int)(w:World)(hX:Fd.At w X h)(h63:(f==63)=false)(h64:(f==64)=false):Calls prog 104 #[PT X,jI f] w fun e w'=>e=jr jT/\∃gF gA bL bK bk,Fd.At w' X {h with tk:=Cl 144 #[PT gF,PT gA],fn:=Cl 148 #[PT bL,PT bK,PT bk]}/\
 Box w' gF (PT X)/\Box w' gA (Cl 147 #[PT bL])/\Box w' bL jZ/\Box w' bK (jI f)/\Box w' bk (jI 1)/\w.heap.size<=gF/\w.heap.size<=gA/\w.heap.size<=bL/\w.heap.size<=bK/\w.heap.size<=bk/\Foot (fun k=>k=X) w w':=by
 have HG:=jH fun (id:FuncId) (bs:Array Value) (u:World) (hX:Fd.At u X h)=>zcy X h id bs u hX;have hXl:=hX.lt;go_enter func104,ntmps104;go_upto_region 12 with fail;generalize hW:World.alloc _ _=w1;have kX:Fd.At w1 X h:=B9;have b2:Box w1 (w.heap.size) (jI f):=Bp7;have b3:Box w1 (w.heap.size+1) (jI 1):=Bp7;have b4:Box w1 (w.heap.size+1+1) jZ:=Bp7;have hb1:Below w.heap.size w w1:=Bp15;clear hW;go_wp2_with fail;refine (HG.out _ _ _ kX).mono ?_;rintro e w2 ⟨rfl,gF,gA,k1,k2,k3,k4,k5,k6⟩;have b2':=b2.foot k6 B1;have b3':=b3.foot k6 B1;have b4':=b4.foot k6 B1;have hz:=hb1.size;have d2:=k1.cells.c13;have d3:=k1.cells.f;have d8:=k1.lt;go_wp2_with fail;exact jY jT B54 ⟨rfl,gF,gA,w.heap.size+1+1,w.heap.size,w.heap.size+1,at_fn k1 _,k2.so B1,k3.so B1,b4'.so B1,b2'.so B1,b3'.so B1,by omega,by omega,by omega,by omega,by omega,Foot.set (zaf k6 hb1) rfl⟩
section
variable(X g c:Nat)(l:List Ma.Arg)(h:FH)(w:World)
include X g c l h w
theorem begin_59(hF:Fresh w X g c 59 l h):Calls prog 65 #[PT X,jI 59] w fun e w'=>e=jr jT/\BQ w X g (Ma.FZ.begin 59 l) w':=by
 have HC:=jH fun (u:World) (hX:Fd.At u X h)=>znd X h 59 u hX rfl rfl
 open X24 in exact C3
theorem begin_60(hF:Fresh w X g c 60 l h):Calls prog 65 #[PT X,jI 60] w fun e w'=>e=jr jT/\BQ w X g (Ma.FZ.begin 60 l) w':=by
 have HC:=jH fun (u:World) (hX:Fd.At u X h)=>znd X h 60 u hX rfl rfl
 open X25 in exact C3
theorem begin_62(hF:Fresh w X g c 62 l h):Calls prog 65 #[PT X,jI 62] w fun e w'=>e=jr jT/\BQ w X g (Ma.FZ.begin 62 l) w':=by
 have HC:=jH fun (u:World) (hX:Fd.At u X h)=>znd X h 62 u hX rfl rfl
 open X26 in exact C3
end
theorem BQ.end1{w w':World}{X g c:Nat}{f:Int}{l:List Ma.Arg}{h h':FH}{y:Ma.FZ}(hF:Fresh w X g c f l h)(o c2:Nat)(hX:Fd.At w' X h')(hf:Foot (fun k=>k=X) w w')(hL:Like h' y)(hI:h'.items=jP g o y.items.length c2)(hc:y.items.length<=c2)(hi:ItemsO w g o y.items)(hcl:y.over=false->Clos (fun k=>k=g\/k=g) X y.f h'.tk h'.fn (New w w' X g) w' y h'.th)(e1:y.f=f)(e2:y.a=l)(e3:y.l=[]):BQ w X g y w':=
 BQ.mk hF g o c2 hX hL hI hc (hi.foot hF.lt hf hF.ne) (.inl rfl) (jL hF.lt hf.size) hcl hf e1 e2 e3
theorem zwm{F:Nat->Prop}{w v:World}{b i:Nat}{x:Value}(h:Foot F w v)(hb:w.heap.size<=b):Foot F w (v.setCell (jA b i) x):=
 ⟨h.os,h.tape,h.output,by simpa using h.size,fun k hk hn=>(heap_setCell_other v _ k _ (by show k≠b;omega)).trans (h.block k hk hn)⟩
abbrev AO(x:Ma.Arg):Obj:= .cells #[.bool x.isA,jI x.a.t,jI x.a.l,jI x.a.b,jI x.a.r,jI x.v.k,jI x.v.n,jS x.v.t] TA
def B11(h:jp:=by repeat (first|with_reducible exact hX|with_reducible refine at_al ?_ _)):=h
def B58(h:jp:=by show cond x1.isA _ (cond ((Val.number x1.v).2==0) _ _)=_;rw[tA,tn];rfl):=h
def B64(h:jp:=by rw[<-HY.out,EY.out];exact BQ.end1 hF 0 c q1 (hf2.trans (zaf q2 hb3)) (hL2.fails code) (ends_same _ _).2.2.2 (by show 1<=c;omega) row nofun rfl rfl rfl):=h
def B67(h:jp:=by show 1<=c;omega):=h
def B101(h:jp:=by unfold bne;rw[tn];rfl):=h
def B156(h:jp:=by rw[<-hW2];exact Foot.alloc Bp78):=h
def B164(h:jp:=by rw[<-hW2];exact Foot.alloc Bp10):=h
def Bp42(h:jp:=by rw[<-HY.out,ey];exact BQ.end1 hF 0 c q1 (hf2.trans q2) (hL2.fails 4) (ends_same _ _).2.2.2 B67 row nofun rfl rfl rfl):=h
def Bp85(h:jp:=by exact Foot.of_below hb3):=h
def Bp91(h:jp:=by rw[<-hW1];exact B2):=h
def Bp107(h:jp:=by rw[<-hW4];exact Foot.alloc (zwm hf3 B1)):=h
def M84(h:jp:=by
 have tn2:((Val.number x1.v).2 !=0)=true:=B101;have EY:=jH ey;clear ey;generalize Val.number x1.v=nc at *;obtain ⟨m,code⟩:=nc;simp only at tn tn2 ⊢;go_wp2_with fail;refine jM (HN.out _ hf2) ?_;intro w3 hb3;have kX3:=kX2.below2 hb3;go_wp2_with fail;refine (HF.out _ _ _ kX3).mono ?_;rintro e w4 ⟨rfl,q1,q2⟩;go_wp2_with fail;exact jX jT B54 ⟨rfl,B64⟩):=h
def M168(h:jp:=by
 go_wp2_with fail;refine (HF.out _ 4 _ kX2).mono ?_;rintro e w3 ⟨rfl,q1,q2⟩;go_wp2_with fail;exact jX jT B54 ⟨rfl,Bp42⟩):=h
def C27(h:jp:=by
 have tn2:((Val.number x1.v).2 !=0)=false:=B101;have EY:=jH ey;clear ey;generalize Val.number x1.v=nc at *;obtain ⟨m,code⟩:=nc;simp only at tn tn2 ⊢;have HG:=jH fun (id:FuncId) (bs:Array Value) (u:World) (hX:Fd.At u X {h with items:=(jP g 0 1 c)})=>zcy X _ id bs u hX;go_wp2_with fail;refine jM (HN.out _ hf2) ?_;intro w3 hb3;have kX3:=kX2.below2 hb3;have b32:=b22.below hb3;have b33:=b23.below hb3;have e0:=b33.cell;have e1:=b33.lt;have e2:=b33.frozen;go_upto_region 12 with fail;generalize hW4:World.alloc _ _=w4;have kX4:Fd.At w4 X {h with items:=(jP g 0 1 c)}:=by rw[<-hW4];exact at_al (at_so kX3 B1) _
 exact K27):=h
def D15(h:jp:=by
 have b43:Box w4 (w.heap.size+1) (jI m):=by rw[<-hW4];exact Box.al (b33.set _) _
 have b44:Box w4 w3.heap.size jZ:=by rw[<-hW4];exact box_at B7
 have hf3:=hf2.trans Bp85;have hf4:Foot (fun k=>k=X) w w4:=Bp107;have hz3:=hf3.size;have hz4:=hf4.size;clear hW4 e0 e1 e2;go_wp2_with fail;refine (HG.out _ _ _ kX4).mono ?_;rintro e w5 ⟨rfl,gF,gA,k1,k2,k3,k4,k5,k6⟩;have b52:=b42.foot k6 B1;have b53:=b43.foot k6 B1;have b54:=b44.foot k6 B1;have d2:=k1.cells.c13;have d3:=k1.cells.f;have d8:=k1.lt;exact J15):=h
def V47.J15(h:jp:=by
 go_wp2_with fail;exact jY jT B54 ⟨rfl,by
  rw[<-HY.out,EY.out];exact BQ.end1 hF 0 c (at_fn k1 _) (Foot.set (hf4.trans k6) rfl) Bp2 rfl B67 row (fun _=>Clos.of_size (.inr (.inr (.inr (.inl rfl)))) ⟨⟨gF,gA,w3.heap.size,w.heap.size,w.heap.size+1,jZ,rfl,rfl,FBox.new (k2.so B1) B1 B1,FBox.new (k3.so B1) B1 B1,FBox.new (b54.so B1) B1 B1,FBox.new (b52.so B1) B1 B1,FBox.new (b53.so B1) B1 B1,⟨rfl,.inl ⟨rfl,rfl⟩⟩,(fun e=>by
   have e:((63:Int)=59\/(63:Int)=60\/(63:Int)=62):=e;omega),fun k e=>(nomatch e),nofun,nofun,nofun,nofun,nofun,nofun⟩,hF.th⟩) rfl rfl rfl⟩):=h
def X130.K27(h:jp:=by
 have b42:Box w4 (w.heap.size) (jI 63):=by rw[<-hW4];exact Box.al (b32.so B1) _
 open V47 in exact D15):=h
def D14(h:jp:=by
 have b3:Box w1 (w.heap.size+1) (jI 1):=Bp91;have hb1:Below w.heap.size w w1:=by rw[<-hW1];exact B5
 have hz1:=jH (show w1.heap.size=w.heap.size+1+1 by rw[<-hW1];simp);clear hW1;have c0:=kX.cells.c0;have f0:=kX.cells.f;rw[hit] at c0;obtain ⟨i0,i1,i2,i3,i4,i5,i6,i7⟩:=hF.row.below hgl hb1 1 x1 rfl;simp only[Nat.one_mul,Nat.zero_add] at i0 i1 i2 i3 i4 i5 i6 i7;have l0:=kX.lt;have l1:=jL hgl hb1.size;go_upto_region 5 with fail;generalize hW2:World.alloc _ _=w2;have kX2:Fd.At w2 X {h with items:=(jP g 0 1 c)}:=by rw[<-hW2];exact at_al (zfn kX _) _
 exact J14):=h
def Da10(h:jp:=by
 have b23:Box w2 (w.heap.size+1) (jI 1):=by rw[<-hW2];exact Box.al (b3.so B1) _
 have kl:w2.heap[w1.heap.size]?=some (.cells #[.bool x1.isA,jI x1.a.t,jI x1.a.l,jI x1.a.b,jI x1.a.r,jI x1.v.k,jI x1.v.n,jS x1.v.t] TA (0,0)):=by rw[<-hW2];exact zjx B7
 have hf2:Foot (fun k=>k=X) w w2:=B156;have hf12:Foot (fun k=>k=X) w1 w2:=B164;exact Ja10):=h
def Db5(h:jp:=by
 clear hW2 i0 i1 i2 i3 i4 i5 i6 i7 c0 f0;have g0:=ch kl 0;have g5:=ch kl 5;have g6:=ch kl 6;have g7:=ch kl 7;simp at g0 g5 g6 g7;have l2:=(jg kl);have row:ItemsO w g 0 [x0]:=hF.row.take 1;exact Jb5):=h
def Vb14.Jb5(h:jp:=by
 cases tA:x1.isA
 case true=>
  rw[tA] at g0;have ey:Ma.FZ.begin 63 (x0::x1::r)=Ma.FZ.fails {Ma.FZ.blank 63 (x0::x1::r) with items:=[x0]} 4:=by show cond x1.isA _ _=_;rw[tA];rfl
  exact M168
 rw[tA] at g0;cases tn:((Val.number x1.v).2==0)
 case false=>
  have ey:Ma.FZ.begin 63 (x0::x1::r)=Ma.FZ.fails {Ma.FZ.blank 63 (x0::x1::r) with items:=[x0]} (Val.number x1.v).2:=B58;exact M84
 case true=>
  have ey:Ma.FZ.begin 63 (x0::x1::r)={Ma.FZ.blank 63 (x0::x1::r) with items:=[x0],k:=(Val.number x1.v).1}:=B58
  open X130 in exact C27):=h
def Va25.Ja10(h:jp:=by
 have hL2:Like {h with items:=(jP g 0 1 c)} {Ma.FZ.blank 63 (x0::x1::r) with items:=[x0]}:=Bp2
 open Vb14 in exact Db5):=h
def V45.J14(h:jp:=by
 have b22:Box w2 (w.heap.size) (jI 63):=by rw[<-hW2];exact Box.al (b2.so B1) _
 open Va25 in exact Da10):=h
def Da5(h:jp:=by
 have hX:=hF.at';have hXl:=hX.lt;have hgl:=hF.lt;have hgX:=hF.ne;have hL:=hF.like;have hcap:=hF.cap;have hit:=hF.items;obtain ⟨n,hn⟩:∃n,(x0::x1::r).length=n:=⟨_,rfl⟩;rw[hn] at hit hcap;have hn1:1<n:=by rw[<-hn];simp
 have hvb:=(hF.ok x1 B7).val.vb;have HF:=jH fun (h':FH) (e:Int) (u:World) (hX:Fd.At u X h')=>za6 X h' e u hX;have HN:=jH fun (u:World) (hu:Foot (fun k=>k=X) w u)=>za8 x1.v u hvb (FEnv.numW (F:=fun _=>False) ⟨hE.num,zao hE.below hu hE.f,fun _ e=>e.elim⟩);clear hn;exact Ja5):=h
def Va11.Ja5(h:jp:=by
 obtain ⟨y,hy⟩:∃y,Ma.FZ.begin 63 (x0::x1::r)=y:=⟨_,rfl⟩;rw[hy];have HY:=jH hy;clear hy;go_enter func104,ntmps104;go_upto_region 3 with fail;generalize hW1:World.alloc _ _=w1;have kX:Fd.At w1 X h:=by rw[<-hW1];exact B11
 have b2:Box w1 (w.heap.size) (jI 63):=Bp91
 open V45 in exact D14):=h
def V48.J15(h:jp:=by
 go_wp2_with fail;exact jY jT B54 ⟨rfl,by
  rw[<-HY.out,EY.out];exact BQ.end1 hF 0 c (at_fn k1 _) (Foot.set (hf4.trans k6) rfl) Bp2 rfl B67 row (fun _=>Clos.of_size (.inr (.inr (.inr (.inr rfl)))) ⟨⟨gF,gA,w3.heap.size,w.heap.size,w.heap.size+1,jZ,rfl,rfl,FBox.new (k2.so B1) B1 B1,FBox.new (k3.so B1) B1 B1,FBox.new (b54.so B1) B1 B1,FBox.new (b52.so B1) B1 B1,FBox.new (b53.so B1) B1 B1,⟨rfl,.inl ⟨rfl,rfl⟩⟩,(fun e=>by
   have e:((64:Int)=59\/(64:Int)=60\/(64:Int)=62):=e;omega),fun k e=>(nomatch e),nofun,nofun,nofun,nofun,nofun,nofun⟩,hF.th⟩) rfl rfl rfl⟩):=h
def X131.K27(h:jp:=by
 have b42:Box w4 (w.heap.size) (jI 64):=by rw[<-hW4];exact Box.al (b32.so B1) _
 open V48 in exact D15):=h
def Vb15.Jb5(h:jp:=by
 cases tA:x1.isA
 case true=>
  rw[tA] at g0;have ey:Ma.FZ.begin 64 (x0::x1::r)=Ma.FZ.fails {Ma.FZ.blank 64 (x0::x1::r) with items:=[x0]} 4:=by show cond x1.isA _ _=_;rw[tA];rfl
  exact M168
 rw[tA] at g0;cases tn:((Val.number x1.v).2==0)
 case false=>
  have ey:Ma.FZ.begin 64 (x0::x1::r)=Ma.FZ.fails {Ma.FZ.blank 64 (x0::x1::r) with items:=[x0]} (Val.number x1.v).2:=B58;exact M84
 case true=>
  have ey:Ma.FZ.begin 64 (x0::x1::r)={Ma.FZ.blank 64 (x0::x1::r) with items:=[x0],k:=(Val.number x1.v).1}:=B58
  open X131 in exact C27):=h
def Va26.Ja10(h:jp:=by
 have hL2:Like {h with items:=(jP g 0 1 c)} {Ma.FZ.blank 64 (x0::x1::r) with items:=[x0]}:=Bp2
 open Vb15 in exact Db5):=h
def V46.J14(h:jp:=by
 have b22:Box w2 (w.heap.size) (jI 64):=by rw[<-hW2];exact Box.al (b2.so B1) _
 open Va26 in exact Da10):=h
def Va12.Ja5(h:jp:=by
 obtain ⟨y,hy⟩:∃y,Ma.FZ.begin 64 (x0::x1::r)=y:=⟨_,rfl⟩;rw[hy];have HY:=jH hy;clear hy;go_enter func104,ntmps104;go_upto_region 3 with fail;generalize hW1:World.alloc _ _=w1;have kX:Fd.At w1 X h:=by rw[<-hW1];exact B11
 have b2:Box w1 (w.heap.size) (jI 64):=Bp91
 open V46 in exact D14):=h
def M58(h:jp:=by
 go_wp2_with fail;refine jM (HC.out _ hb1) ?_;intro w2 hq;go_wp2_with fail;exact jY jT B17 ⟨rfl,hq.pre hb1⟩):=h
def N11(h:jp:=by
 have b4:Box w1 (w.heap.size+1+1) (jP g 0 l.length c):=Bp7;have hb1:Below w.heap.size w w1:=Bp15;have hz1:w1.heap.size=w.heap.size+1+1+1:=B60;clear hW c0 f0;have d0:=b2.cell;have d1:=b2.lt;have d6:w.heap.size≠X:=B1;have d7:X≠w.heap.size:=B1;have d8:=kX.lt;have e3:=b3.cell;have e4:=b3.lt;exact M58):=h
def X21.K3(h:jp:=by
 have b3:Box w1 (w.heap.size+1) (jI 63):=Bp7;exact N11):=h
def X22.K3(h:jp:=by
 have b3:Box w1 (w.heap.size+1) (jI 64):=Bp7;exact N11):=h
def B110(h:jp:=by rw[<-HY.out,<-HLL.out];show cond x0.isA _ (cond ((Val.asText x0.v).2==0) _ _)=_;rw[tA,tn];rfl):=h
def Bp57(h:jp:=by exact hf2.block g hgl hgX):=h
def V6.J1(h:jp:=by
 rw[HN1.out] at b4 hcap;have e5:=b4.cell;have e6:=b4.lt;have d5:=kX.cells.c0;have d9:=kX.cells.f;have hz1':=jH hz1;clear hz1;have hc1:¬c=1:=B1;go_upto_region 29 with fail;go_region
 try simp only[hc1,if_false]
 generalize hW2:World.drew _=w2;have kX2:Fd.At w2 X {h with items:=jP g 8 n (c-1)}:=by rw[<-hW2];exact zfn kX _
 have b22:Box w2 (w.heap.size) (PT X):=by rw[<-hW2];exact b2.so B1
 have b24:Box w2 (w.heap.size+1+1) (jP g 0 (n+1) c):=by rw[<-hW2];exact b4.so B1
 have hf2:Foot (fun k=>k=X) w w2:=by rw[<-hW2];exact zck Bp78
 have j0:=i0.same Bp57;have hLA:∀t:List UInt8,Like {h with items:=jP g 8 n (c-1)} {Ma.FZ.blank 69 l with items:=l.drop 1,sep:=t}:=fun t=> Bp2;clear hW2 d0 d1 e3 e4 e5 e6 d5 d9 i0;obtain ⟨j0,-,-,-,-,j5,j6,j7⟩:=j0;simp only[Nat.zero_mul,Nat.zero_add] at j0 j5 j6 j7;have e0:=b22.cell;have e1:=b22.lt;have e2:=b24.cell;have e3:=b24.lt;have e4:=jL hgl hf2.size;have EE:∀v:Val.V,y=Ma.FZ.ends {Ma.FZ.blank 69 l with items:=l.drop 1} v->∀w',Fd.At w' X (FH.ends {h with items:=jP g 8 n (c-1)} v)->Foot (fun k=>k=X) w w'->BQ w X g y w':=fun v hy w' q1 q2=>by
  have hl1:(l.drop 1).length=n:=by rw[List.length_drop,HN1.out];rfl
  rw[hy];exact BQ.end1 hF 8 (c-1) q1 q2 ((hLA []).ends v) (by show _=Value.slice _ (l.drop 1).length _;rw[hl1];exact (ends_same _ _).2.2.2) (by show (l.drop 1).length<=_;rw[hl1];omega) (by show ItemsO w g 8 (l.drop 1);exact hrow) nofun rfl rfl rfl
 have EG:∀(h':FH) (w':World) (s:ByteArray),y={Ma.FZ.blank 69 l with items:=l.drop 1,sep:=s.data.toList}->Fd.At w' X h'->Like h' y->h'.items=jP g 8 n (c-1)->Foot (fun k=>k=X) w w'->Clos (fun k=>k=g\/k=g) X 69 h'.tk h'.fn (New w w' X g) w' y h'.th->BQ w X g y w':=fun h' w' s hy q1 q2 q3 q4 q5=>by
  have hl1:(l.drop 1).length=n:=by rw[List.length_drop,HN1.out];rfl
  subst hy;exact BQ.end1 hF 8 (c-1) q1 q4 q2 (by show _=Value.slice _ (l.drop 1).length _;rw[hl1];exact q3) (by show (l.drop 1).length<=_;rw[hl1];omega) (by show ItemsO w g 8 (l.drop 1);exact hrow) (fun _=>q5) rfl rfl rfl
 have EE:=jH EE;have EG:=jH EG;have hth:=hF.th;cases tA:x0.isA
 case true=>
  rw[tA] at j0;have ey:y=Ma.FZ.ends {Ma.FZ.blank 69 l with items:=l.drop 1} ⟨4,4,⟨#[]⟩⟩:=by rw[<-HY.out,<-HLL.out];show cond x0.isA _ _=_;rw[tA];rfl
  have EY:=jH ey;clear ey;go_wp2_with fail;refine (HF.out _ 4 _ kX2).mono ?_;rintro e w3 ⟨rfl,q1,q2⟩;go_wp2_with fail;exact jX jT B17 ⟨rfl,EE.out _ EY.out _ q1 (hf2.trans q2)⟩
 rw[tA] at j0;cases tn:((Val.asText x0.v).2==0)
 case false=>
  have ey:y=Ma.FZ.ends {Ma.FZ.blank 69 l with items:=l.drop 1} ⟨4,(Val.asText x0.v).2,⟨#[]⟩⟩:=B110;have tn2:((Val.asText x0.v).2 !=0)=true:=B101;have EY:=jH ey;clear ey;generalize Val.asText x0.v=nc at *;obtain ⟨m,code⟩:=nc;simp only at tn tn2 EY;go_wp2_with fail;refine jM (HN.out _ hf2) ?_;intro w3 hb3;have kX3:=kX2.below2 hb3;have b32:=b22.below hb3;have e5:=b32.cell;have e6:=b32.lt;go_wp2_with fail;refine (HF.out _ _ _ kX3).mono ?_;rintro e w4 ⟨rfl,q1,q2⟩;go_wp2_with fail;exact jX jT B17 ⟨rfl,EE.out _ EY.out _ q1 (hf2.trans (zaf q2 hb3))⟩
 case true=>
  have ey:y={Ma.FZ.blank 69 l with items:=l.drop 1,sep:=(Val.asText x0.v).1.data.toList}:=B110;have tn2:((Val.asText x0.v).2 !=0)=false:=B101;have EY:=jH ey;clear ey;generalize Val.asText x0.v=nc at *;obtain ⟨m,code⟩:=nc;simp only at tn tn2 EY;go_wp2_with fail;refine jM (HN.out _ hf2) ?_;intro w3 hb3;have kX3:=kX2.below2 hb3;have b32:=b22.below hb3;have e5:=b32.cell;have e6:=b32.lt;go_wp2_with fail;refine (HTx.out _ _ _ _ kX3).mono ?_;rintro e w4 ⟨rfl,bK,bF,bO,bB,bS,k1,k2,k3,k4,k5,k6,l1,l2,l3,l4,l5,ne,k7⟩;have hz3:=hf2.size;have hz4:=hb3.size;go_wp2_with fail;refine jY jT B17 ⟨rfl,EG.out _ _ m EY.out k1 (by rw[EY.out];exact ⟨(hLA _).i,(hLA _).pos,(hLA _).hr,(hLA _).hc,(hLA _).nr,(hLA _).nc,(hLA _).wants,(hLA _).over,(hLA _).fk,(hLA _).fi,(hLA _).ft⟩) rfl (hf2.trans (zaf k7 hb3)) ?_⟩;rw[EY.out];refine Clos.of_text (.inr rfl) ⟨⟨bK,bF,bO,bB,bS,jZ,rfl,rfl,FBox.new k2 B1 B1,FBox.new k3 B1 B1,FBox.new k4 B1 B1,FBox.new k5 B1 B1,?_,⟨rfl,.inl ⟨rfl,rfl⟩⟩,ne,fun k e=>(nomatch e),nofun,nofun,nofun,nofun,nofun,nofun⟩,hth⟩;exact FBox.new k6 B1 B1):=h
def X20.K3(h:jp:=by
 have b3:Box w1 (w.heap.size+1) (jI 69):=Bp7
 open V6 in exact D1):=h
theorem zjx{w:World}{k:Nat}{x:Ma.Arg}(h:k=w.heap.size):(w.alloc (AO x)).heap[k]?=some (.cells #[.bool x.isA,jI x.a.t,jI x.a.l,jI x.a.b,jI x.a.r,jI x.v.k,jI x.v.n,jS x.v.t] TA (0,0)):=h▸heap_alloc_new w _
section
variable(X g c:Nat)(x0 x1:Ma.Arg)(r:List Ma.Arg)(h:FH)(w0 w:World)(hE:FEnv w0 w fun k=>k=X)
include X g c x0 x1 r h w0 w hE
theorem sizes_63(hF:Fresh w X g c 63 (x0::x1::r) h):Calls prog 104 #[PT X,jI 63] w fun e w'=>e=jr jT/\BQ w X g (Ma.FZ.begin 63 (x0::x1::r)) w':=by
 open Va11 in exact Da5
theorem sizes_64(hF:Fresh w X g c 64 (x0::x1::r) h):Calls prog 104 #[PT X,jI 64] w fun e w'=>e=jr jT/\BQ w X g (Ma.FZ.begin 64 (x0::x1::r)) w':=by
 open Va12 in exact Da5
theorem begin_63(hF:Fresh w X g c 63 (x0::x1::r) h):Calls prog 65 #[PT X,jI 63] w fun e w'=>e=jr jT/\BQ w X g (Ma.FZ.begin 63 (x0::x1::r)) w':=by
 have HC:=jH fun (u:World) (hb:Below w.heap.size w u)=>sizes_63 X g c x0 x1 r h w0 u (hE.next Bp38 fun _ e=> .inl e) (hF.below hb);obtain ⟨l,hl⟩:∃l,x0::x1::r=l:=⟨_,rfl⟩;rw[hl] at HC hF ⊢;clear hl
 open X21 in exact C3
theorem begin_64(hF:Fresh w X g c 64 (x0::x1::r) h):Calls prog 65 #[PT X,jI 64] w fun e w'=>e=jr jT/\BQ w X g (Ma.FZ.begin 64 (x0::x1::r)) w':=by
 have HC:=jH fun (u:World) (hb:Below w.heap.size w u)=>sizes_64 X g c x0 x1 r h w0 u (hE.next Bp38 fun _ e=> .inl e) (hF.below hb);obtain ⟨l,hl⟩:∃l,x0::x1::r=l:=⟨_,rfl⟩;rw[hl] at HC hF ⊢;clear hl
 open X22 in exact C3
end
theorem zgb{w:World}{k:Nat}{cs:Array Value}{T:TypeId}(h:k=w.heap.size):(w.alloc (.cells cs T)).heap[k]?=some (.cells cs T (0,0)):=h▸heap_alloc_new w _
theorem begin_69(X g c:Nat)(x0 x1:Ma.Arg)(r:List Ma.Arg)(h:FH)(w0 w:World)(hE:FEnv w0 w fun k=>k=X)(hF:Fresh w X g c 69 (x0::x1::r) h):Calls prog 65 #[PT X,jI 69] w fun e w'=>e=jr jT/\BQ w X g (Ma.FZ.begin 69 (x0::x1::r)) w':=by
 have hcap:=hF.cap;have hvb:=(hF.ok x0 B7).val.vb;have HF:=jH fun (h':FH) (e:Int) (u:World) (hX:Fd.At u X h')=>za6 X h' e u hX;have HN:=jH fun (u:World) (hu:Foot (fun k=>k=X) w u)=>zbu x0.v u hvb (FEnv.numW (F:=fun _=>False) ⟨hE.num,zao hE.below hu hE.f,fun _ e=>e.elim⟩);have HTx:=jH fun (h':FH) (s:ByteArray) (sk:Bool) (u:World) (hX:Fd.At u X h')=>zta X h' s sk u hX;obtain ⟨n,hn⟩:∃n,(x1::r).length=n:=⟨_,rfl⟩;obtain ⟨l,hl⟩:∃l,x0::x1::r=l:=⟨_,rfl⟩;have HLL:=jH hl;have HN1:=jH (show l.length=n+1 by rw[<-hl,<-hn];rfl);rw[hl] at hF hcap ⊢;have i0:=hF.row 0 x0 (by rw[<-hl];rfl);have hrow:=hF.row.drop1;have hn1:1<=n:=by rw[<-hn];simp
 clear hl hn;obtain ⟨y,hy⟩:∃y,Ma.FZ.begin 69 l=y:=⟨_,rfl⟩;rw[hy];have HY:=jH hy;clear hy
 open X20 in exact C3
def looked(h:FH)(x y:Ma.Arg):FH:=cond x.isA (h.fails 4)<|cond (x.v.k==4) (h.ends x.v)<|cond y.isA h (h.fails 4)
def B102(h:jp:=by simp[results,results108,go_sem]):=h
def Bp47(h:jp:=by exact Foot.set (Foot.set hf2 rfl) rfl):=h
def Bp64(h:jp:=by exact at_fn (zfn kX2 _) _):=h
def M68(h:jp:=by
 rintro e w2 ⟨rfl,kX2,q2⟩;have hf2:Foot (fun k=>k=X) w w2:=zaf q2 hb1;have ky2:=(q2.block _ (jg ky) B1).trans ky;have s0:=ch ky2 0;have s1:=ch ky2 1;have s2:=ch ky2 2;have s3:=ch ky2 3;have s4:=ch ky2 4;have s5:=ch ky2 5;have s6:=ch ky2 6;have s7:=ch ky2 7;simp at s0 s1 s2 s3 s4 s5 s6 s7;have d0:=kX2.cells.c0;have d1:=kX2.cells.c13;have d2:=kX2.cells.f;have d3:=kX2.lt;have d4:=(jg ky2);have hz:=hf2.size;go_wp2_with fail;exact jY jT B102 ⟨rfl,w2.heap.size,at_al Bp64 _,ItemsO.one (zjx B7),hz,by simp,Foot.alloc Bp47⟩):=h
theorem zl0(X:Nat)(h:FH)(x y:Ma.Arg)(w:World)(hX:Fd.At w X h):Calls prog 108 #[PT X,argV x,argV y] w fun e w'=>e=jr jT/\∃g,Fd.At w' X {looked h x y with items:=jP g 0 1 1,fn:=Cl 157 #[]}/\ItemsO w' g 0 [y]/\w.heap.size<=g/\g<w'.heap.size/\Foot (fun k=>k=X) w w':=by
 have HF:=jH fun (u:World) (e:Int) (hX:Fd.At u X h)=>za6 X h e u hX;have HE:=jH fun (u:World) (v:Val.V) (hX:Fd.At u X h)=>ends_any X h v u hX;have hXl:=hX.lt;obtain ⟨k,hk⟩:∃k,looked h x y=k:=⟨_,rfl⟩;rw[hk];unfold looked at hk;have HK:=jH hk;clear hk;go_enter func108,ntmps108;go_upto_region 1 with fail;generalize hW:World.alloc _ _=w1;have kX1:Fd.At w1 X h:=by rw[<-hW];exact at_al (at_al hX _) _
 have kx:w1.heap[w.heap.size]?=some (.cells #[.bool x.isA,jI x.a.t,jI x.a.l,jI x.a.b,jI x.a.r,jI x.v.k,jI x.v.n,jS x.v.t] TA (0,0)):=by rw[<-hW];exact zai (zjx rfl)
 have ky:w1.heap[w.heap.size+1]?=some (.cells #[.bool y.isA,jI y.a.t,jI y.a.l,jI y.a.b,jI y.a.r,jI y.v.k,jI y.v.n,jS y.v.t] TA (0,0)):=by rw[<-hW];exact zjx B7
 have hb1:Below w.heap.size w w1:=Bp15;clear hW;have x0:=ch kx 0;have x5:=ch kx 5;have x6:=ch kx 6;have x7:=ch kx 7;have y0:=ch ky 0;simp at x0 x5 x6 x7 y0;have l0:=(jg kx);have l1:=(jg ky);cases t1:x.isA
 case true=>
  rw[t1] at x0;have ek:k=h.fails 4:=by rw[<-HK.out,t1];rfl
  subst ek;go_wp2_with fail;refine (HF.out _ 4 kX1).mono ?_;exact M68
 rw[t1] at x0;cases t2:(x.v.k==4)
 case true=>
  have ek:k=h.ends x.v:=by rw[<-HK.out,t1,t2];rfl
  subst ek;go_wp2_with fail;refine (HE.out _ x.v kX1).mono ?_;exact M68
 cases t3:y.isA
 case false=>
  rw[t3] at y0;have ek:k=h.fails 4:=by rw[<-HK.out,t1,t2,t3];rfl
  subst ek;go_wp2_with fail;refine (HF.out _ 4 kX1).mono ?_;rintro e w2 ⟨rfl,kX2,q2⟩;have hf2:Foot (fun k=>k=X) w w2:=zaf q2 hb1;have ky2:=(q2.block _ (jg ky) B1).trans ky;rw[t3] at ky2;have s0:=ch ky2 0;have s1:=ch ky2 1;have s2:=ch ky2 2;have s3:=ch ky2 3;have s4:=ch ky2 4;have s5:=ch ky2 5;have s6:=ch ky2 6;have s7:=ch ky2 7;simp at s0 s1 s2 s3 s4 s5 s6 s7;have d0:=kX2.cells.c0;have d1:=kX2.cells.c13;have d2:=kX2.cells.f;have d3:=kX2.lt;have d4:=(jg ky2);have hz:=hf2.size;go_wp2_with fail;exact jY jT B102 ⟨rfl,w2.heap.size,at_al Bp64 _,ItemsO.one (x:=y) (by rw[t3];exact zgb B7),hz,by simp,Foot.alloc Bp47⟩
 case true=>
  rw[t3] at y0;have ek:k=h:=by rw[<-HK.out,t1,t2,t3];rfl
  subst ek;have kX2:=kX1;have ky2:=ky;have hf2:Foot (fun k=>k=X) w w1:=Foot.of_below hb1;rw[t3] at ky2;have s0:=ch ky2 0;have s1:=ch ky2 1;have s2:=ch ky2 2;have s3:=ch ky2 3;have s4:=ch ky2 4;have s5:=ch ky2 5;have s6:=ch ky2 6;have s7:=ch ky2 7;simp at s0 s1 s2 s3 s4 s5 s6 s7;have d0:=kX2.cells.c0;have d1:=kX2.cells.c13;have d2:=kX2.cells.f;have d3:=kX2.lt;have d4:=(jg ky2);have hz:=hf2.size;go_wp2_with fail;exact jY jT B102 ⟨rfl,w1.heap.size,at_al Bp64 _,ItemsO.one (x:=y) (by rw[t3];exact zgb B7),hz,by simp,Foot.alloc Bp47⟩
theorem zif{h:FH}{x:Ma.FZ}(k:Like h x)(p q:Ma.Arg):Like (looked h p q) (x.looks p q):=by
 have h4:=k.fails 4;have hv:=k.ends p.v;unfold looked Ma.FZ.looks;cases p.isA <;> cases (p.v.k==4) <;> cases q.isA
 all_goals first|exact ⟨h4.i,h4.pos,h4.hr,h4.hc,h4.nr,h4.nc,h4.wants,h4.over,h4.fk,h4.fi,h4.ft⟩|exact ⟨hv.i,hv.pos,hv.hr,hv.hc,hv.nr,hv.nc,hv.wants,hv.over,hv.fk,hv.fi,hv.ft⟩|exact ⟨k.i,k.pos,k.hr,k.hc,k.nr,k.nc,k.wants,k.over,k.fk,k.fi,k.ft⟩
theorem zl1(h:FH)(p q:Ma.Arg):(looked h p q).th=h.th/\(looked h p q).tk=h.tk:=by
 unfold looked;cases p.isA <;> cases (p.v.k==4) <;> cases q.isA <;> first|exact ⟨rfl,rfl⟩|exact ⟨(ends_same h _).2.2.1,(ends_same h _).1⟩
structure LookSame(x y:Ma.FZ)(q:Ma.Arg):Prop where
 f:y.f=x.f
 a:y.a=x.a
 n:y.n=x.n
 l:y.l=x.l
 k:y.k=x.k
 pend:y.pend=x.pend
 items:y.items=[q]
def Bp19(h:jp:=by exact ⟨hLk.i,hLk.pos,hLk.hr,hLk.hc,hLk.nr,hLk.nc,hLk.wants,hLk.over,hLk.fk,hLk.fi,hLk.ft⟩):=h
def Bp22(h:jp:=by exact hb1.block g hgl):=h
def Bp49(h:jp:=by exact hrow.foot hgl hff hgX):=h
def Bp66(h:jp:=by exact jL hgl hff.size):=h
def Da3(h:jp:=by
 go_still_tail 7,(by kernel_rfl);change wpList _ _ _ _ _ w1.drew;have hbd:Below w1.heap.size w1 w1.drew:=jB.drew;go_wp2_with fail;refine (HK.out _ (kX.below2 hbd)).mono ?_;rintro e w2 ⟨rfl,g2,kX2,hi2,l1,l2,k2⟩;have hf2:Foot (fun k=>k=X) w w2:=zaf Bp82 hb1;have b22:Box w2 (w.heap.size) (PT X):=(b2.below hbd).foot k2 B1;exact Ja3):=h
def Va6.Ja3(h:jp:=by
 have b24:Box w2 (w.heap.size+1+1) (jP g 0 2 c):=(b4.below hbd).foot k2 B1;have l1':w1.heap.size<=g2:=l1;clear j0 j1 j2 j3 j4 j5 j6 j7 q0 q1 q2 q3 q4 q5 q6 q7 e5 e6 e3 e4 d0 d1 l1 d8;have d0:=b22.cell;have d1:=b22.lt;have d2:=kX2.cells.c12;have d3:=kX2.cells.f;have d4:=kX2.lt;go_wp2_with fail;have hs:=zf7 (Ma.FZ.blank 70 l) x0 x1;have hLk:=zif hL x0 x1;have hth:=(zl1 h x0 x1).1;have hz2:=hz1'.out;have hm2:=k2.size;have hm3:=hf2.size;have e9:w1.drew.heap.size=w1.heap.size:=rfl;rw[HY.out];have hX3:=at_al (at_tk kX2 (Cl 109 #[PT w2.heap.size,PT (w.heap.size+1+1),PT w.heap.size])) (Obj.cells #[jI 0] 2);have hff:Foot (fun k=>k=X) w ((w2.setCell (jA X 12) (Cl 109 #[PT w2.heap.size,PT (w.heap.size+1+1),PT w.heap.size])).alloc (Obj.cells #[jI 0] 2)):=Foot.alloc (Foot.set hf2 rfl);refine jY jT B17 ⟨rfl,BQ.mk hF g2 0 1 hX3 Bp19 (by rw[hs.items];rfl) (by rw[hs.items];exact jE) (by rw[hs.items];exact hi2.foot l2 (Foot.alloc Bp10) (F:=fun k=>k=X) B1) (.inr B1) B14 (fun _=>Clos.of_mat hs.f ?_) hff hs.f hs.a hs.l⟩;refine ⟨?_,hth.trans hF.th⟩;rw[hs.a,hs.n];have b32:=Box.al (b22.so (c:=X) (i:=12) (x:=Cl 109 #[PT w2.heap.size,PT (w.heap.size+1+1),PT w.heap.size]) B1) (Obj.cells #[jI 0] 2);have b34:=Box.al (b24.so (c:=X) (i:=12) (x:=Cl 109 #[PT w2.heap.size,PT (w.heap.size+1+1),PT w.heap.size]) B1) (Obj.cells #[jI 0] 2);exact ⟨w2.heap.size,w.heap.size+1+1,w.heap.size,g,2,c,rfl,rfl,FBox.new (box_at B7) B1 B1,FBox.new b32 B1 B1,zgf b34 HN2.out.symm hcap Bp66 Bp49,.inr ⟨by omega,b34.lt,B1⟩,.inl rfl,by omega,hgX⟩):=h
def Db3(h:jp:=by
 simp only[Nat.zero_mul,Nat.zero_add,Nat.one_mul] at j0 j1 j2 j3 j4 j5 j6 j7 q0 q1 q2 q3 q4 q5 q6 q7;exact Jb3):=h
def Vb8.Jb3(h:jp:=by
 clear hz1 i0 i1;go_upto_region 37 with fail
 open Va6 in exact Da3):=h
def V5.J1(h:jp:=by
 rw[HN2.out] at b4 hcap;have e5:=b4.cell;have e6:=b4.lt;have hz1':=jH hz1;have hgl1:=jL hgl hb1.size;obtain ⟨j0,j1,j2,j3,j4,j5,j6,j7⟩:=i0.same Bp22;obtain ⟨q0,q1,q2,q3,q4,q5,q6,q7⟩:=i1.same Bp22
 open Vb8 in exact Db3):=h
def X27.K3(h:jp:=by
 have b3:Box w1 (w.heap.size+1) (jI 70):=Bp7
 open V5 in exact D1):=h
theorem zf7(x:Ma.FZ)(p q:Ma.Arg):LookSame x (x.looks p q) q:=by
 unfold Ma.FZ.looks;cases p.isA <;> cases (p.v.k==4) <;> cases q.isA <;> (unfold Ma.FZ.fails Ma.FZ.ends;cases x.over <;> exact ⟨rfl,rfl,rfl,rfl,rfl,rfl,rfl⟩)
theorem zgf{w:World}{ba g c n:Nat}{l:List Ma.Arg}(hb:Box w ba (jP g 0 n c))(hn:n=l.length)(hc:n<=c)(hl:g<w.heap.size)(hi:ItemsO w g 0 l):ArgsAt w ba g n c l:=
 ⟨hb,hn,hc,hl,fun k x hx=> ⟨g,rfl,hl,by have:=hi k x hx;rw[Nat.zero_add] at this;exact this⟩⟩
theorem begin_70(X g c:Nat)(x0 x1:Ma.Arg)(h:FH)(w:World)(hF:Fresh w X g c 70 [x0,x1] h):Calls prog 65 #[PT X,jI 70] w fun e w'=>e=jr jT/\BQ w X g (Ma.FZ.begin 70 [x0,x1]) w':=by
 have hcap:=hF.cap;have HK:=jH fun (u:World) (hX:Fd.At u X h)=>zl0 X h x0 x1 u hX;have i0:=hF.row 0 x0 rfl;have i1:=hF.row 1 x1 rfl;obtain ⟨l,hl⟩:∃l,[x0,x1]=l:=⟨_,rfl⟩;have HLL:=jH hl;have HN2:=jH (show l.length=2 by rw[<-hl];rfl);rw[hl] at hF hcap ⊢;have hrow:=hF.row;obtain ⟨y,hy⟩:∃y,Ma.FZ.begin 70 l=y:=⟨_,rfl⟩;rw[hy];have HY:=jH (show y=(Ma.FZ.blank 70 l).looks x0 x1 by rw[<-hy,<-hl];rfl);clear hy hl
 open X27 in exact C3
