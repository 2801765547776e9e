import Derived.Test.YtoffmfgaohjjpaaGreatDoorQ03
set_option linter.unusedVariables false
set_option linter.unusedSectionVars false
set_option linter.unusedSimpArgs false
open Go.Proofs.Tryz
set_option maxHeartbeats 8000000
variable{jp:Sort _}
set_option maxRecDepth 100000
namespace Go.Proofs.YtoffmfgaohjjpaaGreatDoor
open Go.RowKit
theorem ix_at(s:ByteArray)(m:Nat)(b:Int)(h:m<s.size)(e:((s.data.toList.getD m 0).toNat:Int)=b)(w:World):(Instr.index 9 (jS s) (jI (m:Int))).run prog w= .ok (.int .u8 b) w:=by
 have h1:0<=(m:Int)/\(m:Int)<(s.size:Int):=B1;have e2:s.data.toList.getD m 0=s[m]:=by
  rw[List.getD_eq_getElem?_getD,List.getElem?_eq_getElem (by rw[<-Lib.size_eq];exact h)];rfl
 rw[e2] at e;simp[go_sem,h,e]
theorem zny:(prog.info? 2).map (fun i=>(i.zero,i.size,i.bytes))=some (some (jI 0),1,8):=by kernel_rfl
theorem infoStr:(prog.info? 9).map (fun i=>(i.zero,i.size,i.bytes))=some (some (jS ⟨#[]⟩),1,16):=by kernel_rfl
def zqk(W:World)(fn nsv tsv:Value)(I:Cal.In)(rk rn:Int)(rt:ByteArray):Prop:=
 (∃id:FuncId,fn= .func (.func id) #[] #[]/\(∀args w,(callFunc id args).run prog w= .ok (.enter id args) w)/\Ret id #[.agg #[nsv,tsv,.bool I.b,jI I.v.k,jI I.v.n,jS I.v.t]] W (.agg #[jI rk,jI rn,jS rt]))\/
 (∃(id:FuncId) (p:Value),fn= .func (.func id) #[] #[p]/\(∀args w,(callFunc id args).run prog w= .ok (.enter id args) w)/\Ret id #[.agg #[nsv,tsv,.bool I.b,jI I.v.k,jI I.v.n,jS I.v.t],p] W (.agg #[jI rk,jI rn,jS rt]))
def rowS(f:Int)(s:ByteArray):Prop:=(∃g,(f,s,g)∈plainTab)\/(∃g h T,(f,s,g,h,T)∈boxTab)
structure L1(w wr:World)(B6:Nat)(nm:ByteArray)(c mn mx:Int):Prop where
 b:Below w.heap.size w wr
 z:wr.heap[w.heap.size]?=some (.cells #[jI 0,jI 0,jS ⟨#[]⟩] 41 (0,0))
 x:wr.heap[B6]?=some (.cells #[jS nm,jI c,jI mn,jI mx] 105 (0,0))
def B23(h:jp:=by simp[results,results72,go_sem,z0,z1,z2]):=h
def B96(h:jp:=by unfold Cal.codeAt Cal.zf8;rw[hc];rfl):=h
def B154(h:jp:=by rw[HIn.out];exact hL):=h
def Bp89(h:jp:=by exact h13.trans hL.a):=h
def M66(h:jp:=by
 obtain ⟨rfl,rfl,rfl,rfl⟩:=hE.out he;go_wp2_with fail;refine jM (zar _ _) ?_;intro w9 hb9;replace hL:=hL.call hb9;obtain ⟨z0,z1,z2⟩:=zaa hL.z;obtain ⟨f0,f1,f2⟩:=zab hL.z;go_wp2_with fail;exact jX (.tuple #[.agg #[jI 4,jI ec,jS ⟨#[]⟩],jI 0]) B23 ⟨rfl,set3 hL.b B7⟩):=h
def M107(h:jp:=by
 go_wp2_with fail;go_roundw
 case rel=>exact ⟨m+1,by omega,by go_num,⟨_,_,B154⟩,jH (HNext.out B205)⟩
 case measure=>simp[intOf];omega):=h
def M109(h:jp:=by
 show (Cal.zf8 (s.data.toList.getD m 0) (v m) (Cal.inAt s v m)).2=_;unfold Cal.zf8;rw[hc];rfl):=h
def M143(h:jp:=by
 obtain ⟨z0,z1,z2⟩:=zaa hL.z;obtain ⟨f0,f1,f2⟩:=zab hL.z;go_wp2_with fail;exact jX (.tuple #[.agg #[jI 0,jI 0,jS ⟨#[]⟩],jI 24]) B23 ⟨rfl,set3 hL.b B7⟩):=h
def C45(h:jp:=by
 go_enter func72,ntmps72;go_wp2_with fail;refine jM (HI.out _) ?_;intro w1 hb1;have hz:=(hb1.block w.heap.size B7).trans Bp4;have hb:Below w.heap.size w w1:=zbe hb1;exact K45):=h
def X174.K45(h:jp:=by
 have hl1:L1 w (w1.alloc (.cells #[jS nm,jI 1,jI mn,jI mx] 105 (0,0))) w1.heap.size nm 1 mn mx:=
  ⟨hb.alloc hb.size _,(heap_alloc_old _ _ (jg hz)).trans hz,heap_alloc_new _ _⟩
 clear hb1 hz hb;go_wp2_with fail;generalize w1.heap.size=B6 at *;generalize (w1.alloc (.cells #[jS nm,jI 1,jI mn,jI mx] 105 (0,0)))=W1 at *;go_loopw [53] (fun i wr=>∃k:Nat,k<=n/\i=jI (k:Int)/\L1 w wr B6 nm 1 mn mx/\Hid (∀j,j<k->Val.mayB (v j)=true)) (fun i _=>n-(intOf i).toNat)
 case atStart=>exact ⟨0,Nat.zero_le _,rfl,hl1,jH (fun j hj=>by omega)⟩
 case round=>
 obtain ⟨k,hk,rfl,hL,HMay⟩:=hrel
 by_cases hlt:k<n
 .obtain ⟨b,o,rfl,hbl,c0,c1,c2⟩:=HCell.out k hlt;replace c0:=jQ hL.b c0 hbl;replace c1:=jQ hL.b c1 hbl;replace c2:=jQ hL.b c2 hbl;have HP:=jH (fun w=>zbm (v k) w);have hM:=jH (HM.out k hlt);have HNext:Hid (Val.mayB (v k)=true->∀j,j<k+1->Val.mayB (v j)=true):=jH (fun e j hj=>by
   by_cases h:j=k
   .subst h;exact e
   .exact HMay.out j B1)
  generalize v k=vk at *;obtain ⟨kk,kn,kt⟩:=vk;go_wp2_with fail;refine jM (HP.out _) ?_;intro w2 hb2;replace hL:=(hL.alloc _).call hb2;clear hb2 c0 c1 c2;cases hm:Val.mayB (⟨kk,kn,kt⟩:Val.V) with
  |true=>
   go_wp2_with fail;go_roundw
   case rel=>exact ⟨k+1,by omega,by go_num,hL,jH (HNext.out hm)⟩
   case measure=>simp[intOf];omega
  |false=>
   obtain ⟨rfl,rfl,rfl,rfl⟩:=hM.out hm;exact M143
 .obtain rfl:k=n:=by omega
  clear HM hlt;have x0:=ch hL.x 0;have x1:=ch hL.x 1;have x2:=ch hL.x 2;have x3:=ch hL.x 3;simp at x0 x1 x2 x3;go_wp2_with fail;clear x0 x1 x2 x3 hl1;generalize hW2:wr=W2 at hL;clear hW2;have hl1:=hL;clear hL;go_loopw [73] (fun i wr=>∃j:Nat,j<=k/\i=jI (j:Int)/\L1 w wr B6 nm 1 mn mx/\Hid (∀q,q<j->((v q).k==4)=false)) (fun i _=>k-(intOf i).toNat)
  case atStart=>exact ⟨0,Nat.zero_le _,rfl,hl1,jH (fun j hj=>by omega)⟩
  case round=>
  obtain ⟨j,hj,rfl,hL,HErr⟩:=hrel
  by_cases hlt:j<k
  .obtain ⟨b,o,rfl,hbl,c0,c1,c2⟩:=HCell.out j hlt;replace c0:=jQ hL.b c0 hbl;replace c1:=jQ hL.b c1 hbl;replace c2:=jQ hL.b c2 hbl;have hV:=jH (HV.out HMay.out j hlt HErr.out);have HNext:Hid (((v j).k==4)=false->∀q,q<j+1->((v q).k==4)=false):=jH (fun e q hq=>by
    by_cases h:q=j
    .subst h;exact e
    .exact HErr.out q B1)
   generalize v j=vj at *;obtain ⟨kk,kn,kt⟩:=vj;replace hL:=hL.alloc (.cells #[jI kk,jI kn,jS kt] 41 (0,0));cases hm:(kk==4) with
   |false=>
    go_wp2_with fail;go_roundw
    case rel=>exact ⟨j+1,by omega,by go_num,hL,jH (HNext.out hm)⟩
    case measure=>simp[intOf];omega
   |true=>
    obtain ⟨rfl,rfl,rfl,rfl⟩:=hV.out hm;obtain ⟨z0,z1,z2⟩:=zaa hL.z;obtain ⟨f0,f1,f2⟩:=zab hL.z;go_wp2_with fail;exact jX (.tuple #[.agg #[jI kk,jI kn,jS kt],jI 0]) B23 ⟨rfl,set3 hL.b B7⟩
  .obtain rfl:j=k:=by omega
   clear HV hlt;go_wp2_with fail;refine (rows_any _).mono ?_;rintro e w3 ⟨rfl,hT,hG⟩;have hb3:Below wr.heap.size wr w3:=⟨hG.os,hG.tape,hG.output,hG.size,fun q hq=>hG.block q hq B7⟩;replace hL:=hL.call hb3;clear hG hb3;generalize wr.heap.size=rb at *;obtain ⟨L,h1,h2,h3⟩:=hT;obtain ⟨x,hx,hrun⟩:=zqy (P:=prog) h1 underlying166 underlying3 f (by rw[h2];exact Hin.out);have hrow:=h3 _ hx;clear h1 h2 h3 hx;obtain ⟨id,cp,rfl⟩:∃(id:FuncId) (cp:Array Value),x= .agg #[jS s,.func (.func id) #[] cp]:=by
    rcases hrow with ⟨s',g,h,e⟩|⟨s',g,q,T,b,h,hb,e⟩
    .obtain rfl:=Hs.out s' (.inl ⟨_,h⟩);exact ⟨_,_,e⟩
    .obtain rfl:=Hs.out s' (.inr ⟨_,_,_,h⟩);exact ⟨_,_,e⟩
   have hL3:L3 w ((w3.alloc (.cells #[jS s,.func (.func id) #[] cp] 165 (0,0))).alloc (.cells #[jZ,jZ,.bool false,jI 0,jI 0,jS ⟨#[]⟩] 171 (0,0))) f s (.func (.func id) #[] cp) w3.heap.size (w3.heap.size+1) jZ jZ Cal.in0:=by
    have b1:=(Below.refl w3.heap.size w3).alloc jE (.cells #[jS s,.func (.func id) #[] cp] 165 (0,0));have b2:=(b1.alloc b1.size (.cells #[jZ,jZ,.bool false,jI 0,jI 0,jS ⟨#[]⟩] 171 (0,0)));have hl:=(jg hL.z);refine ⟨jN hL.b b2,(b2.block _ hl).trans hL.z,?_,?_,?_,⟨rfl,.inl ⟨rfl,rfl⟩⟩,⟨rfl,.inl ⟨rfl,rfl⟩⟩,hl,B1⟩
    .exact (heap_alloc_old _ _ B7).trans Bp4
    .rw[show w3.heap.size+1=(w3.alloc (Obj.cells #[jS s,.func (.func id) #[] cp] 165 (0,0))).heap.size by simp];exact heap_alloc_new _ _
    .exact isRow.same hrow fun b c T _ h=>b2.block b (jg h)
   clear hL hrow hl1;go_wp2_with fail;generalize ((w3.alloc (.cells #[jS s,.func (.func id) #[] cp] 165 (0,0))).alloc (.cells #[jZ,jZ,.bool false,jI 0,jI 0,jS ⟨#[]⟩] 171 (0,0)))=W3 at *;generalize w3.heap.size=B12 at *;generalize B12+1=B13 at *;go_loopw [87] (fun i wr=>∃m:Nat,m<=j/\i=jI (m:Int)/\(∃nsv tsv,L3 w wr f s (.func (.func id) #[] cp) B12 B13 nsv tsv (Cal.inAt s v m))/\Hid (∀q,q<m->Cal.codeAt s v q=0)) (fun i _=>j-(intOf i).toNat)
   case atStart=>exact ⟨0,Nat.zero_le _,rfl,⟨_,_,hL3⟩,jH (fun q hq=>by omega)⟩
   case round=>
   obtain ⟨m,hm,rfl,⟨nsv,tsv,hL⟩,HCode⟩:=hrel
   by_cases hlt:m<j
   .obtain ⟨b,o,rfl,hbl,c0,c1,c2⟩:=HCell.out m hlt;replace c0:=jQ hL.b c0 hbl;replace c1:=jQ hL.b c1 hbl;replace c2:=jQ hL.b c2 hbl;have hvb:=HVB.out m hlt;have hE:=jH (HE.out HMay.out HErr.out m hlt HCode.out);have HNext:Hid (Cal.codeAt s v m=0->∀q,q<m+1->Cal.codeAt s v q=0):=jH (fun e q hq=>by
     by_cases h:q=m
     .subst h;exact e
     .exact HCode.out q B1)
    have hms:m<s.size:=B1;have x0:=fun o=>Lib.cell_of_heap (hL.alloc o).x 0;simp at x0;rcases Hch.out m hlt with hc|hc|hc|hc
    .obtain ⟨i0,hi,hz0,hz1,hz2⟩:=info_parts zny;have hix:=ix_at s m 110 hms B124;have hcode:Cal.codeAt s v m=(Val.number (v m)).2:=B96;have hin:Cal.inAt s v (m+1)=⟨(Cal.inAt s v m).ns++ [(Val.number (v m)).1],(Cal.inAt s v m).ts,(Cal.inAt s v m).b,(Cal.inAt s v m).v⟩:=by
      exact M109
     rw[hcode] at hE HNext;clear hc hcode;have HC:=jH (fun (w':World) (hb:Below w.heap.size w w')=>za8 (v m) w' hvb (hN.below hb));generalize (Val.number (v m)).1=x at *;generalize (Val.number (v m)).2=ec at *;generalize v m=vm at *;obtain ⟨kk,kn,kt⟩:=vm;have hln:=Cal.zk0 s v m;have HIn:=jH hin;clear hin;generalize Cal.inAt s v m=I at *;go_wp2_with fail;refine jM (HC.out _ (hL.alloc _).b) ?_;intro w4 hb4;replace hL:=(hL.alloc _).call hb4;clear hb4 c0 c1 c2 x0;have a0:=ch hL.a 0;simp at a0;go_wp2_with (first|(at_builtin;refine wpList_append_own _ rfl _ _ 168 rfl w.heap.size 2 i0 (jI 0) 1 8 underlying168 hi hz0 hz1 hz2 rfl B3 _ _ _ rfl ((hL.alloc _).n) (jA w4.heap.size 0) 1 1 [jI x] rfl rfl ?c1n ?c2n ?c3n ?c4n ?c5n ?_)|fail)
     case c1n=>
      intro q u hq
      match q,hq with
      |0,hq=>simp at hq;subst hq;simp[Addr.add]
     case c2n=>intro u hu;simp at hu;subst hu;rfl
     case c3n=>unfold maxLen;omega
     case c4n=>omega
     case c5n=>have:=hL.b.size;simp;omega
     intro v' w5 hown hgrow _;obtain ⟨h13,hL5⟩:=hL.push_n x hgrow hown;obtain ⟨g,cp',rfl⟩:=zh4 hown;have d0:=ch Bp89 0;have e0:=Lib.frozen_of_heap Bp89 0;simp at d0;clear hL hown hgrow h13 a0;have hL:=hL5;clear hL5;cases he:(ec !=0) with
     |true=>
      exact M66
     |false=>
      exact M107
    .obtain ⟨i0,hi,hz0,hz1,hz2⟩:=info_parts infoStr;have hix:=ix_at s m 116 hms B124;have hcode:Cal.codeAt s v m=(Val.asText (v m)).2:=B96;have hin:Cal.inAt s v (m+1)=⟨(Cal.inAt s v m).ns,(Cal.inAt s v m).ts++ [(Val.asText (v m)).1],(Cal.inAt s v m).b,(Cal.inAt s v m).v⟩:=by
      exact M109
     rw[hcode] at hE HNext;clear hc hcode;have HC:=jH (fun (w':World) (hb:Below w.heap.size w w')=>zbu (v m) w' hvb (hN.below hb));generalize (Val.asText (v m)).1=x at *;generalize (Val.asText (v m)).2=ec at *;generalize v m=vm at *;obtain ⟨kk,kn,kt⟩:=vm;have hln:=Cal.zk0 s v m;have HIn:=jH hin;clear hin;generalize Cal.inAt s v m=I at *;go_wp2_with fail;refine jM (HC.out _ (hL.alloc _).b) ?_;intro w4 hb4;replace hL:=(hL.alloc _).call hb4;clear hb4 c0 c1 c2 x0;have a1:=ch hL.a 1;simp at a1;go_wp2_with (first|(at_builtin;refine wpList_append_own _ rfl _ _ 169 rfl w.heap.size 9 i0 (jS ⟨#[]⟩) 1 16 underlying169 hi hz0 hz1 hz2 rfl B3 _ _ _ rfl ((hL.alloc _).t) (jA w4.heap.size 0) 1 1 [jS x] rfl rfl ?c1t ?c2t ?c3t ?c4t ?c5t ?_)|fail)
     case c1t=>
      intro q u hq
      match q,hq with
      |0,hq=>simp at hq;subst hq;simp[Addr.add]
     case c2t=>intro u hu;simp at hu;subst hu;rfl
     case c3t=>unfold maxLen;omega
     case c4t=>omega
     case c5t=>have:=hL.b.size;simp;omega
     intro v' w5 hown hgrow _;obtain ⟨h13,hL5⟩:=hL.push_t x hgrow hown;obtain ⟨g,cp',rfl⟩:=zh4 hown;have d1:=ch Bp89 1;have e1:=Lib.frozen_of_heap Bp89 1;simp at d1;clear hL hown hgrow h13 a1;have hL:=hL5;clear hL5;cases he:(ec !=0) with
     |true=>
      exact M66
     |false=>
      exact M107
    .have hix:=ix_at s m 98 hms B124;have hcode:Cal.codeAt s v m=(Val.truth (v m)).2:=B96;have hin:Cal.inAt s v (m+1)=⟨(Cal.inAt s v m).ns,(Cal.inAt s v m).ts,(Val.truth (v m)).1,(Cal.inAt s v m).v⟩:=by
      exact M109
     rw[hcode] at hE HNext;clear hc hcode;have HC:=jH (fun (w':World)=>truth_any (v m) w');generalize (Val.truth (v m)).1=x at *;generalize (Val.truth (v m)).2=ec at *;generalize v m=vm at *;obtain ⟨kk,kn,kt⟩:=vm;have HIn:=jH hin;clear hin;generalize Cal.inAt s v m=I at *;go_wp2_with fail;refine jM (HC.out _) ?_;intro w4 hb4;replace hL:=(hL.alloc _).call hb4;clear hb4 c0 c1 c2 x0;have d2:=ch hL.a 2;have e2:=Lib.frozen_of_heap hL.a 2;simp at d2;replace hL:=hL.boo x;cases he:(ec !=0) with
     |true=>
      exact M66
     |false=>
      exact M107
    .have hix:=ix_at s m 118 hms B124;have hcode:Cal.codeAt s v m=0:=B96;have hin:Cal.inAt s v (m+1)=⟨(Cal.inAt s v m).ns,(Cal.inAt s v m).ts,(Cal.inAt s v m).b,v m⟩:=by
      exact M109
     rw[hcode] at hE HNext;clear hc hcode;generalize v m=vm at *;obtain ⟨kk,kn,kt⟩:=vm;have HIn:=jH hin;clear hin;generalize Cal.inAt s v m=I at *;replace hL:=hL.alloc (.cells #[jI kk,jI kn,jS kt] 41 (0,0));have d3:=ch hL.a 3;have d4:=ch hL.a 4;have d5:=ch hL.a 5;have e3:=Lib.frozen_of_heap hL.a 3;have e4:=Lib.frozen_of_heap hL.a 4;have e5:=Lib.frozen_of_heap hL.a 5;simp at d3 d4 d5;replace hL:=hL.val ⟨kk,kn,kt⟩;go_wp2_with fail;go_roundw
     case rel=>exact ⟨m+1,by omega,by go_num,⟨_,_,B154⟩,jH (HNext.out rfl)⟩
     case measure=>simp[intOf];omega
   .obtain rfl:m=j:=by omega
    clear HE hlt;obtain ⟨rfl,HWork⟩:=HW.out HMay.out HErr.out HCode.out;have HO:=HWork wr nsv tsv _ hL.r hL.b hL.n hL.t;clear HWork HW;have x1:=ch hL.x 1;have a0:=ch hL.a 0;have a1:=ch hL.a 1;have a2:=ch hL.a 2;have a3:=ch hL.a 3;have a4:=ch hL.a 4;have a5:=ch hL.a 5;simp at x1 a0 a1 a2 a3 a4 a5;generalize Cal.inAt s v m=I at *;rcases HO with ⟨id',e,hcf,H⟩|⟨id',p,e,hcf,H⟩
    all_goals
     simp only[Value.func.injEq,Fn.func.injEq] at e;obtain ⟨rfl,_,rfl⟩:=e;have HF:=jH H;clear H;go_wp2_with fail;refine jM HF.out ?_;intro w5 hb5;have hz:=jk hb5 hL.z;have hb:=jN hL.b hb5;obtain ⟨z0,z1,z2⟩:=zaa hz;obtain ⟨f0,f1,f2⟩:=zab hz;clear hz x1 a0 a1 a2 a3 a4 a5 hb5;go_wp2_with fail;exact jX (.tuple #[.agg #[jI rk,jI rn,jS rt],jI 0]) B23 ⟨rfl,set3 hb B7⟩):=h
def M5(h:jp:=by
 have HI:=jH (fun w=>zd4 f w);rw[hI] at HI;clear hI;go_enter func72,ntmps72;go_wp2_with fail;refine jM (HI.out _) ?_;intro w1 hb1;have hz:=(hb1.block w.heap.size B7).trans Bp4;have hb:Below w.heap.size w w1:=zbe hb1;have hl1:L1 w (w1.alloc (.cells #[jS nm,jI c,jI mn,jI mx] 105 (0,0))) w1.heap.size nm c mn mx:=
  ⟨hb.alloc hb.size _,(heap_alloc_old _ _ (jg hz)).trans hz,heap_alloc_new _ _⟩
 clear hb1 hz hb;have HL:=jH hl1;clear hl1;have h0:=HL.out.x;have x0:=ch h0 0;have x1:=ch h0 1;have x2:=ch h0 2;have x3:=ch h0 3;have hz:=HL.out.z;obtain ⟨z0,z1,z2⟩:=zaa hz;obtain ⟨f0,f1,f2⟩:=zab hz;simp at x0 x1 x2 x3;clear h0 hz;go_wp2_with fail;exact jX (.tuple #[.agg #[jI 0,jI 0,jS ⟨#[]⟩],jI 1]) B23 ⟨rfl,set3 HL.out.b B7⟩):=h
def M105(h:jp:=by
 go_enter func136,ntmps136;go_wp2;go_ret;exact ⟨rfl,jB.alloc jE _⟩):=h
def Bp86(h:jp:=by exact hb4.mono hb.size):=h
def M45(h:jp:=by
 have HE:=jH (fun w=>zar 6 w);have hx:(w.alloc (.cells #[jI 4,jI 6,jS t] 41)).heap[w.heap.size]?=some (.cells #[jI 4,jI 6,jS t] 41 (0,0)):=heap_alloc_new _ _;have hb:Below w.heap.size w (w.alloc (.cells #[jI 4,jI 6,jS t] 41)):=jB.alloc jE _;have hl:w.heap.size<(w.alloc (.cells #[jI 4,jI 6,jS t] 41)).heap.size:=B7;go_enter func136,ntmps136;go_wp2_with fail;generalize (w.alloc (.cells #[jI 4,jI 6,jS t] 41))=W1 at *;have hS:W1.cell? (jA w.heap.size 0)=some (jI 4)/\W1.cell? (jA w.heap.size 1)=some (jI 6)/\W1.cell? (jA w.heap.size 2)=some (jS t):=zaa hx;clear hx;go_region_held3 (fun w'=>w'.cell? (jA w.heap.size 0)=some (jI 4)/\w'.cell? (jA w.heap.size 1)=some (jI 6)/\w'.cell? (jA w.heap.size 2)=some (jS t))
  (first|go_keep|exact ⟨jQ hb4 hS.1 hl,jQ hb4 hS.2.1 hl,jQ hb4 hS.2.2 hl⟩)
  ((go_at_call 124;refine (HE.out _).mono ?_;rintro e w4 ⟨rfl,hb4⟩))
 go_wp2;go_ret;exact ⟨rfl,hb.drew.trans Bp86⟩):=h
def X173.K45(h:jp:=by
 have hl1:L1 w (w1.alloc (.cells #[jS nm,jI 2,jI 1,jI 1] 105 (0,0))) w1.heap.size nm 2 1 1:=
  ⟨hb.alloc hb.size _,(heap_alloc_old _ _ (jg hz)).trans hz,heap_alloc_new _ _⟩
 clear hb1 hz hb;go_wp2_with fail;generalize w1.heap.size=B6 at *;generalize (w1.alloc (.cells #[jS nm,jI 2,jI 1,jI 1] 105 (0,0)))=W1 at *;have HC:=jH (⟨c0,c1,c2⟩:w.cell? (jA bb o)=some (jI kk)/\w.cell? (jA bb (o+1))=some (jI kn)/\w.cell? (jA bb (o+2))=some (jS kt));clear c0 c1 c2;have HT:=jH (fun w=>zcc b w);go_loopw [53] (fun i wr=>∃k:Nat,k<=1/\i=jI (k:Int)/\L1 w wr B6 nm 2 1 1/\(k=1->Val.mayB ⟨kk,kn,kt⟩=true)) (fun i _=>1-(intOf i).toNat)
 case atStart=>exact ⟨0,Nat.zero_le _,rfl,hl1,fun h=>by omega⟩
 case round=>
 obtain ⟨k,hk,rfl,hL,hmay⟩:=hrel;have c0:=jQ hL.b HC.out.1 hbl;have c1:=jQ hL.b HC.out.2.1 hbl;have c2:=jQ hL.b HC.out.2.2 hbl
 by_cases hlt:k<1
 .obtain rfl:k=0:=by omega
  have HP:=jH (fun w=>zbm ⟨kk,kn,kt⟩ w);clear hmay;go_wp2_with fail;refine jM (HP.out _) ?_;intro w2 hb2;replace hL:=(hL.alloc _).call hb2;clear hb2 c0 c1 c2;cases hm:Val.mayB (⟨kk,kn,kt⟩:Val.V) with
  |true=>
   go_wp2_with fail;go_roundw
   case rel=>exact ⟨1,by omega,by first|rfl|go_num,hL,fun _=>hm⟩
   case measure=>simp[intOf]
  |false=>
   obtain ⟨rfl,rfl,rfl,rfl⟩:=HM.out hm;exact M143
 .obtain rfl:k=1:=by omega
  obtain ⟨hv,rfl⟩:=HV.out (hmay rfl);rw[hv] at HT;clear hmay HM HV hv hlt;have x1:=ch hL.x 1;simp at x1;go_wp2_with fail;refine jM (HA.out _) ?_;intro w2 hb2;replace hL:=hL.call hb2;clear hb2 c0 c1 c2 x1;go_wp2_with fail;refine jM (HT.out _) ?_;intro w3 hb3;replace hL:=hL.call hb3;clear hb3;obtain ⟨z0,z1,z2⟩:=zaa hL.z;obtain ⟨f0,f1,f2⟩:=zab hL.z;go_wp2_with fail;exact jX (.tuple #[.agg #[jI rk,jI rn,jS rt],jI 0]) B23 ⟨rfl,set3 hL.b B7⟩):=h
theorem L1.call{w wr w':World}{B6:Nat}{nm:ByteArray}{c mn mx:Int}(h:L1 w wr B6 nm c mn mx)(hb:Below wr.heap.size wr w'):L1 w w' B6 nm c mn mx:=
 ⟨jN h.b hb,jk hb h.z,jk hb h.x⟩
theorem L1.alloc{w wr:World}{B6:Nat}{nm:ByteArray}{c mn mx:Int}(h:L1 w wr B6 nm c mn mx)(o:Obj):L1 w (wr.alloc o) B6 nm c mn mx:=h.call (jB.alloc jE o)
theorem zoo(f:Int)(n:Nat)(mn mx:Int)(nm s:ByteArray)(v:Nat->Val.V)(a:Option Addr)(cap:Nat)(rk rn:Int)(rt:ByteArray)(z:Int)(w:World)(hI:infoV f=((nm,1,mn,mx),0))(t1:decide ((n:Int)<mn)=false)(t2:decide (mx<(n:Int))=false)(hin:f∈([1,2,3,4,5,6,7,8,9,10,11,12,13,14,15,31,33,35,16,17,18,19,20,21,22,23,24,25,26,27,28,29,30,32,34]:List Int))(hs:∀s',rowS f s'->s'=s)(hsz:n<=s.size)(h10:s.size<=10)(hch:∀k,k<n->(s.data.toList.getD k 0).toNat=110\/(s.data.toList.getD k 0).toNat=116\/(s.data.toList.getD k 0).toNat=98\/(s.data.toList.getD k 0).toNat=118)(HCell:Hid (∀k,k<n->∃b o,a=some (jA b o)/\b<w.heap.size/\w.cell? (jA b (o+k*3))=some (jI (v k).k)/\w.cell? (jA b (o+k*3+1))=some (jI (v k).n)/\w.cell? (jA b (o+k*3+2))=some (jS (v k).t)))(HVB:Hid (∀k,k<n->VB (v k)))(hN:NumW w)(HM:Hid (∀k,k<n->Val.mayB (v k)=false->0=rk/\0=rn/\(⟨#[]⟩:ByteArray)=rt/\24=z))(HV:Hid ((∀k,k<n->Val.mayB (v k)=true)->∀k,k<n->(∀j,j<k->((v j).k==4)=false)->((v k).k==4)=true->(v k).k=rk/\(v k).n=rn/\(v k).t=rt/\0=z))(HE:Hid ((∀k,k<n->Val.mayB (v k)=true)->(∀k,k<n->((v k).k==4)=false)->∀k,k<n->(∀j,j<k->Cal.codeAt s v j=0)->(Cal.codeAt s v k !=0)=true->4=rk/\Cal.codeAt s v k=rn/\(⟨#[]⟩:ByteArray)=rt/\0=z))(HW:Hid ((∀k,k<n->Val.mayB (v k)=true)->(∀k,k<n->((v k).k==4)=false)->(∀j,j<n->Cal.codeAt s v j=0)->0=z/\∀W nsv tsv fn,isRow W f (.agg #[jS s,fn])->Below w.heap.size w W->
  W.ownsRow w.heap.size 2 1 nsv (Cal.inAt s v n).ns.length ((Cal.inAt s v n).ns.map (.int .i64))->W.ownsRow w.heap.size 9 1 tsv (Cal.inAt s v n).ts.length ((Cal.inAt s v n).ts.map .string)->zqk W fn nsv tsv (Cal.inAt s v n) rk rn rt)):
 Ret 72 #[jI f,.slice a n cap] w (.tuple #[.agg #[jI rk,jI rn,jS rt],jI z]):=by
 have HI:=jH (fun w=>zd4 f w);rw[hI] at HI;have Hs:=jH hs;have Hin:=jH hin;have Hch:=jH hch;clear hI hs hin hch
 open X174 in exact C45
section
variable(f e0 c mn mx:Int)(n:Nat)(nm:ByteArray)(a:Option Addr)(cap:Nat)(w:World)(hI:infoV f=((nm,c,mn,mx),e0))
include f e0 c mn mx n nm a cap w hI
theorem zxv(t0:(e0 !=0)=true):Ret 72 #[jI f,.slice a n cap] w (.tuple #[.agg #[jI 0,jI 0,jS ⟨#[]⟩],jI 1]):=by
 exact M5
section
variable(t0:(e0 !=0)=false)
include t0
theorem zxu(t1:(c !=1)=true)(t2:(c !=2)=true):Ret 72 #[jI f,.slice a n cap] w (.tuple #[.agg #[jI 0,jI 0,jS ⟨#[]⟩],jI 1]):=by
 exact M5
theorem zsl(t1:(c !=1)=false)(t2:(c !=2)=true)(t3:decide ((n:Int)<mn)=true):Ret 72 #[jI f,.slice a n cap] w (.tuple #[.agg #[jI 0,jI 0,jS ⟨#[]⟩],jI 1]):=by
 exact M5
theorem zsj(t1:(c !=1)=false)(t2:(c !=2)=true)(t3:decide ((n:Int)<mn)=false)(t4:decide (mx<(n:Int))=true):Ret 72 #[jI f,.slice a n cap] w (.tuple #[.agg #[jI 0,jI 0,jS ⟨#[]⟩],jI 1]):=by
 exact M5
theorem zsk(t1:(c !=1)=true)(t2:(c !=2)=false)(t3:decide ((n:Int)<mn)=true):Ret 72 #[jI f,.slice a n cap] w (.tuple #[.agg #[jI 0,jI 0,jS ⟨#[]⟩],jI 1]):=by
 exact M5
theorem zsi(t1:(c !=1)=true)(t2:(c !=2)=false)(t3:decide ((n:Int)<mn)=false)(t4:decide (mx<(n:Int))=true):Ret 72 #[jI f,.slice a n cap] w (.tuple #[.agg #[jI 0,jI 0,jS ⟨#[]⟩],jI 1]):=by
 exact M5
end
end
section
variable(k n:Int)(t:ByteArray)(w:World)
include k n t w
theorem ask_36:Ret 136 #[jI 36,.agg #[jI k,jI n,jS t]] w (.bool (k==0)):=by
 generalize hb:(k==0)=b;exact M105
theorem ask_37:Ret 136 #[jI 37,.agg #[jI k,jI n,jS t]] w (.bool (k==1)):=by
 generalize hb:(k==1)=b;exact M105
theorem ask_38:Ret 136 #[jI 38,.agg #[jI k,jI n,jS t]] w (.bool (k==3)):=by
 generalize hb:(k==3)=b;exact M105
theorem ask_39:Ret 136 #[jI 39,.agg #[jI k,jI n,jS t]] w (.bool (k==2)):=by
 generalize hb:(k==2)=b;exact M105
theorem ask_40:Ret 136 #[jI 40,.agg #[jI k,jI n,jS t]] w (.bool (k==4)):=by
 generalize hb:(k==4)=b;exact M105
end
theorem ask_41a(k n:Int)(t:ByteArray)(h0:(k==4)=false)(w:World):Ret 136 #[jI 41,.agg #[jI k,jI n,jS t]] w (.bool false):=by
 have HE:=jH (fun w=>zar 6 w);have hx:(w.alloc (.cells #[jI k,jI n,jS t] 41)).heap[w.heap.size]?=some (.cells #[jI k,jI n,jS t] 41 (0,0)):=heap_alloc_new _ _;have hb:Below w.heap.size w (w.alloc (.cells #[jI k,jI n,jS t] 41)):=jB.alloc jE _;have hl:w.heap.size<(w.alloc (.cells #[jI k,jI n,jS t] 41)).heap.size:=B7;go_enter func136,ntmps136;go_wp2_with fail;generalize (w.alloc (.cells #[jI k,jI n,jS t] 41))=W1 at *;have hS:W1.cell? (jA w.heap.size 0)=some (jI k)/\W1.cell? (jA w.heap.size 1)=some (jI n)/\W1.cell? (jA w.heap.size 2)=some (jS t):=zaa hx;clear hx;go_region_held3 (fun w'=>w'.cell? (jA w.heap.size 0)=some (jI k)/\w'.cell? (jA w.heap.size 1)=some (jI n)/\w'.cell? (jA w.heap.size 2)=some (jS t))
  (first|go_keep|exact ⟨jQ hb4 hS.1 hl,jQ hb4 hS.2.1 hl,jQ hb4 hS.2.2 hl⟩)
  ((go_at_call 124;refine (HE.out _).mono ?_;rintro e w4 ⟨rfl,hb4⟩))
 go_wp2;go_ret;exact ⟨rfl,hb.drew.trans Bp86⟩
theorem ask_41b(n:Int)(t:ByteArray)(h0:(n==6)=false)(w:World):Ret 136 #[jI 41,.agg #[jI 4,jI n,jS t]] w (.bool false):=by
 have HE:=jH (fun w=>zar 6 w);have hx:(w.alloc (.cells #[jI 4,jI n,jS t] 41)).heap[w.heap.size]?=some (.cells #[jI 4,jI n,jS t] 41 (0,0)):=heap_alloc_new _ _;have hb:Below w.heap.size w (w.alloc (.cells #[jI 4,jI n,jS t] 41)):=jB.alloc jE _;have hl:w.heap.size<(w.alloc (.cells #[jI 4,jI n,jS t] 41)).heap.size:=B7;go_enter func136,ntmps136;go_wp2_with fail;generalize (w.alloc (.cells #[jI 4,jI n,jS t] 41))=W1 at *;have hS:W1.cell? (jA w.heap.size 0)=some (jI 4)/\W1.cell? (jA w.heap.size 1)=some (jI n)/\W1.cell? (jA w.heap.size 2)=some (jS t):=zaa hx;clear hx;go_region_held3 (fun w'=>w'.cell? (jA w.heap.size 0)=some (jI 4)/\w'.cell? (jA w.heap.size 1)=some (jI n)/\w'.cell? (jA w.heap.size 2)=some (jS t))
  (first|go_keep|exact ⟨jQ hb4 hS.1 hl,jQ hb4 hS.2.1 hl,jQ hb4 hS.2.2 hl⟩)
  ((go_at_call 124;refine (HE.out _).mono ?_;rintro e w4 ⟨rfl,hb4⟩))
 go_wp2;go_ret;exact ⟨rfl,hb.drew.trans Bp86⟩
theorem ask_41c(t:ByteArray)(h0:t.toList=[])(h1:t.toList.isEmpty=true)(w:World):Ret 136 #[jI 41,.agg #[jI 4,jI 6,jS t]] w (.bool true):=by
 exact M45
theorem ask_41d(t:ByteArray)(h0:¬t.toList=[])(h1:t.toList.isEmpty=false)(w:World):Ret 136 #[jI 41,.agg #[jI 4,jI 6,jS t]] w (.bool false):=by
 exact M45
theorem ask_41(k n:Int)(t:ByteArray)(w:World):Ret 136 #[jI 41,.agg #[jI k,jI n,jS t]] w (.bool (k==4&&(n==6&&t.toList.isEmpty))):=by
 cases h0:(k==4) with
 |false=>exact ask_41a k n t h0 w
 |true=>
  obtain rfl:k=4:=B71;cases h1:(n==6) with
  |false=>exact ask_41b n t h1 w
  |true=>
   obtain rfl:n=6:=B82;cases h2:t.toList.isEmpty with
   |true=>exact ask_41c t B70 h2 w
   |false=>exact ask_41d t B70 h2 w
theorem zqe(f kk kn rk rn z:Int)(kt nm rt:ByteArray)(b:Bool)(bb o cap:Nat)(w:World)(hI:infoV f=((nm,2,1,1),0))(hbl:bb<w.heap.size)(c0:w.cell? (jA bb o)=some (jI kk))(c1:w.cell? (jA bb (o+1))=some (jI kn))(c2:w.cell? (jA bb (o+2))=some (jS kt))(HA:Hid (∀w,Ret 136 #[jI f,.agg #[jI kk,jI kn,jS kt]] w (.bool b)))(HM:Hid (Val.mayB ⟨kk,kn,kt⟩=false->0=rk/\0=rn/\(⟨#[]⟩:ByteArray)=rt/\24=z))(HV:Hid (Val.mayB ⟨kk,kn,kt⟩=true->Cal.tru b=⟨rk,rn,rt⟩/\0=z)):
 Ret 72 #[jI f,jP bb o 1 cap] w (.tuple #[.agg #[jI rk,jI rn,jS rt],jI z]):=by
 have HI:=jH (fun w=>zd4 f w);rw[hI] at HI;clear hI
 open X173 in exact C45
