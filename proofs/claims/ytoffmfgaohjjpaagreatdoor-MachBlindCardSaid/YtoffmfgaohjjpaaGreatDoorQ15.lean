import Derived.Test.YtoffmfgaohjjpaaGreatDoorQ14
set_option linter.unusedVariables false
set_option linter.unusedSectionVars false
set_option linter.unusedSimpArgs false
open Go.Proofs.Tryz
set_option maxHeartbeats 8000000
variable{jp:Sort _}
set_option maxRecDepth 100000
namespace Go.Proofs.YtoffmfgaohjjpaaGreatDoor
open Go.RowKit
namespace Mb
theorem zcf(r:ByteArray)(n:Nat):(r.extract 0 n).data.toList=r.data.toList.take n:=by
 rw[ByteArray.data_extract,Array.toList_extract,List.extract_eq_take_drop];simp
theorem zej(r:ByteArray)(n:Nat):(r.extract n r.size).data.toList=r.data.toList.drop n:=by
 rw[ByteArray.data_extract,Array.toList_extract,List.extract_eq_take_drop];rw[List.take_of_length_le];rw[List.length_drop];exact jE
theorem zf4(p:UInt8->Bool):∀l:List UInt8,l.take (l.takeWhile p).length=l.takeWhile p
 |[]=>rfl
 |a::l=>by
  rw[List.takeWhile_cons];cases h:p a
  .rfl
  .simp only[if_true,List.length_cons,List.take_succ_cons,zf4 p l]
theorem zox(p:UInt8->Bool)(r:ByteArray):(r.data.toList.takeWhile p).length<=r.size:=by
 have:=(List.takeWhile_prefix (l:=r.data.toList) p).length_le;exact this
theorem zj6(l:List UInt8):(Lib.trimPrefix l [36]).length<=l.length:=by
 unfold Lib.trimPrefix;split
 .rw[List.length_drop];omega
 .exact jE
section
variable{w:World}{B T:Nat}{a b:Int}{c d:Bool}(h:w.heap[B]?=some (.cells #[jI a,jI b,.bool c,.bool d] T (0,0)))
include w B T a b c d h
theorem zbb:
 w.cell? (jA B 0)=some (jI a)/\w.cell? (jA B 1)=some (jI b)/\w.cell? (jA B 2)=some (.bool c)/\w.cell? (jA B 3)=some (.bool d):=by
 exact M200
theorem zbl:
 w.frozen? (jA B 0)=false/\w.frozen? (jA B 1)=false/\w.frozen? (jA B 2)=false/\w.frozen? (jA B 3)=false:=
 ⟨frozen_of_row w B 0 _ _ h,frozen_of_row w B 1 _ _ h,frozen_of_row w B 2 _ _ h,frozen_of_row w B 3 _ _ h⟩
end
abbrev RF(r:Ma.Rf):Value:= .agg #[jI r.row,jI r.col,.bool r.pr,.bool r.pc]
def B40(h:jp:=by simp[results,results175,go_sem,z0,z1,z2,z3]):=h
def Bp24(h:jp:=by repeat (first|with_reducible exact hb2|with_reducible exact hbT|with_reducible refine Below.drew ?_|with_reducible refine setB ?_ B1)):=h
def M93(h:jp:=by
 clear HP0;go_wp2_with fail;exact jX (.tuple #[.agg #[jI 0,jI 0,.bool false,.bool false],jI ((s.size:Int)-r3.size+m),jI 10]) B40 ⟨by rw[HP.out,<-HNB.out];try rfl,Bp3⟩):=h
def M108(h:jp:=by
 clear hplain;go_wp2_with fail;exact jX (.tuple #[.agg #[jI 0,jI 0,.bool false,.bool false],jI 0,jI 20]) B40 ⟨by rw[HP.out];rfl,Bp24⟩):=h
def B42(h:jp:=by simp[results,results138,go_sem,z0,z1,z2,z3]):=h
def B79(h:jp:=by simp[results,results138,go_sem,p0,p1,p2,p3]):=h
def Bp9(h:jp:=by repeat (first|with_reducible exact hbT|with_reducible refine Below.drew ?_|with_reducible refine setB ?_ B1|with_reducible refine Below.alloc ?_ B1 _)):=h
def M134(h:jp:=by
 have HQ:=jH (show Ma.readArea s.data.toList=(Ma.ar0,10) by rw[HPT.out];unfold Ma.zdm;simp only[t1];rfl);clear HPT;go_wp2_with fail;exact jX (.tuple #[AR 0 0 0 0,jI 10]) B42 ⟨by rw[HQ.out];rfl,Bp9⟩):=h
def M153(h:jp:=by
 go_wp2_with fail;exact jX (.tuple #[AR 0 0 0 0,jI 20]) B42 ⟨by rw[HQ.out];rfl,Bp9⟩):=h
theorem letter_b(c:UInt8)(u:World):Calls prog 232 #[.int .u8 (c.toNat:Int)] u fun e w'=>e=jr (.bool (Ma.letterB c))/\w'=u:=by
 refine (zrp (c.toNat:Int) u).mono ?_;rintro e w' ⟨rfl,rfl⟩;refine ⟨?_,rfl⟩;have e1:∀n:Nat,decide ((n:Int)<=(c.toNat:Int))=decide (n<=c.toNat):=fun n=>by simp
 have e2:∀n:Nat,decide ((c.toNat:Int)<=(n:Int))=decide (c.toNat<=n):=fun n=>by simp
 unfold Ma.letterB;rw[show (65:Int)=((65:Nat):Int) from rfl,show (90:Int)=((90:Nat):Int) from rfl,show (97:Int)=((97:Nat):Int) from rfl,show (122:Int)=((122:Nat):Int) from rfl,e1,e1,e2,e2]
theorem digit_b(c:UInt8)(u:World):Calls prog 233 #[.int .u8 (c.toNat:Int)] u fun e w'=>e=jr (.bool (Ma.digitB c))/\w'=u:=by
 refine (zxd (c.toNat:Int) u).mono ?_;rintro e w' ⟨rfl,rfl⟩;refine ⟨?_,rfl⟩;have e1:∀n:Nat,decide ((n:Int)<=(c.toNat:Int))=decide (n<=c.toNat):=fun n=>by simp
 have e2:∀n:Nat,decide ((c.toNat:Int)<=(n:Int))=decide (c.toNat<=n):=fun n=>by simp
 unfold Ma.digitB;rw[show (48:Int)=((48:Nat):Int) from rfl,show (57:Int)=((57:Nat):Int) from rfl,e1,e2]
theorem atoi_any(s:ByteArray)(hs:s.size<=1000000)(hd:∀c∈s.data.toList,Ma.digitB c=true)(h0:s.data.toList.length≠0)(w:World)(hN:NumW w):Calls prog 235 #[jS s] w fun e w'=>
 ∃(v:Int) (ev:Value),e=jr (.tuple #[jI v,ev])/\Below w.heap.size w w'/\((Lib.atoiAll s.data.toList= .ok v/\ev= .nilIface)\/(Lib.atoiAll s.data.toList= .range/\∃t N,ev= .iface t (jU N 0))):=by
 have ha:=Ma.zev hd h0;cases he:Lib.atoiAll s.data.toList with
 |range=>
  obtain ⟨te,pe,hc⟩:=hN.rng;exact (Tryz.strconv_Atoi_range s B1 he _ w hc (.inr ⟨te,pe,rfl⟩)).mono fun e w' ⟨N,he,_,_,hb⟩=> ⟨_,_,he,hb,.inr ⟨rfl,_,N,rfl⟩⟩
 |ok v=>
  refine (Tryz.strconv_Atoi_ok s B1 v he w).mono ?_;rintro e w' ⟨rfl,h⟩;refine ⟨v,_,rfl,?_,.inl ⟨rfl,rfl⟩⟩;rcases h with rfl|⟨t,rfl⟩
  .exact jB
  .exact Lib.bytesWorld_below _ _ _
 |_=>exact absurd he ha.1
theorem zni(s:ByteArray)(hs:s.size<=100000)(w:World)(hN:NumW w):Ret 175 #[jS s] w (.tuple #[RF (Ma.readRef s.data.toList),jI ((Ma.readRef s.data.toList).n:Int),jI (Ma.readRef s.data.toList).e]):=by
 have HCP:=jH fun (s:ByteArray) (u:World)=>Tryz.strings_CutPrefix s ⟨#[36]⟩ u;have HWL:=jH fun (s:ByteArray) (hs:s.size<=1000000) (u:World)=>zlh s Ma.letterB 232 (fun args w=>by kernel_rfl) hs (jH letter_b) u;have HWD:=jH fun (s:ByteArray) (hs:s.size<=1000000) (u:World)=>zlh s Ma.digitB 233 (fun args w=>by kernel_rfl) hs (jH digit_b) u;obtain ⟨hb,kk,kz⟩:=zdb w #[jI 0,jI 0,.bool false,.bool false] 192 #[jI 0,jI 0,.bool false,.bool false] 192;go_enter func175,ntmps175;go_wp2_with fail;generalize (w.alloc (Obj.cells #[jI 0,jI 0,.bool false,.bool false] 192)).alloc (Obj.cells #[jI 0,jI 0,.bool false,.bool false] 192)=v0 at *;refine jM (HCP.out _ _) ?_;intro w1 rfl;have hsz:=Lib.size_eq s;have hr1l:(⟨(Lib.trimPrefix s.data.toList [36]).toArray⟩:ByteArray).data.toList=Lib.trimPrefix s.data.toList [36]:=rfl;have hr1s:(⟨(Lib.trimPrefix s.data.toList [36]).toArray⟩:ByteArray).size<=s.size:=by rw[hsz];exact zj6 _
 generalize (⟨(Lib.trimPrefix s.data.toList [36]).toArray⟩:ByteArray)=r1 at *;generalize hpc:Lib.hasPrefix s.data.toList [36]=pc at *;have hl1:=(jg kz);obtain ⟨f0,f1,f2,f3⟩:=zbl kz;obtain ⟨z0,z1,z2,z3⟩:=zbb kz;go_wp2_with fail;refine jM (HWL.out _ B1 _) ?_;intro w2 rfl;have hnl:=zox Ma.letterB r1;have htw:=zf4 Ma.letterB r1.data.toList;generalize hn:(r1.data.toList.takeWhile Ma.letterB).length=n at *;go_wp2_with fail;refine jM (HCP.out _ _) ?_;intro w3 rfl;have hr2l:=zej r1 n;have hr2s:(r1.extract n r1.size).data.toList.length<=r1.size:=by rw[hr2l,List.length_drop];have:r1.data.toList.length=r1.size:=rfl;omega
 have hr3l:(⟨(Lib.trimPrefix (r1.extract n r1.size).data.toList [36]).toArray⟩:ByteArray).data.toList=Lib.trimPrefix (r1.extract n r1.size).data.toList [36]:=rfl;have hr3s:(⟨(Lib.trimPrefix (r1.extract n r1.size).data.toList [36]).toArray⟩:ByteArray).size<=s.size:=jR (zj6 _) (jR hr2s hr1s);generalize (⟨(Lib.trimPrefix (r1.extract n r1.size).data.toList [36]).toArray⟩:ByteArray)=r3 at *;generalize hpr:Lib.hasPrefix (r1.extract n r1.size).data.toList [36]=pr at *;go_wp2_with fail;have kz2:=zad (zad kz 3 (.bool pc)) 2 (.bool pr);have hbs:=setB (i:=2) (x:= .bool pr) (setB (i:=3) (x:= .bool pc) (Below.refl (w.heap.size+1) w1) jE) jE;have kk2:=(hbs.block w.heap.size B1).trans kk;have hb2:Below w.heap.size w _:=hb.trans (hbs.mono B1);clear kk kz hb hbs f0 f1 f2 f3 z0 z1 z2 z3 hl1;generalize (w1.setCell (jA (w.heap.size+1) 3) (.bool pc)).setCell (jA (w.heap.size+1) 2) (.bool pr)=W2 at *;refine jM (HWD.out _ B1 _) ?_;intro w4 rfl;have hml:=zox Ma.digitB r3;have htd:=zf4 Ma.digitB r3.data.toList;have hda:∀c∈r3.data.toList.takeWhile Ma.digitB,Ma.digitB c=true:=Ma.zbn _ _;have hwa:∀c∈r1.data.toList.takeWhile Ma.letterB,Ma.letterB c=true:=Ma.zbn _ _;generalize hm:(r3.data.toList.takeWhile Ma.digitB).length=m at *;have hl2:=(jg kz2);obtain ⟨f0,f1,f2,f3⟩:=zbl kk2;obtain ⟨z0,z1,z2,z3⟩:=zbb kk2;obtain ⟨y0,y1,y2,y3⟩:=zbb kz2;obtain ⟨g0,g1,g2,g3⟩:=zbl kz2;have hplain:Ma.readRef s.data.toList=cond (n==0||m==0||((r3.extract 0 m).data.toList.getD 0 0).toNat==48) (Ma.zgy 0 20)
  (match Lib.atoiAll (r3.extract 0 m).data.toList with
   | .ok v=>cond (!(Ma.colGo 0 (Lib.toUpperA (r1.extract 0 n).data.toList)).2||decide (65536<v)) (Ma.zgy (s.size-r3.size+m) 10) ⟨v-1,(Ma.colGo 0 (Lib.toUpperA (r1.extract 0 n).data.toList)).1,pr,pc,s.size-r3.size+m,0⟩
   |_=>Ma.zgy (s.size-r3.size+m) 10):=by
  unfold Ma.readRef;have e3:r3.data.toList.length=r3.size:=rfl;have e4:s.data.toList.length=s.size:=rfl;simp only[zcf,htw,htd,<-hr1l,hn,<-hr2l,<-hr3l,hm,hpr,hpc,e3,e4];rfl
 clear hr1l hr2l hr3l;rw[zcf,htd] at hplain;rw[zcf,htw] at hplain;have hwl:(r1.extract 0 n).data.toList=r1.data.toList.takeWhile Ma.letterB:=by rw[zcf,htw]
 have hdl:(r3.extract 0 m).data.toList=r3.data.toList.takeWhile Ma.digitB:=by rw[zcf,htd]
 rw[<-hwl,<-hdl] at hplain;rw[<-hdl] at hda;rw[<-hwl] at hwa;have hws:(r1.extract 0 n).size<=100000:=by rw[Lib.size_eq,hwl,hn];omega
 have hds:(r3.extract 0 m).size=m:=by rw[Lib.size_eq,hdl,hm]
 clear htw htd hwl hdl hr1s hr2s hsz;generalize r1.extract 0 n=word at *;generalize hdg:r3.extract 0 m=digits at *;have HCo:=jH fun (u:World)=>zsf word hws hwa u;have hd0:∀h:0<digits.size,(digits.data.toList.getD 0 0).toNat=digits[0].toNat:=fun h=>by
  rw[List.getD_eq_getElem?_getD,List.getElem?_eq_getElem (show 0<digits.data.toList.length from h)];rfl
 cases tn:(n==0)
 case true=>
  have tn2:((n:Int)==0)=true:=by simpa using tn
  have HP:=jH (show Ma.readRef s.data.toList=Ma.zgy 0 20 by rw[hplain,tn];rfl);exact M108
 have tn2:((n:Int)==0)=false:=by simpa using tn
 cases tm:(m==0)
 case true=>
  have tm2:((m:Int)==0)=true:=by simpa using tm
  have HP:=jH (show Ma.readRef s.data.toList=Ma.zgy 0 20 by rw[hplain,tm];simp);exact M108
 have tm2:((m:Int)==0)=false:=by simpa using tm
 have hd1:0<digits.size:=by
  have:m≠0:=by simpa using tm
  omega
 have hdz:=hd0 hd1;cases td:(digits[0].toNat==48)
 case true=>
  have td2:((digits[0].toNat:Int)==48)=true:=by rw[beq_iff_eq] at td ⊢;omega
  have HP:=jH (show Ma.readRef s.data.toList=Ma.zgy 0 20 by rw[hplain,hdz,td];simp);exact M108
 have td2:((digits[0].toNat:Int)==48)=false:=by rw[beq_eq_false_iff_ne] at td ⊢;omega
 have HP0:=jH (show Ma.readRef s.data.toList=_ by rw[hplain,tn,tm,hdz,td]);clear hplain;have hnb:((s.size-r3.size+m:Nat):Int)=(s.size:Int)-r3.size+m:=B1;have HNB:=jH hnb;clear hnb;go_wp2_with fail;refine jM (HCo.out _) ?_;intro w5 hb5;generalize Ma.colGo 0 (Lib.toUpperA word.data.toList)=cl at *;obtain ⟨cv,cok⟩:=cl;have hb25:=jN hb2 hb5;go_wp2_with fail;refine (atoi_any digits B1 hda (show digits.size≠0 by omega) _ (hN.below hb25)).mono ?_;rintro e w6 ⟨v,ev,rfl,hb6,hv⟩;have hbT:=jN hb25 hb6;have h56:=jN hb5 hb6;have kk6:=(h56.block w.heap.size B1).trans kk2;have kz6:=(h56.block (w.heap.size+1) hl2).trans kz2;clear hb2 hb5 hb6 hb25 h56 kk2 kz2 f0 f1 f2 f3 z0 z1 z2 z3 y0 y1 y2 y3 g0 g1 g2 g3 hl2;have hl2:=(jg kz6);obtain ⟨f0,f1,f2,f3⟩:=zbl kk6;obtain ⟨z0,z1,z2,z3⟩:=zbb kk6;obtain ⟨y0,y1,y2,y3⟩:=zbb kz6;obtain ⟨g0,g1,g2,g3⟩:=zbl kz6;cases cok
 .have HP:=jH (show Ma.readRef s.data.toList=Ma.zgy (s.size-r3.size+m) 10 by
   rw[HP0.out];rcases hv with ⟨he,_⟩|⟨he,_⟩ <;> rw[he] <;> rfl)
  exact M93
 .rcases hv with ⟨he,rfl⟩|⟨he,t,N,rfl⟩
  .cases tv:decide (65536<v)
   .have HP:=jH (show Ma.readRef s.data.toList=⟨v-1,cv,pr,pc,s.size-r3.size+m,0⟩ by rw[HP0.out,he];simp only[tv];rfl);have hv2:=(Ma.zev hda (show digits.size≠0 by omega)).2 v he;have hv3:=hv2.1;have hv4:=of_decide_eq_false tv;clear HP0 hv2;go_wp2_with fail;exact jX (.tuple #[.agg #[jI (v-1),jI cv,.bool pr,.bool pc],jI ((s.size:Int)-r3.size+m),jI 0]) B40 ⟨by rw[HP.out,<-HNB.out];try rfl,Bp3⟩
   .have HP:=jH (show Ma.readRef s.data.toList=Ma.zgy (s.size-r3.size+m) 10 by rw[HP0.out,he];simp only[tv];rfl);exact M93
  .have HP:=jH (show Ma.readRef s.data.toList=Ma.zgy (s.size-r3.size+m) 10 by rw[HP0.out,he];rfl);exact M93
theorem zt4(l:List UInt8):(Ma.readRef l).n<=l.length:=by
 unfold Ma.readRef;simp only;have h1:=zj6 l;generalize Lib.trimPrefix l [36]=r1 at *;generalize (r1.takeWhile Ma.letterB)=word at *;have h2:=zj6 (r1.drop word.length);rw[List.length_drop] at h2;generalize Lib.trimPrefix (r1.drop word.length) [36]=r3 at *;have h3:=(List.takeWhile_prefix (l:=r3) Ma.digitB).length_le;generalize r3.takeWhile Ma.digitB=digits at *;cases (word.length==0||digits.length==0||(digits.getD 0 0).toNat==48)
 .cases Lib.atoiAll digits with
  |ok v=>
   simp only[cond_false];cases (!(Ma.colGo 0 (Lib.toUpperA word)).2||decide (65536<v))
   .show l.length-r3.length+digits.length<=l.length;omega
   .show l.length-r3.length+digits.length<=l.length;omega
  |_=>show l.length-r3.length+digits.length<=l.length;omega
 .exact Nat.zero_le _
theorem zhm{w w3:World}{T:TypeId}{p0 p1 p2 p3:Int}(kk:w3.heap[w.heap.size]?=some (.cells #[jI p0,jI p1,jI p2,jI p3] T (0,0)))(hb:Below w.heap.size w w3)(x0 x1 x2 x3:Int)(o:Obj)(W:World)(hW:((((w3.setCell (jA w.heap.size 0) (jI x0)).setCell (jA w.heap.size 1) (jI x1)).setCell (jA w.heap.size 2) (jI x2)).setCell (jA w.heap.size 3) (jI x3)).alloc o=W):
 (W.cell? (jA w.heap.size 0)=some (jI x0)/\W.cell? (jA w.heap.size 1)=some (jI x1)/\W.cell? (jA w.heap.size 2)=some (jI x2)/\W.cell? (jA w.heap.size 3)=some (jI x3))/\Below w.heap.size w W:=by
 have k:=zad (zad (zad (zad kk 0 (jI x0)) 1 (jI x1)) 2 (jI x2)) 3 (jI x3);have hB:=setB (i:=3) (x:=jI x3) (setB (i:=2) (x:=jI x2) (setB (i:=1) (x:=jI x1) (setB (i:=0) (x:=jI x0) hb jE) jE) jE) jE;subst hW;exact ⟨zah (zai (o:=o) k),hB.alloc hB.size o⟩
theorem zlt(s:ByteArray)(hs:s.size<=100000)(w:World)(hN:NumW w):Ret 138 #[jS s] w (.tuple #[AR (Ma.readArea s.data.toList).1.t (Ma.readArea s.data.toList).1.l (Ma.readArea s.data.toList).1.b (Ma.readArea s.data.toList).1.r,jI (Ma.readArea s.data.toList).2]):=by
 have HR:=jH fun (s:ByteArray) (hs:s.size<=100000) (u:World) (hN:NumW u)=>zni s hs u hN;obtain ⟨hb,kk⟩:=zbd w #[jI 0,jI 0,jI 0,jI 0] 62;go_enter func138,ntmps138;go_wp2_with fail;generalize w.alloc (Obj.cells #[jI 0,jI 0,jI 0,jI 0] 62)=v0 at *;refine jM (HR.out s hs _ (hN.below hb)) ?_;intro w1 hb1;have hn1:=zt4 s.data.toList;rw[<-Lib.size_eq] at hn1;have hok:(Ma.readRef s.data.toList).e=0->Ma.mayS ⟨(Ma.readRef s.data.toList).row,(Ma.readRef s.data.toList).col⟩=true:=Ma.zca;have HP:=jH (show Ma.readArea s.data.toList=cond ((Ma.readRef s.data.toList).e==20) (Ma.ar0,20) (match s.data.toList.drop (Ma.readRef s.data.toList).n with
  |[]=>Ma.zdm (Ma.readRef s.data.toList) (Ma.readRef s.data.toList)
  |c::r=>cond (c.toNat !=58) (Ma.ar0,20)<|cond ((Ma.readRef r).e==20||(Ma.readRef r).n !=r.length) (Ma.ar0,20) (Ma.zdm (Ma.readRef s.data.toList) (Ma.readRef r))) from rfl)
 generalize Ma.readRef s.data.toList=a at *;obtain ⟨arow,acol,apr,apc,an,ae⟩:=a;simp only at hn1 hok HP ⊢;have kk1:=jk hb1 kk;have hb1w:=jN hb hb1;have hlo:w.heap.size<w1.heap.size:=(jg kk1);have ka:=heap_alloc_new w1 (Obj.cells #[jI arow,jI acol,.bool apr,.bool apc] 192);have kk2:=zai (o:=Obj.cells #[jI arow,jI acol,.bool apr,.bool apc] 192) kk1;have hb2:=hb1w.alloc hb1w.size (Obj.cells #[jI arow,jI acol,.bool apr,.bool apc] 192);go_upto_region 2 with fail;generalize w1.alloc (Obj.cells #[jI arow,jI acol,.bool apr,.bool apc] 192)=w2 at *;generalize w1.heap.size=b4 at *;clear kk kk1 hb hb1 hb1w;have hl4:=(jg ka);obtain ⟨z0,z1,z2,z3⟩:=zah kk2;obtain ⟨f0,f1,f2,f3⟩:=zas kk2;obtain ⟨x0,x1,x2,x3⟩:=zbb ka;cases t20:(ae==20)
 case true=>
  obtain rfl:ae=20:=by simpa using t20
  have hbT:=hb2;have HP2:=jH (show Ma.readArea s.data.toList=(Ma.ar0,20) by rw[HP.out,t20];rfl);clear HP;go_wp2_with fail;exact jX (.tuple #[AR 0 0 0 0,jI 20]) B42 ⟨by rw[HP2.out];rfl,Bp9⟩
 have HP1:=jH (show Ma.readArea s.data.toList=(match s.data.toList.drop an with
  |[]=>Ma.zdm ⟨arow,acol,apr,apc,an,ae⟩ ⟨arow,acol,apr,apc,an,ae⟩
  |c::r=>cond (c.toNat !=58) (Ma.ar0,20)<|cond ((Ma.readRef r).e==20||(Ma.readRef r).n !=r.length) (Ma.ar0,20) (Ma.zdm ⟨arow,acol,apr,apc,an,ae⟩ (Ma.readRef r))) by rw[HP.out,t20];rfl)
 clear HP;have hrl:=zej s an;have hrs:(s.extract an s.size).size<=100000:=by rw[Lib.size_eq,hrl,List.length_drop,<-Lib.size_eq];omega
 go_upto_region 6 with fail;generalize s.extract an s.size=rest at *;have kb3:=heap_alloc_new w2 (Obj.cells #[jI arow,jI acol,.bool apr,.bool apc] 192);have ka3:=zai (o:=Obj.cells #[jI arow,jI acol,.bool apr,.bool apc] 192) ka;have kk3:=zai (o:=Obj.cells #[jI arow,jI acol,.bool apr,.bool apc] 192) kk2;have hb3:=hb2.alloc hb2.size (Obj.cells #[jI arow,jI acol,.bool apr,.bool apc] 192);have h47:b4<w2.heap.size:=hl4;generalize w2.alloc (Obj.cells #[jI arow,jI acol,.bool apr,.bool apc] 192)=w3 at *;generalize w2.heap.size=b7 at *;clear kk2 ka hb2 hl4 z0 z1 z2 z3 f0 f1 f2 f3 x0 x1 x2 x3;have hl7:=(jg kb3);have hlw:w.heap.size<w3.heap.size:=B1;have h4w:b4<w3.heap.size:=B1;obtain ⟨z0,z1,z2,z3⟩:=zah kk3;obtain ⟨f0,f1,f2,f3⟩:=zas kk3;obtain ⟨x0,x1,x2,x3⟩:=zbb ka3;obtain ⟨y0,y1,y2,y3⟩:=zbb kb3;obtain ⟨g0,g1,g2,g3⟩:=zbl kb3;have hre:rest.toList=rest.data.toList:=ByteArray.toList_eq rest;cases hrd:rest.data.toList with
 |nil=>
  have tr:rest.toList.isEmpty=true:=by rw[hre,hrd];rfl
  have HPT:=jH (show Ma.readArea s.data.toList=Ma.zdm ⟨arow,acol,apr,apc,an,ae⟩ ⟨arow,acol,apr,apc,an,ae⟩ by rw[HP1.out,<-hrl,hrd]);have hbT:=hb3;clear HP1 hrd hrl hre;cases t1:(ae !=0)
  case true=>
   exact M134
  have t2:=t1;have hma:=hok (by simpa using t1);have hmb:=hok (by simpa using t2);simp only[Ma.mayS,Bool.and_eq_true,decide_eq_true_eq] at hma hmb;have HQ0:=jH (show Ma.readArea s.data.toList=cond (decide (4096<(max arow arow-min arow arow+1)*(max acol acol-min acol acol+1))) (Ma.ar0,11) (⟨min arow arow,min acol acol,max arow arow,max acol acol⟩,0) by rw[HPT.out];unfold Ma.zdm;simp only[t1,t2];rfl);clear HPT;have n1:0<=min arow arow/\min arow arow<=max arow arow/\max arow arow<65536/\0<=min acol acol/\min acol acol<=max acol acol/\max acol acol<702:=B1;generalize hct:min arow arow=ct at *;generalize hcl:min acol acol=cl at *;generalize hcb:max arow arow=cb at *;generalize hcr:max acol acol=cr at *;clear hma hmb;obtain ⟨n1,n2,n3,n4,n5,n6⟩:=n1;obtain ⟨d1,v1⟩:∃d1,IntKind.i64.wrap (cb-ct)=d1:=⟨_,rfl⟩;have e1:d1=cb-ct:=v1.symm.trans (zae B1 B1);obtain ⟨hh,v2⟩:∃hh,IntKind.i64.wrap (d1+1)=hh:=⟨_,rfl⟩;have e2:hh=d1+1:=v2.symm.trans (zae B1 B1);obtain ⟨d2,v3⟩:∃d2,IntKind.i64.wrap (cr-cl)=d2:=⟨_,rfl⟩;have e3:d2=cr-cl:=v3.symm.trans (zae B1 B1);obtain ⟨vv,v4⟩:∃vv,IntKind.i64.wrap (d2+1)=vv:=⟨_,rfl⟩;have e4:vv=d2+1:=v4.symm.trans (zae B1 B1);have hp0:0<=hh*vv:=Int.mul_nonneg B1 B1;have hp1:hh*vv<=65536*702:=Int.mul_le_mul B1 B1 B1 B1;obtain ⟨pp,v5⟩:∃pp,IntKind.i64.wrap (hh*vv)=pp:=⟨_,rfl⟩;have e5:pp=hh*vv:=v5.symm.trans (zae B1 B1);have HQ:=jH (show Ma.readArea s.data.toList=cond (decide (4096<pp)) (Ma.ar0,11) (⟨ct,cl,cb,cr⟩,0) by rw[HQ0.out,e5,e2,e4,e1,e3]);clear HQ0 e1 e2 e3 e4 e5 hp0 hp1 n1 n2 n3 n4 n5 n6;cases t3:decide (4096<pp)
  .have HQ2:=jH (show Ma.readArea s.data.toList=(⟨ct,cl,cb,cr⟩,0) by rw[HQ.out,t3];rfl);clear HQ;go_wp2_with fail;generalize hW:World.alloc _ _=W at *;obtain ⟨⟨p0,p1,p2,p3⟩,hbW⟩:=zhm kk3 hbT _ _ _ _ _ W hW;exact jX (.tuple #[AR ct cl cb cr,jI 0]) B79 ⟨by rw[HQ2.out];try rfl,hbW⟩
  .have HQ2:=jH (show Ma.readArea s.data.toList=(Ma.ar0,11) by rw[HQ.out,t3];rfl);clear HQ;go_wp2_with fail;generalize hW:World.alloc _ _=W at *;obtain ⟨⟨p0,p1,p2,p3⟩,hbW⟩:=zhm kk3 hbT _ _ _ _ _ W hW;exact jX (.tuple #[AR 0 0 0 0,jI 11]) B79 ⟨by rw[HQ2.out];try rfl,hbW⟩
 |cons c r=>
  have tr:rest.toList.isEmpty=false:=by rw[hre,hrd];rfl
  have h0:0<rest.size:=by rw[Lib.size_eq,hrd];simp
  have hc0:rest[0].toNat=c.toNat:=by
   have:rest.data.toList[0]?=some c:=by rw[hrd];rfl
   rw[List.getElem?_eq_getElem (show 0<rest.data.toList.length from h0)] at this;rw[<-Option.some.inj this];rfl
  have hrz:rest.size=r.length+1:=by rw[Lib.size_eq,hrd];rfl
  have HP2:=jH (show Ma.readArea s.data.toList=(cond (c.toNat !=58) (Ma.ar0,20)<|cond ((Ma.readRef r).e==20||(Ma.readRef r).n !=r.length) (Ma.ar0,20) (Ma.zdm ⟨arow,acol,apr,apc,an,ae⟩ (Ma.readRef r))) by rw[HP1.out,<-hrl,hrd]);have he2:(rest.extract 1 rest.size).data.toList=r:=by rw[zej,hrd];rfl
  have HR2:=HR.out (rest.extract 1 rest.size) (by rw[Lib.size_eq,he2];omega) w3 (hN.below hb3);rw[he2] at HR2;have HRZ:=jH hrz;clear HP1 hrd hrl hre he2 hrz;cases tc:(c.toNat !=58)
  case true=>
   have tc2:((rest[0].toNat:Int) !=58)=true:=by rw[bne_iff_ne] at tc ⊢;omega
   have hbT:=hb3;have HQ:=jH (show Ma.readArea s.data.toList=(Ma.ar0,20) by rw[HP2.out,tc];rfl);clear HP2 HR2;exact M153
  have tc2:((rest[0].toNat:Int) !=58)=false:=by rw[bne_eq_false_iff_eq] at tc ⊢;omega
  have HP3:=jH (show Ma.readArea s.data.toList=(cond ((Ma.readRef r).e==20||(Ma.readRef r).n !=r.length) (Ma.ar0,20) (Ma.zdm ⟨arow,acol,apr,apc,an,ae⟩ (Ma.readRef r))) by rw[HP2.out,tc];rfl);have HR3:=jH HR2;have hokb:(Ma.readRef r).e=0->Ma.mayS ⟨(Ma.readRef r).row,(Ma.readRef r).col⟩=true:=Ma.zca;clear HP2 HR2;go_wp2_with fail;refine jM HR3.out ?_;intro w8 hb8;clear HR3;generalize Ma.readRef r=b at *;obtain ⟨brow,bcol,bpr,bpc,bn,be⟩:=b;simp only at hokb HP3 ⊢;have kk8:=(hb8.block _ hlw).trans kk3;have ka8:=(hb8.block _ h4w).trans ka3;have kb8:=(hb8.block _ hl7).trans kb3;have hb3':=jN hb3 hb8;clear kk3 ka3 kb3 hb8 z0 z1 z2 z3 f0 f1 f2 f3 x0 x1 x2 x3 y0 y1 y2 y3 g0 g1 g2 g3 hb3 hlw h4w hl7;have hl7:=(jg kb8);obtain ⟨g0,g1,g2,g3⟩:=zbl kb8;obtain ⟨y0,y1,y2,y3⟩:=zbb kb8;have kb9:=zad (zad (zad (zad kb8 0 (jI brow)) 1 (jI bcol)) 2 (.bool bpr)) 3 (.bool bpc);have hbs:=setB (i:=3) (x:= .bool bpc) (setB (i:=2) (x:= .bool bpr) (setB (i:=1) (x:=jI bcol) (setB (i:=0) (x:=jI brow) (Below.refl b7 w8) jE) jE) jE) jE;have ka9:=(hbs.block b4 h47).trans ka8;have kk9:=(hbs.block w.heap.size B1).trans kk8;have hbT:Below w.heap.size w _:=hb3'.trans (hbs.mono B1);go_upto_region 11 with fail;generalize World.setCell (World.setCell _ _ _) _ _=w9 at *;clear hbs kb8 ka8 kk8 hb3' y0 y1 y2 y3 g0 g1 g2 g3 hl7;have hl7:=(jg kb9);have hlw:w.heap.size<w9.heap.size:=B1;have h4w:b4<w9.heap.size:=B1;obtain ⟨z0,z1,z2,z3⟩:=zah kk9;obtain ⟨f0,f1,f2,f3⟩:=zas kk9;obtain ⟨x0,x1,x2,x3⟩:=zbb ka9;obtain ⟨y0,y1,y2,y3⟩:=zbb kb9;obtain ⟨g0,g1,g2,g3⟩:=zbl kb9;cases tb:(be==20)
  case true=>
   have HQ:=jH (show Ma.readArea s.data.toList=(Ma.ar0,20) by rw[HP3.out];simp only[tb];rfl);clear HP3;exact M153
  cases tl:(bn !=r.length)
  case true=>
   have tl2:((bn:Int) !=(rest.size:Int)-1)=true:=by rw[bne_iff_ne] at tl ⊢;have:=HRZ.out;omega
   have HQ:=jH (show Ma.readArea s.data.toList=(Ma.ar0,20) by rw[HP3.out];simp only[tb,tl];rfl);clear HP3;exact M153
  have tl2:((bn:Int) !=(rest.size:Int)-1)=false:=by rw[bne_eq_false_iff_eq] at tl ⊢;have:=HRZ.out;omega
  have HPT:=jH (show Ma.readArea s.data.toList=Ma.zdm ⟨arow,acol,apr,apc,an,ae⟩ ⟨brow,bcol,bpr,bpc,bn,be⟩ by rw[HP3.out];simp only[tb,tl];rfl);clear HP3;cases t1:(ae !=0)
  case true=>
   exact M134
  cases t2:(be !=0)
  case true=>
   have HQ:=jH (show Ma.readArea s.data.toList=(Ma.ar0,10) by rw[HPT.out];unfold Ma.zdm;simp only[t1,t2];rfl);clear HPT;go_wp2_with fail;exact jX (.tuple #[AR 0 0 0 0,jI 10]) B42 ⟨by rw[HQ.out];rfl,Bp9⟩
  have hma:=hok (by simpa using t1);have hmb:=hokb (by simpa using t2);simp only[Ma.mayS,Bool.and_eq_true,decide_eq_true_eq] at hma hmb;have HQ0:=jH (show Ma.readArea s.data.toList=cond (decide (4096<(max arow brow-min arow brow+1)*(max acol bcol-min acol bcol+1))) (Ma.ar0,11) (⟨min arow brow,min acol bcol,max arow brow,max acol bcol⟩,0) by rw[HPT.out];unfold Ma.zdm;simp only[t1,t2];rfl);clear HPT;have n1:0<=min arow brow/\min arow brow<=max arow brow/\max arow brow<65536/\0<=min acol bcol/\min acol bcol<=max acol bcol/\max acol bcol<702:=B1;generalize hct:min arow brow=ct at *;generalize hcl:min acol bcol=cl at *;generalize hcb:max arow brow=cb at *;generalize hcr:max acol bcol=cr at *;clear hma hmb;obtain ⟨n1,n2,n3,n4,n5,n6⟩:=n1;obtain ⟨d1,v1⟩:∃d1,IntKind.i64.wrap (cb-ct)=d1:=⟨_,rfl⟩;have e1:d1=cb-ct:=v1.symm.trans (zae B1 B1);obtain ⟨hh,v2⟩:∃hh,IntKind.i64.wrap (d1+1)=hh:=⟨_,rfl⟩;have e2:hh=d1+1:=v2.symm.trans (zae B1 B1);obtain ⟨d2,v3⟩:∃d2,IntKind.i64.wrap (cr-cl)=d2:=⟨_,rfl⟩;have e3:d2=cr-cl:=v3.symm.trans (zae B1 B1);obtain ⟨vv,v4⟩:∃vv,IntKind.i64.wrap (d2+1)=vv:=⟨_,rfl⟩;have e4:vv=d2+1:=v4.symm.trans (zae B1 B1);have hp0:0<=hh*vv:=Int.mul_nonneg B1 B1;have hp1:hh*vv<=65536*702:=Int.mul_le_mul B1 B1 B1 B1;obtain ⟨pp,v5⟩:∃pp,IntKind.i64.wrap (hh*vv)=pp:=⟨_,rfl⟩;have e5:pp=hh*vv:=v5.symm.trans (zae B1 B1);have HQ:=jH (show Ma.readArea s.data.toList=cond (decide (4096<pp)) (Ma.ar0,11) (⟨ct,cl,cb,cr⟩,0) by rw[HQ0.out,e5,e2,e4,e1,e3]);clear HQ0 e1 e2 e3 e4 e5 hp0 hp1 n1 n2 n3 n4 n5 n6;cases t3:decide (4096<pp)
  .have HQ2:=jH (show Ma.readArea s.data.toList=(⟨ct,cl,cb,cr⟩,0) by rw[HQ.out,t3];rfl);clear HQ;go_wp2_with fail;generalize hW:World.alloc _ _=W at *;obtain ⟨⟨p0,p1,p2,p3⟩,hbW⟩:=zhm kk9 hbT _ _ _ _ _ W hW;exact jX (.tuple #[AR ct cl cb cr,jI 0]) B79 ⟨by rw[HQ2.out];try rfl,hbW⟩
  .have HQ2:=jH (show Ma.readArea s.data.toList=(Ma.ar0,11) by rw[HQ.out,t3];rfl);clear HQ;go_wp2_with fail;generalize hW:World.alloc _ _=W at *;obtain ⟨⟨p0,p1,p2,p3⟩,hbW⟩:=zhm kk9 hbT _ _ _ _ _ W hW;exact jX (.tuple #[AR 0 0 0 0,jI 11]) B79 ⟨by rw[HQ2.out];try rfl,hbW⟩
