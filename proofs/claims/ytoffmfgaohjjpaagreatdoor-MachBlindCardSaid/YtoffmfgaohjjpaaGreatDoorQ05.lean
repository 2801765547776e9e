import Derived.Laws.CopyOwn
import Derived.Lib.BufferRead
import Derived.Deep.OwnRows
import Derived.Test.YtoffmfgaohjjpaaGreatDoorQ03
set_option linter.unusedVariables false
set_option linter.unusedSectionVars false
set_option linter.unusedSimpArgs false
open Go.Proofs.Tryz
set_option maxHeartbeats 8000000
variable{jp:Sort _}
set_option maxRecDepth 100000
namespace Go.Proofs.YtoffmfgaohjjpaaGreatDoor
open Go.RowKit
def Bp45(h:jp:=by have:=HK.out;rw[Run.zhp s pos hp] at this;exact jH B1):=h
def C33(h:jp:=by
 have hnx:∀ty,(Instr.next (jU w.heap.size 0) true ty).run prog wr=_:=fun ty=>Lib.run_next_any_at wr w.heap.size s pos ty hit hp;have hwd:=Run.zhs s pos;have hwl:=Run.zql s pos hp;have hd1:=decode_le s pos;have hit2:=Lib.iterAt_heap wr w.heap.size s pos (pos+(Utf8.decode s pos).2) hit;have hbw2:=Lib.below_iterAt hbw (k:=w.heap.size) jE s (pos+(Utf8.decode s pos).2);exact K33):=h
def X147.K33(h:jp:=by
 have HK2:Hid (k+1+Run.cnt s (pos+Run.wd s pos)=Run.cnt s 0):=Bp45;have hk2:k+1<=140737488351232:=by have:=HK2.out;omega
 rw[<-Run.wd_eq] at hit2 hbw2 hnx;generalize Run.wd s pos=d at *;generalize wr.iterAt w.heap.size s (pos+d)=W1 at *;generalize (Utf8.decode s pos).1=r at *;clear HK;go_wp2;go_roundw
 case rel=>exact ⟨pos+d,k+1,by go_num,hwl,HK2,hk2,hit2,hbw2⟩
 case measure=>
  simp only[World.iterPos,hit2,hit];omega):=h
def B39(h:jp:=by rw[beq_eq_false_iff_ne];omega):=h
def X148.K33(h:jp:=by
 rw[<-Run.wd_eq] at hit2 hbw2 hnx
 by_cases hk0:k=0
 .subst hk0;have HE:Hid (pos=q):=HK;generalize Run.wd s pos=d at *;generalize wr.iterAt w.heap.size s (pos+d)=W1 at *;generalize (Utf8.decode s pos).1=r at *;clear HK;go_wp2;go_ret;exact ⟨by rw[<-HE.out];rfl,hbw2⟩
 .obtain ⟨j,rfl⟩:∃j,k=j+1:=⟨k-1,B1⟩;have HK2:Hid (Run.adv s j (pos+Run.wd s pos)=q):=by have:=HK.out;rw[Run.zb9 s j pos hp] at this;exact this
  generalize Run.wd s pos=d at *;generalize wr.iterAt w.heap.size s (pos+d)=W1 at *;generalize (Utf8.decode s pos).1=r at *;clear HK hk0;have t0:(((j+1:Nat):Int)==0)=false:=B39;go_wp2;go_roundw
  case rel=>exact ⟨pos+d,j,by first|rfl|go_num,hwl,HK2,by omega,hit2,hbw2⟩
  case measure=>
   simp only[World.iterPos,hit2,hit];omega):=h
def M137(h:jp:=by
 go_enter func208,ntmps208;go_wp2_with fail;refine jM (HL.out _) ?_;intro w1 hb1;go_wp2_with fail;refine jM (HB.out _) ?_;intro w2 hb2;go_wp2;go_ret2;exact ⟨rfl,jN hb1 hb2⟩):=h
def M133(h:jp:=by
 have H:=jH (fun w=>Tryz.utf8_ValidRune n w);rw[hv] at H;clear hv;go_enter func227,ntmps227;go_wp2_with fail;refine (H.out _).mono ?_;rintro e w' ⟨rfl,rfl⟩;go_wp2;go_ret2;exact ⟨rfl,rfl⟩):=h
section
variable(s:ByteArray)
include s
theorem zky(w:World)(hs:s.size<=140737488351232):
 Ret 203 #[jS s] w (jI (Run.cnt s 0:Int)):=by
 have hcl:=Run.zbt s;go_enter func203,ntmps203;go_wp2;go_loopw [3] (fun n wr=>∃(pos k:Nat),n=jI (k:Int)/\pos<=s.size/\Hid (k+Run.cnt s pos=Run.cnt s 0)/\k<=140737488351232/\wr.heap[w.heap.size]?=some (.stringIter s pos)/\Below w.heap.size w wr) (fun _ wr=>s.size-wr.iterPos w.heap.size)
 case atStart=>
  exact ⟨0,0,rfl,by omega,jH B1,by omega,by simpa using World.iter_heap w s 0,(Below.refl _ w).alloc jE _⟩
 case round=>
  obtain ⟨pos,k,rfl,hpos,HK,hk,hit,hbw⟩:=hrel;have hsz:w.heap.size<wr.heap.size:=(jg hit)
  by_cases hp:pos<s.size
  .open X147 in exact C33
  .have hnx:∀ty,(Instr.next (jU w.heap.size 0) true ty).run prog wr=_:=fun ty=>Lib.run_next_end_at wr w.heap.size s pos ty hit hp;have HE:Hid (k=Run.cnt s 0):=by have:=HK.out;rw[Run.zgd s pos hp] at this;exact jH B1
   clear HK;go_wp2;go_ret;exact ⟨by rw[<-HE.out];rfl,hbw⟩
section
variable(n q:Nat)(w:World)(hs:s.size<=140737488351232)(hn:n<=9223372036854775807)(hq:Run.adv s n 0=q)
include n q w hs hn hq
theorem zd7:
 Ret 257 #[jS s,jI (n:Int)] w (jI (q:Int)):=by
 have HQ:=jH hq;clear hq;go_enter func257,ntmps257;go_wp2;go_loopw [1] (fun v wr=>∃(pos k:Nat),v=jI (k:Int)/\pos<=s.size/\Hid (Run.adv s k pos=q)/\k<=9223372036854775807/\wr.heap[w.heap.size]?=some (.stringIter s pos)/\Below w.heap.size w wr) (fun _ wr=>s.size-wr.iterPos w.heap.size)
 case atStart=>
  exact ⟨0,n,rfl,by omega,HQ,by omega,by simpa using World.iter_heap w s 0,(Below.refl _ w).alloc jE _⟩
 case round=>
  obtain ⟨pos,k,rfl,hpos,HK,hk,hit,hbw⟩:=hrel;have hsz:w.heap.size<wr.heap.size:=(jg hit)
  by_cases hp:pos<s.size
  .open X148 in exact C33
  .have hnx:∀ty,(Instr.next (jU w.heap.size 0) true ty).run prog wr=_:=fun ty=>Lib.run_next_end_at wr w.heap.size s pos ty hit hp;have HE:Hid (s.size=q):=by have:=HK.out;rw[Run.zdu s k pos hp] at this;exact jH B1
   clear HK;go_wp2;go_ret;exact ⟨by rw[<-HE.out];rfl,hbw⟩
theorem left_any:
 Ret 205 #[jS s,jI (n:Int)] w (.tuple #[jS (s.extract 0 q),jI 0]):=by
 have hql:q<=s.size:=by rw[<-hq];exact Run.zeg s n 0 B1
 have HB:=jH (fun w=>zd7 s n q w hs hn hq);clear hq;go_enter func205,ntmps205;go_wp2_with fail;refine jM (HB.out _) ?_;intro w1 hb;go_wp2;go_ret2;exact ⟨rfl,hb⟩
end
theorem zt0(n p:Nat)(w:World)(hs:s.size<=140737488351232)(hn:n<=9223372036854775807)(hp:Run.adv s (Run.cnt s 0-n) 0=p):
 Ret 208 #[jS s,jI (n:Int)] w (.tuple #[jS (s.extract p s.size),jI 0]):=by
 have hpl:p<=s.size:=by rw[<-hp];exact Run.zeg s _ 0 B1
 have hcl:=Run.zbt s;have HL:=jH (fun w=>zky s w hs);have HB:=jH (fun w=>zd7 s _ p w hs B1 hp);generalize Run.cnt s 0=c at *;clear hp
 by_cases h:n<=c
 .obtain ⟨m,hm⟩:∃m,c-n=m:=⟨_,rfl⟩;rw[hm] at HB;have e1:(c:Int)-(n:Int)=(m:Int):=B1;have e2:¬(m:Int)<0:=B1;have hm1:m<=140737488351232:=B1;clear hm h;exact M137
 .rw[show c-n=0 by omega] at HB;have e1:(c:Int)-(n:Int)<0:=B1;clear h;go_enter func208,ntmps208;go_wp2_with fail;refine jM (HL.out _) ?_;intro w1 hb1;go_wp2_with fail;rw[show max ((c:Int)-n) 0=(0:Nat) by omega];refine jM (HB.out _) ?_;intro w2 hb2;go_wp2;go_ret2;exact ⟨rfl,jN hb1 hb2⟩
end
theorem mid_any(s t:ByteArray)(m n p q:Nat)(w:World)(hs:s.size<=140737488351232)(hm:m<=9223372036854775806)(hn:n<=9223372036854775807)(hp:Run.adv s m 0=p)(ht:s.extract p s.size=t)(hq:Run.adv t n 0=q):
 Ret 210 #[jS s,jI ((m:Int)+1),jI (n:Int)] w (.tuple #[jS (t.extract 0 q),jI 0]):=by
 have hpl:p<=s.size:=by rw[<-hp];exact Run.zeg s m 0 B1
 have hts:t.size<=140737488351232:=by rw[<-ht,Run.ze5];omega
 have hql:q<=t.size:=by rw[<-hq];exact Run.zeg t n 0 B1
 have H1:=jH (fun w=>zd7 s m p w hs B1 hp);have H2:=jH (fun w=>zd7 t n q w hts hn hq);clear hp hq;go_enter func210,ntmps210;go_wp2_with fail;have e1:(m:Int)+1-1=(m:Int):=B1
 try rw[e1]
 refine jM (H1.out _) ?_;intro w1 hb1;go_wp2_with fail;refine jM (H2.out _) ?_;intro w2 hb2;go_wp2;go_ret2;exact ⟨rfl,jN hb1 hb2⟩
theorem code_any(s:ByteArray)(r:Nat)(w:World)(hs:s.size<=140737488351232)(hz:0<s.size)(hr:(Utf8.decode s 0).1=r):
 Ret 225 #[jS s] w (.tuple #[jI (r:Int),jI 0]):=by
 have hrl:=decode_le s 0;rw[hr] at hrl;go_enter func225,ntmps225;go_wp2;have hit:(w.iter s 0).heap[w.heap.size]?=some (.stringIter s 0):=by simpa using World.iter_heap w s 0
 have hnx:∀ty,(Instr.next (jU w.heap.size 0) true ty).run prog (w.iter s 0)=_:=fun ty=>Lib.run_next_any_at (w.iter s 0) w.heap.size s 0 ty hit hz;have hb:Below w.heap.size w (w.iter s 0):=(Below.refl _ w).alloc jE _;have hb2:=Lib.below_iterAt hb (k:=w.heap.size) jE s (0+(Utf8.decode s 0).2);rw[hr] at hnx;generalize w.iter s 0=W0 at *;generalize W0.iterAt w.heap.size s (0+(Utf8.decode s 0).2)=W1 at *;refine wp_loop_rounds 1 ?_;rw[rounds_succ];go_wp2;go_ret2;exact ⟨rfl,hb2⟩
theorem zs0{n:Int}:Lib.validRune n=true↔(0<=n/\n<55296)\/(57343<n/\n<=1114111):=by
 unfold Lib.validRune;simp
theorem char_ok(n:Int)(w:World)(h0:0<=n)(h1:n<=1114111)(hv:Lib.validRune n=true):
 Calls prog 227 #[jI n] w fun e w'=>e=jr (.tuple #[jS (Utf8.encode n),jI 0])/\w=w':=by
 exact M133
theorem char_far(n:Int)(w:World)(h:n<0\/1114111<n):
 Calls prog 227 #[jI n] w fun e w'=>e=jr (.tuple #[jS ⟨#[]⟩,jI 1])/\w=w':=by
 rcases h with h|h
 .go_enter func227,ntmps227;go_wp2_with fail;go_ret2;exact ⟨rfl,rfl⟩
 .have h':0<=n:=by omega
  go_enter func227,ntmps227;go_wp2_with fail;go_ret2;exact ⟨rfl,rfl⟩
theorem char_bad(n:Int)(w:World)(h0:0<=n)(h1:n<=1114111)(hv:Lib.validRune n=false):
 Calls prog 227 #[jI n] w fun e w'=>e=jr (.tuple #[jS ⟨#[]⟩,jI 1])/\w=w':=by
 exact M133
def Has(what s:ByteArray)(k:Nat):Bool:=Lib.hasPrefix (s.data.toList.drop (Run.adv s k 0)) what.data.toList
def B172(h:jp:=by have:=HK.out;rw[Run.zgd s pos hp] at this;omega):=h
def M162(h:jp:=by
 go_wp2;go_roundw
 case rel=>exact ⟨pos+d,k+1,by go_num,hwl,HP2,hkc,HK2,HJ2,hit2,hbw2⟩
 case measure=>
  simp only[World.iterPos,hit2,hit];omega):=h
def M202(h:jp:=by
 have HE:=jH (And.intro ha hb);clear ha hb;go_wp2;go_ret2;rw[HE.out.1,HE.out.2];exact ⟨rfl,hbw⟩):=h
def C41(h:jp:=by
 have HK2:Hid (k+1+Run.cnt s (pos+Run.wd s pos)=c):=Bp45;have HP2:Hid (pos+Run.wd s pos=Run.adv s (k+1) 0):=by
  have:=HP.out;have h2:=Run.adv_next s k 0 B1;rw[<-this] at h2;exact jH h2.symm
 exact K41):=h
def X164.K41(h:jp:=by
 have HS:=jH (fun w=>Tryz.strings_HasPrefix (s.extract pos s.size) what w);have HHas:Hid (Lib.hasPrefix (s.extract pos s.size).data.toList what.data.toList=Has what s k):=by
  unfold Has;rw[<-HP.out,Lib.extract_to_end];exact jH rfl
 generalize Run.wd s pos=d at *;generalize wr.iterAt w1.heap.size s (pos+d)=W1 at *;generalize (Utf8.decode s pos).1=r at *;clear HK HP
 by_cases hfk:f<=k+1
 .by_cases hh:Has what s k=true
  .rw[HHas.out,hh] at HS;have HE:=jH (HF.out k B1 hfk hh HJ.out);clear HHas hh;go_wp2_with fail;refine (HS.out _).mono ?_;rintro e w' ⟨rfl,rfl⟩;go_wp2;go_ret2;rw[HE.out.1,HE.out.2];exact ⟨rfl,hbw2⟩
  .have hh':Has what s k=false:=by simpa using hh
   rw[HHas.out,hh'] at HS;have HJ2:Hid (∀j,j<k+1->f<=j+1->Has what s j=false):=by
    refine jH (fun j hj hfj=> ?_)
    by_cases e:j=k
    .rw[e];exact hh'
    .exact HJ.out j B1 hfj
   clear HHas hh hh' HJ;go_wp2_with fail;refine (HS.out _).mono ?_;rintro e w' ⟨rfl,rfl⟩;exact M162
 .have HJ2:Hid (∀j,j<k+1->f<=j+1->Has what s j=false):=jH (fun j hj hfj=>absurd hfj B1);have t1:decide ((f:Int)<=(k:Int)+1)=false:=B14;clear HHas HJ;exact M162):=h
theorem find_arg(what s:ByteArray)(f:Int)(w:World)(hs:s.size<=140737488351232)(hf:f<1\/(Run.cnt s 0:Int)+1<f):
 Ret 217 #[jS what,jS s,jI f] w (.tuple #[jI 0,jI 1]):=by
 have hcl:=Run.zbt s;have HL:=jH (fun w=>zky s w hs)
 by_cases h1:f<1
 .clear hf;go_enter func217,ntmps217;go_wp2_with fail;go_ret2;exact ⟨rfl,jB⟩
 .have h2:(Run.cnt s 0:Int)+1<f:=by omega
  have h3:1<=f:=B1;generalize Run.cnt s 0=c at *;clear hf h1;go_enter func217,ntmps217;go_wp2_with fail;refine jM (HL.out _) ?_;intro w1 hb1;go_wp2_with fail;go_ret2;exact ⟨rfl,hb1⟩
theorem zwu(what s:ByteArray)(f:Nat)(a b:Int)(w:World)(hs:s.size<=140737488351232)(hf1:1<=f)(hf2:f<=Run.cnt s 0+1)(hfound:∀k,k<Run.cnt s 0->f<=k+1->Has what s k=true->(∀j,j<k->f<=j+1->Has what s j=false)->a=(k:Int)+1/\b=0)(hnone:(∀j,j<Run.cnt s 0->f<=j+1->Has what s j=false)->(what.toList.isEmpty=true/\a=(Run.cnt s 0:Int)+1/\b=0)\/(what.toList.isEmpty=false/\¬what.toList=[]/\a=0/\b=3)):
 Ret 217 #[jS what,jS s,jI (f:Int)] w (.tuple #[jI a,jI b]):=by
 have hcl:=Run.zbt s;have HL:=jH (fun w=>zky s w hs);have HF:=jH hfound;have HN:=jH hnone;clear hfound hnone;obtain ⟨c,hc⟩:∃c,Run.cnt s 0=c:=⟨_,rfl⟩;have HC:=jH hc;rw[hc] at hcl hf2 HL HF HN;clear hc;go_enter func217,ntmps217;go_wp2_with fail;refine jM (HL.out _) ?_;intro w1 hb1;go_wp2;go_loopw [8] (fun p wr=>∃(pos k:Nat),p=jI (k:Int)/\pos<=s.size/\Hid (pos=Run.adv s k 0)/\k<=c/\Hid (k+Run.cnt s pos=c)/\Hid (∀j,j<k->f<=j+1->Has what s j=false)/\wr.heap[w1.heap.size]?=some (.stringIter s pos)/\Below w.heap.size w wr) (fun _ wr=>s.size-wr.iterPos w1.heap.size)
 case atStart=>
  exact ⟨0,0,rfl,by omega,jH rfl,by omega,jH (by rw[HC.out];omega),jH (fun j h=>absurd h B1),by simpa using World.iter_heap w1 s 0,hb1.trans (((Below.refl _ w1).alloc jE _).mono hb1.size)⟩
 case round=>
  obtain ⟨pos,k,rfl,hpos,HP,hk,HK,HJ,hit,hbw⟩:=hrel;have hsz:w1.heap.size<wr.heap.size:=(jg hit);have hsz1:=hb1.size
  by_cases hp:pos<s.size
  .have hnx:∀ty,(Instr.next (jU w1.heap.size 0) true ty).run prog wr=_:=fun ty=>Lib.run_next_any_at wr w1.heap.size s pos ty hit hp;have hwd:=Run.zhs s pos;have hwl:=Run.zql s pos hp;have hd1:=decode_le s pos;have hit2:=Lib.iterAt_heap wr w1.heap.size s pos (pos+(Utf8.decode s pos).2) hit;have hbw2:=Lib.below_iterAt hbw (k:=w1.heap.size) hsz1 s (pos+(Utf8.decode s pos).2);rw[<-Run.wd_eq] at hit2 hbw2 hnx;have hkc:k+1<=c:=by have:=HK.out;rw[Run.zhp s pos hp] at this;omega
   open X164 in exact C41
  .have hnx:∀ty,(Instr.next (jU w1.heap.size 0) true ty).run prog wr=_:=fun ty=>Lib.run_next_end_at wr w1.heap.size s pos ty hit hp;obtain rfl:k=c:=B172;have HE:=HN.out HJ.out;clear HK HJ HP;rcases HE with ⟨t1,ha,hb⟩|⟨t1,t2,ha,hb⟩
   .have t2:what.toList=[]:=by simpa using t1
    exact M202
   .exact M202
theorem info5:(prog.info? 5).map (fun i=>(i.zero,i.size,i.bytes))=some (some (.int .u8 0),1,1):=by kernel_rfl
theorem next_any(s:ByteArray)(pos:Nat)(w:World)(hs:s.size<=140737488351232)(hp:pos<s.size)(hT:Lib.Utf8Tabs 4 5 w):
 Ret 265 #[jS s,jI (pos:Int)] w (jI ((pos+Run.wd s pos:Nat):Int)):=by
 have hd:Lib.decodeGo (s.extract pos s.size)=Utf8.decode s pos:=by
  unfold Lib.decodeGo;rw[if_neg B14,Lib.tail_decode];simp
 have HD:=jH (fun w hT=>Tryz.utf8_DecodeRuneInString (s.extract pos s.size) w hT);rw[hd] at HD;have hw:(Utf8.decode s pos).2=Run.wd s pos:=rfl;rw[hw] at HD;have hle:=Run.zql s pos hp;generalize Run.wd s pos=d at *;go_enter func265,ntmps265;go_wp2_with fail;refine jM (HD.out _ hT) ?_;intro w1 hb;go_wp2;go_ret;exact ⟨by simp,hb⟩
def tn(s:ByteArray):Nat->List UInt8
 |0=> []
 |k+1=>(s.extract (Run.adv s k 0) (Run.adv s (k+1) 0)).data.toList++tn s k
theorem zhy(s:ByteArray):∀k,(tn s k).length=Run.adv s k 0
 |0=>rfl
 |k+1=>by
  have h1:=Run.zeg s (k+1) 0 (Nat.zero_le _);have h2:Run.adv s k 0<=Run.adv s (k+1) 0:=by rw[Run.ziw s k 1 0];exact Run.zyf s 1 _
  rw[tn,List.length_append,zhy s k];have:(s.extract (Run.adv s k 0) (Run.adv s (k+1) 0)).data.toList.length=Run.adv s (k+1) 0-Run.adv s k 0:=by
   rw[<-Lib.size_eq,ByteArray.size_extract];omega
  omega
def zje(s:ByteArray):ByteArray:=⟨(tn s (Run.cnt s 0)).toArray⟩
def X165.K41(h:jp:=by
 have HN:=jH (fun w hT=>next_any s pos w hs hp hT);have htk:tn s (k+1)=(s.extract pos (pos+Run.wd s pos)).data.toList++tn s k:=by rw[tn,<-HP.out,<-HP2.out]
 have HTK:=jH htk;clear htk;have hT2:=Utf8Tabs_below hT hbw2;generalize Run.wd s pos=d at *;generalize wr.iterAt (w.heap.size+1) s (pos+d)=W1 at *;generalize (Utf8.decode s pos).1=r at *;have hbl:((s.extract pos (pos+d)).data.toList).length=d:=by rw[<-Lib.size_eq,ByteArray.size_extract];omega
 have hbs:(s.extract pos (pos+d)).size=d:=by rw[ByteArray.size_extract];omega
 obtain ⟨o,ho⟩:∃o,rest.length=o+d:=⟨rest.length-d,B1⟩;generalize hn:pos+d=n at *;have hto1:IntKind.i64.wrap ((n:Int)-(pos:Int))=(d:Int):=B87;have hto2:IntKind.i64.wrap ((rest.length:Int)-(d:Int))=(o:Int):=B87;have hdl:o+(s.extract pos n).size<=(Lib.byteCells (rest++tn s k)).toArray.size:=by rw[hbs];simp[Lib.byteCells];omega
 go_wp2_with fail;refine jM (HN.out _ hT2) ?_;intro w1 hbn;have hrow:w1.drew.heap[w.heap.size]?=_:=(hbn.block w.heap.size B1).trans hrw2;have hit3:w1.drew.heap[w.heap.size+1]?=_:=(hbn.block (w.heap.size+1) B1).trans hit2;have hb3:=(hbw2.trans (hbn.mono B1)).drew;have hcp:=Lib.run_copy_row_string (P:=prog) w1.drew 179 9 3 5 w.heap.size o (s.size-o) (s.size-o) (s.extract pos n) (Lib.byteCells (rest++tn s k)).toArray 5 underlying179 (by kernel_rfl) hrow B1 hdl;have hst:=setRow_heap w1.drew w.heap.size _ ((Lib.byteCells (rest++tn s k)).toArray.toList.take o++Lib.byteCells (s.extract pos n).data.toList++(Lib.byteCells (rest++tn s k)).toArray.toList.drop (o+(s.extract pos n).size)).toArray _ _ hrow;have hso:=setRow_other w1.drew w.heap.size (w.heap.size+1) ((Lib.byteCells (rest++tn s k)).toArray.toList.take o++Lib.byteCells (s.extract pos n).data.toList++(Lib.byteCells (rest++tn s k)).toArray.toList.drop (o+(s.extract pos n).size)).toArray B1;have hb4:=below_setRow hb3 jE ((Lib.byteCells (rest++tn s k)).toArray.toList.take o++Lib.byteCells (s.extract pos n).data.toList++(Lib.byteCells (rest++tn s k)).toArray.toList.drop (o+(s.extract pos n).size)).toArray;have hspl:=zlq rest (s.extract pos n).data.toList (tn s k) o (by rw[hbl];omega);rw[hbl,<-HTK.out] at hspl;rw[hbs] at hst hso hb4 hcp;rw[hspl] at hst hso hb4 hcp;rw[hit3] at hso;generalize w1.drew.setRow w.heap.size (Lib.byteCells (rest.take o++tn s (k+1))).toArray=W2 at *;clear hspl hdl;have HR2:=jH hst;clear hst hrow hrw2;go_wp2;go_region;go_wp2;go_roundw
 case rel=>exact ⟨n,k+1,rest.take o,by simp;omega,by simp;omega,HP2,HK2,hso,HR2,hb4⟩
 case measure=>
  simp only[World.iterPos,hso,hit];omega):=h
theorem zm2(s:ByteArray):(zje s).size=s.size:=by
 have:=zhy s (Run.cnt s 0);rw[Run.zos] at this;unfold zje;rw[<-this];exact List.size_toArray
theorem zrl(n:Nat):madeCells #[Value.int .u8 0] n=(Lib.byteCells (List.replicate n 0)).toArray:=by
 apply Array.ext
 .simp[madeCells,Lib.byteCells]
 .intro i h1 h2;simp only[madeCells,Array.getElem_map,Array.getElem_range,Lib.byteCells,List.getElem_toArray,List.getElem_map,List.getElem_replicate];simp[Nat.mod_one]
theorem zlq(rest x t:List UInt8)(o:Nat)(h:o+x.length=rest.length):
 ((Lib.byteCells (rest++t)).toArray.toList.take o++Lib.byteCells x++(Lib.byteCells (rest++t)).toArray.toList.drop (o+x.length))=Lib.byteCells (rest.take o++(x++t)):=by
 simp only[Lib.byteCells,<-List.map_take,<-List.map_drop];simp only[List.map_append,List.append_assoc]
 congr 1
 .simp[List.take_append_of_le_length (show o<=rest.length by omega)]
 .rw[h,List.drop_left' B7]
theorem turn_any(s:ByteArray)(w:World)(hs:s.size<=140737488351232)(hT:Lib.Utf8Tabs 4 5 w):
 Ret 215 #[jS s] w (jS (zje s)):=by
 have hmk:=@run_make_row' prog 179 5 (.int .u8 0) 1 underlying179 info5 rfl .i64 .i64 s.size B1 B1;have HC:=Run.zos s;have HL:=Run.zbt s;have HTn:Hid ((⟨(tn s (Run.cnt s 0)).toArray⟩:ByteArray)=zje s):=jH rfl;generalize hc:Run.cnt s 0=c at *;have HC0:=jH hc;clear hc;rw[zrl] at hmk;have HTl:=jH (zhy s);go_enter func215,ntmps215;go_wp2;have hrow0:((w.alloc (Obj.cells (Lib.byteCells (List.replicate s.size 0)).toArray 5)).iter s 0).heap[w.heap.size]?=some (.cells (Lib.byteCells (List.replicate s.size 0++tn s 0)).toArray 5 (0,0)):=by
  refine (Below.heap_alloc _ _ w.heap.size B7).trans ?_;rw[heap_alloc_new];simp[tn]
 have hit0:((w.alloc (Obj.cells (Lib.byteCells (List.replicate s.size 0)).toArray 5)).iter s 0).heap[w.heap.size+1]?=some (.stringIter s 0):=by
  simpa using World.iter_heap (w.alloc (Obj.cells (Lib.byteCells (List.replicate s.size 0)).toArray 5)) s 0
 have hb0:Below w.heap.size w ((w.alloc (Obj.cells (Lib.byteCells (List.replicate s.size 0)).toArray 5)).iter s 0):=((Below.refl _ w).alloc jE _).alloc B7 _;generalize (w.alloc (Obj.cells (Lib.byteCells (List.replicate s.size 0)).toArray 5)).iter s 0=W0 at *;clear hmk;go_loopw [4] (fun p wr=>∃(pos k:Nat) (rest:List UInt8),p=jI (rest.length:Int)/\pos+rest.length=s.size/\Hid (pos=Run.adv s k 0)/\Hid (k+Run.cnt s pos=c)/\wr.heap[w.heap.size+1]?=some (.stringIter s pos)/\Hid (wr.heap[w.heap.size]?=some (.cells (Lib.byteCells (rest++tn s k)).toArray 5 (0,0)))/\Below w.heap.size w wr) (fun _ wr=>s.size-wr.iterPos (w.heap.size+1))
 case atStart=>
  exact ⟨0,0,List.replicate s.size 0,by simp,by simp,jH rfl,jH (by rw[HC0.out];omega),hit0,jH hrow0,hb0⟩
 case round=>
  obtain ⟨pos,k,rest,rfl,hpos,HP,HK,hit,HR,hbw⟩:=hrel;have hsz:w.heap.size+1<wr.heap.size:=(jg hit)
  by_cases hp:pos<s.size
  .have hnx:∀ty,(Instr.next (jU (w.heap.size+1) 0) true ty).run prog wr=_:=fun ty=>Lib.run_next_any_at wr (w.heap.size+1) s pos ty hit hp;have hwd:=Run.zhs s pos;have hwl:=Run.zql s pos hp;have hit2:=Lib.iterAt_heap wr (w.heap.size+1) s pos (pos+(Utf8.decode s pos).2) hit;have hrw2:=Lib.iterAt_other wr (w.heap.size+1) w.heap.size s (pos+(Utf8.decode s pos).2) B1;have hbw2:=Lib.below_iterAt hbw (k:=w.heap.size+1) B1 s (pos+(Utf8.decode s pos).2);have hsz2:=Lib.iterAt_size wr (w.heap.size+1) s (pos+(Utf8.decode s pos).2);rw[HR.out] at hrw2;rw[<-Run.wd_eq] at hit2 hbw2 hnx hrw2 hsz2
   open X165 in exact C41
  .have hnx:∀ty,(Instr.next (jU (w.heap.size+1) 0) true ty).run prog wr=_:=fun ty=>Lib.run_next_end_at wr (w.heap.size+1) s pos ty hit hp;obtain rfl:k=c:=B172;obtain rfl:rest=[]:=List.eq_nil_of_length_eq_zero B1;have htl:=HTl.out k;have hcv:=run_convert_bytes_back (P:=prog) wr 179 9 5 (jA w.heap.size 0) s.size (tn s k) underlying179 underlying5 underlying9 (Go.Lib.bytes_of_row HR.out (by rw[List.nil_append,show (Lib.byteCells (tn s k)).toArray.toList=Lib.byteCells (tn s k) from rfl,List.take_of_length_le (by rw[Lib.byteCells_length];exact jE)]));rw[htl,HC,HTn.out] at hcv;clear htl HK HP HTl;go_wp2;go_ret;exact ⟨rfl,hbw⟩
theorem zf3(s:ByteArray):s.toList.length=s.size:=by rw[Lib.toList_data,<-Lib.size_eq]
def rep(s:ByteArray)(n:Nat):ByteArray:=⟨(Lib.repeatL s.data.toList n).toArray⟩
def zo0(s:ByteArray)(n:Nat):ByteArray×Int:=if s.size=0 then (⟨#[]⟩,0) else if 32767<s.size*n then (⟨#[]⟩,2) else (rep s n,0)
def M173(h:jp:=by
 go_enter func222,ntmps222;go_wp2;go_ret2;exact ⟨rfl,jB⟩):=h
theorem zs8(s:ByteArray)(n:Nat)(w:World)(hs:s.size<=140737488351232)(hn:n<=9223372036854775807):
 Ret 222 #[jS s,jI (n:Int)] w (.tuple #[jS (zo0 s n).1,jI (zo0 s n).2]):=by
 unfold zo0
 by_cases h0:s.size=0
 .have hl2:s.toList=[]:=List.eq_nil_of_length_eq_zero (by rw[zf3];exact h0);have hl:s.toList.isEmpty=true:=by rw[hl2];rfl
  simp only[if_pos h0];clear h0;exact M173
 .simp only[if_neg h0];have hl2:¬s.toList=[]:=fun e=>h0 (by rw[<-zf3,e];rfl);have hl:s.toList.isEmpty=false:=by simpa using hl2
  have td:(32767:Int).tdiv (s.size:Int)=((32767/s.size:Nat):Int):=by rw[Int.tdiv_eq_ediv_of_nonneg B1];rfl
  have tz:((s.size:Int)==0)=false:=B39
  by_cases h1:32767<s.size*n
  .simp only[if_pos h1];have hq:32767/s.size<n:=(Nat.div_lt_iff_lt_mul B1).2 (by rw[Nat.mul_comm];exact h1);have hq2:32767/s.size<=32767:=Nat.div_le_self _ _;generalize 32767/s.size=q at *;clear h1;exact M173
  .simp only[if_neg h1];have hq:n<=32767/s.size:=(Nat.le_div_iff_mul_le B1).2 (by rw[Nat.mul_comm];omega);have hq2:32767/s.size<=32767:=Nat.div_le_self _ _;have HR:=jH (fun w=>Tryz.strings_Repeat s n w hn B1);generalize 32767/s.size=q at *;clear h1;unfold rep;go_enter func222,ntmps222;go_wp2_with fail;refine jM (HR.out _) ?_;intro w1 hb1;go_wp2;go_ret2;exact ⟨rfl,hb1⟩
theorem zxs(w:World)(a:Addr):w.drew.cell? a=w.cell? a:=by unfold World.drew;rfl
theorem zn9(w:World)(a:Addr):w.drew.frozen? a=w.frozen? a:=by unfold World.drew;rfl
theorem ziy(b j:Nat):((jA b 0):Addr).add j=(jA b j):=by
 unfold Addr.add
 by_cases h:j=0
 .subst h;rfl
 .simp[h]
def upB(c:UInt8):UInt8:=cond (decide (97<=c.toNat)&&decide (c.toNat<=122)) (UInt8.ofNat (c.toNat-32)) c
def lowB(c:UInt8):UInt8:=cond (decide (65<=c.toNat)&&decide (c.toNat<=90)) (UInt8.ofNat (c.toNat+32)) c
def eachS(g:UInt8->UInt8)(s:ByteArray):ByteArray:=⟨(s.data.toList.map g).toArray⟩
theorem zr9(g:UInt8->UInt8)(s:ByteArray):(eachS g s).size=s.size:=by
 unfold eachS;rw[Lib.size_eq,Lib.size_eq];simp
def bv(g:UInt8->UInt8)(s:ByteArray)(k j:Nat):Nat:=if j<k then (g (s.data.toList.getD j 0)).toNat else (s.data.toList.getD j 0).toNat
def M174(h:jp:=by
 go_enter func260,ntmps260;go_wp2;go_ret;exact ⟨rfl,rfl⟩):=h
def B151(h:jp:=by intro e2;apply e;have:=congrArg Addr.off e2;simpa using this.symm):=h
def M70(h:jp:=by
 generalize s.data.toList.getD k 0=c at *;go_wp2_with fail;refine (H1.out _ _).mono ?_;rintro e w' ⟨rfl,rfl⟩;go_wp2;go_roundw
 case rel=>
  refine ⟨k+1,by omega,by go_num,jH fun j hj=> ?_,jH fun j hj=> ?_,hb.setCell (p:=(jA w.heap.size k)) jE _⟩
  .by_cases e:j=k
   .subst e;rw[HN.out];exact World.cell?_setCell_same' _ _ _ B124
   .rw[bv_other _ _ _ _ e];exact (World.cell?_setCell_other _ _ _ _ B151).trans (HC.out j hj)
  .rw[World.frozen?_setCell];exact HF.out j hj
 case measure=>simp[intOf];omega):=h
def M152(h:jp:=by
 intro j hj;rw[zn9,World.frozen?_alloc_mark];have hsz:s.size<=(bytesRow s (grownCap w s.size 0 5)).size:=by unfold bytesRow;simp
 rw[decide_eq_false B1];rfl):=h
def M156(h:jp:=by
 intro j hj;rw[zxs,World.cell?_alloc_mark,bytesRow_at s _ j hj];unfold bv;rw[if_neg B1,List.getD_eq_getElem?_getD,List.getElem?_eq_getElem B69];rfl):=h
def C25(h:jp:=by
 have hf0:∀j,j<s.size->((w.alloc (Obj.cells (bytesRow s (grownCap w s.size 0 5)) 5 ((bytesRow s (grownCap w s.size 0 5)).size,(bytesRow s (grownCap w s.size 0 5)).size+1))).drew).frozen? (jA w.heap.size j)=false:=by
  exact M152
 have hb0:Below w.heap.size w ((w.alloc (Obj.cells (bytesRow s (grownCap w s.size 0 5)) 5 ((bytesRow s (grownCap w s.size 0 5)).size,(bytesRow s (grownCap w s.size 0 5)).size+1))).drew):=((Below.refl _ w).alloc jE _).drew;generalize (w.alloc (Obj.cells (bytesRow s (grownCap w s.size 0 5)) 5 ((bytesRow s (grownCap w s.size 0 5)).size,(bytesRow s (grownCap w s.size 0 5)).size+1))).drew=W0 at *;generalize grownCap w s.size 0 5=cap at *;have HC0:=jH hc0;have HF0:=jH hf0;clear hc0 hf0;exact K25):=h
def X122.K25(h:jp:=by
 go_loopw [11] (fun i wr=>∃k:Nat,k<=s.size/\i=jI (k:Int)/\Hid (∀j,j<s.size->wr.cell? (jA w.heap.size j)=some (.int .u8 (bv upB s k j:Int)))/\Hid (∀j,j<s.size->wr.frozen? (jA w.heap.size j)=false)/\Below w.heap.size w wr) (fun i _=>s.size-(intOf i).toNat)
 case atStart=>exact ⟨0,Nat.zero_le _,rfl,HC0,HF0,hb0⟩
 case round=>
  obtain ⟨k,hk,rfl,HC,HF,hb⟩:=hrel
  by_cases hlt:k<s.size
  .have hc:=HC.out k hlt;have hf:=HF.out k hlt;rw[zx0] at hc;have HN:=jH (zxz upB s k);exact M70
  .obtain rfl:k=s.size:=by omega
   have hcv:=run_convert_bytes_back (P:=prog) wr 179 9 5 (jA w.heap.size 0) cap (s.data.toList.map upB) underlying179 underlying5 underlying9 (fun j hj=>by
    have h2:j<s.size:=by rw[HS.out] at hj;exact hj
    have:=HC.out j h2;rw[bv_end _ _ j hj] at this;rw[ziy];exact this)
   rw[HS.out] at hcv;go_wp2;go_ret;exact ⟨rfl,hb⟩):=h
def M175(h:jp:=by
 go_enter func261,ntmps261;go_wp2;go_ret;exact ⟨rfl,rfl⟩):=h
def X123.K25(h:jp:=by
 go_loopw [11] (fun i wr=>∃k:Nat,k<=s.size/\i=jI (k:Int)/\Hid (∀j,j<s.size->wr.cell? (jA w.heap.size j)=some (.int .u8 (bv lowB s k j:Int)))/\Hid (∀j,j<s.size->wr.frozen? (jA w.heap.size j)=false)/\Below w.heap.size w wr) (fun i _=>s.size-(intOf i).toNat)
 case atStart=>exact ⟨0,Nat.zero_le _,rfl,HC0,HF0,hb0⟩
 case round=>
  obtain ⟨k,hk,rfl,HC,HF,hb⟩:=hrel
  by_cases hlt:k<s.size
  .have hc:=HC.out k hlt;have hf:=HF.out k hlt;rw[zx0] at hc;have HN:=jH (zxz lowB s k);exact M70
  .obtain rfl:k=s.size:=by omega
   have hcv:=run_convert_bytes_back (P:=prog) wr 179 9 5 (jA w.heap.size 0) cap (s.data.toList.map lowB) underlying179 underlying5 underlying9 (fun j hj=>by
    have h2:j<s.size:=by rw[HS.out] at hj;exact hj
    have:=HC.out j h2;rw[bv_end _ _ j hj] at this;rw[ziy];exact this)
   rw[HS.out] at hcv;go_wp2;go_ret;exact ⟨rfl,hb⟩):=h
section
variable(g:UInt8->UInt8)(s:ByteArray)
include g s
theorem bv_end(j:Nat)(h:j<(s.data.toList.map g).length):bv g s s.size j=((s.data.toList.map g)[j]).toNat:=by
 have hj:j<s.data.toList.length:=B38;have hj2:j<s.size:=by rw[Lib.size_eq];exact hj
 unfold bv;rw[if_pos hj2,List.getElem_map,List.getD_eq_getElem?_getD,List.getElem?_eq_getElem hj];rfl
theorem zx0(k:Nat):bv g s k k=(s.data.toList.getD k 0).toNat:=by unfold bv;rw[if_neg B1]
theorem zxz(k:Nat):bv g s (k+1) k=(g (s.data.toList.getD k 0)).toNat:=by unfold bv;rw[if_pos B1]
theorem bv_other(k j:Nat)(h:j≠k):bv g s (k+1) j=bv g s k j:=by
 unfold bv
 by_cases h1:j<k
 .rw[if_pos h1,if_pos B1]
 .rw[if_neg h1,if_neg B1]
end
theorem up1_any(c:UInt8)(w:World):Calls prog 260 #[.int .u8 (c.toNat:Int)] w fun e w'=>e=jr (.int .u8 ((upB c).toNat:Int))/\w=w':=by
 have hc:=UInt8.toNat_lt c;unfold upB
 by_cases h1:97<=c.toNat
 .by_cases h2:c.toNat<=122
  .have t1:decide ((97:Int)<=(c.toNat:Int))=true:=by simp;omega
   have t2:decide ((c.toNat:Int)<=122)=true:=B14;have e1:IntKind.u8.wrap ((c.toNat:Int)-32)=((UInt8.ofNat (c.toNat-32)).toNat:Int):=by
    rw[UInt8.toNat_ofNat'];simp[IntKind.wrap,IntKind.bits,IntKind.signed]
    try omega
   rw[decide_eq_true h1,decide_eq_true h2];simp only[Bool.and_self,cond_true];generalize c.toNat=n at *;generalize ((UInt8.ofNat (n-32)).toNat:Int)=m at *;exact M174
  .have t1:decide ((97:Int)<=(c.toNat:Int))=true:=by simp;omega
   have t2:decide ((c.toNat:Int)<=122)=false:=B14;rw[decide_eq_true h1,decide_eq_false h2];simp only[Bool.and_false,cond_false];generalize c.toNat=n at *;clear h2;exact M174
 .have t1:decide ((97:Int)<=(c.toNat:Int))=false:=by simp;omega
  rw[decide_eq_false h1];simp only[Bool.false_and,cond_false];generalize c.toNat=n at *;clear h1;exact M174
theorem up_each(s:ByteArray)(w:World)(hs:s.size<=140737488351232):Ret 259 #[jS s,.func (.func 260) #[] #[]] w (jS (eachS upB s)):=by
 have hcv:=fun (w:World)=>run_bytes_of_string (P:=prog) w 9 179 5 s underlying9 underlying179 underlying5;have H1:=jH (fun c w=>up1_any c w);have hsz:(s.data.toList.map upB).length=s.size:=by rw[List.length_map,Lib.size_eq]
 have HS:=jH hsz;clear hsz;go_enter func259,ntmps259;go_wp2;clear hcv;have hc0:∀j,j<s.size->((w.alloc (Obj.cells (bytesRow s (grownCap w s.size 0 5)) 5 ((bytesRow s (grownCap w s.size 0 5)).size,(bytesRow s (grownCap w s.size 0 5)).size+1))).drew).cell? (jA w.heap.size j)=some (.int .u8 (bv upB s 0 j:Int)):=by
  exact M156
 open X122 in exact C25
theorem low1_any(c:UInt8)(w:World):Calls prog 261 #[.int .u8 (c.toNat:Int)] w fun e w'=>e=jr (.int .u8 ((lowB c).toNat:Int))/\w=w':=by
 have hc:=UInt8.toNat_lt c;unfold lowB
 by_cases h1:65<=c.toNat
 .by_cases h2:c.toNat<=90
  .have t1:decide ((65:Int)<=(c.toNat:Int))=true:=by simp;omega
   have t2:decide ((c.toNat:Int)<=90)=true:=B14;have e1:IntKind.u8.wrap ((c.toNat:Int)+32)=((UInt8.ofNat (c.toNat+32)).toNat:Int):=by
    rw[UInt8.toNat_ofNat'];simp[IntKind.wrap,IntKind.bits,IntKind.signed]
    try omega
   rw[decide_eq_true h1,decide_eq_true h2];simp only[Bool.and_self,cond_true];generalize c.toNat=n at *;generalize ((UInt8.ofNat (n+32)).toNat:Int)=m at *;exact M175
  .have t1:decide ((65:Int)<=(c.toNat:Int))=true:=by simp;omega
   have t2:decide ((c.toNat:Int)<=90)=false:=B14;rw[decide_eq_true h1,decide_eq_false h2];simp only[Bool.and_false,cond_false];generalize c.toNat=n at *;clear h2;exact M175
 .have t1:decide ((65:Int)<=(c.toNat:Int))=false:=by simp;omega
  rw[decide_eq_false h1];simp only[Bool.false_and,cond_false];generalize c.toNat=n at *;clear h1;exact M175
section
variable(s:ByteArray)(w:World)(hs:s.size<=140737488351232)
include s w hs
theorem low_each:Ret 259 #[jS s,.func (.func 261) #[] #[]] w (jS (eachS lowB s)):=by
 have hcv:=fun (w:World)=>run_bytes_of_string (P:=prog) w 9 179 5 s underlying9 underlying179 underlying5;have H1:=jH (fun c w=>low1_any c w);have hsz:(s.data.toList.map lowB).length=s.size:=by rw[List.length_map,Lib.size_eq]
 have HS:=jH hsz;clear hsz;go_enter func259,ntmps259;go_wp2;clear hcv;have hc0:∀j,j<s.size->((w.alloc (Obj.cells (bytesRow s (grownCap w s.size 0 5)) 5 ((bytesRow s (grownCap w s.size 0 5)).size,(bytesRow s (grownCap w s.size 0 5)).size+1))).drew).cell? (jA w.heap.size j)=some (.int .u8 (bv lowB s 0 j:Int)):=by
  exact M156
 open X123 in exact C25
theorem zs2:Ret 212 #[jS s] w (jS (eachS upB s)):=by
 have H:=jH (fun w=>up_each s w hs);go_enter func212,ntmps212;go_wp2_with fail;refine jM (H.out _) ?_;intro w1 hb;go_wp2;go_ret;exact ⟨rfl,hb⟩
theorem zu8:Ret 213 #[jS s] w (jS (eachS lowB s)):=by
 have H:=jH (fun w=>low_each s w hs);go_enter func213,ntmps213;go_wp2_with fail;refine jM (H.out _) ?_;intro w1 hb;go_wp2;go_ret;exact ⟨rfl,hb⟩
end
def zqp(s:ByteArray):ByteArray:=⟨(Tr.trimL s.data.toList).toArray⟩
def B133(h:jp:=by rw[HUL.out];omega):=h
def Bp71(h:jp:=by exact hb3.mono (by have:=hb1.size;omega)):=h
theorem blank_of(c:UInt8)(h:(c.toNat:Int)=32):c=32:=UInt8.toNat_inj.1 (by rw[show c.toNat=32 by omega];rfl)
section
variable(s:ByteArray)
include s
theorem trim_any(w:World)(hs:s.size<=140737488351232):Ret 214 #[jS s] w (jS (zqp s)):=by
 have H1:=jH (fun w=>Tryz.strings_Trim_one s 32 B3 w B1);have HE:Hid (∀l,l=Tr.trimL s.data.toList->(⟨l.toArray⟩:ByteArray)=zqp s):=jH (fun l h=>by rw[h];rfl);have hul:(Lib.trimB s.data.toList 32).length<=s.size:=by have:=Tr.trimB_length s.data.toList;rw[Lib.size_eq];exact this
 have HF:=jH (Tr.trimB_first s.data.toList);have HEnd:=jH (Tr.sqk_end s.data.toList);obtain ⟨u,hu⟩:∃u:ByteArray,u=⟨(Lib.trimB s.data.toList 32).toArray⟩:=⟨_,rfl⟩;have hud:Lib.trimB s.data.toList 32=u.data.toList:=by rw[hu]
 rw[<-hu] at H1;rw[hud] at hul HF HEnd;have hus:u.size<=140737488351232:=by rw[Lib.size_eq];omega
 have HUL:Hid (u.data.toList.length=u.size):=jH (Lib.size_eq u).symm;clear hu hud hul;go_enter func214,ntmps214;go_wp2_with fail;refine jM (H1.out _) ?_;intro w1 hw1;have hb1:Below w.heap.size w w1:=by
  rcases hw1 with rfl|rfl
  .exact jB
  .exact jB.drew
 clear hw1;go_wp2;have hB0:=Lib.fresh_isBuilder 249 5 w1;have hb2:Below w.heap.size w (w1.alloc (.cells #[.pointer none,jZ] 249)):=hb1.alloc hb1.size _;have hz2:w1.heap.size<(w1.alloc (.cells #[.pointer none,jZ] 249)).heap.size:=B7;generalize w1.alloc (.cells #[.pointer none,jZ] 249)=W0 at *;go_loopw [9] (fun i wr=>∃k:Nat,k<=u.size/\i=jI (k:Int)/\Hid (Lib.IsBuilder 249 5 w1.heap.size w1.heap.size (Lib.byteCells (Tr.sqk u.data.toList k)) wr)/\Below w.heap.size w wr/\w1.heap.size<=wr.heap.size) (fun i _=>u.size-(intOf i).toNat)
 case atStart=>exact ⟨0,Nat.zero_le _,rfl,jH hB0,hb2,B1⟩
 case round=>
  obtain ⟨k,hk,rfl,HB,hb,hz⟩:=hrel
  by_cases hlt:k<u.size
  .by_cases hc:u[k]=32
   .obtain ⟨m,rfl⟩:∃m,k=m+1:=by
     refine ⟨k-1,?_⟩;rcases Nat.eq_zero_or_pos k with e|e
     .exfalso;subst e;exact HF.out (by rw[HUL.out];exact hlt) hc
     .omega
    by_cases hd:u[m]=32
    .have HS:Hid (Tr.sqk u.data.toList (m+1+1)=Tr.sqk u.data.toList (m+1)):=jH (Tr.sqk_skip _ m B133 hd hc);have t1:((u[m+1].toNat:Int) !=32)=false:=B124;have t2:((u[m].toNat:Int) !=32)=false:=by rw[hd];rfl
     clear hc hd;go_wp2;go_roundw
     case rel=>exact ⟨m+1+1,by omega,by go_num,jH (by rw[HS.out];exact HB.out),hb,hz⟩
     case measure=>simp[intOf];omega
    .have HS:Hid (Tr.sqk u.data.toList (m+1+1)=Tr.sqk u.data.toList (m+1)++ [u.data.toList[m+1]' B133]):=jH (Tr.sqk_first _ m B133 hd);have t1:((u[m+1].toNat:Int) !=32)=false:=B124;have t2:((u[m].toNat:Int) !=32)=true:=by rw[bne_iff_ne];intro e;exact hd (blank_of _ e)
     clear hc hd;have hlen:=Tr.sqk_length u.data.toList (m+1);have HW:=jH (fun w hB hl hz=>zex w1.heap.size w1.heap.size (Lib.byteCells (Tr.sqk u.data.toList (m+1))) (u[m+1].toNat:Int) w hB hl hz);have HL:Hid ((Lib.byteCells (Tr.sqk u.data.toList (m+1))).length+1<=140737488355328):=jH (by rw[Lib.byteCells_length];omega);have HS2:Hid (Lib.byteCells (Tr.sqk u.data.toList (m+1))++ [.int .u8 (u[m+1].toNat:Int)]=Lib.byteCells (Tr.sqk u.data.toList (m+1+1))):=jH (by rw[HS.out];simp[Lib.byteCells];rfl);clear hlen;go_wp2_with fail;refine (HW.out _ HB.out HL.out hz).mono ?_;rintro e w2 ⟨rfl,hB2,hb3⟩;rw[HS2.out] at hB2;have HB2:=jH hB2;clear hB2;have hz2:=hb3.size;have hb4:=hb.trans Bp71;clear hb3;go_wp2;go_roundw
     case rel=>exact ⟨m+1+1,by omega,by go_num,jH (.inr HB2.out),hb4,B1⟩
     case measure=>simp[intOf];omega
   .have HS:Hid (Tr.sqk u.data.toList (k+1)=Tr.sqk u.data.toList k++ [u.data.toList[k]' B133]):=jH (Tr.sqk_keep _ k B133 hc);have t1:((u[k].toNat:Int) !=32)=true:=by rw[bne_iff_ne];intro e;exact hc (blank_of _ e)
    clear hc;have hlen:=Tr.sqk_length u.data.toList (k);have HW:=jH (fun w hB hl hz=>zex w1.heap.size w1.heap.size (Lib.byteCells (Tr.sqk u.data.toList (k))) (u[k].toNat:Int) w hB hl hz);have HL:Hid ((Lib.byteCells (Tr.sqk u.data.toList (k))).length+1<=140737488355328):=jH (by rw[Lib.byteCells_length];omega);have HS2:Hid (Lib.byteCells (Tr.sqk u.data.toList (k))++ [.int .u8 (u[k].toNat:Int)]=Lib.byteCells (Tr.sqk u.data.toList (k+1))):=jH (by rw[HS.out];simp[Lib.byteCells];rfl);clear hlen;go_wp2_with fail;refine (HW.out _ HB.out HL.out hz).mono ?_;rintro e w2 ⟨rfl,hB2,hb3⟩;rw[HS2.out] at hB2;have HB2:=jH hB2;clear hB2;have hz2:=hb3.size;have hb4:=hb.trans Bp71;clear hb3;go_wp2;go_roundw
    case rel=>exact ⟨k+1,by omega,by go_num,jH (.inr HB2.out),hb4,B1⟩
    case measure=>simp[intOf];omega
  .obtain rfl:k=u.size:=by omega
   have hs2:=HB.out;rw[<-HUL.out,HEnd.out] at hs2;have H2:=jH (fun w hB hB2=>Tryz.Builder_String_any w1.heap.size w1.heap.size (Tr.trimL s.data.toList) w hB hB2);go_wp2_with fail;refine jM (H2.out _ hs2 B1) ?_;intro w2 hb3;rw[HE.out _ rfl];go_wp2;go_ret;exact ⟨rfl,hb.trans Bp71⟩
theorem left_neg(n:Int)(h:n<0)(w:World):Ret 205 #[jS s,jI n] w (.tuple #[jS ⟨#[]⟩,jI 1]):=by
 have t1:decide (n<0)=true:=decide_eq_true h;go_enter func205,ntmps205;go_wp2;go_ret2;exact ⟨rfl,jB⟩
theorem ztz(n:Int)(h:n<0)(w:World):Ret 208 #[jS s,jI n] w (.tuple #[jS ⟨#[]⟩,jI 1]):=by
 have t1:decide (n<0)=true:=decide_eq_true h;go_enter func208,ntmps208;go_wp2;go_ret2;exact ⟨rfl,jB⟩
theorem mid_far(f n:Int)(h:f<1)(w:World):Ret 210 #[jS s,jI f,jI n] w (.tuple #[jS ⟨#[]⟩,jI 1]):=by
 have t1:decide (f<1)=true:=decide_eq_true h;go_enter func210,ntmps210;go_wp2;go_ret2;exact ⟨rfl,jB⟩
theorem mid_neg(f n:Int)(h:¬f<1)(h2:n<0)(w:World):Ret 210 #[jS s,jI f,jI n] w (.tuple #[jS ⟨#[]⟩,jI 1]):=by
 have t1:decide (f<1)=false:=decide_eq_false h;have t2:decide (n<0)=true:=decide_eq_true h2;go_enter func210,ntmps210;go_wp2;go_ret2;exact ⟨rfl,jB⟩
end
theorem zum{w:World}{B:Nat}{e:TypeId}{v:Value}{n:Nat}{xs:List Value}(h:w.ownsRow B e 1 v n xs):
 ∃ao cap,v= .slice ao n cap/\n<=cap/\((ao=none/\n=0/\cap=0)\/∃g,ao=some (jA g 0)/\B<=g/\∀j,j<n->w.cell? (jA g j)=xs[j]?):=by
 rcases h.2 with ⟨rfl,rfl⟩|⟨g,cap,cur,rfl,h2,h3,h4,_⟩
 .exact ⟨none,0,rfl,jE,.inl ⟨rfl,rfl,rfl⟩⟩
 .exact ⟨_,cap,rfl,h4,.inr ⟨g,rfl,h2,fun j hj=>h.cellAt j B1⟩⟩
theorem zmr(l:List UInt8)(j:Nat)(h:j<l.length):(Lib.byteCells l)[j]?=some (.int .u8 (l[j].toNat:Int)):=by
 unfold Lib.byteCells;rw[List.getElem?_map,List.getElem?_eq_getElem h];rfl
theorem conv_own{w:World}{B:Nat}{ao:Option Addr}{n cap:Nat}{l:List UInt8}(hl:l.length=n)(h:(ao=none/\n=0/\cap=0)\/∃g,ao=some (jA g 0)/\B<=g/\∀j,j<n->w.cell? (jA g j)=(Lib.byteCells l)[j]?):
 (convert 179 9 (.slice ao n cap)).run prog w= .ok (jS ⟨l.toArray⟩) w:=by
 rcases h with ⟨rfl,rfl,rfl⟩|⟨g,rfl,_,hc⟩
 .have:l=[]:=List.eq_nil_of_length_eq_zero hl;subst this;exact run_convert_bytes_nil (P:=prog) (w:=w) 179 5 underlying179 underlying5 0 0 9 underlying9
 .subst hl;refine run_convert_bytes_back (P:=prog) w 179 9 5 (jA g 0) cap l underlying179 underlying5 underlying9 (fun j hj=> ?_);rw[ziy,hc j hj];exact zmr l j hj
theorem zdh(x:List UInt8)(t:ByteArray):Lib.byteCells x++Lib.strCells t=Lib.byteCells (x++t.data.toList):=by
 simp[Lib.byteCells,Lib.strCells]
theorem zxj(s:ByteArray)(w:World)(hz:¬0<s.size):Ret 225 #[jS s] w (.tuple #[jI 0,jI 1]):=by
 go_enter func225,ntmps225;go_wp2;have hit:(w.iter s 0).heap[w.heap.size]?=some (.stringIter s 0):=by simpa using World.iter_heap w s 0
 have hnx:∀ty,(Instr.next (jU w.heap.size 0) true ty).run prog (w.iter s 0)=_:=fun ty=>Lib.run_next_end_at (w.iter s 0) w.heap.size s 0 ty hit hz;have hb:Below w.heap.size w (w.iter s 0):=(Below.refl _ w).alloc jE _;generalize w.iter s 0=W0 at *;refine wp_loop_rounds 1 ?_;rw[rounds_succ];go_wp2;go_ret2;exact ⟨rfl,hb⟩
theorem zs7(s:ByteArray)(n:Int)(w:World)(h:n<0):Ret 222 #[jS s,jI n] w (.tuple #[jS ⟨#[]⟩,jI 1]):=by
 have t1:decide (n<0)=true:=decide_eq_true h;exact M173
theorem ztp(s o wt:ByteArray)(w:World)(t1:o.toList=[])(t2:o.toList.isEmpty=true):Ret 219 #[jS s,jS o,jS wt] w (.tuple #[jS s,jI 0]):=by
 go_enter func219,ntmps219;go_wp2;go_ret2;exact ⟨rfl,jB⟩
def strLen:Value->Nat
 | .string t=>t.size
 |_=>0
theorem toArr(t:ByteArray):(⟨t.data.toList.toArray⟩:ByteArray)=t:=by
 apply ByteArray.ext;simp
theorem zps{B b:Nat}{bs:List Value}{w:World}(n:Nat)(h:Lib.IsBuilder 249 5 B b bs w):Lib.IsBuilder 249 5 B b bs (w.drewN n):=h
theorem zbp(l:List UInt8):(Lib.byteCells l).length=l.length:=Lib.byteCells_length l
theorem zlo(s o wt a:ByteArray)(b m:Int)(w:World)(hs:s.size<=200000)(hw:wt.size<=200000)(t1:¬o.toList=[])(t2:o.toList.isEmpty=false)(ho:1<=o.size)(ho2:o.size<=200000)(hM:w.cell? (jA 0 0)=some (jI m))(hM0:0<w.heap.size)(h1:32767<(Sw.swp o.data.toList wt.data.toList s.data.toList).length->a=⟨#[]⟩/\b=2)(h2:¬32767<(Sw.swp o.data.toList wt.data.toList s.data.toList).length->a=⟨(Sw.swp o.data.toList wt.data.toList s.data.toList).toArray⟩/\b=0):
 Ret 219 #[jS s,jS o,jS wt] w (.tuple #[jS a,jI b]):=by
 have hne:o.data.toList≠[]:=by rw[<-Lib.toList_data];exact t1
 have HNE:=jH hne;obtain ⟨R,hR⟩:∃R,Sw.swp o.data.toList wt.data.toList s.data.toList=R:=⟨_,rfl⟩;rw[hR] at h1 h2;have HL1:=jH h1;have HL2':=jH h2;have HR:=jH hR;have HOL:Hid (o.data.toList.length=o.size):=jH (Lib.size_eq o).symm;have HWL:Hid (wt.data.toList.length=wt.size):=jH (Lib.size_eq wt).symm;have HM:=jH hM;clear h1 h2 hR hne hM;go_enter func219,ntmps219;go_wp2;have hB0:=Lib.fresh_isBuilder 249 5 w;have hb0:Below w.heap.size w (w.alloc (.cells #[.pointer none,jZ] 249)):=jB.alloc jE _;generalize w.alloc (.cells #[.pointer none,jZ] 249)=W0 at *;go_loopw [0] (fun sv wr=>∃(t:ByteArray) (acc:List UInt8),sv=jS t/\t.size<=200000/\acc.length<=32767/\Hid (acc++Sw.swp o.data.toList wt.data.toList t.data.toList=R)/\Hid (Lib.IsBuilder 249 5 w.heap.size w.heap.size (Lib.byteCells acc) wr)/\Below w.heap.size w wr) (fun sv _=>strLen sv)
 case atStart=>exact ⟨s,[],rfl,hs,by simp,jH HR.out,jH hB0,hb0⟩
 case round=>
  obtain ⟨t,acc,rfl,ht,hacc,HA,HB,hb⟩:=hrel;have hTL:=Lib.size_eq t;have HTL:=jH hTL;clear hTL;have hm:wr.cell? (jA 0 0)=some (jI m):=jQ hb HM.out hM0;have HC:=jH (fun w hm=>Tryz.strings_Cut t o m w B1 hm);have hix:=Sw.swp_index (wit:=wt.data.toList) HNE.out t.data.toList;have hgx:=Lib.index_ge t.data.toList o.data.toList;have hrx:=Lib.index_room t.data.toList o.data.toList
  by_cases hneg:Lib.index t.data.toList o.data.toList=-1
  .have hcut:Lib.cut t.data.toList o.data.toList=(t.data.toList,[],false):=by
    unfold Lib.cut;rw[if_neg B1]
   rw[hcut] at HC;simp only[toArr] at HC;have HX:Hid (acc++t.data.toList=R):=jH (by rw[<-HA.out,hix.1 hneg]);have hN:(acc++t.data.toList).length=acc.length+t.size:=by rw[List.length_append,<-HTL.out]
   have HY1:Hid (Lib.byteCells acc++Lib.strCells t=Lib.byteCells (acc++t.data.toList)):=jH (zdh acc t);have HW1:=jH (fun v h hz=>zce w.heap.size w.heap.size (Lib.byteCells acc) t v h (by rw[zbp];omega) hz);obtain ⟨n2,hn2⟩:∃n2,acc.length+t.size=n2:=⟨_,rfl⟩;rw[hn2] at hN;have HLn:Hid (∀v,Lib.IsBuilder 249 5 w.heap.size w.heap.size (Lib.byteCells (acc++t.data.toList)) v->Calls prog 269 #[jU w.heap.size 0] v fun e v'=>e=jr (jI (n2:Int))/\v'=v):=jH (fun v h=>by
    have:=Tryz.Builder_Len w.heap.size w.heap.size (Lib.byteCells (acc++t.data.toList)) v h;rw[zbp,hN] at this;exact this)
   have HSt:Hid (∀v,Lib.IsBuilder 249 5 w.heap.size w.heap.size (Lib.byteCells (acc++t.data.toList)) v->w.heap.size<=v.heap.size->Calls prog 264 #[jU w.heap.size 0] v fun e v'=>e=jr (jS ⟨R.toArray⟩)/\Below w.heap.size v v'):=jH (fun v h hz=>by
    have:=Tryz.Builder_String_any w.heap.size w.heap.size (acc++t.data.toList) v h hz;rw[HX.out] at this;exact this)
   have HRL:Hid (R.length=n2):=jH (by rw[<-HX.out];exact hN);have hn3:n2<=232767:=B1;clear hn2 hN hcut hix hgx hrx hneg HX HA;go_wp2_with fail;refine (HC.out _ hm).mono ?_;rintro e w1 ⟨rfl,nd,rfl⟩;have hb1:Below w.heap.size w (wr.drewN nd):=hb.trans ⟨rfl,rfl,rfl,jE,fun _ _=>rfl⟩;have HB1:Hid (Lib.IsBuilder 249 5 w.heap.size w.heap.size (Lib.byteCells acc) (wr.drewN nd)):=jH (zps nd HB.out);clear hm HB hb HC;generalize wr.drewN nd=W1 at *;go_wp2_with fail;refine (HW1.out _ HB1.out hb1.size).mono ?_;rintro e w2 ⟨rfl,hB2,hb2⟩;rw[HY1.out] at hB2;have hb3:=hb1.trans hb2;have HB2:=jH hB2;clear hB2 hb2 hb1 HB1;go_wp2_with fail;refine jM (HLn.out _ (.inr HB2.out)) ?_;intro w3 rfl
   by_cases hbig:32767<n2
   .obtain ⟨rfl,rfl⟩:=HL1.out (by rw[HRL.out];exact hbig);go_wp2;go_ret2;exact ⟨rfl,hb3⟩
   .obtain ⟨rfl,rfl⟩:=HL2'.out (by rw[HRL.out];exact hbig);go_wp2_with fail;refine jM (HSt.out _ (.inr HB2.out) hb3.size) ?_;intro w4 hb4;go_wp2;go_ret2;exact ⟨rfl,hb3.trans hb4⟩
  .obtain ⟨i,hi⟩:∃i:Nat,Lib.index t.data.toList o.data.toList=(i:Int):=⟨(Lib.index t.data.toList o.data.toList).toNat,B1⟩;have hroom:i+o.size<=t.size:=by
    have:=hrx B1;rw[hi,HOL.out,<-HTL.out] at this;omega
   have hcut:Lib.cut t.data.toList o.data.toList=(t.data.toList.take i,t.data.toList.drop (i+o.size),true):=by
    unfold Lib.cut;rw[if_pos B1,hi,HOL.out];rfl
   rw[hcut] at HC;have hsw:=hix.2 i hi;rw[HOL.out] at hsw;obtain ⟨hd,hhd⟩:∃hd:ByteArray,(⟨(t.data.toList.take i).toArray⟩:ByteArray)=hd:=⟨_,rfl⟩;obtain ⟨tl,htl⟩:∃tl:ByteArray,(⟨(t.data.toList.drop (i+o.size)).toArray⟩:ByteArray)=tl:=⟨_,rfl⟩;have hdl:hd.data.toList=t.data.toList.take i:=by rw[<-hhd]
   have htll:tl.data.toList=t.data.toList.drop (i+o.size):=by rw[<-htl]
   rw[<-hdl,<-htll] at hsw;have hds:hd.size<=200000:=by rw[Lib.size_eq,hdl,List.length_take];omega
   have hts:tl.size=t.size-(i+o.size):=by rw[Lib.size_eq,htll,List.length_drop,HTL.out]
   rw[hhd,htl] at HC;have HA2:Hid ((acc++hd.data.toList++wt.data.toList)++Sw.swp o.data.toList wt.data.toList tl.data.toList=R):=jH (by
    rw[<-HA.out,hsw];simp only[List.append_assoc])
   have hN:(acc++hd.data.toList++wt.data.toList).length=acc.length+hd.size+wt.size:=by rw[List.length_append,List.length_append,HWL.out,<-Lib.size_eq]
   have HY1:Hid (Lib.byteCells acc++Lib.strCells hd=Lib.byteCells (acc++hd.data.toList)):=jH (zdh acc hd);have HY2:Hid (Lib.byteCells (acc++hd.data.toList)++Lib.strCells wt=Lib.byteCells (acc++hd.data.toList++wt.data.toList)):=jH (zdh _ wt);have HW1:=jH (fun v h hz=>zce w.heap.size w.heap.size (Lib.byteCells acc) hd v h (by rw[zbp];omega) hz);have HW2:=jH (fun v h hz=>zce w.heap.size w.heap.size (Lib.byteCells (acc++hd.data.toList)) wt v h (by rw[zbp,List.length_append,<-Lib.size_eq];omega) hz);obtain ⟨n2,hn2⟩:∃n2,acc.length+hd.size+wt.size=n2:=⟨_,rfl⟩;rw[hn2] at hN;have HLn:Hid (∀v,Lib.IsBuilder 249 5 w.heap.size w.heap.size (Lib.byteCells (acc++hd.data.toList++wt.data.toList)) v->Calls prog 269 #[jU w.heap.size 0] v fun e v'=>e=jr (jI (n2:Int))/\v'=v):=jH (fun v h=>by
    have:=Tryz.Builder_Len w.heap.size w.heap.size (Lib.byteCells (acc++hd.data.toList++wt.data.toList)) v h;rw[zbp,hN] at this;exact this)
   have HRL:Hid (n2<=R.length):=jH (by rw[<-HA2.out,List.length_append,hN];omega);have HN:=jH hN;have hn3:n2<=432767:=B1;have hlt:tl.size<t.size:=B1;clear hn2 hN hcut hix hgx hrx hneg HA hsw hdl htll hhd htl hds hts hi;generalize acc++hd.data.toList++wt.data.toList=acc2 at *;go_wp2_with fail;refine (HC.out _ hm).mono ?_;rintro e w1 ⟨rfl,nd,rfl⟩;have hb1:Below w.heap.size w (wr.drewN nd):=hb.trans ⟨rfl,rfl,rfl,jE,fun _ _=>rfl⟩;have HB1:Hid (Lib.IsBuilder 249 5 w.heap.size w.heap.size (Lib.byteCells acc) (wr.drewN nd)):=jH (zps nd HB.out);clear hm HB hb HC;generalize wr.drewN nd=W1 at *;go_wp2_with fail;refine (HW1.out _ HB1.out hb1.size).mono ?_;rintro e w2 ⟨rfl,hB2,hb2⟩;rw[HY1.out] at hB2;have hb3:=hb1.trans hb2;have HB2:=jH hB2;clear hB2 hb2 hb1 HB1;go_wp2_with fail;refine (HW2.out _ (.inr HB2.out) hb3.size).mono ?_;rintro e w3 ⟨rfl,hB3,hb2⟩;rw[HY2.out] at hB3;replace hb3:=hb3.trans hb2;have HB3:=jH hB3;clear hB3 hb2 HB2;go_wp2_with fail;refine jM (HLn.out _ (.inr HB3.out)) ?_;intro w4 rfl
   by_cases hbig:32767<n2
   .obtain ⟨rfl,rfl⟩:=HL1.out (by have:=HRL.out;omega);go_wp2;go_ret2;exact ⟨rfl,hb3⟩
   .go_wp2;go_roundw
    case rel=>exact ⟨tl,acc2,rfl,by omega,by rw[HN.out];omega,HA2,jH (.inr HB3.out),hb3⟩
    case measure=>exact hlt
structure TxtW(w:World):Prop where
 tabs:Lib.Utf8Tabs 4 5 w
 max:∃m:Int,w.cell? (jA 0 0)=some (jI m)
 lt:0<w.heap.size
theorem TxtW.below{w w':World}{n:Nat}(h:TxtW w)(hn:n=w.heap.size)(hb:Below n w w'):TxtW w':=by
 subst hn;obtain ⟨m,hm⟩:=h.max;exact ⟨Utf8Tabs_below h.tabs hb,⟨m,jQ hb hm h.lt⟩,jL h.lt hb.size⟩
namespace Cal
def cE:ByteArray:=⟨#[]⟩
def lenV(s:ByteArray):Int:=(Run.cnt s 0:Int)
def zkz(s:ByteArray)(n:Int):ByteArray×Int:=if n<0 then (cE,1) else (s.extract 0 (Run.adv s n.toNat 0),0)
def zh5(s:ByteArray)(n:Int):ByteArray×Int:=if n<0 then (cE,1) else (s.extract (Run.adv s (Run.cnt s 0-n.toNat) 0) s.size,0)
def midV(s:ByteArray)(f n:Int):ByteArray×Int:=if f<1\/n<0 then (cE,1) else (s.extract (Run.adv s (f-1).toNat 0) (Run.adv s ((f-1).toNat+n.toNat) 0),0)
def zjf(s:ByteArray)(n:Int):ByteArray×Int:=if n<0 then (cE,1) else zo0 s n.toNat
def zg0(s:ByteArray):Int×Int:=if 0<s.size then (((Utf8.decode s 0).1:Nat),0) else (0,1)
def zsh(n:Int):ByteArray×Int:=cond (Lib.validRune n) (Utf8.encode n,0) (cE,1)
def ztq(s o t:ByteArray):ByteArray×Int:=if o.size=0 then (s,0) else if 32767<(Sw.swp o.data.toList t.data.toList s.data.toList).length then (cE,2) else (⟨(Sw.swp o.data.toList t.data.toList s.data.toList).toArray⟩,0)
def zgz(what s:ByteArray):Nat->Nat->Int×Int
 |k,0=>cond (Has what s k) ((k:Int)+1,0) (0,3)
 |k,n+1=>cond (Has what s k) ((k:Int)+1,0) (zgz what s (k+1) n)
def findV(what s:ByteArray)(f:Int):Int×Int:=if f<1\/(Run.cnt s 0:Int)+1<f then (0,1) else zgz what s (f.toNat-1) (Run.cnt s 0+1-f.toNat)
theorem zk4(what s:ByteArray):∀(n k j:Nat),k<=j->j<=k+n->Has what s j=true->(∀i,k<=i->i<j->Has what s i=false)->zgz what s k n=((j:Int)+1,0)
 |0,k,j,h1,h2,h3,h4=>by
  obtain rfl:k=j:=B1;unfold zgz;rw[h3];rfl
 |n+1,k,j,h1,h2,h3,h4=>by
  unfold zgz
  by_cases e:k=j
  .subst e;rw[h3];rfl
  .rw[h4 k jE B1];exact zk4 what s n (k+1) j B1 B1 h3 (fun i a b=>h4 i B1 b)
theorem zp8(what s:ByteArray):∀(n k:Nat),(∀i,k<=i->i<=k+n->Has what s i=false)->zgz what s k n=(0,3)
 |0,k,h=>by unfold zgz;rw[h k jE B1];rfl
 |n+1,k,h=>by
  unfold zgz;rw[h k jE B1];exact zp8 what s n (k+1) (fun i a b=>h i B1 B1)
end Cal
theorem zge{f:FuncId}{args:Array Value}{v:Value}{w:World}(h:Calls prog f args w fun e w'=>e=jr v/\w=w'):Ret f args w v:=
 h.mono fun _ _ ⟨he,hw⟩=> ⟨he,hw▸jB⟩
theorem has_end(what s:ByteArray):Has what s (Run.cnt s 0)=what.toList.isEmpty:=by
 unfold Has Lib.hasPrefix;rw[Run.zos,List.drop_of_length_le (by rw[<-Lib.size_eq];exact jE),Lib.toList_data];cases what.data.toList <;> rfl
section
variable(s:ByteArray)
include s
theorem mid_same(m n:Nat):(s.extract (Run.adv s m 0) s.size).extract 0 (Run.adv (s.extract (Run.adv s m 0) s.size) n 0)=s.extract (Run.adv s m 0) (Run.adv s (m+n) 0):=by
 have hp:=Run.zeg s m 0 (Nat.zero_le _);have h1:=Run.zqg s (Run.adv s m 0) hp n 0;rw[Nat.add_zero] at h1;have h2:=Run.ziw s m n 0;have h3:=Run.zeg s (m+n) 0 (Nat.zero_le _);rw[ByteArray.extract_extract]
 congr 1
 omega
section
variable(n:Int)(w:World)(hs:s.size<=200000)(hn:n<=9223372036854775807)
include n w hs hn
theorem tleft:Ret 205 #[jS s,jI n] w (.tuple #[jS (Cal.zkz s n).1,jI (Cal.zkz s n).2]):=by
 unfold Cal.zkz
 by_cases h:n<0
 .rw[if_pos h];exact left_neg s n h w
 .rw[if_neg h];obtain ⟨n,rfl⟩:=Int.eq_ofNat_of_zero_le (show 0<=n by omega);rw[Int.toNat_natCast];exact left_any s n _ w B1 B1 rfl
theorem tright:Ret 208 #[jS s,jI n] w (.tuple #[jS (Cal.zh5 s n).1,jI (Cal.zh5 s n).2]):=by
 unfold Cal.zh5
 by_cases h:n<0
 .rw[if_pos h];exact ztz s n h w
 .rw[if_neg h];obtain ⟨n,rfl⟩:=Int.eq_ofNat_of_zero_le (show 0<=n by omega);rw[Int.toNat_natCast];exact zt0 s n _ w B1 B1 rfl
theorem ttimes:Ret 222 #[jS s,jI n] w (.tuple #[jS (Cal.zjf s n).1,jI (Cal.zjf s n).2]):=by
 unfold Cal.zjf
 by_cases h:n<0
 .rw[if_pos h];exact zs7 s n w h
 .rw[if_neg h];obtain ⟨n,rfl⟩:=Int.eq_ofNat_of_zero_le (show 0<=n by omega);rw[Int.toNat_natCast];exact zs8 s n w B1 B1
end
theorem tmid(f n:Int)(w:World)(hs:s.size<=200000)(hn:n<=9223372036854775807)(hf:f<=9223372036854775807):Ret 210 #[jS s,jI f,jI n] w (.tuple #[jS (Cal.midV s f n).1,jI (Cal.midV s f n).2]):=by
 unfold Cal.midV
 by_cases h1:f<1
 .rw[if_pos (.inl h1)];exact mid_far s f n h1 w
 by_cases h2:n<0
 .rw[if_pos (.inr h2)];exact mid_neg s f n h1 h2 w
 .rw[if_neg B1];obtain ⟨n,rfl⟩:=Int.eq_ofNat_of_zero_le (show 0<=n by omega);obtain ⟨f,hf⟩:∃k:Nat,f=(k:Int)+1:=⟨(f-1).toNat,B1⟩;subst hf;rw[Int.toNat_natCast,show ((f:Int)+1-1).toNat=f by omega];rw[<-mid_same];exact mid_any s _ f n _ _ w B1 B1 B1 rfl rfl rfl
end
theorem tfind(what s:ByteArray)(f:Int)(w:World)(hs:s.size<=200000):Ret 217 #[jS what,jS s,jI f] w (.tuple #[jI (Cal.findV what s f).1,jI (Cal.findV what s f).2]):=by
 unfold Cal.findV
 by_cases hf:f<1\/(Run.cnt s 0:Int)+1<f
 .rw[if_pos hf];exact find_arg what s f w B1 hf
 .rw[if_neg hf];obtain ⟨f,rfl⟩:=Int.eq_ofNat_of_zero_le (show 0<=f by omega);have h1:1<=f:=B1;have h2:f<=Run.cnt s 0+1:=B1;have hend:=has_end what s;rw[Int.toNat_natCast];refine zwu what s f _ _ w B1 h1 h2 (fun j a b c d=> ?_) (fun hno=> ?_)
  .rw[Cal.zk4 what s _ _ j B1 B1 c (fun i x y=>d i y B1)];exact ⟨rfl,rfl⟩
  .cases he:what.toList.isEmpty with
   |true=>
    refine .inl ⟨rfl,?_⟩;rw[Cal.zk4 what s _ _ (Run.cnt s 0) B1 B1 (hend.trans he) (fun i x y=>hno i y B1)];exact ⟨rfl,rfl⟩
   |false=>
    refine .inr ⟨rfl,fun e=>(by rw[e] at he;cases he),?_⟩;rw[Cal.zp8 what s _ _ (fun i x y=> ?_)]
    .exact ⟨rfl,rfl⟩
    .by_cases e:i=Run.cnt s 0
     .rw[e,hend];exact he
     .exact hno i B1 B1
theorem tchar(n:Int)(w:World):Ret 227 #[jI n] w (.tuple #[jS (Cal.zsh n).1,jI (Cal.zsh n).2]):=by
 unfold Cal.zsh;cases hv:Lib.validRune n with
 |true=>
  have h:=zs0.1 hv;exact zge (char_ok n w B1 B1 hv)
 |false=>
  by_cases h:n<0\/1114111<n
  .exact zge (char_far n w h)
  .exact zge (char_bad n w B1 B1 hv)
theorem tcode(s:ByteArray)(w:World)(hs:s.size<=200000):Ret 225 #[jS s] w (.tuple #[jI (Cal.zg0 s).1,jI (Cal.zg0 s).2]):=by
 unfold Cal.zg0
 by_cases hz:0<s.size
 .rw[if_pos hz];exact code_any s _ w B1 hz rfl
 .rw[if_neg hz];exact zxj s w hz
theorem tswap(s o t:ByteArray)(w:World)(hs:s.size<=200000)(ho:o.size<=200000)(ht:t.size<=200000)(hW:TxtW w):Ret 219 #[jS s,jS o,jS t] w (.tuple #[jS (Cal.ztq s o t).1,jI (Cal.ztq s o t).2]):=by
 have hl:o.toList.length=o.size:=by rw[Lib.toList_data,<-Lib.size_eq]
 obtain ⟨m,hm⟩:=hW.max;unfold Cal.ztq
 by_cases h0:o.size=0
 .rw[if_pos h0];have h1:o.toList=[]:=List.eq_nil_of_length_eq_zero B1;exact ztp s o t w h1 (by rw[h1];rfl)
 .rw[if_neg h0];have h1:¬o.toList=[]:=fun e=>by rw[e] at hl;simp at hl;omega
  by_cases hl2:32767<(Sw.swp o.data.toList t.data.toList s.data.toList).length
  .rw[if_pos hl2];exact zlo s o t _ _ m w hs ht h1 B82 B1 ho hm hW.lt (fun _=> ⟨rfl,rfl⟩) (fun h=>absurd hl2 h)
  .rw[if_neg hl2];exact zlo s o t _ _ m w hs ht h1 B82 B1 ho hm hW.lt (fun h=>absurd h hl2) (fun _=> ⟨rfl,rfl⟩)
namespace Cal
def fct:Nat->Int
 |0=>1
 |k+1=>((k:Int)+1)*fct k
theorem zqa:∀k,k<=20->1<=fct k/\fct k<=2432902008176640000:=by
 have h:∀k:Fin 21,1<=fct k.val/\fct k.val<=2432902008176640000:=B49;exact fun k hk=>h ⟨k,B1⟩
def bitV(o:Nat)(a b:Int):Int:=IntKind.i64.wrap ((match o with|0=>BitVec.ofInt 64 a&&&BitVec.ofInt 64 b|1=>BitVec.ofInt 64 a|||BitVec.ofInt 64 b|_=>BitVec.ofInt 64 a ^^^ BitVec.ofInt 64 b).toNat)
def nA(I:In)(i:Nat):Int:=I.ns.getD i 0
def tA(I:In)(i:Nat):ByteArray:=I.ts.getD i cE
def orA(I:In):Int:=I.ns.getD 0 1
def pos(o:Nat)(a b:Int):Val.V:=cond (decide (a<0)||decide (b<0)) (bad 2) (num (bitV o a b))
def signV(n:Int):Int:=if n<0 then -1 else if 0<n then 1 else 0
def replT(s:ByteArray)(f n:Int)(t:ByteArray):ByteArray:=s.extract 0 (Run.adv s (f-1).toNat 0)++t++s.extract (Run.adv s ((f-1).toNat+n.toNat) 0) s.size
def replV(s:ByteArray)(f n:Int)(t:ByteArray):Val.V:=if f<1\/n<0 then bad 4 else spelt (replT s f n t) 0
def work(f:Nat)(I:In):Val.V:=match f with
 |1=>cond (decide (nA I 0<0)) (fits (Ref.fitV (0-nA I 0)) (Ref.fitB (0-nA I 0))) (num (nA I 0))
 |2=>num (signV (nA I 0))
 |3=>told (modV (nA I 0) (nA I 1)).1 (modV (nA I 0) (nA I 1)).2
 |4=>told (quoV (nA I 0) (nA I 1)).1 (quoV (nA I 0) (nA I 1)).2
 |5=>told (powV (nA I 0) (nA I 1)).1 (powV (nA I 0) (nA I 1)).2
 |6=>told (gcdV (nA I 0) (nA I 1)).1 (gcdV (nA I 0) (nA I 1)).2
 |7=>told (lcmV (nA I 0) (nA I 1)).1 (lcmV (nA I 0) (nA I 1)).2
 |8=>if nA I 0<0\/20<nA I 0 then bad 2 else num (fct (nA I 0).toNat)
 |9=>tru ((nA I 0).tmod 2==0)
 |10=>tru ((nA I 0).tmod 2 !=0)
 |11=>pos 0 (nA I 0) (nA I 1)
 |12=>pos 1 (nA I 0) (nA I 1)
 |13=>pos 2 (nA I 0) (nA I 1)
 |14=>tru (!I.b)
 |15=>if nA I 2<nA I 1 then bad 2 else num (max (nA I 1) (min (nA I 0) (nA I 2)))
 |16=>num (lenV (tA I 0))
 |17=>spelt (zkz (tA I 0) (orA I)).1 (zkz (tA I 0) (orA I)).2
 |18=>spelt (zh5 (tA I 0) (orA I)).1 (zh5 (tA I 0) (orA I)).2
 |19=>spelt (midV (tA I 0) (nA I 0) (nA I 1)).1 (midV (tA I 0) (nA I 0) (nA I 1)).2
 |20=>txt (eachS upB (tA I 0))
 |21=>txt (eachS lowB (tA I 0))
 |22=>txt (zqp (tA I 0))
 |23=>txt (zje (tA I 0))
 |24=>cond ((findV (tA I 0) (tA I 1) (orA I)).2==0) (num (findV (tA I 0) (tA I 1) (orA I)).1) (bad 4)
 |25=>spelt (ztq (tA I 0) (tA I 1) (tA I 2)).1 (ztq (tA I 0) (tA I 1) (tA I 2)).2
 |26=>replV (tA I 0) (nA I 0) (nA I 1) (tA I 1)
 |27=>spelt (zjf (tA I 0) (nA I 0)).1 (zjf (tA I 0) (nA I 0)).2
 |28=>tru ((tA I 0).toList==(tA I 1).toList)
 |29=>cond ((zg0 (tA I 0)).2==0) (num (zg0 (tA I 0)).1) (bad 4)
 |30=>spelt (zsh (nA I 0)).1 (zsh (nA I 0)).2
 |31=>num (nA I 0)
 |32=>txt (tA I 0)
 |33=>cond (I.v.k==1||I.v.k==2) (num I.v.n) (num 0)
 |34=>cond (I.v.k==3) I.v (txt cE)
 |_=>bad 6
end Cal
structure CW(W W1:World)(nsv tsv:Value)(I:Cal.In):Prop where
 b:Below W.heap.size W W1
 x:W1.heap[W.heap.size]?=some (.cells #[nsv,tsv,.bool I.b,jI I.v.k,jI I.v.n,jS I.v.t] 171 (0,0))
 y:W1.heap[W.heap.size+1]?=some (.cells #[jI 0,jI 0,jS ⟨#[]⟩] 41 (0,0))
 l:W.heap.size+1<W1.heap.size
section
variable {W W1 W2:World} {nsv tsv:Value} {I:Cal.In}
theorem CW.start(W:World)(nsv tsv:Value)(I:Cal.In):CW W ((W.alloc (.cells #[nsv,tsv,.bool I.b,jI I.v.k,jI I.v.n,jS I.v.t] 171)).alloc (.cells #[jI 0,jI 0,jS ⟨#[]⟩] 41)) nsv tsv I:=by
 refine ⟨(jB.alloc (Nat.le_refl W.heap.size) _).alloc B7 _,(heap_alloc_old _ _ B7).trans Bp4,?_,B7⟩;rw[show W.heap.size+1=(W.alloc (.cells #[nsv,tsv,.bool I.b,jI I.v.k,jI I.v.n,jS I.v.t] 171)).heap.size by simp];exact heap_alloc_new _ _
section
variable(h:CW W W1 nsv tsv I)
include h
theorem CW.call(hb:Below W1.heap.size W1 W2):CW W W2 nsv tsv I:=
 ⟨jN h.b hb,jk hb h.x,(hb.block _ h.l).trans h.y,jL h.l hb.size⟩
theorem CW.drew:CW W W1.drew nsv tsv I:=⟨h.b.drew,h.x,h.y,h.l⟩
theorem CW.drewN(n:Nat):CW W (W1.drewN n) nsv tsv I:=h.call ⟨rfl,rfl,rfl,jE,fun _ _=>rfl⟩
theorem CW.old{p:Addr}{v:Value}(hc:W.cell? p=some v)(hp:p.block<W.heap.size):W1.cell? p=some v:=(h.b.cell hp).trans hc
theorem CW.xs:W1.cell? (jA W.heap.size 0)=some nsv/\W1.cell? (jA W.heap.size 1)=some tsv/\W1.cell? (jA W.heap.size 2)=some (.bool I.b)/\W1.cell? (jA W.heap.size 3)=some (jI I.v.k)/\W1.cell? (jA W.heap.size 4)=some (jI I.v.n)/\W1.cell? (jA W.heap.size 5)=some (jS I.v.t):=
 ⟨by simpa using Lib.cell_of_heap h.x 0,by simpa using Lib.cell_of_heap h.x 1,by simpa using Lib.cell_of_heap h.x 2,by simpa using Lib.cell_of_heap h.x 3,by simpa using Lib.cell_of_heap h.x 4,by simpa using Lib.cell_of_heap h.x 5⟩
theorem CW.out(a b c:Value):Below W.heap.size W (((W1.setCell (jA (W.heap.size+1) 0) a).setCell (jA (W.heap.size+1) 1) b).setCell (jA (W.heap.size+1) 2) c):=
 set3 h.b B7
end
end
def B6(h:jp:=by have:=hL.l;show W.heap.size<W1.heap.size;omega):=h
def B105(h:jp:=by have:=(jg hbx);omega):=h
def Bp12(h:jp:=by exact jL hg hL.b.size):=h
def Bp21(h:jp:=by exact hb5.mono hb4.size):=h
def Bp37(h:jp:=by exact jL (jg hbx) hL.b.size):=h
def C34(h:jp:=by
 go_upto_region 1 with fail;generalize ((W.alloc (.cells #[jP g 0 2 gc,tsv,.bool I.b,jI I.v.k,jI I.v.n,jS I.v.t] 171)).alloc (.cells #[jI 0,jI 0,jS ⟨#[]⟩] 41))=W1 at *;have b0:=hL.old (by simpa using Lib.cell_of_heap hbx 0:W.cell? (jA bb 0)=some (.func (.func fid) #[] #[])) (jg hbx);obtain ⟨x0,x1,x2,x3,x4,x5⟩:=hL.xs;replace c0:=hL.old c0 hg;replace c1:=hL.old c1 hg;exact K34):=h
def D25(h:jp:=by
 have hS:W1.cell? (jA bb 0)=some (.func (.func fid) #[] #[])/\W1.cell? (jA W.heap.size 0)=some (jP g 0 2 gc)/\W1.cell? (jA g 0)=some (jI a)/\W1.cell? (jA g 1)=some (jI b):=⟨b0,x0,c0,c1⟩;clear b0 x0 c0 c1;have nbb:¬W.heap.size+1=bb:=B105;have mbb:¬bb=W.heap.size+1:=B105;have ng:¬W.heap.size+1=g:=B1;have mg:¬g=W.heap.size+1:=B1;exact J25):=h
def V77.J25(h:jp:=by
 go_region_held3 (fun w'=>w'.cell? (jA bb 0)=some (.func (.func fid) #[] #[])/\w'.cell? (jA W.heap.size 0)=some (jP g 0 2 gc)/\w'.cell? (jA g 0)=some (jI a)/\w'.cell? (jA g 1)=some (jI b))
  (first|go_keep|exact ⟨jQ hb4 hS.1 Bp37,jQ hb4 hS.2.1 B6,jQ hb4 hS.2.2.1 Bp12,jQ hb4 hS.2.2.2 Bp12⟩|exact ⟨jQ hb5 hS.1 Bp37,jQ hb5 hS.2.1 B6,jQ hb5 hS.2.2.1 Bp12,jQ hb5 hS.2.2.2 Bp12⟩|((try dsimp only);(repeat' apply And.intro) <;> go_keep))
  (first|(with_reducible refine (HF.out _ hL.b.drew).mono ?_;rintro e w4 ⟨rfl,hb4⟩)|(go_at_call 128;refine (HT.out _).mono ?_;rintro e w5 ⟨rfl,hb5⟩;replace hb5:=Below.trans hb4 Bp21;have hM:=hL.drew.call hb5;obtain ⟨y0,y1,y2⟩:=zaa hM.y;obtain ⟨f0,f1,f2⟩:=zab hM.y))
 go_wp2;exact jX (.agg #[jI rk,jI rn,jS rt]) (by simp[results,results253,go_sem,y0,y1,y2]) ⟨rfl,hM.out _ _ _⟩):=h
def X149.K34(h:jp:=by
 open V77 in exact D25):=h
def B112(h:jp:=by simp[results,results256,go_sem,y0,y1,y2]):=h
def M52(h:jp:=by
 have H9:=jH (fun w=>zcr 2 w);generalize Cal.bad 2=r at *;obtain ⟨rk,rn,rt⟩:=r;have hL:=CW.start W (jP g 0 2 gc) (tsv) I;go_enter func256,ntmps256;go_upto_region 1 with fail;generalize ((W.alloc (.cells #[jP g 0 2 gc,tsv,.bool I.b,jI I.v.k,jI I.v.n,jS I.v.t] 171)).alloc (.cells #[jI 0,jI 0,jS ⟨#[]⟩] 41))=W1 at *;have b0:=hL.old (by simpa using Lib.cell_of_heap hbx 0:W.cell? (jA bb 0)=some (.func (.func fid) #[] #[])) (jg hbx);obtain ⟨x0,x1,x2,x3,x4,x5⟩:=hL.xs;replace c0:=hL.old c0 hg;replace c1:=hL.old c1 hg;go_wp2_with fail;refine jM (H9.out _) ?_;intro w4 hb4;replace hL:=hL.call hb4;clear hb4;clear x0 x1 x2 x3 x4 x5;obtain ⟨y0,y1,y2⟩:=zaa hL.y;obtain ⟨f0,f1,f2⟩:=zab hL.y;go_wp2;exact jX (.agg #[jI rk,jI rn,jS rt]) B112 ⟨rfl,hL.out _ _ _⟩):=h
def V78.J25(h:jp:=by
 go_region_held3 (fun w'=>w'.cell? (jA bb 0)=some (.func (.func fid) #[] #[])/\w'.cell? (jA W.heap.size 0)=some (jP g 0 2 gc)/\w'.cell? (jA g 0)=some (jI a)/\w'.cell? (jA g 1)=some (jI b))
  (first|go_keep|exact ⟨jQ hb4 hS.1 Bp37,jQ hb4 hS.2.1 B6,jQ hb4 hS.2.2.1 Bp12,jQ hb4 hS.2.2.2 Bp12⟩|exact ⟨jQ hb5 hS.1 Bp37,jQ hb5 hS.2.1 B6,jQ hb5 hS.2.2.1 Bp12,jQ hb5 hS.2.2.2 Bp12⟩|((try dsimp only);(repeat' apply And.intro) <;> go_keep))
  (first|(with_reducible refine (HF.out _ hL.b.drew).mono ?_;rintro e w4 ⟨rfl,hb4⟩)|(go_at_call 130;refine (H9.out _).mono ?_;rintro e w5 ⟨rfl,hb5⟩;replace hb5:=Below.trans hb4 Bp21;have hM:=hL.drew.call hb5;obtain ⟨y0,y1,y2⟩:=zaa hM.y;obtain ⟨f0,f1,f2⟩:=zab hM.y))
 go_wp2;exact jX (.agg #[jI rk,jI rn,jS rt]) B112 ⟨rfl,hM.out _ _ _⟩):=h
def X150.K34(h:jp:=by
 go_upto_region 3 with fail
 open V78 in exact D25):=h
def M127(h:jp:=by
 clear x0 x1 x2 x3 x4 x5;obtain ⟨y0,y1,y2⟩:=zaa hL.y;obtain ⟨f0,f1,f2⟩:=zab hL.y;go_wp2;exact jX (.agg #[jI rk,jI rn,jS rt]) (by simp[results,results184,go_sem,y0,y1,y2]) ⟨rfl,hL.out _ _ _⟩):=h
def C17(h:jp:=by
 go_upto_region 1 with fail;generalize ((W.alloc (.cells #[jP g 0 1 gc,tsv,.bool I.b,jI I.v.k,jI I.v.n,jS I.v.t] 171)).alloc (.cells #[jI 0,jI 0,jS ⟨#[]⟩] 41))=W1 at *;obtain ⟨x0,x1,x2,x3,x4,x5⟩:=hL.xs;replace c0:=hL.old c0 hg;go_wp2_with fail;exact K17):=h
def X86.K17(h:jp:=by
 refine jM (H1.out _) ?_;intro w4 hb4;replace hL:=hL.call hb4;clear hb4;obtain ⟨x0,x1,x2,x3,x4,x5⟩:=hL.xs;go_wp2_with fail;refine jM (H2.out _) ?_;intro w5 hb5;replace hL:=hL.call hb5;clear hb5;exact M127):=h
def X87.K17(h:jp:=by
 refine jM (H9.out _) ?_;intro w4 hb4;replace hL:=hL.call hb4;clear hb4;exact M127):=h
def B113(h:jp:=by simp[results,results185,go_sem,y0,y1,y2]):=h
def M36(h:jp:=by
 obtain ⟨rk,rn,rt⟩:=r;have hL:=CW.start W (jP g 0 1 gc) (tsv) I;go_enter func185,ntmps185;go_upto_region 1 with fail;generalize ((W.alloc (.cells #[jP g 0 1 gc,tsv,.bool I.b,jI I.v.k,jI I.v.n,jS I.v.t] 171)).alloc (.cells #[jI 0,jI 0,jS ⟨#[]⟩] 41))=W1 at *;obtain ⟨x0,x1,x2,x3,x4,x5⟩:=hL.xs;replace c0:=hL.old c0 hg;go_wp2_with fail;refine jM (H9.out _) ?_;intro w4 hb4;replace hL:=hL.call hb4;clear hb4;clear x0 x1 x2 x3 x4 x5;obtain ⟨y0,y1,y2⟩:=zaa hL.y;obtain ⟨f0,f1,f2⟩:=zab hL.y;go_wp2;exact jX (.agg #[jI rk,jI rn,jS rt]) B113 ⟨rfl,hL.out _ _ _⟩):=h
def D29(h:jp:=by
 refine jM (H9.out _) ?_;intro w4 hb4;replace hL:=hL.call hb4;clear hb4;clear x0 x1 x2 x3 x4 x5;obtain ⟨y0,y1,y2⟩:=zaa hL.y;obtain ⟨f0,f1,f2⟩:=zab hL.y;exact J29):=h
def V86.J29(h:jp:=by
 go_wp2;exact jX (.agg #[jI rk,jI rn,jS rt]) (by simp[results,results191,go_sem,y0,y1,y2]) ⟨rfl,hL.out _ _ _⟩):=h
def X88.K17(h:jp:=by
 open V86 in exact D29):=h
def V87.J29(h:jp:=by
 go_wp2;exact jX (.agg #[jI rk,jI rn,jS rt]) (by simp[results,results192,go_sem,y0,y1,y2]) ⟨rfl,hL.out _ _ _⟩):=h
def X89.K17(h:jp:=by
 open V87 in exact D29):=h
def C22(h:jp:=by
 go_wp2_with fail;refine jM (H9.out _) ?_;intro w4 hb4;replace hL:=hL.call hb4;clear hb4;clear x0 x1 x2 x3 x4 x5;obtain ⟨y0,y1,y2⟩:=zaa hL.y;obtain ⟨f0,f1,f2⟩:=zab hL.y;exact K22):=h
def X108.K22(h:jp:=by
 go_wp2;exact jX (.agg #[jI rk,jI rn,jS rt]) (by simp[results,results197,go_sem,y0,y1,y2]) ⟨rfl,hL.out _ _ _⟩):=h
def D20(h:jp:=by
 go_upto_region 1 with fail;generalize ((W.alloc (.cells #[nsv,tsv,.bool I.b,jI I.v.k,jI I.v.n,jS I.v.t] 171)).alloc (.cells #[jI 0,jI 0,jS ⟨#[]⟩] 41))=W1 at *;exact J20):=h
def V60.J20(h:jp:=by
 obtain ⟨x0,x1,x2,x3,x4,x5⟩:=hL.xs
 open X108 in exact C22):=h
def M56(h:jp:=by
 obtain ⟨rk,rn,rt⟩:=r;have hL:=CW.start W (jP g 0 3 gc) (tsv) I;go_enter func198,ntmps198;go_upto_region 1 with fail;generalize ((W.alloc (.cells #[jP g 0 3 gc,tsv,.bool I.b,jI I.v.k,jI I.v.n,jS I.v.t] 171)).alloc (.cells #[jI 0,jI 0,jS ⟨#[]⟩] 41))=W1 at *;obtain ⟨x0,x1,x2,x3,x4,x5⟩:=hL.xs;replace c0:=hL.old c0 hg;replace c1:=hL.old c1 hg;replace c2:=hL.old c2 hg;go_quiet (fail);replace hL:=hL.drewN nq;go_wp2_with fail;refine jM (H9.out _) ?_;intro w4 hb4;replace hL:=hL.call hb4;clear hb4;clear x0 x1 x2 x3 x4 x5;obtain ⟨y0,y1,y2⟩:=zaa hL.y;obtain ⟨f0,f1,f2⟩:=zab hL.y;go_wp2;exact jX (.agg #[jI rk,jI rn,jS rt]) (by simp[results,results198,go_sem,y0,y1,y2]) ⟨rfl,hL.out _ _ _⟩):=h
def V88.J29(h:jp:=by
 go_wp2;exact jX (.agg #[jI rk,jI rn,jS rt]) (by simp[results,results199,go_sem,y0,y1,y2]) ⟨rfl,hL.out _ _ _⟩):=h
def X90.K17(h:jp:=by
 open V88 in exact D29):=h
def B114(h:jp:=by simp[results,results200,go_sem,y0,y1,y2]):=h
def M38(h:jp:=by
 obtain ⟨rk,rn,rt⟩:=r;have hL:=CW.start W (nsv) (tsv) I;go_enter func200,ntmps200;go_upto_region 1 with fail;generalize ((W.alloc (.cells #[nsv,tsv,.bool I.b,jI I.v.k,jI I.v.n,jS I.v.t] 171)).alloc (.cells #[jI 0,jI 0,jS ⟨#[]⟩] 41))=W1 at *;obtain ⟨x0,x1,x2,x3,x4,x5⟩:=hL.xs;go_wp2_with fail;refine jM (H9.out _) ?_;intro w4 hb4;replace hL:=hL.call hb4;clear hb4;clear x0 x1 x2 x3 x4 x5;obtain ⟨y0,y1,y2⟩:=zaa hL.y;obtain ⟨f0,f1,f2⟩:=zab hL.y;go_wp2;exact jX (.agg #[jI rk,jI rn,jS rt]) B114 ⟨rfl,hL.out _ _ _⟩):=h
def X109.K22(h:jp:=by
 go_wp2;exact jX (.agg #[jI rk,jI rn,jS rt]) (by simp[results,results201,go_sem,y0,y1,y2]) ⟨rfl,hL.out _ _ _⟩):=h
def V61.J20(h:jp:=by
 obtain ⟨x0,x1,x2,x3,x4,x5⟩:=hL.xs
 open X109 in exact C22):=h
def B115(h:jp:=by simp[results,results220,go_sem,y0,y1,y2]):=h
def M53(h:jp:=by
 have H9:=jH (fun w=>zcr 4 w);generalize Cal.bad 4=r at *;obtain ⟨rk,rn,rt⟩:=r;have hL:=CW.start W (jP g 0 2 gc) (jP h 0 2 hc) I;go_enter func220,ntmps220;go_upto_region 1 with fail;generalize ((W.alloc (.cells #[jP g 0 2 gc,jP h 0 2 hc,.bool I.b,jI I.v.k,jI I.v.n,jS I.v.t] 171)).alloc (.cells #[jI 0,jI 0,jS ⟨#[]⟩] 41))=W1 at *;obtain ⟨x0,x1,x2,x3,x4,x5⟩:=hL.xs;replace c0:=hL.old c0 hg;replace c1:=hL.old c1 hg;replace d0:=hL.old d0 hh;replace d1:=hL.old d1 hh;go_quiet (fail);replace hL:=hL.drewN nq;go_wp2_with fail;refine jM (H9.out _) ?_;intro w4 hb4;replace hL:=hL.call hb4;clear hb4;clear x0 x1 x2 x3 x4 x5;obtain ⟨y0,y1,y2⟩:=zaa hL.y;obtain ⟨f0,f1,f2⟩:=zab hL.y;go_wp2;exact jX (.agg #[jI rk,jI rn,jS rt]) B115 ⟨rfl,hL.out _ _ _⟩):=h
def Bp8(h:jp:=by exact jL hh hL.b.size):=h
def B116(h:jp:=by simp[results,results190,go_sem,y0,y1,y2]):=h
def M61(h:jp:=by
 have H9:=jH (fun w=>zcr 2 w);generalize Cal.bad 2=r at *;obtain ⟨rk,rn,rt⟩:=r;have hL:=CW.start W (jP g 0 1 gc) (tsv) I;go_enter func190,ntmps190;go_upto_region 1 with fail;generalize ((W.alloc (.cells #[jP g 0 1 gc,tsv,.bool I.b,jI I.v.k,jI I.v.n,jS I.v.t] 171)).alloc (.cells #[jI 0,jI 0,jS ⟨#[]⟩] 41))=W1 at *;obtain ⟨x0,x1,x2,x3,x4,x5⟩:=hL.xs;replace c0:=hL.old c0 hg;go_wp2_with fail;refine jM (H9.out _) ?_;intro w4 hb4;replace hL:=hL.call hb4;clear hb4;clear x0 x1 x2 x3 x4 x5;obtain ⟨y0,y1,y2⟩:=zaa hL.y;obtain ⟨f0,f1,f2⟩:=zab hL.y;go_wp2;exact jX (.agg #[jI rk,jI rn,jS rt]) B116 ⟨rfl,hL.out _ _ _⟩):=h
def Da11(h:jp:=by
 go_upto_region 1 with fail;generalize ((W.alloc (.cells #[nsv,jP h 0 1 hc,.bool I.b,jI I.v.k,jI I.v.n,jS I.v.t] 171)).alloc (.cells #[jI 0,jI 0,jS ⟨#[]⟩] 41))=W1 at *;exact Ja11):=h
def Va27.Ja11(h:jp:=by
 have b0:=hL.old (by simpa using Lib.cell_of_heap hbx 0:W.cell? (jA bb 0)=some (.func (.func fid) #[] #[])) (jg hbx);obtain ⟨x0,x1,x2,x3,x4,x5⟩:=hL.xs;replace d0:=hL.old d0 hh;have hS:W1.cell? (jA bb 0)=some (.func (.func fid) #[] #[])/\W1.cell? (jA W.heap.size 1)=some (jP h 0 1 hc)/\W1.cell? (jA h 0)=some (jS s):=⟨b0,x1,d0⟩;clear b0 x1 d0;have nbb:¬W.heap.size+1=bb:=B105;have mbb:¬bb=W.heap.size+1:=B105;have nh:¬W.heap.size+1=h:=B1;have mh:¬h=W.heap.size+1:=B1;go_region_held3 (fun w'=>w'.cell? (jA bb 0)=some (.func (.func fid) #[] #[])/\w'.cell? (jA W.heap.size 1)=some (jP h 0 1 hc)/\w'.cell? (jA h 0)=some (jS s))
  (first|go_keep|exact ⟨jQ hb4 hS.1 Bp37,jQ hb4 hS.2.1 B6,jQ hb4 hS.2.2 Bp8⟩|exact ⟨jQ hb5 hS.1 Bp37,jQ hb5 hS.2.1 B6,jQ hb5 hS.2.2 Bp8⟩|((try dsimp only);(repeat' apply And.intro) <;> go_keep))
  (first|(with_reducible refine (HF.out _ hL.b.drew).mono ?_;rintro e w4 ⟨rfl,hb4⟩)|(go_at_call 172;refine (H9.out _).mono ?_;rintro e w5 ⟨rfl,hb5⟩;replace hb5:=Below.trans hb4 Bp21;have hM:=hL.drew.call hb5;obtain ⟨y0,y1,y2⟩:=zaa hM.y;obtain ⟨f0,f1,f2⟩:=zab hM.y))
 go_wp2;exact jX (.agg #[jI rk,jI rn,jS rt]) (by simp[results,results258,go_sem,y0,y1,y2]) ⟨rfl,hM.out _ _ _⟩):=h
def D28(h:jp:=by
 refine jM (H1.out _) ?_;intro w4 hb4;replace hL:=hL.call hb4;clear hb4;obtain ⟨x0,x1,x2,x3,x4,x5⟩:=hL.xs;go_wp2_with fail;refine jM (H9.out _) ?_;intro w5 hb5;replace hL:=hL.call hb5;clear hb5;clear x0 x1 x2 x3 x4 x5;obtain ⟨y0,y1,y2⟩:=zaa hL.y;obtain ⟨f0,f1,f2⟩:=zab hL.y;exact J28):=h
def V84.J28(h:jp:=by
 go_wp2;exact jX (.agg #[jI rk,jI rn,jS rt]) (by simp[results,results202,go_sem,y0,y1,y2]) ⟨rfl,hL.out _ _ _⟩):=h
def Va28.Ja11(h:jp:=by
 obtain ⟨x0,x1,x2,x3,x4,x5⟩:=hL.xs;replace d0:=hL.old d0 hh;go_wp2_with fail
 open V84 in exact D28):=h
def Bp83(h:jp:=by exact hb6.mono hb5.size):=h
def M185(h:jp:=by
 go_wp2;exact jX (.agg #[jI rk,jI rn,jS rt]) (by simp[results,results204,go_sem,y0,y1,y2]) ⟨rfl,hM.out _ _ _⟩):=h
def C31(h:jp:=by
 go_upto_region 1 with fail;generalize ((W.alloc (.cells #[.slice na 0 nc,jP h 0 1 hc,.bool I.b,jI I.v.k,jI I.v.n,jS I.v.t] 171)).alloc (.cells #[jI 0,jI 0,jS ⟨#[]⟩] 41))=W1 at *;obtain ⟨x0,x1,x2,x3,x4,x5⟩:=hL.xs;replace d0:=hL.old d0 hh;have hS:W1.cell? (jA W.heap.size 0)=some (.slice na 0 nc)/\W1.cell? (jA W.heap.size 1)=some (jP h 0 1 hc)/\W1.cell? (jA h 0)=some (jS s):=⟨x0,x1,d0⟩;clear x0 x1 d0;have nh:¬W.heap.size+1=h:=B1;have mh:¬h=W.heap.size+1:=B1;exact K31):=h
def X139.K31(h:jp:=by
 go_region_held3 (fun w'=>w'.cell? (jA W.heap.size 0)=some (.slice na 0 nc)/\w'.cell? (jA W.heap.size 1)=some (jP h 0 1 hc)/\w'.cell? (jA h 0)=some (jS s))
  (first|go_keep|exact ⟨jQ hb4 hS.1 B6,jQ hb4 hS.2.1 B6,jQ hb4 hS.2.2 Bp8⟩|exact ⟨jQ hb5 hS.1 B6,jQ hb5 hS.2.1 B6,jQ hb5 hS.2.2 Bp8⟩|exact ⟨jQ hb6 hS.1 B6,jQ hb6 hS.2.1 B6,jQ hb6 hS.2.2 Bp8⟩|((try dsimp only);(repeat' apply And.intro) <;> go_keep))
  (first|(go_at_call 206;refine (H1.out _).mono ?_;rintro e w4 ⟨rfl,hb4⟩)|(go_at_call 205;refine (H2.out _).mono ?_;rintro e w5 ⟨rfl,hb5⟩;replace hb5:=Below.trans hb4 Bp21)|(go_at_call 131;refine (H9.out _).mono ?_;rintro e w6 ⟨rfl,hb6⟩;replace hb6:=Below.trans hb5 Bp83;have hM:=hL.drew.call hb6;obtain ⟨y0,y1,y2⟩:=zaa hM.y;obtain ⟨f0,f1,f2⟩:=zab hM.y))
 exact M185):=h
def D21(h:jp:=by
 have H9:=jH (fun w=>zc0 u x w);rw[hu] at H2;clear hu;generalize Cal.spelt u x=r at *;obtain ⟨rk,rn,rt⟩:=r;exact J21):=h
def V62.J21(h:jp:=by
 have hL:=CW.start W (.slice na 0 nc) (jP h 0 1 hc) I;go_enter func204,ntmps204
 open X139 in exact C31):=h
def C16(h:jp:=by
 go_upto_region 1 with fail;generalize ((W.alloc (.cells #[jP g 0 1 gc,jP h 0 1 hc,.bool I.b,jI I.v.k,jI I.v.n,jS I.v.t] 171)).alloc (.cells #[jI 0,jI 0,jS ⟨#[]⟩] 41))=W1 at *;obtain ⟨x0,x1,x2,x3,x4,x5⟩:=hL.xs;replace c0:=hL.old c0 hg;replace d0:=hL.old d0 hh;have hS:W1.cell? (jA W.heap.size 0)=some (jP g 0 1 gc)/\W1.cell? (jA W.heap.size 1)=some (jP h 0 1 hc)/\W1.cell? (jA g 0)=some (jI n)/\W1.cell? (jA h 0)=some (jS s):=⟨x0,x1,c0,d0⟩;clear x0 x1 c0 d0;have ng:¬W.heap.size+1=g:=B1;have mg:¬g=W.heap.size+1:=B1;have nh:¬W.heap.size+1=h:=B1;have mh:¬h=W.heap.size+1:=B1;exact K16):=h
def X82.K16(h:jp:=by
 go_region_held3 (fun w'=>w'.cell? (jA W.heap.size 0)=some (jP g 0 1 gc)/\w'.cell? (jA W.heap.size 1)=some (jP h 0 1 hc)/\w'.cell? (jA g 0)=some (jI n)/\w'.cell? (jA h 0)=some (jS s))
  (first|go_keep|exact ⟨jQ hb4 hS.1 B6,jQ hb4 hS.2.1 B6,jQ hb4 hS.2.2.1 Bp12,jQ hb4 hS.2.2.2 Bp8⟩|exact ⟨jQ hb5 hS.1 B6,jQ hb5 hS.2.1 B6,jQ hb5 hS.2.2.1 Bp12,jQ hb5 hS.2.2.2 Bp8⟩|exact ⟨jQ hb6 hS.1 B6,jQ hb6 hS.2.1 B6,jQ hb6 hS.2.2.1 Bp12,jQ hb6 hS.2.2.2 Bp8⟩|((try dsimp only);(repeat' apply And.intro) <;> go_keep))
  (first|(go_at_call 206;refine (H1.out _ hL.b.drew).mono ?_;rintro e w4 ⟨rfl,hb4⟩)|(go_at_call 205;refine (H2.out _).mono ?_;rintro e w5 ⟨rfl,hb5⟩;replace hb5:=Below.trans hb4 Bp21)|(go_at_call 131;refine (H9.out _).mono ?_;rintro e w6 ⟨rfl,hb6⟩;replace hb6:=Below.trans hb5 Bp83;have hM:=hL.drew.call hb6;obtain ⟨y0,y1,y2⟩:=zaa hM.y;obtain ⟨f0,f1,f2⟩:=zab hM.y))
 exact M185):=h
def V63.J21(h:jp:=by
 have hL:=CW.start W (jP g 0 1 gc) (jP h 0 1 hc) I;go_enter func204,ntmps204
 open X82 in exact C16):=h
def M186(h:jp:=by
 go_wp2;exact jX (.agg #[jI rk,jI rn,jS rt]) (by simp[results,results207,go_sem,y0,y1,y2]) ⟨rfl,hM.out _ _ _⟩):=h
def X140.K31(h:jp:=by
 go_region_held3 (fun w'=>w'.cell? (jA W.heap.size 0)=some (.slice na 0 nc)/\w'.cell? (jA W.heap.size 1)=some (jP h 0 1 hc)/\w'.cell? (jA h 0)=some (jS s))
  (first|go_keep|exact ⟨jQ hb4 hS.1 B6,jQ hb4 hS.2.1 B6,jQ hb4 hS.2.2 Bp8⟩|exact ⟨jQ hb5 hS.1 B6,jQ hb5 hS.2.1 B6,jQ hb5 hS.2.2 Bp8⟩|exact ⟨jQ hb6 hS.1 B6,jQ hb6 hS.2.1 B6,jQ hb6 hS.2.2 Bp8⟩|((try dsimp only);(repeat' apply And.intro) <;> go_keep))
  (first|(go_at_call 206;refine (H1.out _).mono ?_;rintro e w4 ⟨rfl,hb4⟩)|(go_at_call 208;refine (H2.out _).mono ?_;rintro e w5 ⟨rfl,hb5⟩;replace hb5:=Below.trans hb4 Bp21)|(go_at_call 131;refine (H9.out _).mono ?_;rintro e w6 ⟨rfl,hb6⟩;replace hb6:=Below.trans hb5 Bp83;have hM:=hL.drew.call hb6;obtain ⟨y0,y1,y2⟩:=zaa hM.y;obtain ⟨f0,f1,f2⟩:=zab hM.y))
 exact M186):=h
def V64.J21(h:jp:=by
 have hL:=CW.start W (.slice na 0 nc) (jP h 0 1 hc) I;go_enter func207,ntmps207
 open X140 in exact C31):=h
def X83.K16(h:jp:=by
 go_region_held3 (fun w'=>w'.cell? (jA W.heap.size 0)=some (jP g 0 1 gc)/\w'.cell? (jA W.heap.size 1)=some (jP h 0 1 hc)/\w'.cell? (jA g 0)=some (jI n)/\w'.cell? (jA h 0)=some (jS s))
  (first|go_keep|exact ⟨jQ hb4 hS.1 B6,jQ hb4 hS.2.1 B6,jQ hb4 hS.2.2.1 Bp12,jQ hb4 hS.2.2.2 Bp8⟩|exact ⟨jQ hb5 hS.1 B6,jQ hb5 hS.2.1 B6,jQ hb5 hS.2.2.1 Bp12,jQ hb5 hS.2.2.2 Bp8⟩|exact ⟨jQ hb6 hS.1 B6,jQ hb6 hS.2.1 B6,jQ hb6 hS.2.2.1 Bp12,jQ hb6 hS.2.2.2 Bp8⟩|((try dsimp only);(repeat' apply And.intro) <;> go_keep))
  (first|(go_at_call 206;refine (H1.out _ hL.b.drew).mono ?_;rintro e w4 ⟨rfl,hb4⟩)|(go_at_call 208;refine (H2.out _).mono ?_;rintro e w5 ⟨rfl,hb5⟩;replace hb5:=Below.trans hb4 Bp21)|(go_at_call 131;refine (H9.out _).mono ?_;rintro e w6 ⟨rfl,hb6⟩;replace hb6:=Below.trans hb5 Bp83;have hM:=hL.drew.call hb6;obtain ⟨y0,y1,y2⟩:=zaa hM.y;obtain ⟨f0,f1,f2⟩:=zab hM.y))
 exact M186):=h
def V65.J21(h:jp:=by
 have hL:=CW.start W (jP g 0 1 gc) (jP h 0 1 hc) I;go_enter func207,ntmps207
 open X83 in exact C16):=h
def V66.J21(h:jp:=by
 have hL:=CW.start W (jP g 0 2 gc) (jP h 0 1 hc) I;go_enter func209,ntmps209;go_upto_region 1 with fail;generalize ((W.alloc (.cells #[jP g 0 2 gc,jP h 0 1 hc,.bool I.b,jI I.v.k,jI I.v.n,jS I.v.t] 171)).alloc (.cells #[jI 0,jI 0,jS ⟨#[]⟩] 41))=W1 at *;obtain ⟨x0,x1,x2,x3,x4,x5⟩:=hL.xs;replace c0:=hL.old c0 hg;replace c1:=hL.old c1 hg;replace d0:=hL.old d0 hh;have hS:W1.cell? (jA W.heap.size 0)=some (jP g 0 2 gc)/\W1.cell? (jA W.heap.size 1)=some (jP h 0 1 hc)/\W1.cell? (jA g 0)=some (jI f)/\W1.cell? (jA g 1)=some (jI n)/\W1.cell? (jA h 0)=some (jS s):=⟨x0,x1,c0,c1,d0⟩;clear x0 x1 c0 c1 d0;have ng:¬W.heap.size+1=g:=B1;have mg:¬g=W.heap.size+1:=B1;have nh:¬W.heap.size+1=h:=B1;have mh:¬h=W.heap.size+1:=B1;go_region_held3 (fun w'=>w'.cell? (jA W.heap.size 0)=some (jP g 0 2 gc)/\w'.cell? (jA W.heap.size 1)=some (jP h 0 1 hc)/\w'.cell? (jA g 0)=some (jI f)/\w'.cell? (jA g 1)=some (jI n)/\w'.cell? (jA h 0)=some (jS s))
  (first|go_keep|exact ⟨jQ hb4 hS.1 B6,jQ hb4 hS.2.1 B6,jQ hb4 hS.2.2.1 Bp12,jQ hb4 hS.2.2.2.1 Bp12,jQ hb4 hS.2.2.2.2 Bp8⟩|exact ⟨jQ hb5 hS.1 B6,jQ hb5 hS.2.1 B6,jQ hb5 hS.2.2.1 Bp12,jQ hb5 hS.2.2.2.1 Bp12,jQ hb5 hS.2.2.2.2 Bp8⟩|((try dsimp only);(repeat' apply And.intro) <;> go_keep))
  (first|(go_at_call 210;refine (H2.out _).mono ?_;rintro e w4 ⟨rfl,hb4⟩)|(go_at_call 131;refine (H9.out _).mono ?_;rintro e w5 ⟨rfl,hb5⟩;replace hb5:=Below.trans hb4 Bp21;have hM:=hL.drew.call hb5;obtain ⟨y0,y1,y2⟩:=zaa hM.y;obtain ⟨f0,f1,f2⟩:=zab hM.y))
 go_wp2;exact jX (.agg #[jI rk,jI rn,jS rt]) (by simp[results,results209,go_sem,y0,y1,y2]) ⟨rfl,hM.out _ _ _⟩):=h
def B85(h:jp:=by simp[results,results216,go_sem,y0,y1,y2]):=h
def M26(h:jp:=by
 obtain ⟨rk,rn,rt⟩:=r;have hL:=CW.start W (.slice na 0 nc) (jP h 0 2 hc) I;go_enter func216,ntmps216;go_upto_region 1 with fail;generalize ((W.alloc (.cells #[.slice na 0 nc,jP h 0 2 hc,.bool I.b,jI I.v.k,jI I.v.n,jS I.v.t] 171)).alloc (.cells #[jI 0,jI 0,jS ⟨#[]⟩] 41))=W1 at *;obtain ⟨x0,x1,x2,x3,x4,x5⟩:=hL.xs;replace d0:=hL.old d0 hh;replace d1:=hL.old d1 hh;have hS:W1.cell? (jA W.heap.size 0)=some (.slice na 0 nc)/\W1.cell? (jA W.heap.size 1)=some (jP h 0 2 hc)/\W1.cell? (jA h 0)=some (jS p)/\W1.cell? (jA h 1)=some (jS s):=⟨x0,x1,d0,d1⟩;clear x0 x1 d0 d1;have nh:¬W.heap.size+1=h:=B1;have mh:¬h=W.heap.size+1:=B1;go_region_held3 (fun w'=>w'.cell? (jA W.heap.size 0)=some (.slice na 0 nc)/\w'.cell? (jA W.heap.size 1)=some (jP h 0 2 hc)/\w'.cell? (jA h 0)=some (jS p)/\w'.cell? (jA h 1)=some (jS s))
  (first|go_keep|exact ⟨jQ hb4 hS.1 B6,jQ hb4 hS.2.1 B6,jQ hb4 hS.2.2.1 Bp8,jQ hb4 hS.2.2.2 Bp8⟩|exact ⟨jQ hb5 hS.1 B6,jQ hb5 hS.2.1 B6,jQ hb5 hS.2.2.1 Bp8,jQ hb5 hS.2.2.2 Bp8⟩|((try dsimp only);(repeat' apply And.intro) <;> go_keep))
  (first|(go_at_call 206;refine (H1.out _).mono ?_;rintro e w4 ⟨rfl,hb4⟩)|(go_at_call 217;refine (H2.out _).mono ?_;rintro e w5 ⟨rfl,hb5⟩;replace hb5:=Below.trans hb4 Bp21))
 replace hL:=hL.drew.call hb5;go_wp2_with fail;refine jM (H9.out _) ?_;intro w8 hb8;replace hL:=hL.call hb8;clear hb8;obtain ⟨y0,y1,y2⟩:=zaa hL.y;obtain ⟨f0,f1,f2⟩:=zab hL.y;go_wp2;exact jX (.agg #[jI rk,jI rn,jS rt]) B85 ⟨rfl,hL.out _ _ _⟩):=h
def M22(h:jp:=by
 obtain ⟨rk,rn,rt⟩:=r;have hL:=CW.start W (jP g 0 1 gc) (jP h 0 2 hc) I;go_enter func216,ntmps216;go_upto_region 1 with fail;generalize ((W.alloc (.cells #[jP g 0 1 gc,jP h 0 2 hc,.bool I.b,jI I.v.k,jI I.v.n,jS I.v.t] 171)).alloc (.cells #[jI 0,jI 0,jS ⟨#[]⟩] 41))=W1 at *;obtain ⟨x0,x1,x2,x3,x4,x5⟩:=hL.xs;replace c0:=hL.old c0 hg;replace d0:=hL.old d0 hh;replace d1:=hL.old d1 hh;have hS:W1.cell? (jA W.heap.size 0)=some (jP g 0 1 gc)/\W1.cell? (jA W.heap.size 1)=some (jP h 0 2 hc)/\W1.cell? (jA g 0)=some (jI n)/\W1.cell? (jA h 0)=some (jS p)/\W1.cell? (jA h 1)=some (jS s):=⟨x0,x1,c0,d0,d1⟩;clear x0 x1 c0 d0 d1;have ng:¬W.heap.size+1=g:=B1;have mg:¬g=W.heap.size+1:=B1;have nh:¬W.heap.size+1=h:=B1;have mh:¬h=W.heap.size+1:=B1;go_region_held3 (fun w'=>w'.cell? (jA W.heap.size 0)=some (jP g 0 1 gc)/\w'.cell? (jA W.heap.size 1)=some (jP h 0 2 hc)/\w'.cell? (jA g 0)=some (jI n)/\w'.cell? (jA h 0)=some (jS p)/\w'.cell? (jA h 1)=some (jS s))
  (first|go_keep|exact ⟨jQ hb4 hS.1 B6,jQ hb4 hS.2.1 B6,jQ hb4 hS.2.2.1 Bp12,jQ hb4 hS.2.2.2.1 Bp8,jQ hb4 hS.2.2.2.2 Bp8⟩|exact ⟨jQ hb5 hS.1 B6,jQ hb5 hS.2.1 B6,jQ hb5 hS.2.2.1 Bp12,jQ hb5 hS.2.2.2.1 Bp8,jQ hb5 hS.2.2.2.2 Bp8⟩|((try dsimp only);(repeat' apply And.intro) <;> go_keep))
  (first|(go_at_call 206;refine (H1.out _ hL.b.drew).mono ?_;rintro e w4 ⟨rfl,hb4⟩)|(go_at_call 217;refine (H2.out _).mono ?_;rintro e w5 ⟨rfl,hb5⟩;replace hb5:=Below.trans hb4 Bp21))
 replace hL:=hL.drew.call hb5;go_wp2_with fail;refine jM (H9.out _) ?_;intro w8 hb8;replace hL:=hL.call hb8;clear hb8;obtain ⟨y0,y1,y2⟩:=zaa hL.y;obtain ⟨f0,f1,f2⟩:=zab hL.y;go_wp2;exact jX (.agg #[jI rk,jI rn,jS rt]) B85 ⟨rfl,hL.out _ _ _⟩):=h
def X84.K16(h:jp:=by
 go_region_held3 (fun w'=>w'.cell? (jA W.heap.size 0)=some (jP g 0 1 gc)/\w'.cell? (jA W.heap.size 1)=some (jP h 0 1 hc)/\w'.cell? (jA g 0)=some (jI n)/\w'.cell? (jA h 0)=some (jS s))
  (first|go_keep|exact ⟨jQ hb4 hS.1 B6,jQ hb4 hS.2.1 B6,jQ hb4 hS.2.2.1 Bp12,jQ hb4 hS.2.2.2 Bp8⟩|exact ⟨jQ hb5 hS.1 B6,jQ hb5 hS.2.1 B6,jQ hb5 hS.2.2.1 Bp12,jQ hb5 hS.2.2.2 Bp8⟩|((try dsimp only);(repeat' apply And.intro) <;> go_keep))
  (first|(go_at_call 222;refine (H2.out _).mono ?_;rintro e w4 ⟨rfl,hb4⟩)|(go_at_call 131;refine (H9.out _).mono ?_;rintro e w5 ⟨rfl,hb5⟩;replace hb5:=Below.trans hb4 Bp21;have hM:=hL.drew.call hb5;obtain ⟨y0,y1,y2⟩:=zaa hM.y;obtain ⟨f0,f1,f2⟩:=zab hM.y))
 go_wp2;exact jX (.agg #[jI rk,jI rn,jS rt]) (by simp[results,results221,go_sem,y0,y1,y2]) ⟨rfl,hM.out _ _ _⟩):=h
def V67.J21(h:jp:=by
 have hL:=CW.start W (jP g 0 1 gc) (jP h 0 1 hc) I;go_enter func221,ntmps221
 open X84 in exact C16):=h
def M54(h:jp:=by
 obtain ⟨rk,rn,rt⟩:=r;have hL:=CW.start W (nsv) (jP h 0 1 hc) I;go_enter func224,ntmps224;go_upto_region 1 with fail;generalize ((W.alloc (.cells #[nsv,jP h 0 1 hc,.bool I.b,jI I.v.k,jI I.v.n,jS I.v.t] 171)).alloc (.cells #[jI 0,jI 0,jS ⟨#[]⟩] 41))=W1 at *;obtain ⟨x0,x1,x2,x3,x4,x5⟩:=hL.xs;replace d0:=hL.old d0 hh;go_wp2_with fail;refine jM (H1.out _) ?_;intro w4 hb4;replace hL:=hL.call hb4;clear hb4;obtain ⟨x0,x1,x2,x3,x4,x5⟩:=hL.xs;go_wp2_with fail;refine jM (H9.out _) ?_;intro w5 hb5;replace hL:=hL.call hb5;clear hb5;clear x0 x1 x2 x3 x4 x5;obtain ⟨y0,y1,y2⟩:=zaa hL.y;obtain ⟨f0,f1,f2⟩:=zab hL.y;go_wp2;exact jX (.agg #[jI rk,jI rn,jS rt]) (by simp[results,results224,go_sem,y0,y1,y2]) ⟨rfl,hL.out _ _ _⟩):=h
def V85.J28(h:jp:=by
 go_wp2;exact jX (.agg #[jI rk,jI rn,jS rt]) (by simp[results,results226,go_sem,y0,y1,y2]) ⟨rfl,hL.out _ _ _⟩):=h
def X85.K17(h:jp:=by
 open V85 in exact D28):=h
def X106.K22(h:jp:=by
 go_wp2;exact jX (.agg #[jI rk,jI rn,jS rt]) (by simp[results,results228,go_sem,y0,y1,y2]) ⟨rfl,hL.out _ _ _⟩):=h
def Va29.Ja11(h:jp:=by
 obtain ⟨x0,x1,x2,x3,x4,x5⟩:=hL.xs;replace d0:=hL.old d0 hh
 open X106 in exact C22):=h
def V58.J20(h:jp:=by
 obtain ⟨x0,x1,x2,x3,x4,x5⟩:=hL.xs;obtain ⟨y0,y1,y2⟩:=zaa hL.y;obtain ⟨f0,f1,f2⟩:=zab hL.y;go_wp2;exact jX (.agg #[jI I.v.k,jI I.v.n,jS I.v.t]) (by simp[results,results229,go_sem,y0,y1,y2]) ⟨rfl,hL.out _ _ _⟩):=h
def X107.K22(h:jp:=by
 go_wp2;exact jX (.agg #[jI rk,jI rn,jS rt]) (by simp[results,results229,go_sem,y0,y1,y2]) ⟨rfl,hL.out _ _ _⟩):=h
def V59.J20(h:jp:=by
 obtain ⟨x0,x1,x2,x3,x4,x5⟩:=hL.xs
 open X107 in exact C22):=h
theorem za4(n:Int)(w:World):Ret 130 #[jI n] w (vv (Cal.num n)):=zda n w
theorem zcr(n:Int)(w:World):Ret 124 #[jI n] w (vv (Cal.bad n)):=zar n w
theorem zk8(s:ByteArray)(w:World):Ret 172 #[jS s] w (vv (Cal.txt s)):=zml s w
section
variable(fid:FuncId)
include fid
theorem zez(hcf:∀args w,(callFunc fid args).run prog w= .ok (.enter fid args) w)(a b u x:Int)(W:World)(g gc:Nat)(tsv:Value)(bb bT:Nat)(I:Cal.In)(hg:g<W.heap.size)(c0:W.cell? (jA g 0)=some (jI a))(c1:W.cell? (jA g 1)=some (jI b))(hbx:W.heap[bb]?=some (.cells #[.func (.func fid) #[] #[]] bT (0,0)))(hf:∀w,Below W.heap.size W w->Ret fid #[jI a,jI b] w (.tuple #[jI u,jI x])):
 Ret 253 #[.agg #[jP g 0 2 gc,tsv,.bool I.b,jI I.v.k,jI I.v.n,jS I.v.t],jU bb 0] W (vv (Cal.told u x)):=by
 have HF:=jH (hf);have HT:=jH (fun w=>zfk u x w);clear hf;generalize Cal.told u x=r at *;obtain ⟨rk,rn,rt⟩:=r;have hL:=CW.start W (jP g 0 2 gc) (tsv) I;go_enter func253,ntmps253
 open X149 in exact C34
theorem zuf(a b:Int)(t0:decide (a<0)=true)(W:World)(g gc:Nat)(tsv:Value)(bb bT:Nat)(I:Cal.In)(hg:g<W.heap.size)(c0:W.cell? (jA g 0)=some (jI a))(c1:W.cell? (jA g 1)=some (jI b))(hbx:W.heap[bb]?=some (.cells #[.func (.func fid) #[] #[]] bT (0,0))):
 Ret 256 #[.agg #[jP g 0 2 gc,tsv,.bool I.b,jI I.v.k,jI I.v.n,jS I.v.t],jU bb 0] W (vv (Cal.bad 2)):=by
 exact M52
theorem zue(a b:Int)(t0:decide (a<0)=false)(t1:decide (b<0)=true)(W:World)(g gc:Nat)(tsv:Value)(bb bT:Nat)(I:Cal.In)(hg:g<W.heap.size)(c0:W.cell? (jA g 0)=some (jI a))(c1:W.cell? (jA g 1)=some (jI b))(hbx:W.heap[bb]?=some (.cells #[.func (.func fid) #[] #[]] bT (0,0))):
 Ret 256 #[.agg #[jP g 0 2 gc,tsv,.bool I.b,jI I.v.k,jI I.v.n,jS I.v.t],jU bb 0] W (vv (Cal.bad 2)):=by
 exact M52
theorem zud(hcf:∀args w,(callFunc fid args).run prog w= .ok (.enter fid args) w)(a b u:Int)(t0:decide (a<0)=false)(t1:decide (b<0)=false)(W:World)(g gc:Nat)(tsv:Value)(bb bT:Nat)(I:Cal.In)(hg:g<W.heap.size)(c0:W.cell? (jA g 0)=some (jI a))(c1:W.cell? (jA g 1)=some (jI b))(hbx:W.heap[bb]?=some (.cells #[.func (.func fid) #[] #[]] bT (0,0)))(hf:∀w,Below W.heap.size W w->Ret fid #[jI a,jI b] w (jI u)):
 Ret 256 #[.agg #[jP g 0 2 gc,tsv,.bool I.b,jI I.v.k,jI I.v.n,jS I.v.t],jU bb 0] W (vv (Cal.num u)):=by
 have HF:=jH (hf);have H9:=jH (fun w=>za4 u w);clear hf;generalize Cal.num u=r at *;obtain ⟨rk,rn,rt⟩:=r;have hL:=CW.start W (jP g 0 2 gc) (tsv) I;go_enter func256,ntmps256
 open X150 in exact C34
end
section
variable(a:Int)
include a
theorem wk1a(ha:I64 a)(t0:decide (a<0)=true)(W:World)(g gc:Nat)(tsv:Value)(I:Cal.In)(hg:g<W.heap.size)(c0:W.cell? (jA g 0)=some (jI a)):
 Ret 184 #[.agg #[jP g 0 1 gc,tsv,.bool I.b,jI I.v.k,jI I.v.n,jS I.v.t]] W (vv (Cal.fits (Ref.fitV (0-a)) (Ref.fitB (0-a)))):=by
 have H1:=jH (fun w=>csub 0 a ⟨by decide,B3⟩ ha w);have H2:=jH (fun w=>cfits_any (Ref.fitV (0-a)) (Ref.fitB (0-a)) w);generalize Ref.fitV (0-a)=u at *;generalize Ref.fitB (0-a)=b at *;generalize Cal.fits u b=r at *;obtain ⟨rk,rn,rt⟩:=r;have hL:=CW.start W (jP g 0 1 gc) (tsv) I;go_enter func184,ntmps184
 open X86 in exact C17
theorem wk1b(t0:decide (a<0)=false)(W:World)(g gc:Nat)(tsv:Value)(I:Cal.In)(hg:g<W.heap.size)(c0:W.cell? (jA g 0)=some (jI a)):
 Ret 184 #[.agg #[jP g 0 1 gc,tsv,.bool I.b,jI I.v.k,jI I.v.n,jS I.v.t]] W (vv (Cal.num a)):=by
 have H9:=jH (fun w=>za4 a w);generalize Cal.num a=r at *;obtain ⟨rk,rn,rt⟩:=r;have hL:=CW.start W (jP g 0 1 gc) (tsv) I;go_enter func184,ntmps184
 open X87 in exact C17
theorem wk2a(t0:decide (a<0)=true)(W:World)(g gc:Nat)(tsv:Value)(I:Cal.In)(hg:g<W.heap.size)(c0:W.cell? (jA g 0)=some (jI a)):
 Ret 185 #[.agg #[jP g 0 1 gc,tsv,.bool I.b,jI I.v.k,jI I.v.n,jS I.v.t]] W (vv (Cal.num (-1))):=by
 have H9:=jH (fun w=>za4 (-1) w);generalize Cal.num (-1)=r at *;exact M36
theorem wk2b(t0:decide (a<0)=false)(t1:decide (0<a)=true)(W:World)(g gc:Nat)(tsv:Value)(I:Cal.In)(hg:g<W.heap.size)(c0:W.cell? (jA g 0)=some (jI a)):
 Ret 185 #[.agg #[jP g 0 1 gc,tsv,.bool I.b,jI I.v.k,jI I.v.n,jS I.v.t]] W (vv (Cal.num 1)):=by
 have H9:=jH (fun w=>za4 1 w);generalize Cal.num 1=r at *;exact M36
theorem wk2c(t0:decide (a<0)=false)(t1:decide (0<a)=false)(W:World)(g gc:Nat)(tsv:Value)(I:Cal.In)(hg:g<W.heap.size)(c0:W.cell? (jA g 0)=some (jI a)):
 Ret 185 #[.agg #[jP g 0 1 gc,tsv,.bool I.b,jI I.v.k,jI I.v.n,jS I.v.t]] W (vv (Cal.num 0)):=by
 have H9:=jH (fun w=>za4 0 w);generalize Cal.num 0=r at *;exact M36
theorem wk9(b:Bool)(hb:(a.tmod 2==0)=b)(W:World)(g gc:Nat)(tsv:Value)(I:Cal.In)(hg:g<W.heap.size)(c0:W.cell? (jA g 0)=some (jI a)):
 Ret 191 #[.agg #[jP g 0 1 gc,tsv,.bool I.b,jI I.v.k,jI I.v.n,jS I.v.t]] W (vv (Cal.tru b)):=by
 have H9:=jH (fun w=>zcc b w);generalize Cal.tru b=r at *;obtain ⟨rk,rn,rt⟩:=r;have hL:=CW.start W (jP g 0 1 gc) (tsv) I;go_enter func191,ntmps191
 open X88 in exact C17
theorem wk10(b:Bool)(hb:(a.tmod 2 !=0)=b)(W:World)(g gc:Nat)(tsv:Value)(I:Cal.In)(hg:g<W.heap.size)(c0:W.cell? (jA g 0)=some (jI a)):
 Ret 192 #[.agg #[jP g 0 1 gc,tsv,.bool I.b,jI I.v.k,jI I.v.n,jS I.v.t]] W (vv (Cal.tru b)):=by
 have H9:=jH (fun w=>zcc b w);generalize Cal.tru b=r at *;obtain ⟨rk,rn,rt⟩:=r;have hL:=CW.start W (jP g 0 1 gc) (tsv) I;go_enter func192,ntmps192
 open X89 in exact C17
end
theorem wk14(b:Bool)(W:World)(nsv:Value)(tsv:Value)(I:Cal.In)(hb:(!I.b)=b):
 Ret 197 #[.agg #[nsv,tsv,.bool I.b,jI I.v.k,jI I.v.n,jS I.v.t]] W (vv (Cal.tru b)):=by
 have H9:=jH (fun w=>zcc b w);generalize Cal.tru b=r at *;obtain ⟨rk,rn,rt⟩:=r;have hL:=CW.start W (nsv) (tsv) I;go_enter func197,ntmps197
 open V60 in exact D20
theorem wk15a(a lo hi:Int)(t0:decide (hi<lo)=true)(W:World)(g gc:Nat)(tsv:Value)(I:Cal.In)(hg:g<W.heap.size)(c0:W.cell? (jA g 0)=some (jI a))(c1:W.cell? (jA g 1)=some (jI lo))(c2:W.cell? (jA g 2)=some (jI hi)):
 Ret 198 #[.agg #[jP g 0 3 gc,tsv,.bool I.b,jI I.v.k,jI I.v.n,jS I.v.t]] W (vv (Cal.bad 2)):=by
 have H9:=jH (fun w=>zcr 2 w);generalize Cal.bad 2=r at *;exact M56
theorem wk15b(a lo hi p q:Int)(t0:decide (hi<lo)=false)(e0:min a hi=p)(e1:max lo p=q)(W:World)(g gc:Nat)(tsv:Value)(I:Cal.In)(hg:g<W.heap.size)(c0:W.cell? (jA g 0)=some (jI a))(c1:W.cell? (jA g 1)=some (jI lo))(c2:W.cell? (jA g 2)=some (jI hi)):
 Ret 198 #[.agg #[jP g 0 3 gc,tsv,.bool I.b,jI I.v.k,jI I.v.n,jS I.v.t]] W (vv (Cal.num q)):=by
 have H9:=jH (fun w=>za4 q w);generalize Cal.num q=r at *;exact M56
theorem wk31(a:Int)(W:World)(g gc:Nat)(tsv:Value)(I:Cal.In)(hg:g<W.heap.size)(c0:W.cell? (jA g 0)=some (jI a)):
 Ret 199 #[.agg #[jP g 0 1 gc,tsv,.bool I.b,jI I.v.k,jI I.v.n,jS I.v.t]] W (vv (Cal.num a)):=by
 have H9:=jH (fun w=>za4 a w);generalize Cal.num a=r at *;obtain ⟨rk,rn,rt⟩:=r;have hL:=CW.start W (jP g 0 1 gc) (tsv) I;go_enter func199,ntmps199
 open X90 in exact C17
section
variable(W:World)(nsv:Value)(tsv:Value)(I:Cal.In)
include W nsv tsv I
theorem wk33a(t0:(I.v.k==1)=true):
 Ret 200 #[.agg #[nsv,tsv,.bool I.b,jI I.v.k,jI I.v.n,jS I.v.t]] W (vv (Cal.num I.v.n)):=by
 have H9:=jH (fun w=>za4 I.v.n w);generalize Cal.num I.v.n=r at *;exact M38
theorem wk33b(t0:(I.v.k==1)=false)(t1:(I.v.k==2)=true):
 Ret 200 #[.agg #[nsv,tsv,.bool I.b,jI I.v.k,jI I.v.n,jS I.v.t]] W (vv (Cal.num I.v.n)):=by
 have H9:=jH (fun w=>za4 I.v.n w);generalize Cal.num I.v.n=r at *;exact M38
theorem wk33c(t0:(I.v.k==1)=false)(t1:(I.v.k==2)=false):
 Ret 200 #[.agg #[nsv,tsv,.bool I.b,jI I.v.k,jI I.v.n,jS I.v.t]] W (vv (Cal.num 0)):=by
 have H9:=jH (fun w=>za4 0 w);generalize Cal.num 0=r at *;exact M38
theorem wk35:
 Ret 201 #[.agg #[nsv,tsv,.bool I.b,jI I.v.k,jI I.v.n,jS I.v.t]] W (vv (Cal.bad 6)):=by
 have H9:=jH (fun w=>zcr 6 w);generalize Cal.bad 6=r at *;obtain ⟨rk,rn,rt⟩:=r;have hL:=CW.start W (nsv) (tsv) I;go_enter func201,ntmps201
 open V61 in exact D20
end
theorem wk26a(s t:ByteArray)(f n:Int)(t0:decide (f<1)=true)(W:World)(g gc:Nat)(h hc:Nat)(I:Cal.In)(hg:g<W.heap.size)(c0:W.cell? (jA g 0)=some (jI f))(c1:W.cell? (jA g 1)=some (jI n))(hh:h<W.heap.size)(d0:W.cell? (jA h 0)=some (jS s))(d1:W.cell? (jA h 1)=some (jS t)):
 Ret 220 #[.agg #[jP g 0 2 gc,jP h 0 2 hc,.bool I.b,jI I.v.k,jI I.v.n,jS I.v.t]] W (vv (Cal.bad 4)):=by
 exact M53
theorem wk26b(s t:ByteArray)(f n:Int)(t0:decide (f<1)=false)(t1:decide (n<0)=true)(W:World)(g gc:Nat)(h hc:Nat)(I:Cal.In)(hg:g<W.heap.size)(c0:W.cell? (jA g 0)=some (jI f))(c1:W.cell? (jA g 1)=some (jI n))(hh:h<W.heap.size)(d0:W.cell? (jA h 0)=some (jS s))(d1:W.cell? (jA h 1)=some (jS t)):
 Ret 220 #[.agg #[jP g 0 2 gc,jP h 0 2 hc,.bool I.b,jI I.v.k,jI I.v.n,jS I.v.t]] W (vv (Cal.bad 4)):=by
 exact M53
theorem wk26c(s t A O:ByteArray)(f n x:Int)(r:Val.V)(hs:s.size<=40000)(ht:t.size<=40000)(t0:decide (f<1)=false)(t1:decide (n<0)=false)(hf:f<=9223372036854775807)(hn:n<=9223372036854775807)(hA:Cal.zkz s (f-1)=(A,0))(hO:Cal.midV s f n=(O,x))(k:Nat)(hk:A.size+O.size=k)(hks:k<=s.size)(hr:Cal.spelt (A++t++s.extract k s.size) 0=r)(W:World)(g gc h hc:Nat)(I:Cal.In)(hg:g<W.heap.size)(c0:W.cell? (jA g 0)=some (jI f))(c1:W.cell? (jA g 1)=some (jI n))(hh:h<W.heap.size)(d0:W.cell? (jA h 0)=some (jS s))(d1:W.cell? (jA h 1)=some (jS t)):
 Ret 220 #[.agg #[jP g 0 2 gc,jP h 0 2 hc,.bool I.b,jI I.v.k,jI I.v.n,jS I.v.t]] W (vv r):=by
 have hf1:1<=f:=B198;have H1:=jH (fun (y:Int) (hy:y=f-1) w=>by have:=tleft s (f-1) w B1 B1;rw[hA] at this;rw[hy];exact this:∀(y:Int) (hy:y=f-1) (w:World),Ret 205 #[jS s,jI y] w (.tuple #[jS A,jI 0]));have H2:=jH (fun w=>tmid s f n w B1 hn hf);rw[hO] at H2;have H3:=jH (fun (u:ByteArray) (hu:u=A++t++s.extract k s.size) w=>by rw[hu,<-hr];exact zc0 _ 0 w:∀(u:ByteArray) (hu:u=A++t++s.extract k s.size) (w:World),Ret 131 #[jS u,jI 0] w (vv r));clear hA hO hr;obtain ⟨rk,rn,rt⟩:=r;have hL:=CW.start W (jP g 0 2 gc) (jP h 0 2 hc) I;go_enter func220,ntmps220;go_upto_region 1 with fail;generalize ((W.alloc (.cells #[jP g 0 2 gc,jP h 0 2 hc,.bool I.b,jI I.v.k,jI I.v.n,jS I.v.t] 171)).alloc (.cells #[jI 0,jI 0,jS ⟨#[]⟩] 41))=W1 at *;obtain ⟨x0,x1,x2,x3,x4,x5⟩:=hL.xs;have c0':=hL.old c0 hg;have c1':=hL.old c1 hg;have d0':=hL.old d0 hh;have d1':=hL.old d1 hh;go_quiet (fail);replace hL:=hL.drewN nq;clear x0 x1 x2 x3 x4 x5 c0' c1' d0' d1';go_wp2_with fail;refine jM (H1.out _ (by first|rfl|omega|(rw[IntKind.wrap_i64];omega)) _) ?_;intro w4 hb4;replace hL:=hL.call hb4;clear hb4;go_wp2_with fail;refine jM (H2.out _) ?_;intro w5 hb5;replace hL:=hL.call hb5;clear hb5;go_upto_region 6 with fail;have x1:=hL.xs.2.1;have d1':=hL.old d1 hh;have e1:IntKind.i64.wrap ((A.size:Int)+(O.size:Int))=(k:Int):=B87;have s1:A.size<=40000:=B1;have s2:O.size<=40000:=B1;have s3:(A++t).size<=80000:=by rw[ByteArray.size_append];omega
 have s4:(s.extract k s.size).size<=40000:=by rw[ByteArray.size_extract];omega
 have nh:¬W.heap.size+1=h:=B1;have mh:¬h=W.heap.size+1:=B1;have q1:¬(9223372036854775807<A.size+t.size):=B1;have q2:¬(9223372036854775807<(A++t).size+(s.extract k s.size).size):=B1;have r1:∀w,(Op.stringOp .add A t).run prog w= .ok (jS (A++t)) w:=fun w=>run_string_add_sum w _ _ B1;have r2:∀w,(Op.stringOp .add (A++t) (s.extract k s.size)).run prog w= .ok (jS (A++t++s.extract k s.size)) w:=fun w=>run_string_add_sum w _ _ B1;have hS:w5.cell? (jA W.heap.size 1)=some (jP h 0 2 hc)/\w5.cell? (jA h 1)=some (jS t):=⟨x1,d1'⟩;clear x1 d1';go_region_held3 (fun w'=>w'.cell? (jA W.heap.size 1)=some (jP h 0 2 hc)/\w'.cell? (jA h 1)=some (jS t))
  (first|go_keep|exact ⟨jQ hb6 hS.1 (by have:=hL.l;show W.heap.size<w5.heap.size;omega),jQ hb6 hS.2 Bp8⟩|((try dsimp only);(repeat' apply And.intro) <;> go_keep))
  (first|(go_at_call 131;refine (H3.out _ (by first|rfl|simp) _).mono ?_;rintro e w6 ⟨rfl,hb6⟩;have hM:=hL.drew.call hb6;obtain ⟨y0,y1,y2⟩:=zaa hM.y;obtain ⟨f0,f1,f2⟩:=zab hM.y))
 go_wp2;exact jX (.agg #[jI rk,jI rn,jS rt]) B115 ⟨rfl,hM.out _ _ _⟩
theorem wk8a(a:Int)(t0:decide (a<0)=true)(W:World)(g gc:Nat)(tsv:Value)(I:Cal.In)(hg:g<W.heap.size)(c0:W.cell? (jA g 0)=some (jI a)):
 Ret 190 #[.agg #[jP g 0 1 gc,tsv,.bool I.b,jI I.v.k,jI I.v.n,jS I.v.t]] W (vv (Cal.bad 2)):=by
 exact M61
theorem wk8b(a:Int)(t0:decide (a<0)=false)(t1:decide (20<a)=true)(W:World)(g gc:Nat)(tsv:Value)(I:Cal.In)(hg:g<W.heap.size)(c0:W.cell? (jA g 0)=some (jI a)):
 Ret 190 #[.agg #[jP g 0 1 gc,tsv,.bool I.b,jI I.v.k,jI I.v.n,jS I.v.t]] W (vv (Cal.bad 2)):=by
 exact M61
theorem wk8c(n:Nat)(hn:n<=20)(W:World)(g gc:Nat)(tsv:Value)(I:Cal.In)(hg:g<W.heap.size)(c0:W.cell? (jA g 0)=some (jI (n:Int))):
 Ret 190 #[.agg #[jP g 0 1 gc,tsv,.bool I.b,jI I.v.k,jI I.v.n,jS I.v.t]] W (vv (Cal.num (Cal.fct n))):=by
 have t0:decide ((n:Int)<0)=false:=B7;have t1:decide (20<(n:Int))=false:=B14;have H9:=jH (fun (z:Int) (hz:z=Cal.fct n) w=>by rw[hz];exact za4 _ w:∀(z:Int) (hz:z=Cal.fct n) (w:World),Ret 130 #[jI z] w (vv (Cal.num (Cal.fct n))));generalize Cal.num (Cal.fct n)=r at *;obtain ⟨rk,rn,rt⟩:=r;have hL:=CW.start W (jP g 0 1 gc) tsv I;go_enter func190,ntmps190;go_upto_region 1 with fail;generalize ((W.alloc (.cells #[jP g 0 1 gc,tsv,.bool I.b,jI I.v.k,jI I.v.n,jS I.v.t] 171)).alloc (.cells #[jI 0,jI 0,jS ⟨#[]⟩] 41))=W1 at *;have x0:=hL.xs.1;replace c0:=hL.old c0 hg;go_wp2_with fail;go_loopw [3,4] (fun p i wr=>wr=W1/\∃k:Nat,1<=k/\(k<=n\/k=1)/\p=jI (Cal.fct k)/\i=jI ((k:Int)+1)) (fun p i _=>n+1-(intOf i).toNat)
 case atStart=>exact ⟨rfl,1,jE,.inr rfl,rfl,rfl⟩
 case round=>
 obtain ⟨rfl,k,hk1,hk,rfl,rfl⟩:=hrel
 by_cases hlt:k<n
 .have hm:IntKind.i64.wrap (Cal.fct k*((k:Int)+1))=Cal.fct (k+1):=by
   have:=Cal.zqa (k+1) B1;rw[show Cal.fct k*((k:Int)+1)=Cal.fct (k+1) by rw[Int.mul_comm];rfl,IntKind.wrap_i64];omega
  have hi:IntKind.i64.wrap ((k:Int)+1+1)=((k+1:Nat):Int)+1:=B87;have hc:decide ((k:Int)+1<=(n:Int))=true:=B14;go_wp2_with fail;go_roundw
  case rel=>exact ⟨by first|trivial|rfl,k+1,by omega,.inl B1,by first|rfl|(rw[hm]),by first|rfl|go_num⟩
  case measure=>simp[intOf];omega
 .have hc:decide ((k:Int)+1<=(n:Int))=false:=by simp;omega
  have he:Cal.fct k=Cal.fct n:=by
   rcases Nat.eq_zero_or_pos n with rfl|h
   .obtain rfl:k=1:=by omega
    rfl
   .obtain rfl:k=n:=by omega
    rfl
  go_wp2_with fail;refine jM (H9.out _ rfl _) ?_;intro w4 hb4;replace hL:=hL.call hb4;clear hb4 x0 c0;obtain ⟨y0,y1,y2⟩:=zaa hL.y;obtain ⟨f0,f1,f2⟩:=zab hL.y;go_wp2;exact jX (.agg #[jI rk,jI rn,jS rt]) B116 ⟨rfl,hL.out _ _ _⟩
theorem or_0(a:Option Addr)(cap:Nat)(w:World):Ret 206 #[.slice a 0 cap,jI 0] w (jI 1):=by
 go_enter func206,ntmps206;go_wp2;go_ret;exact ⟨rfl,jB⟩
theorem or_1(a:Int)(g cap:Nat)(w:World)(c:w.cell? (jA g 0)=some (jI a)):Ret 206 #[jP g 0 1 cap,jI 0] w (jI a):=by
 go_enter func206,ntmps206;go_wp2;go_ret;exact ⟨rfl,jB⟩
theorem bit_0(a b:Int)(w:World):Ret 194 #[jI a,jI b] w (jI (Cal.bitV 0 a b)):=by
 go_enter func194,ntmps194;go_wp2;go_ret;exact ⟨rfl,jB⟩
theorem bit_1(a b:Int)(w:World):Ret 195 #[jI a,jI b] w (jI (Cal.bitV 1 a b)):=by
 go_enter func195,ntmps195;go_wp2;go_ret;exact ⟨rfl,jB⟩
theorem bit_2(a b:Int)(w:World):Ret 196 #[jI a,jI b] w (jI (Cal.bitV 2 a b)):=by
 go_enter func196,ntmps196;go_wp2;go_ret;exact ⟨rfl,jB⟩
theorem zd1(fid:FuncId)(hcf:∀args w,(callFunc fid args).run prog w= .ok (.enter fid args) w)(s u:ByteArray)(W:World)(nsv:Value)(h hc:Nat)(bb bT:Nat)(I:Cal.In)(hh:h<W.heap.size)(d0:W.cell? (jA h 0)=some (jS s))(hbx:W.heap[bb]?=some (.cells #[.func (.func fid) #[] #[]] bT (0,0)))(hf:∀w,Below W.heap.size W w->Ret fid #[jS s] w (jS u)):
 Ret 258 #[.agg #[nsv,jP h 0 1 hc,.bool I.b,jI I.v.k,jI I.v.n,jS I.v.t],jU bb 0] W (vv (Cal.txt u)):=by
 have HF:=jH (hf);have H9:=jH (fun w=>zk8 u w);clear hf;generalize Cal.txt u=r at *;obtain ⟨rk,rn,rt⟩:=r;have hL:=CW.start W (nsv) (jP h 0 1 hc) I;go_enter func258,ntmps258
 open Va27 in exact Da11
section
variable(s:ByteArray)(hs:s.size<=40000)
include s hs
theorem wk16(W:World)(nsv:Value)(h hc:Nat)(I:Cal.In)(hh:h<W.heap.size)(d0:W.cell? (jA h 0)=some (jS s)):
 Ret 202 #[.agg #[nsv,jP h 0 1 hc,.bool I.b,jI I.v.k,jI I.v.n,jS I.v.t]] W (vv (Cal.num (Run.cnt s 0:Int))):=by
 have H1:=jH (fun w=>zky s w B1);have H9:=jH (fun w=>za4 (Run.cnt s 0:Int) w);generalize Cal.num (Run.cnt s 0:Int)=r at *;obtain ⟨rk,rn,rt⟩:=r;have hL:=CW.start W (nsv) (jP h 0 1 hc) I;go_enter func202,ntmps202
 open Va28 in exact Da11
theorem wk17a(u:ByteArray)(x:Int)(hu:Cal.zkz s 1=(u,x))(W:World)(na:Option Addr)(nc:Nat)(h hc:Nat)(I:Cal.In)(hh:h<W.heap.size)(d0:W.cell? (jA h 0)=some (jS s)):
 Ret 204 #[.agg #[.slice na 0 nc,jP h 0 1 hc,.bool I.b,jI I.v.k,jI I.v.n,jS I.v.t]] W (vv (Cal.spelt u x)):=by
 have H1:=jH (fun w=>or_0 na nc w);have H2:=jH (fun w=>tleft s 1 w B1 B3)
 open V62 in exact D21
theorem wk17b(n:Int)(hn:n<=9223372036854775807)(u:ByteArray)(x:Int)(hu:Cal.zkz s n=(u,x))(W:World)(g gc:Nat)(h hc:Nat)(I:Cal.In)(hg:g<W.heap.size)(c0:W.cell? (jA g 0)=some (jI n))(hh:h<W.heap.size)(d0:W.cell? (jA h 0)=some (jS s)):
 Ret 204 #[.agg #[jP g 0 1 gc,jP h 0 1 hc,.bool I.b,jI I.v.k,jI I.v.n,jS I.v.t]] W (vv (Cal.spelt u x)):=by
 have H1:=jH (fun (w:World) (hb:Below W.heap.size W w)=>or_1 n g gc w (jQ hb c0 hg));have H2:=jH (fun w=>tleft s n w B1 hn)
 open V63 in exact D21
theorem wk18a(u:ByteArray)(x:Int)(hu:Cal.zh5 s 1=(u,x))(W:World)(na:Option Addr)(nc:Nat)(h hc:Nat)(I:Cal.In)(hh:h<W.heap.size)(d0:W.cell? (jA h 0)=some (jS s)):
 Ret 207 #[.agg #[.slice na 0 nc,jP h 0 1 hc,.bool I.b,jI I.v.k,jI I.v.n,jS I.v.t]] W (vv (Cal.spelt u x)):=by
 have H1:=jH (fun w=>or_0 na nc w);have H2:=jH (fun w=>tright s 1 w B1 B3)
 open V64 in exact D21
theorem wk18b(n:Int)(hn:n<=9223372036854775807)(u:ByteArray)(x:Int)(hu:Cal.zh5 s n=(u,x))(W:World)(g gc:Nat)(h hc:Nat)(I:Cal.In)(hg:g<W.heap.size)(c0:W.cell? (jA g 0)=some (jI n))(hh:h<W.heap.size)(d0:W.cell? (jA h 0)=some (jS s)):
 Ret 207 #[.agg #[jP g 0 1 gc,jP h 0 1 hc,.bool I.b,jI I.v.k,jI I.v.n,jS I.v.t]] W (vv (Cal.spelt u x)):=by
 have H1:=jH (fun (w:World) (hb:Below W.heap.size W w)=>or_1 n g gc w (jQ hb c0 hg));have H2:=jH (fun w=>tright s n w B1 hn)
 open V65 in exact D21
theorem wk19(f n:Int)(hf:f<=9223372036854775807)(hn:n<=9223372036854775807)(u:ByteArray)(x:Int)(hu:Cal.midV s f n=(u,x))(W:World)(g gc:Nat)(h hc:Nat)(I:Cal.In)(hg:g<W.heap.size)(c0:W.cell? (jA g 0)=some (jI f))(c1:W.cell? (jA g 1)=some (jI n))(hh:h<W.heap.size)(d0:W.cell? (jA h 0)=some (jS s)):
 Ret 209 #[.agg #[jP g 0 2 gc,jP h 0 1 hc,.bool I.b,jI I.v.k,jI I.v.n,jS I.v.t]] W (vv (Cal.spelt u x)):=by
 have H2:=jH (fun w=>tmid s f n w B1 hn hf)
 open V66 in exact D21
end
section
variable(p s:ByteArray)
include p s
theorem wk24aa(u x:Int)(t0:(x !=0)=true)(W:World)(na:Option Addr)(nc:Nat)(h hc:Nat)(I:Cal.In)(hh:h<W.heap.size)(d0:W.cell? (jA h 0)=some (jS p))(d1:W.cell? (jA h 1)=some (jS s))(hf:∀w,Ret 217 #[jS p,jS s,jI 1] w (.tuple #[jI u,jI x])):
 Ret 216 #[.agg #[.slice na 0 nc,jP h 0 2 hc,.bool I.b,jI I.v.k,jI I.v.n,jS I.v.t]] W (vv (Cal.bad 4)):=by
 have H1:=jH (fun w=>or_0 na nc w);have H2:=jH (hf);have H9:=jH (fun w=>zcr 4 w);clear hf;generalize Cal.bad 4=r at *;exact M26
theorem wk24ba(n u x:Int)(t0:(x !=0)=true)(W:World)(g gc:Nat)(h hc:Nat)(I:Cal.In)(hg:g<W.heap.size)(c0:W.cell? (jA g 0)=some (jI n))(hh:h<W.heap.size)(d0:W.cell? (jA h 0)=some (jS p))(d1:W.cell? (jA h 1)=some (jS s))(hf:∀w,Ret 217 #[jS p,jS s,jI n] w (.tuple #[jI u,jI x])):
 Ret 216 #[.agg #[jP g 0 1 gc,jP h 0 2 hc,.bool I.b,jI I.v.k,jI I.v.n,jS I.v.t]] W (vv (Cal.bad 4)):=by
 have H1:=jH (fun (w:World) (hb:Below W.heap.size W w)=>or_1 n g gc w (jQ hb c0 hg));have H2:=jH (hf);have H9:=jH (fun w=>zcr 4 w);clear hf;generalize Cal.bad 4=r at *;exact M22
theorem wk24ab(u x:Int)(t0:(x !=0)=false)(W:World)(na:Option Addr)(nc:Nat)(h hc:Nat)(I:Cal.In)(hh:h<W.heap.size)(d0:W.cell? (jA h 0)=some (jS p))(d1:W.cell? (jA h 1)=some (jS s))(hf:∀w,Ret 217 #[jS p,jS s,jI 1] w (.tuple #[jI u,jI x])):
 Ret 216 #[.agg #[.slice na 0 nc,jP h 0 2 hc,.bool I.b,jI I.v.k,jI I.v.n,jS I.v.t]] W (vv (Cal.num u)):=by
 have H1:=jH (fun w=>or_0 na nc w);have H2:=jH (hf);have H9:=jH (fun w=>za4 u w);clear hf;generalize Cal.num u=r at *;exact M26
theorem wk24bb(n u x:Int)(t0:(x !=0)=false)(W:World)(g gc:Nat)(h hc:Nat)(I:Cal.In)(hg:g<W.heap.size)(c0:W.cell? (jA g 0)=some (jI n))(hh:h<W.heap.size)(d0:W.cell? (jA h 0)=some (jS p))(d1:W.cell? (jA h 1)=some (jS s))(hf:∀w,Ret 217 #[jS p,jS s,jI n] w (.tuple #[jI u,jI x])):
 Ret 216 #[.agg #[jP g 0 1 gc,jP h 0 2 hc,.bool I.b,jI I.v.k,jI I.v.n,jS I.v.t]] W (vv (Cal.num u)):=by
 have H1:=jH (fun (w:World) (hb:Below W.heap.size W w)=>or_1 n g gc w (jQ hb c0 hg));have H2:=jH (hf);have H9:=jH (fun w=>za4 u w);clear hf;generalize Cal.num u=r at *;exact M22
end
theorem wk25(s p t u:ByteArray)(x:Int)(W:World)(nsv:Value)(h hc:Nat)(I:Cal.In)(hh:h<W.heap.size)(d0:W.cell? (jA h 0)=some (jS s))(d1:W.cell? (jA h 1)=some (jS p))(d2:W.cell? (jA h 2)=some (jS t))(hf:∀w,Below W.heap.size W w->Ret 219 #[jS s,jS p,jS t] w (.tuple #[jS u,jI x])):
 Ret 218 #[.agg #[nsv,jP h 0 3 hc,.bool I.b,jI I.v.k,jI I.v.n,jS I.v.t]] W (vv (Cal.spelt u x)):=by
 have H1:=jH (hf);have H9:=jH (fun w=>zc0 u x w);clear hf;generalize Cal.spelt u x=r at *;obtain ⟨rk,rn,rt⟩:=r;have hL:=CW.start W (nsv) (jP h 0 3 hc) I;go_enter func218,ntmps218;go_upto_region 1 with fail;generalize ((W.alloc (.cells #[nsv,jP h 0 3 hc,.bool I.b,jI I.v.k,jI I.v.n,jS I.v.t] 171)).alloc (.cells #[jI 0,jI 0,jS ⟨#[]⟩] 41))=W1 at *;obtain ⟨x0,x1,x2,x3,x4,x5⟩:=hL.xs;replace d0:=hL.old d0 hh;replace d1:=hL.old d1 hh;replace d2:=hL.old d2 hh;have hS:W1.cell? (jA W.heap.size 1)=some (jP h 0 3 hc)/\W1.cell? (jA h 0)=some (jS s)/\W1.cell? (jA h 1)=some (jS p)/\W1.cell? (jA h 2)=some (jS t):=⟨x1,d0,d1,d2⟩;clear x1 d0 d1 d2;have nh:¬W.heap.size+1=h:=B1;have mh:¬h=W.heap.size+1:=B1;go_region_held3 (fun w'=>w'.cell? (jA W.heap.size 1)=some (jP h 0 3 hc)/\w'.cell? (jA h 0)=some (jS s)/\w'.cell? (jA h 1)=some (jS p)/\w'.cell? (jA h 2)=some (jS t))
  (first|go_keep|exact ⟨jQ hb4 hS.1 B6,jQ hb4 hS.2.1 Bp8,jQ hb4 hS.2.2.1 Bp8,jQ hb4 hS.2.2.2 Bp8⟩|exact ⟨jQ hb5 hS.1 B6,jQ hb5 hS.2.1 Bp8,jQ hb5 hS.2.2.1 Bp8,jQ hb5 hS.2.2.2 Bp8⟩|((try dsimp only);(repeat' apply And.intro) <;> go_keep))
  (first|(go_at_call 219;refine (H1.out _ hL.b.drew).mono ?_;rintro e w4 ⟨rfl,hb4⟩)|(go_at_call 131;refine (H9.out _).mono ?_;rintro e w5 ⟨rfl,hb5⟩;replace hb5:=Below.trans hb4 Bp21;have hM:=hL.drew.call hb5;obtain ⟨y0,y1,y2⟩:=zaa hM.y;obtain ⟨f0,f1,f2⟩:=zab hM.y))
 go_wp2;exact jX (.agg #[jI rk,jI rn,jS rt]) (by simp[results,results218,go_sem,y0,y1,y2]) ⟨rfl,hM.out _ _ _⟩
theorem wk27(s:ByteArray)(hs:s.size<=40000)(n:Int)(hn:n<=9223372036854775807)(u:ByteArray)(x:Int)(hu:Cal.zjf s n=(u,x))(W:World)(g gc:Nat)(h hc:Nat)(I:Cal.In)(hg:g<W.heap.size)(c0:W.cell? (jA g 0)=some (jI n))(hh:h<W.heap.size)(d0:W.cell? (jA h 0)=some (jS s)):
 Ret 221 #[.agg #[jP g 0 1 gc,jP h 0 1 hc,.bool I.b,jI I.v.k,jI I.v.n,jS I.v.t]] W (vv (Cal.spelt u x)):=by
 have H2:=jH (fun w=>ttimes s n w B1 hn)
 open V67 in exact D21
theorem wk28(s t:ByteArray)(b:Bool)(hb:(s.toList==t.toList)=b)(W:World)(nsv:Value)(h hc:Nat)(I:Cal.In)(hh:h<W.heap.size)(d0:W.cell? (jA h 0)=some (jS s))(d1:W.cell? (jA h 1)=some (jS t)):
 Ret 223 #[.agg #[nsv,jP h 0 2 hc,.bool I.b,jI I.v.k,jI I.v.n,jS I.v.t]] W (vv (Cal.tru b)):=by
 have H9:=jH (fun w=>zcc b w);generalize Cal.tru b=r at *;obtain ⟨rk,rn,rt⟩:=r;have hL:=CW.start W (nsv) (jP h 0 2 hc) I;go_enter func223,ntmps223;go_upto_region 1 with fail;generalize ((W.alloc (.cells #[nsv,jP h 0 2 hc,.bool I.b,jI I.v.k,jI I.v.n,jS I.v.t] 171)).alloc (.cells #[jI 0,jI 0,jS ⟨#[]⟩] 41))=W1 at *;obtain ⟨x0,x1,x2,x3,x4,x5⟩:=hL.xs;replace d0:=hL.old d0 hh;replace d1:=hL.old d1 hh;have hS:W1.cell? (jA W.heap.size 1)=some (jP h 0 2 hc)/\W1.cell? (jA h 0)=some (jS s)/\W1.cell? (jA h 1)=some (jS t):=⟨x1,d0,d1⟩;clear x1 d0 d1;have nh:¬W.heap.size+1=h:=B1;have mh:¬h=W.heap.size+1:=B1;go_region_held3 (fun w'=>w'.cell? (jA W.heap.size 1)=some (jP h 0 2 hc)/\w'.cell? (jA h 0)=some (jS s)/\w'.cell? (jA h 1)=some (jS t))
  (first|go_keep|exact ⟨jQ hb4 hS.1 B6,jQ hb4 hS.2.1 Bp8,jQ hb4 hS.2.2 Bp8⟩|((try dsimp only);(repeat' apply And.intro) <;> go_keep))
  (first|(go_at_call 132;refine (H9.out _).mono ?_;rintro e w4 ⟨rfl,hb4⟩;have hM:=hL.drew.call hb4;obtain ⟨y0,y1,y2⟩:=zaa hM.y;obtain ⟨f0,f1,f2⟩:=zab hM.y))
 go_wp2;exact jX (.agg #[jI rk,jI rn,jS rt]) (by simp[results,results223,go_sem,y0,y1,y2]) ⟨rfl,hM.out _ _ _⟩
section
variable(s:ByteArray)(hs:s.size<=40000)(u x:Int)(hu:Cal.zg0 s=(u,x))
include s hs u x hu
theorem wk29a(t0:(x !=0)=true)(W:World)(nsv:Value)(h hc:Nat)(I:Cal.In)(hh:h<W.heap.size)(d0:W.cell? (jA h 0)=some (jS s)):
 Ret 224 #[.agg #[nsv,jP h 0 1 hc,.bool I.b,jI I.v.k,jI I.v.n,jS I.v.t]] W (vv (Cal.bad 4)):=by
 have H1:=jH (fun w=>tcode s w B1);have H9:=jH (fun w=>zcr 4 w);rw[hu] at H1;clear hu;generalize Cal.bad 4=r at *;exact M54
theorem wk29b(t0:(x !=0)=false)(W:World)(nsv:Value)(h hc:Nat)(I:Cal.In)(hh:h<W.heap.size)(d0:W.cell? (jA h 0)=some (jS s)):
 Ret 224 #[.agg #[nsv,jP h 0 1 hc,.bool I.b,jI I.v.k,jI I.v.n,jS I.v.t]] W (vv (Cal.num u)):=by
 have H1:=jH (fun w=>tcode s w B1);have H9:=jH (fun w=>za4 u w);rw[hu] at H1;clear hu;generalize Cal.num u=r at *;exact M54
end
theorem wk30(n:Int)(u:ByteArray)(x:Int)(hu:Cal.zsh n=(u,x))(W:World)(g gc:Nat)(tsv:Value)(I:Cal.In)(hg:g<W.heap.size)(c0:W.cell? (jA g 0)=some (jI n)):
 Ret 226 #[.agg #[jP g 0 1 gc,tsv,.bool I.b,jI I.v.k,jI I.v.n,jS I.v.t]] W (vv (Cal.spelt u x)):=by
 have H1:=jH (fun w=>tchar n w);have H9:=jH (fun w=>zc0 u x w);rw[hu] at H1;clear hu;generalize Cal.spelt u x=r at *;obtain ⟨rk,rn,rt⟩:=r;have hL:=CW.start W (jP g 0 1 gc) (tsv) I;go_enter func226,ntmps226
 open X85 in exact C17
theorem wk32(s:ByteArray)(W:World)(nsv:Value)(h hc:Nat)(I:Cal.In)(hh:h<W.heap.size)(d0:W.cell? (jA h 0)=some (jS s)):
 Ret 228 #[.agg #[nsv,jP h 0 1 hc,.bool I.b,jI I.v.k,jI I.v.n,jS I.v.t]] W (vv (Cal.txt s)):=by
 have H9:=jH (fun w=>zk8 s w);generalize Cal.txt s=r at *;obtain ⟨rk,rn,rt⟩:=r;have hL:=CW.start W (nsv) (jP h 0 1 hc) I;go_enter func228,ntmps228
 open Va29 in exact Da11
theorem wk34a(W:World)(nsv:Value)(tsv:Value)(I:Cal.In)(t0:(I.v.k==3)=true):
 Ret 229 #[.agg #[nsv,tsv,.bool I.b,jI I.v.k,jI I.v.n,jS I.v.t]] W (vv (I.v)):=by
 have hL:=CW.start W (nsv) (tsv) I;go_enter func229,ntmps229
 open V58 in exact D20
theorem wk34b(W:World)(nsv:Value)(tsv:Value)(I:Cal.In)(t0:(I.v.k==3)=false):
 Ret 229 #[.agg #[nsv,tsv,.bool I.b,jI I.v.k,jI I.v.n,jS I.v.t]] W (vv (Cal.txt ⟨#[]⟩)):=by
 have H9:=jH (fun w=>zk8 ⟨#[]⟩ w);generalize Cal.txt ⟨#[]⟩=r at *;obtain ⟨rk,rn,rt⟩:=r;have hL:=CW.start W (nsv) (tsv) I;go_enter func229,ntmps229
 open V59 in exact D20
