import Derived.Test.YtoffmfgaohjjpaaGreatDoorQ04
import Derived.Test.YtoffmfgaohjjpaaGreatDoorQ05
import Derived.Test.YtoffmfgaohjjpaaGreatDoorQ06
set_option linter.unusedVariables false
set_option linter.unusedSectionVars false
set_option linter.unusedSimpArgs false
open Go.Proofs.Tryz
set_option maxHeartbeats 8000000
variable{jp:Sort _}
set_option maxRecDepth 100000
namespace Go.Proofs.YtoffmfgaohjjpaaGreatDoor
open Go.RowKit
theorem zak{v:Val.V}(hv:VB v):(Val.asText v).1.size<=40000:=by
 have hg:=hv.good;have hm:=Val.zpz v;unfold Val.asText;generalize Val.good v=g at *;obtain ⟨k,n,t⟩:=g;rcases Val.may_cases hm with ⟨rfl,_,h⟩|⟨rfl,h⟩|⟨rfl,_,h⟩|⟨rfl,_,h⟩|⟨rfl,_,_,h⟩
 .show t.size<=40000;have h2:t.toList=[]:=by unfold Val.isE at h;simpa using h
  rw[<-zf3,h2];simp
 .show (⟨(Lib.itoa n).toArray⟩:ByteArray).size<=40000;have:=Dec.itoa_len n hg.n0 hg.n1;rw[Lib.size_eq];simp;omega
 .show (Val.word n).size<=40000;unfold Val.word;cases n==1 <;> decide
 .exact jR h B3
 .show (Val.emp).size<=40000;decide
section
variable(op:Int)(x y:Val.V)(w:World)(hx:VB x)(hy:VB y)(hN:NumW w)
include op x y w hx hy hN
theorem bin_case(h1:1<=op)(h2:op<=12):
 zym w op (Val.good x).k (Val.good x).n (Val.good x).t (Val.good y).k (Val.good y).n (Val.good y).t (Cal.bin op x y).k (Cal.bin op x y).n (Cal.bin op x y).t:=by
 unfold Cal.bin;rw[if_neg B1];have hgx:=hx.good;have hgy:=hy.good;generalize Val.good x=g at *;generalize Val.good y=h at *;cases t1:g.k==4 with
 |true=>exact .inl ⟨t1,rfl,rfl,rfl⟩
 |false=>
  cases t2:h.k==4 with
  |true=>exact .inr (.inl ⟨t1,t2,rfl,rfl,rfl⟩)
  |false=>
   refine .inr (.inr ⟨t1,t2,?_⟩);simp only[cond_false];unfold Cal.two
   by_cases h6:op=6
   .subst h6;refine .inl ⟨rfl,(Val.asText g).1,(Val.asText h).1,(Val.asText g).2,(Val.asText h).2,zak hgx,zak hgy,?_,?_,?_⟩
    .exact jH (fun w' hb=>zbu g w' hgx (hN.below hb))
    .exact jH (fun w' hb=>zbu h w' hgy (hN.below hb))
    .exact jH (fun w=>zc0 _ 0 w)
   .rw[show (op==6)=false by simpa using h6]
    by_cases h7:7<=op
    .rw[decide_eq_true h7];refine .inr (.inl ⟨by omega,Val.cmpG (Val.good g) (Val.good h),Cal.zne op (Val.cmpG (Val.good g) (Val.good h)),jH (fun w=>zdf g h w),jH (fun w=>zmm op _ h7 h2 w),jH (fun w=>zcc _ w)⟩)
    .rw[decide_eq_false h7];refine .inr (.inr ⟨by omega,(Val.number g).1,(Val.number h).1,(Val.number g).2,(Val.number h).2,jH (fun w' hb=>za8 g w' hgx (hN.below hb)),jH (fun w' hb=>za8 h w' hgy (hN.below hb)),?_⟩);have ia:=zam hgx;have ib:=zam hgy;generalize Val.number g=p at *;generalize Val.number h=q at *;obtain ⟨a,z⟩:=p;obtain ⟨b,e⟩:=q;cases hz:(z !=0) with
     |true=>exact .inl ⟨rfl,jH (fun w=>zar z w)⟩
     |false=>
      have hz0:z=0:=by simpa using hz
      cases he:(e !=0) with
      |true=>exact .inr (.inl ⟨hz0,rfl,jH (fun w=>zar e w)⟩)
      |false=>
       refine .inr (.inr ⟨hz0,by simpa using he,?_⟩);simp only[cond_false];obtain rfl|rfl|rfl|rfl|rfl:op=1\/op=2\/op=3\/op=4\/op=5:=B1
       .exact .inl ⟨rfl,_,_,jH (cpow a b ia ib),jH (fun w=>zfk _ _ w)⟩
       .exact .inr (.inl ⟨rfl,_,_,jH (cmul a b ia ib),jH (fun w=>cfits_any _ _ w)⟩)
       .exact .inr (.inr (.inl ⟨rfl,_,_,jH (cquo a b ia ib),jH (fun w=>zfk _ _ w)⟩))
       .exact .inr (.inr (.inr (.inl ⟨rfl,_,_,jH (cadd a b ia ib),jH (fun w=>cfits_any _ _ w)⟩)))
       .exact .inr (.inr (.inr (.inr ⟨rfl,_,_,jH (csub a b ia ib),jH (fun w=>cfits_any _ _ w)⟩)))
theorem bin_any:Ret 71 #[jI op,vv x,vv y] w (vv (Cal.bin op x y)):=by
 by_cases h:op<1\/12<op
 .unfold Cal.bin;rw[if_pos h];refine bin_out op _ _ _ _ _ _ w ?_;exact M195
 .exact bin_at op _ _ _ _ _ _ _ _ _ _ _ _ w (fun w=>zis x w) (fun w=>zis y w) (decide_eq_false B1) (decide_eq_false B1) _ _ _ (bin_case op x y w hx hy hN B1 B1)
end
namespace Cal
def how:Nat->ByteArray
 |1=> ⟨#[110]⟩
 |2=> ⟨#[110]⟩
 |3=> ⟨#[110,110]⟩
 |4=> ⟨#[110,110]⟩
 |5=> ⟨#[110,110]⟩
 |6=> ⟨#[110,110]⟩
 |7=> ⟨#[110,110]⟩
 |8=> ⟨#[110]⟩
 |9=> ⟨#[110]⟩
 |10=> ⟨#[110]⟩
 |11=> ⟨#[110,110]⟩
 |12=> ⟨#[110,110]⟩
 |13=> ⟨#[110,110]⟩
 |14=> ⟨#[98]⟩
 |15=> ⟨#[110,110,110]⟩
 |16=> ⟨#[116]⟩
 |17=> ⟨#[116,110]⟩
 |18=> ⟨#[116,110]⟩
 |19=> ⟨#[116,110,110]⟩
 |20=> ⟨#[116]⟩
 |21=> ⟨#[116]⟩
 |22=> ⟨#[116]⟩
 |23=> ⟨#[116]⟩
 |24=> ⟨#[116,116,110]⟩
 |25=> ⟨#[116,116,116]⟩
 |26=> ⟨#[116,110,110,116]⟩
 |27=> ⟨#[116,110]⟩
 |28=> ⟨#[116,116]⟩
 |29=> ⟨#[116]⟩
 |30=> ⟨#[110]⟩
 |31=> ⟨#[110]⟩
 |32=> ⟨#[116]⟩
 |33=> ⟨#[118]⟩
 |34=> ⟨#[118]⟩
 |35=> ⟨#[]⟩
 |_=> ⟨#[]⟩
def first(p:Nat->Bool)(n:Nat):Option Nat:=(List.range n).find? p
theorem zjt{p:Nat->Bool}{n k:Nat}(hk:k<n)(h:p k=true)(hb:∀j,j<k->p j=false):first p n=some k:=by
 unfold first
 rw[List.find?_range_eq_some];exact ⟨h,List.mem_range.2 hk,fun j hj=>by rw[hb j hj];rfl⟩
theorem zcb{p:Nat->Bool}{n:Nat}(h:∀j,j<n->p j=false):first p n=none:=by
 unfold first
 rw[List.find?_range_eq_none];exact fun j hj=>by rw[h j hj];rfl
theorem zwq{p:Nat->Bool}{n k:Nat}(hk:k<n)(h:p k=true):∃j,first p n=some j:=by
 cases e:first p n with
 |some j=>exact ⟨j,rfl⟩
 |none=>
  unfold first at e
  rw[List.find?_range_eq_none] at e;have:=e k hk;rw[h] at this;cases this
theorem first_or(p:Nat->Bool)(n:Nat):(∃k,k<n/\p k=true/\first p n=some k/\∀j,j<k->p j=false)\/(first p n=none/\∀j,j<n->p j=false):=by
 cases e:first p n with
 |some k=>
  unfold first at e
  rw[List.find?_range_eq_some] at e;exact .inl ⟨k,List.mem_range.1 e.2.1,e.1,rfl,fun j hj=>by simpa using e.2.2 j hj⟩
 |none=>
  unfold first at e
  rw[List.find?_range_eq_none] at e;exact .inr ⟨rfl,fun j hj=>by simpa using e j hj⟩
def zeu(f n:Nat)(v:Nat->Val.V):Val.V×Int:=
 match first (fun k=> !Val.mayB (v k)) n with
 |some _=>(⟨0,0,⟨#[]⟩⟩,24)
 |none=>match first (fun k=>(v k).k==4) n with
  |some k=>(v k,0)
  |none=>match first (fun k=>codeAt (how f) v k !=0) n with
   |some k=>(bad (codeAt (how f) v k),0)
   |none=>(work f (inAt (how f) v n),0)
theorem how_ch:∀f,f<36->∀k,k<(how f).size->(((how f).data.toList.getD k 0).toNat=110\/((how f).data.toList.getD k 0).toNat=116\/((how f).data.toList.getD k 0).toNat=98\/((how f).data.toList.getD k 0).toNat=118):=B49
theorem zv9:∀f,f<36->(how f).size<=10:=B49
end Cal
theorem znw:∀f:Nat,f<36->1<=f->(infoV f).1.2.1=1/\(infoV f).1.2.2.2=((Cal.how f).size:Int)/\(infoV f).2=0/\(f:Int)∈([1,2,3,4,5,6,7,8,9,10,11,12,13,14,15,31,33,35,16,17,18,19,20,21,22,23,24,25,26,27,28,29,30,32,34]:List Int):=B49
theorem how_row(f:Int)(s:ByteArray)(h:rowS f s):s=Cal.how f.toNat:=by
 rcases h with ⟨g,h⟩|⟨g,h,T,h⟩
 .simp only[plainTab,List.mem_cons,Prod.mk.injEq,List.not_mem_nil,or_false] at h;rcases h with ⟨rfl,rfl,_⟩|⟨rfl,rfl,_⟩|⟨rfl,rfl,_⟩|⟨rfl,rfl,_⟩|⟨rfl,rfl,_⟩|⟨rfl,rfl,_⟩|⟨rfl,rfl,_⟩|⟨rfl,rfl,_⟩|⟨rfl,rfl,_⟩|⟨rfl,rfl,_⟩|⟨rfl,rfl,_⟩|⟨rfl,rfl,_⟩|⟨rfl,rfl,_⟩|⟨rfl,rfl,_⟩|⟨rfl,rfl,_⟩|⟨rfl,rfl,_⟩|⟨rfl,rfl,_⟩|⟨rfl,rfl,_⟩|⟨rfl,rfl,_⟩|⟨rfl,rfl,_⟩|⟨rfl,rfl,_⟩|⟨rfl,rfl,_⟩|⟨rfl,rfl,_⟩ <;> rfl
 .simp only[boxTab,List.mem_cons,Prod.mk.injEq,List.not_mem_nil,or_false] at h;rcases h with ⟨rfl,rfl,_⟩|⟨rfl,rfl,_⟩|⟨rfl,rfl,_⟩|⟨rfl,rfl,_⟩|⟨rfl,rfl,_⟩|⟨rfl,rfl,_⟩|⟨rfl,rfl,_⟩|⟨rfl,rfl,_⟩|⟨rfl,rfl,_⟩|⟨rfl,rfl,_⟩|⟨rfl,rfl,_⟩|⟨rfl,rfl,_⟩ <;> rfl
theorem zbw{W:World}{f:Int}{s:ByteArray}{fn:Value}(g:Nat)(h:isRow W f (.agg #[jS s,fn]))(hp:∀p∈plainTab,p.1=f->p.2.2=g)(hb:∀p∈boxTab,p.1≠f):fn= .func (.func g) #[] #[]:=by
 rcases h with ⟨s',g',h,e⟩|⟨s',g',x,T,b,h,_,_⟩
 .simp at e;obtain ⟨_,rfl⟩:=e;have:=hp _ h rfl;simp only at this;subst this;rfl
 .exact absurd rfl (hb _ h)
theorem zgx{W:World}{f:Int}{s:ByteArray}{fn:Value}(g x T:Nat)(h:isRow W f (.agg #[jS s,fn]))(hb:∀p∈boxTab,p.1=f->p.2.2=(g,x,T))(hp:∀p∈plainTab,p.1≠f):∃b,fn= .func (.func g) #[] #[jU b 0]/\W.heap[b]?=some (.cells #[.func (.func x) #[] #[]] T (0,0)):=by
 rcases h with ⟨s',g',h,e⟩|⟨s',g',x',T',b,h,hh,e⟩
 .exact absurd rfl (hp _ h)
 .simp at e;obtain ⟨_,rfl⟩:=e;have:=hb _ h rfl;simp only[Prod.mk.injEq] at this;obtain ⟨rfl,rfl,rfl⟩:=this;exact ⟨b,rfl,hh⟩
def HCellP(w:World)(a:Option Addr)(n:Nat)(v:Nat->Val.V):Prop:=∀k,k<n->∃b o,a=some (jA b o)/\b<w.heap.size/\w.cell? (jA b (o+k*3))=some (jI (v k).k)/\w.cell? (jA b (o+k*3+1))=some (jI (v k).n)/\w.cell? (jA b (o+k*3+2))=some (jS (v k).t)
theorem call_one(f n:Nat)(v:Nat->Val.V)(a:Option Addr)(cap:Nat)(w:World)(h1:1<=f)(h2:f<36)(hn:(infoV f).1.2.2.1<=(n:Int))(hx:(n:Int)<=(infoV f).1.2.2.2)(hc:HCellP w a n v)(hvb:∀k,k<n->VB (v k))(hN:NumW w)(hW:(∀k,k<n->Val.mayB (v k)=true)->∀W nsv tsv fn,isRow W f (.agg #[jS (Cal.how f),fn])->Below w.heap.size w W->
  W.ownsRow w.heap.size 2 1 nsv (Cal.inAt (Cal.how f) v n).ns.length ((Cal.inAt (Cal.how f) v n).ns.map (.int .i64))->W.ownsRow w.heap.size 9 1 tsv (Cal.inAt (Cal.how f) v n).ts.length ((Cal.inAt (Cal.how f) v n).ts.map .string)->
  zqk W fn nsv tsv (Cal.inAt (Cal.how f) v n) (Cal.work f (Cal.inAt (Cal.how f) v n)).k (Cal.work f (Cal.inAt (Cal.how f) v n)).n (Cal.work f (Cal.inAt (Cal.how f) v n)).t):
 Ret 72 #[jI f,.slice a n cap] w (.tuple #[vv (Cal.zeu f n v).1,jI (Cal.zeu f n v).2]):=by
 obtain ⟨i1,i2,i3,i4⟩:=znw f h2 h1;have i5:=Cal.zv9 f h2;have i6:=Cal.how_ch f h2;generalize hI:infoV f=r0 at i1 i2 i3 hn hx;obtain ⟨⟨nm,c,mn,mx⟩,e0⟩:=r0;simp only at i1 i2 i3 hn hx;subst i1 i3 i2;have hm:∀k,k<n->∀b,(!Val.mayB (v k))=b->Val.mayB (v k)=!b:=fun k _ b e=>by rw[<-e];simp
 refine zoo f n mn _ nm (Cal.how f) v a cap (Cal.zeu f n v).1.k (Cal.zeu f n v).1.n (Cal.zeu f n v).1.t (Cal.zeu f n v).2 w hI (decide_eq_false B1) (decide_eq_false B1) i4
  (fun s' h=>how_row f s' h) B1 i5 (fun k hk=>i6 k B1) (jH hc) (jH hvb) hN (jH ?_) (jH ?_) (jH ?_) (jH ?_)
 .intro k hk h;obtain ⟨j,hj⟩:=Cal.zwq (p:=fun k=> !Val.mayB (v k)) hk (by show (!Val.mayB (v k))=true;rw[h];rfl);unfold Cal.zeu;rw[hj];exact ⟨rfl,rfl,rfl,rfl⟩
 .intro hmay k hk hpre h;unfold Cal.zeu;rw[Cal.zcb (p:=fun k=> !Val.mayB (v k)) (fun j hj=>by show (!Val.mayB (v j))=false;rw[hmay j hj];rfl),Cal.zjt (p:=fun k=>(v k).k==4) hk h hpre];exact ⟨rfl,rfl,rfl,rfl⟩
 .intro hmay herr k hk hpre h;unfold Cal.zeu;rw[Cal.zcb (p:=fun k=> !Val.mayB (v k)) (fun j hj=>by show (!Val.mayB (v j))=false;rw[hmay j hj];rfl),Cal.zcb (p:=fun k=>(v k).k==4) herr,
   Cal.zjt (p:=fun k=>Cal.codeAt (Cal.how f) v k !=0) hk h (fun j hj=>by show (Cal.codeAt (Cal.how f) v j !=0)=false;rw[hpre j hj];rfl)]
  exact ⟨rfl,rfl,rfl,rfl⟩
 .intro hmay herr hcode;have e:Cal.zeu f n v=(Cal.work f (Cal.inAt (Cal.how f) v n),0):=by
   unfold Cal.zeu;rw[Cal.zcb (p:=fun k=> !Val.mayB (v k)) (fun j hj=>by show (!Val.mayB (v j))=false;rw[hmay j hj];rfl),Cal.zcb (p:=fun k=>(v k).k==4) herr,
    Cal.zcb (p:=fun k=>Cal.codeAt (Cal.how f) v k !=0) (fun j hj=>by show (Cal.codeAt (Cal.how f) v j !=0)=false;rw[hcode j hj];rfl)]
  rw[e];exact ⟨rfl,hW hmay⟩
theorem zal{W:World}{base:Nat}{e:TypeId}{v:Value}{n:Nat}{xs:List Value}(h:W.ownsRow base e 1 v (n+1) xs):∃g cap,v=jP g 0 (n+1) cap/\g<W.heap.size/\∀j u,xs[j]?=some u->W.cell? (jA g j)=some u:=by
 obtain ⟨g,cap,rfl⟩:=zh4 h;refine ⟨g,cap,rfl,(h.lt g rfl).2,fun j u hu=> ?_⟩;have hadd:((jA g 0):Addr).add j=(jA g j):=B16;rw[<-hadd];exact h.cells rfl j u hu
theorem zb4{W:World}{base:Nat}{e:TypeId}{v:Value}{xs:List Value}(h:W.ownsRow base e 1 v 0 xs):∃a cap,v= .slice a 0 cap:=by
 rcases h.2 with ⟨rfl,_⟩|⟨g,cap,cur,rfl,_⟩
 .exact ⟨_,_,rfl⟩
 .exact ⟨_,_,rfl⟩
def OKt(f:Nat)(fi:Int)(n:Nat):Prop:=∀(v:Nat->Val.V) (w W:World) (nsv tsv fn:Value) (hvb:∀k,k<n->VB (v k)) (hT:TxtW w) (hb:Below w.heap.size w W) (hr:isRow W fi (.agg #[jS (Cal.how f),fn]))
 (hns:W.ownsRow w.heap.size 2 1 nsv (Cal.inAt (Cal.how f) v n).ns.length ((Cal.inAt (Cal.how f) v n).ns.map (.int .i64))) (hts:W.ownsRow w.heap.size 9 1 tsv (Cal.inAt (Cal.how f) v n).ts.length ((Cal.inAt (Cal.how f) v n).ts.map .string)),zqk W fn nsv tsv (Cal.inAt (Cal.how f) v n) (Cal.work f (Cal.inAt (Cal.how f) v n)).k (Cal.work f (Cal.inAt (Cal.how f) v n)).n (Cal.work f (Cal.inAt (Cal.how f) v n)).t
def B10(h:jp:=by kernel_rfl):=h
def C26(h:jp:=by
 rw[e] at hns hts ⊢;clear e;have nb0:=zam (hvb 0 B3);generalize (Val.number (v 0)).1=a0 at *;clear hvb;obtain ⟨g,gc,rfl,hg,hc⟩:=zal hns;have c0:=hc 0 _ rfl;exact K26):=h
def X124.K26(h:jp:=by
 obtain rfl:=zbw 185 hr B3 B3;refine .inl ⟨185,rfl,fun args w=>by kernel_rfl,?_⟩;show Calls _ _ _ W fun e w'=>e=jr (vv (Cal.num (if a0<0 then -1 else if 0<a0 then 1 else 0)))/\_
 by_cases h0:a0<0
 .rw[if_pos h0];exact wk2a a0 (decide_eq_true h0) W g gc tsv _ hg c0
 .rw[if_neg h0]
  by_cases h1:0<a0
  .rw[if_pos h1];exact wk2b a0 (decide_eq_false h0) (decide_eq_true h1) W g gc tsv _ hg c0
  .rw[if_neg h1];exact wk2c a0 (decide_eq_false h0) (decide_eq_false h1) W g gc tsv _ hg c0):=h
def C21(h:jp:=by
 rw[e] at hns hts ⊢;clear e;have nb0:=zam (hvb 0 B3);generalize (Val.number (v 0)).1=a0 at *;have nb1:=zam (hvb 1 B3);generalize (Val.number (v 1)).1=a1 at *;clear hvb;obtain ⟨g,gc,rfl,hg,hc⟩:=zal hns;have c0:=hc 0 _ rfl;have c1:=hc 1 _ rfl;exact K21):=h
def X101.K21(h:jp:=by
 obtain ⟨bb,rfl,hbx⟩:=zgx 253 187 158 hr B3 B3;refine .inr ⟨253,_,rfl,fun args w=>by kernel_rfl,?_⟩;exact zez _ (fun args w=>by kernel_rfl) a0 a1 _ _ W g gc tsv bb _ _ hg c0 c1 hbx (fun w _=>cmod a0 a1 nb0 nb1 w)):=h
def X102.K21(h:jp:=by
 obtain ⟨bb,rfl,hbx⟩:=zgx 253 129 158 hr B3 B3;refine .inr ⟨253,_,rfl,fun args w=>by kernel_rfl,?_⟩;exact zez _ (fun args w=>by kernel_rfl) a0 a1 _ _ W g gc tsv bb _ _ hg c0 c1 hbx (fun w _=>cquo a0 a1 nb0 nb1 w)):=h
def X103.K21(h:jp:=by
 obtain ⟨bb,rfl,hbx⟩:=zgx 253 134 158 hr B3 B3;refine .inr ⟨253,_,rfl,fun args w=>by kernel_rfl,?_⟩;exact zez _ (fun args w=>by kernel_rfl) a0 a1 _ _ W g gc tsv bb _ _ hg c0 c1 hbx (fun w _=>cpow a0 a1 nb0 nb1 w)):=h
def X104.K21(h:jp:=by
 obtain ⟨bb,rfl,hbx⟩:=zgx 253 188 158 hr B3 B3;refine .inr ⟨253,_,rfl,fun args w=>by kernel_rfl,?_⟩;exact zez _ (fun args w=>by kernel_rfl) a0 a1 _ _ W g gc tsv bb _ _ hg c0 c1 hbx (fun w _=>cgcd a0 a1 nb0 nb1 w)):=h
def X105.K21(h:jp:=by
 obtain ⟨bb,rfl,hbx⟩:=zgx 253 189 158 hr B3 B3;refine .inr ⟨253,_,rfl,fun args w=>by kernel_rfl,?_⟩;exact zez _ (fun args w=>by kernel_rfl) a0 a1 _ _ W g gc tsv bb _ _ hg c0 c1 hbx (fun w _=>clcm a0 a1 nb0 nb1 w)):=h
def X125.K26(h:jp:=by
 obtain rfl:=zbw 190 hr B3 B3;refine .inl ⟨190,rfl,fun args w=>by kernel_rfl,?_⟩;show Calls _ _ _ W fun e w'=>e=jr (vv (if a0<0\/20<a0 then Cal.bad 2 else Cal.num (Cal.fct a0.toNat)))/\_
 by_cases h0:a0<0
 .rw[if_pos (.inl h0)];exact wk8a a0 (decide_eq_true h0) W g gc tsv _ hg c0
 .by_cases h1:20<a0
  .rw[if_pos (.inr h1)];exact wk8b a0 (decide_eq_false h0) (decide_eq_true h1) W g gc tsv _ hg c0
  .rw[if_neg B1];obtain ⟨k,rfl⟩:=Int.eq_ofNat_of_zero_le (show 0<=a0 by omega);rw[Int.toNat_natCast];exact wk8c k B1 W g gc tsv _ hg c0):=h
def X126.K26(h:jp:=by
 obtain rfl:=zbw 191 hr B3 B3;refine .inl ⟨191,rfl,fun args w=>by kernel_rfl,?_⟩;exact wk9 a0 _ rfl W g gc tsv _ hg c0):=h
def X127.K26(h:jp:=by
 obtain rfl:=zbw 192 hr B3 B3;refine .inl ⟨192,rfl,fun args w=>by kernel_rfl,?_⟩;exact wk10 a0 _ rfl W g gc tsv _ hg c0):=h
def C13(h:jp:=by
 rw[e] at hns hts ⊢;clear e;have tb0:=zak (hvb 0 B3);generalize (Val.asText (v 0)).1=t0 at *;clear hvb;obtain ⟨na,nc,rfl⟩:=zb4 hns;obtain ⟨h,hcp,rfl,hh,hd⟩:=zal hts;have d0:=hd 0 _ rfl;exact K13):=h
def X70.K13(h:jp:=by
 obtain rfl:=zbw 202 hr B3 B3;refine .inl ⟨202,rfl,fun args w=>by kernel_rfl,?_⟩;exact wk16 t0 tb0 W _ h hcp _ hh d0):=h
def X71.K13(h:jp:=by
 obtain rfl:=zbw 204 hr B3 B3;refine .inl ⟨204,rfl,fun args w=>by kernel_rfl,?_⟩;exact wk17a t0 tb0 _ _ rfl W na nc h hcp _ hh d0):=h
def C29(h:jp:=by
 rw[e] at hns hts ⊢;clear e;have nb0:=zam (hvb 1 B3);generalize (Val.number (v 1)).1=a0 at *;have tb0:=zak (hvb 0 B3);generalize (Val.asText (v 0)).1=t0 at *;clear hvb;obtain ⟨g,gc,rfl,hg,hc⟩:=zal hns;have c0:=hc 0 _ rfl;obtain ⟨h,hcp,rfl,hh,hd⟩:=zal hts;have d0:=hd 0 _ rfl;exact K29):=h
def X134.K29(h:jp:=by
 obtain rfl:=zbw 204 hr B3 B3;refine .inl ⟨204,rfl,fun args w=>by kernel_rfl,?_⟩;exact wk17b t0 tb0 a0 nb0.2 _ _ rfl W g gc h hcp _ hg c0 hh d0):=h
def X72.K13(h:jp:=by
 obtain rfl:=zbw 207 hr B3 B3;refine .inl ⟨207,rfl,fun args w=>by kernel_rfl,?_⟩;exact wk18a t0 tb0 _ _ rfl W na nc h hcp _ hh d0):=h
def X135.K29(h:jp:=by
 obtain rfl:=zbw 207 hr B3 B3;refine .inl ⟨207,rfl,fun args w=>by kernel_rfl,?_⟩;exact wk18b t0 tb0 a0 nb0.2 _ _ rfl W g gc h hcp _ hg c0 hh d0):=h
def C37(h:jp:=by
 rw[e] at hns hts ⊢;clear e;have nb0:=zam (hvb 1 B3);generalize (Val.number (v 1)).1=a0 at *;have nb1:=zam (hvb 2 B3);generalize (Val.number (v 2)).1=a1 at *;have tb0:=zak (hvb 0 B3);generalize (Val.asText (v 0)).1=t0 at *;exact K37):=h
def X156.K37(h:jp:=by
 clear hvb;obtain ⟨g,gc,rfl,hg,hc⟩:=zal hns;have c0:=hc 0 _ rfl;have c1:=hc 1 _ rfl;obtain ⟨h,hcp,rfl,hh,hd⟩:=zal hts;have d0:=hd 0 _ rfl;obtain rfl:=zbw 209 hr B3 B3;refine .inl ⟨209,rfl,fun args w=>by kernel_rfl,?_⟩;exact wk19 t0 tb0 a0 a1 nb0.2 nb1.2 _ _ rfl W g gc h hcp _ hg c0 c1 hh d0):=h
def X73.K13(h:jp:=by
 obtain ⟨bb,rfl,hbx⟩:=zgx 258 212 211 hr B3 B3;refine .inr ⟨258,_,rfl,fun args w=>by kernel_rfl,?_⟩;exact zd1 _ (fun args w=>by kernel_rfl) t0 _ W _ h hcp bb _ _ hh d0 hbx (fun w _=>zs2 t0 w B1)):=h
def X74.K13(h:jp:=by
 obtain ⟨bb,rfl,hbx⟩:=zgx 258 213 211 hr B3 B3;refine .inr ⟨258,_,rfl,fun args w=>by kernel_rfl,?_⟩;exact zd1 _ (fun args w=>by kernel_rfl) t0 _ W _ h hcp bb _ _ hh d0 hbx (fun w _=>zu8 t0 w B1)):=h
def X75.K13(h:jp:=by
 obtain ⟨bb,rfl,hbx⟩:=zgx 258 214 211 hr B3 B3;refine .inr ⟨258,_,rfl,fun args w=>by kernel_rfl,?_⟩;exact zd1 _ (fun args w=>by kernel_rfl) t0 _ W _ h hcp bb _ _ hh d0 hbx (fun w _=>trim_any t0 w B1)):=h
def X76.K13(h:jp:=by
 obtain ⟨bb,rfl,hbx⟩:=zgx 258 215 211 hr B3 B3;refine .inr ⟨258,_,rfl,fun args w=>by kernel_rfl,?_⟩;exact zd1 _ (fun args w=>by kernel_rfl) t0 _ W _ h hcp bb _ _ hh d0 hbx (fun w hw=>turn_any t0 w B1 (hT.below rfl (jN hb hw)).tabs)):=h
def B131(h:jp:=by rw[bne,hy];rfl):=h
def X157.K37(h:jp:=by
 have tb1:=zak (hvb 3 B3);generalize (Val.asText (v 3)).1=t1 at *;clear hvb;obtain ⟨g,gc,rfl,hg,hc⟩:=zal hns;have c0:=hc 0 _ rfl;have c1:=hc 1 _ rfl;obtain ⟨h,hcp,rfl,hh,hd⟩:=zal hts;have d0:=hd 0 _ rfl;have d1:=hd 1 _ rfl;obtain rfl:=zbw 220 hr B3 B3;refine .inl ⟨220,rfl,fun args w=>by kernel_rfl,?_⟩;show Calls _ _ _ W fun e w'=>e=jr (vv (if a0<1\/a1<0 then Cal.bad 4 else Cal.spelt (Cal.replT t0 a0 a1 t1) 0))/\_
 by_cases h0:a0<1
 .rw[if_pos (.inl h0)];exact wk26a t0 t1 a0 a1 (decide_eq_true h0) W g gc h hcp _ hg c0 c1 hh d0 d1
 .by_cases h1:a1<0
  .rw[if_pos (.inr h1)];exact wk26b t0 t1 a0 a1 (decide_eq_false h0) (decide_eq_true h1) W g gc h hcp _ hg c0 c1 hh d0 d1
  .rw[if_neg B1];have l1:=Run.zeg t0 (a0-1).toNat 0 (Nat.zero_le _);have l2:=Run.zeg t0 ((a0-1).toNat+a1.toNat) 0 (Nat.zero_le _);have l3:=Run.ziw t0 (a0-1).toNat a1.toNat 0;have l4:=Run.zyf t0 a1.toNat (Run.adv t0 (a0-1).toNat 0);refine wk26c t0 t1 (t0.extract 0 (Run.adv t0 (a0-1).toNat 0)) (t0.extract (Run.adv t0 (a0-1).toNat 0) (Run.adv t0 ((a0-1).toNat+a1.toNat) 0)) a0 a1 0 _ tb0 tb1 (decide_eq_false h0) (decide_eq_false h1) nb0.2 nb1.2 ?_ ?_ (Run.adv t0 ((a0-1).toNat+a1.toNat) 0) ?_ l2 rfl W g gc h hcp _ hg c0 c1 hh d0 d1
   .unfold Cal.zkz;rw[if_neg B1]
   .unfold Cal.midV;rw[if_neg B1]
   .rw[ByteArray.size_extract,ByteArray.size_extract];omega):=h
def X136.K29(h:jp:=by
 obtain rfl:=zbw 221 hr B3 B3;refine .inl ⟨221,rfl,fun args w=>by kernel_rfl,?_⟩;exact wk27 t0 tb0 a0 nb0.2 _ _ rfl W g gc h hcp _ hg c0 hh d0):=h
def X128.K26(h:jp:=by
 obtain rfl:=zbw 226 hr B3 B3;refine .inl ⟨226,rfl,fun args w=>by kernel_rfl,?_⟩;exact wk30 a0 _ _ rfl W g gc tsv _ hg c0):=h
def X129.K26(h:jp:=by
 obtain rfl:=zbw 199 hr B3 B3;refine .inl ⟨199,rfl,fun args w=>by kernel_rfl,?_⟩;exact wk31 a0 W g gc tsv _ hg c0):=h
def X77.K13(h:jp:=by
 obtain rfl:=zbw 228 hr B3 B3;refine .inl ⟨228,rfl,fun args w=>by kernel_rfl,?_⟩;exact wk32 t0 W _ h hcp _ hh d0):=h
theorem ok_1:OKt 1 1 1:=by
 intro v w W nsv tsv fn hvb hT hb hr hns hts;have e:(Cal.inAt (Cal.how 1) v 1)=⟨[(Val.number (v 0)).1],[],false,⟨0,0,⟨#[]⟩⟩⟩:=B10;rw[e] at hns hts ⊢;clear e;have nb0:=zam (hvb 0 B3);generalize (Val.number (v 0)).1=a0 at *;clear hvb;obtain ⟨g,gc,rfl,hg,hc⟩:=zal hns;have c0:=hc 0 _ rfl;obtain rfl:=zbw 184 hr B3 B3;refine .inl ⟨184,rfl,fun args w=>by kernel_rfl,?_⟩;show Calls _ _ _ W fun e w'=>e=jr (vv (cond (decide (a0<0)) (Cal.fits (Ref.fitV (0-a0)) (Ref.fitB (0-a0))) (Cal.num a0)))/\_;cases t0:decide (a0<0) with
 |true=>exact wk1a a0 nb0 t0 W g gc tsv _ hg c0
 |false=>exact wk1b a0 t0 W g gc tsv _ hg c0
theorem ok_2:OKt 2 2 1:=by
 intro v w W nsv tsv fn hvb hT hb hr hns hts;have e:(Cal.inAt (Cal.how 2) v 1)=⟨[(Val.number (v 0)).1],[],false,⟨0,0,⟨#[]⟩⟩⟩:=B10
 open X124 in exact C26
theorem ok_3:OKt 3 3 2:=by
 intro v w W nsv tsv fn hvb hT hb hr hns hts;have e:(Cal.inAt (Cal.how 3) v 2)=⟨[(Val.number (v 0)).1,(Val.number (v 1)).1],[],false,⟨0,0,⟨#[]⟩⟩⟩:=B10
 open X101 in exact C21
theorem ok_4:OKt 4 4 2:=by
 intro v w W nsv tsv fn hvb hT hb hr hns hts;have e:(Cal.inAt (Cal.how 4) v 2)=⟨[(Val.number (v 0)).1,(Val.number (v 1)).1],[],false,⟨0,0,⟨#[]⟩⟩⟩:=B10
 open X102 in exact C21
theorem ok_5:OKt 5 5 2:=by
 intro v w W nsv tsv fn hvb hT hb hr hns hts;have e:(Cal.inAt (Cal.how 5) v 2)=⟨[(Val.number (v 0)).1,(Val.number (v 1)).1],[],false,⟨0,0,⟨#[]⟩⟩⟩:=B10
 open X103 in exact C21
theorem ok_6:OKt 6 6 2:=by
 intro v w W nsv tsv fn hvb hT hb hr hns hts;have e:(Cal.inAt (Cal.how 6) v 2)=⟨[(Val.number (v 0)).1,(Val.number (v 1)).1],[],false,⟨0,0,⟨#[]⟩⟩⟩:=B10
 open X104 in exact C21
theorem ok_7:OKt 7 7 2:=by
 intro v w W nsv tsv fn hvb hT hb hr hns hts;have e:(Cal.inAt (Cal.how 7) v 2)=⟨[(Val.number (v 0)).1,(Val.number (v 1)).1],[],false,⟨0,0,⟨#[]⟩⟩⟩:=B10
 open X105 in exact C21
theorem ok_8:OKt 8 8 1:=by
 intro v w W nsv tsv fn hvb hT hb hr hns hts;have e:(Cal.inAt (Cal.how 8) v 1)=⟨[(Val.number (v 0)).1],[],false,⟨0,0,⟨#[]⟩⟩⟩:=B10
 open X125 in exact C26
theorem ok_9:OKt 9 9 1:=by
 intro v w W nsv tsv fn hvb hT hb hr hns hts;have e:(Cal.inAt (Cal.how 9) v 1)=⟨[(Val.number (v 0)).1],[],false,⟨0,0,⟨#[]⟩⟩⟩:=B10
 open X126 in exact C26
theorem ok_10:OKt 10 10 1:=by
 intro v w W nsv tsv fn hvb hT hb hr hns hts;have e:(Cal.inAt (Cal.how 10) v 1)=⟨[(Val.number (v 0)).1],[],false,⟨0,0,⟨#[]⟩⟩⟩:=B10
 open X127 in exact C26
theorem ok_11:OKt 11 11 2:=by
 intro v w W nsv tsv fn hvb hT hb hr hns hts;have e:(Cal.inAt (Cal.how 11) v 2)=⟨[(Val.number (v 0)).1,(Val.number (v 1)).1],[],false,⟨0,0,⟨#[]⟩⟩⟩:=B10;rw[e] at hns hts ⊢;clear e;have nb0:=zam (hvb 0 B3);generalize (Val.number (v 0)).1=a0 at *;have nb1:=zam (hvb 1 B3);generalize (Val.number (v 1)).1=a1 at *;clear hvb;obtain ⟨g,gc,rfl,hg,hc⟩:=zal hns;have c0:=hc 0 _ rfl;have c1:=hc 1 _ rfl;obtain ⟨bb,rfl,hbx⟩:=zgx 256 194 204 hr B3 B3;refine .inr ⟨256,_,rfl,fun args w=>by kernel_rfl,?_⟩;show Calls _ _ _ W fun e w'=>e=jr (vv (cond (decide (a0<0)||decide (a1<0)) (Cal.bad 2) (Cal.num (Cal.bitV 0 a0 a1))))/\_;cases t0:decide (a0<0) with
 |true=>exact zuf _ a0 a1 t0 W g gc tsv bb _ _ hg c0 c1 hbx
 |false=>
  cases t1:decide (a1<0) with
  |true=>exact zue _ a0 a1 t0 t1 W g gc tsv bb _ _ hg c0 c1 hbx
  |false=>exact zud _ (fun args w=>by kernel_rfl) a0 a1 _ t0 t1 W g gc tsv bb _ _ hg c0 c1 hbx (fun w _=>bit_0 a0 a1 w)
theorem ok_12:OKt 12 12 2:=by
 intro v w W nsv tsv fn hvb hT hb hr hns hts;have e:(Cal.inAt (Cal.how 12) v 2)=⟨[(Val.number (v 0)).1,(Val.number (v 1)).1],[],false,⟨0,0,⟨#[]⟩⟩⟩:=B10;rw[e] at hns hts ⊢;clear e;have nb0:=zam (hvb 0 B3);generalize (Val.number (v 0)).1=a0 at *;have nb1:=zam (hvb 1 B3);generalize (Val.number (v 1)).1=a1 at *;clear hvb;obtain ⟨g,gc,rfl,hg,hc⟩:=zal hns;have c0:=hc 0 _ rfl;have c1:=hc 1 _ rfl;obtain ⟨bb,rfl,hbx⟩:=zgx 256 195 204 hr B3 B3;refine .inr ⟨256,_,rfl,fun args w=>by kernel_rfl,?_⟩;show Calls _ _ _ W fun e w'=>e=jr (vv (cond (decide (a0<0)||decide (a1<0)) (Cal.bad 2) (Cal.num (Cal.bitV 1 a0 a1))))/\_;cases t0:decide (a0<0) with
 |true=>exact zuf _ a0 a1 t0 W g gc tsv bb _ _ hg c0 c1 hbx
 |false=>
  cases t1:decide (a1<0) with
  |true=>exact zue _ a0 a1 t0 t1 W g gc tsv bb _ _ hg c0 c1 hbx
  |false=>exact zud _ (fun args w=>by kernel_rfl) a0 a1 _ t0 t1 W g gc tsv bb _ _ hg c0 c1 hbx (fun w _=>bit_1 a0 a1 w)
theorem ok_13:OKt 13 13 2:=by
 intro v w W nsv tsv fn hvb hT hb hr hns hts;have e:(Cal.inAt (Cal.how 13) v 2)=⟨[(Val.number (v 0)).1,(Val.number (v 1)).1],[],false,⟨0,0,⟨#[]⟩⟩⟩:=B10;rw[e] at hns hts ⊢;clear e;have nb0:=zam (hvb 0 B3);generalize (Val.number (v 0)).1=a0 at *;have nb1:=zam (hvb 1 B3);generalize (Val.number (v 1)).1=a1 at *;clear hvb;obtain ⟨g,gc,rfl,hg,hc⟩:=zal hns;have c0:=hc 0 _ rfl;have c1:=hc 1 _ rfl;obtain ⟨bb,rfl,hbx⟩:=zgx 256 196 204 hr B3 B3;refine .inr ⟨256,_,rfl,fun args w=>by kernel_rfl,?_⟩;show Calls _ _ _ W fun e w'=>e=jr (vv (cond (decide (a0<0)||decide (a1<0)) (Cal.bad 2) (Cal.num (Cal.bitV 2 a0 a1))))/\_;cases t0:decide (a0<0) with
 |true=>exact zuf _ a0 a1 t0 W g gc tsv bb _ _ hg c0 c1 hbx
 |false=>
  cases t1:decide (a1<0) with
  |true=>exact zue _ a0 a1 t0 t1 W g gc tsv bb _ _ hg c0 c1 hbx
  |false=>exact zud _ (fun args w=>by kernel_rfl) a0 a1 _ t0 t1 W g gc tsv bb _ _ hg c0 c1 hbx (fun w _=>bit_2 a0 a1 w)
theorem ok_14:OKt 14 14 1:=by
 intro v w W nsv tsv fn hvb hT hb hr hns hts;have e:(Cal.inAt (Cal.how 14) v 1)=⟨[],[],(Val.truth (v 0)).1,⟨0,0,⟨#[]⟩⟩⟩:=B10;rw[e] at hns hts ⊢;clear e;generalize (Val.truth (v 0)).1=b at *;clear hvb;obtain ⟨na,nc,rfl⟩:=zb4 hns;obtain rfl:=zbw 197 hr B3 B3;refine .inl ⟨197,rfl,fun args w=>by kernel_rfl,?_⟩;exact wk14 _ W _ _ _ rfl
theorem ok_15:OKt 15 15 3:=by
 intro v w W nsv tsv fn hvb hT hb hr hns hts;have e:(Cal.inAt (Cal.how 15) v 3)=⟨[(Val.number (v 0)).1,(Val.number (v 1)).1,(Val.number (v 2)).1],[],false,⟨0,0,⟨#[]⟩⟩⟩:=B10;rw[e] at hns hts ⊢;clear e;have nb0:=zam (hvb 0 B3);generalize (Val.number (v 0)).1=a0 at *;have nb1:=zam (hvb 1 B3);generalize (Val.number (v 1)).1=a1 at *;have nb2:=zam (hvb 2 B3);generalize (Val.number (v 2)).1=a2 at *;clear hvb;obtain ⟨g,gc,rfl,hg,hc⟩:=zal hns;have c0:=hc 0 _ rfl;have c1:=hc 1 _ rfl;have c2:=hc 2 _ rfl;obtain rfl:=zbw 198 hr B3 B3;refine .inl ⟨198,rfl,fun args w=>by kernel_rfl,?_⟩;show Calls _ _ _ W fun e w'=>e=jr (vv (if a2<a1 then Cal.bad 2 else Cal.num (max a1 (min a0 a2))))/\_
 by_cases h0:a2<a1
 .rw[if_pos h0];exact wk15a a0 a1 a2 (decide_eq_true h0) W g gc tsv _ hg c0 c1 c2
 .rw[if_neg h0];exact wk15b a0 a1 a2 _ _ (decide_eq_false h0) rfl rfl W g gc tsv _ hg c0 c1 c2
theorem ok_16:OKt 16 16 1:=by
 intro v w W nsv tsv fn hvb hT hb hr hns hts;have e:(Cal.inAt (Cal.how 16) v 1)=⟨[],[(Val.asText (v 0)).1],false,⟨0,0,⟨#[]⟩⟩⟩:=B10
 open X70 in exact C13
theorem ok_17a:OKt 17 17 1:=by
 intro v w W nsv tsv fn hvb hT hb hr hns hts;have e:(Cal.inAt (Cal.how 17) v 1)=⟨[],[(Val.asText (v 0)).1],false,⟨0,0,⟨#[]⟩⟩⟩:=B10
 open X71 in exact C13
theorem ok_17b:OKt 17 17 2:=by
 intro v w W nsv tsv fn hvb hT hb hr hns hts;have e:(Cal.inAt (Cal.how 17) v 2)=⟨[(Val.number (v 1)).1],[(Val.asText (v 0)).1],false,⟨0,0,⟨#[]⟩⟩⟩:=B10
 open X134 in exact C29
theorem ok_18a:OKt 18 18 1:=by
 intro v w W nsv tsv fn hvb hT hb hr hns hts;have e:(Cal.inAt (Cal.how 18) v 1)=⟨[],[(Val.asText (v 0)).1],false,⟨0,0,⟨#[]⟩⟩⟩:=B10
 open X72 in exact C13
theorem ok_18b:OKt 18 18 2:=by
 intro v w W nsv tsv fn hvb hT hb hr hns hts;have e:(Cal.inAt (Cal.how 18) v 2)=⟨[(Val.number (v 1)).1],[(Val.asText (v 0)).1],false,⟨0,0,⟨#[]⟩⟩⟩:=B10
 open X135 in exact C29
theorem ok_19:OKt 19 19 3:=by
 intro v w W nsv tsv fn hvb hT hb hr hns hts;have e:(Cal.inAt (Cal.how 19) v 3)=⟨[(Val.number (v 1)).1,(Val.number (v 2)).1],[(Val.asText (v 0)).1],false,⟨0,0,⟨#[]⟩⟩⟩:=B10
 open X156 in exact C37
theorem ok_20:OKt 20 20 1:=by
 intro v w W nsv tsv fn hvb hT hb hr hns hts;have e:(Cal.inAt (Cal.how 20) v 1)=⟨[],[(Val.asText (v 0)).1],false,⟨0,0,⟨#[]⟩⟩⟩:=B10
 open X73 in exact C13
theorem ok_21:OKt 21 21 1:=by
 intro v w W nsv tsv fn hvb hT hb hr hns hts;have e:(Cal.inAt (Cal.how 21) v 1)=⟨[],[(Val.asText (v 0)).1],false,⟨0,0,⟨#[]⟩⟩⟩:=B10
 open X74 in exact C13
theorem ok_22:OKt 22 22 1:=by
 intro v w W nsv tsv fn hvb hT hb hr hns hts;have e:(Cal.inAt (Cal.how 22) v 1)=⟨[],[(Val.asText (v 0)).1],false,⟨0,0,⟨#[]⟩⟩⟩:=B10
 open X75 in exact C13
theorem ok_23:OKt 23 23 1:=by
 intro v w W nsv tsv fn hvb hT hb hr hns hts;have e:(Cal.inAt (Cal.how 23) v 1)=⟨[],[(Val.asText (v 0)).1],false,⟨0,0,⟨#[]⟩⟩⟩:=B10
 open X76 in exact C13
theorem ok_24a:OKt 24 24 2:=by
 intro v w W nsv tsv fn hvb hT hb hr hns hts;have e:(Cal.inAt (Cal.how 24) v 2)=⟨[],[(Val.asText (v 0)).1,(Val.asText (v 1)).1],false,⟨0,0,⟨#[]⟩⟩⟩:=B10;rw[e] at hns hts ⊢;clear e;have tb0:=zak (hvb 0 B3);generalize (Val.asText (v 0)).1=t0 at *;have tb1:=zak (hvb 1 B3);generalize (Val.asText (v 1)).1=t1 at *;clear hvb;obtain ⟨na,nc,rfl⟩:=zb4 hns;obtain ⟨h,hcp,rfl,hh,hd⟩:=zal hts;have d0:=hd 0 _ rfl;have d1:=hd 1 _ rfl;obtain rfl:=zbw 216 hr B3 B3;refine .inl ⟨216,rfl,fun args w=>by kernel_rfl,?_⟩;show Calls _ _ _ W fun e w'=>e=jr (vv (cond ((Cal.findV t0 t1 1).2==0) (Cal.num (Cal.findV t0 t1 1).1) (Cal.bad 4)))/\_;have HF:=fun w=>tfind t0 t1 1 w B1;generalize Cal.findV t0 t1 1=p at *;obtain ⟨u,y⟩:=p;cases hy:(y==0) with
 |true=>exact wk24ab t0 t1 u y B131 W na nc h hcp _ hh d0 d1 HF
 |false=>exact wk24aa t0 t1 u y B131 W na nc h hcp _ hh d0 d1 HF
theorem ok_24b:OKt 24 24 3:=by
 intro v w W nsv tsv fn hvb hT hb hr hns hts;have e:(Cal.inAt (Cal.how 24) v 3)=⟨[(Val.number (v 2)).1],[(Val.asText (v 0)).1,(Val.asText (v 1)).1],false,⟨0,0,⟨#[]⟩⟩⟩:=B10;rw[e] at hns hts ⊢;clear e;have nb0:=zam (hvb 2 B3);generalize (Val.number (v 2)).1=a0 at *;have tb0:=zak (hvb 0 B3);generalize (Val.asText (v 0)).1=t0 at *;have tb1:=zak (hvb 1 B3);generalize (Val.asText (v 1)).1=t1 at *;clear hvb;obtain ⟨g,gc,rfl,hg,hc⟩:=zal hns;have c0:=hc 0 _ rfl;obtain ⟨h,hcp,rfl,hh,hd⟩:=zal hts;have d0:=hd 0 _ rfl;have d1:=hd 1 _ rfl;obtain rfl:=zbw 216 hr B3 B3;refine .inl ⟨216,rfl,fun args w=>by kernel_rfl,?_⟩;show Calls _ _ _ W fun e w'=>e=jr (vv (cond ((Cal.findV t0 t1 a0).2==0) (Cal.num (Cal.findV t0 t1 a0).1) (Cal.bad 4)))/\_;have HF:=fun w=>tfind t0 t1 a0 w B1;generalize Cal.findV t0 t1 a0=p at *;obtain ⟨u,y⟩:=p;cases hy:(y==0) with
 |true=>exact wk24bb t0 t1 a0 u y B131 W g gc h hcp _ hg c0 hh d0 d1 HF
 |false=>exact wk24ba t0 t1 a0 u y B131 W g gc h hcp _ hg c0 hh d0 d1 HF
theorem ok_25:OKt 25 25 3:=by
 intro v w W nsv tsv fn hvb hT hb hr hns hts;have e:(Cal.inAt (Cal.how 25) v 3)=⟨[],[(Val.asText (v 0)).1,(Val.asText (v 1)).1,(Val.asText (v 2)).1],false,⟨0,0,⟨#[]⟩⟩⟩:=B10;rw[e] at hns hts ⊢;clear e;have tb0:=zak (hvb 0 B3);generalize (Val.asText (v 0)).1=t0 at *;have tb1:=zak (hvb 1 B3);generalize (Val.asText (v 1)).1=t1 at *;have tb2:=zak (hvb 2 B3);generalize (Val.asText (v 2)).1=t2 at *;clear hvb;obtain ⟨na,nc,rfl⟩:=zb4 hns;obtain ⟨h,hcp,rfl,hh,hd⟩:=zal hts;have d0:=hd 0 _ rfl;have d1:=hd 1 _ rfl;have d2:=hd 2 _ rfl;obtain rfl:=zbw 218 hr B3 B3;refine .inl ⟨218,rfl,fun args w=>by kernel_rfl,?_⟩;exact wk25 t0 t1 t2 _ _ W _ h hcp _ hh d0 d1 d2 (fun w hw=>tswap t0 t1 t2 w B1 B1 B1 (hT.below rfl (jN hb hw)))
theorem ok_26:OKt 26 26 4:=by
 intro v w W nsv tsv fn hvb hT hb hr hns hts;have e:(Cal.inAt (Cal.how 26) v 4)=⟨[(Val.number (v 1)).1,(Val.number (v 2)).1],[(Val.asText (v 0)).1,(Val.asText (v 3)).1],false,⟨0,0,⟨#[]⟩⟩⟩:=B10
 open X157 in exact C37
theorem ok_27:OKt 27 27 2:=by
 intro v w W nsv tsv fn hvb hT hb hr hns hts;have e:(Cal.inAt (Cal.how 27) v 2)=⟨[(Val.number (v 1)).1],[(Val.asText (v 0)).1],false,⟨0,0,⟨#[]⟩⟩⟩:=B10
 open X136 in exact C29
theorem ok_28:OKt 28 28 2:=by
 intro v w W nsv tsv fn hvb hT hb hr hns hts;have e:(Cal.inAt (Cal.how 28) v 2)=⟨[],[(Val.asText (v 0)).1,(Val.asText (v 1)).1],false,⟨0,0,⟨#[]⟩⟩⟩:=B10;rw[e] at hns hts ⊢;clear e;have tb0:=zak (hvb 0 B3);generalize (Val.asText (v 0)).1=t0 at *;have tb1:=zak (hvb 1 B3);generalize (Val.asText (v 1)).1=t1 at *;clear hvb;obtain ⟨na,nc,rfl⟩:=zb4 hns;obtain ⟨h,hcp,rfl,hh,hd⟩:=zal hts;have d0:=hd 0 _ rfl;have d1:=hd 1 _ rfl;obtain rfl:=zbw 223 hr B3 B3;refine .inl ⟨223,rfl,fun args w=>by kernel_rfl,?_⟩;exact wk28 t0 t1 _ rfl W _ h hcp _ hh d0 d1
theorem ok_29:OKt 29 29 1:=by
 intro v w W nsv tsv fn hvb hT hb hr hns hts;have e:(Cal.inAt (Cal.how 29) v 1)=⟨[],[(Val.asText (v 0)).1],false,⟨0,0,⟨#[]⟩⟩⟩:=B10;rw[e] at hns hts ⊢;clear e;have tb0:=zak (hvb 0 B3);generalize (Val.asText (v 0)).1=t0 at *;clear hvb;obtain ⟨na,nc,rfl⟩:=zb4 hns;obtain ⟨h,hcp,rfl,hh,hd⟩:=zal hts;have d0:=hd 0 _ rfl;obtain rfl:=zbw 224 hr B3 B3;refine .inl ⟨224,rfl,fun args w=>by kernel_rfl,?_⟩;show Calls _ _ _ W fun e w'=>e=jr (vv (cond ((Cal.zg0 t0).2==0) (Cal.num (Cal.zg0 t0).1) (Cal.bad 4)))/\_;generalize hp:Cal.zg0 t0=p;obtain ⟨u,y⟩:=p;cases hy:(y==0) with
 |true=>exact wk29b t0 tb0 u y hp B131 W _ h hcp _ hh d0
 |false=>exact wk29a t0 tb0 u y hp B131 W _ h hcp _ hh d0
theorem ok_30:OKt 30 30 1:=by
 intro v w W nsv tsv fn hvb hT hb hr hns hts;have e:(Cal.inAt (Cal.how 30) v 1)=⟨[(Val.number (v 0)).1],[],false,⟨0,0,⟨#[]⟩⟩⟩:=B10
 open X128 in exact C26
theorem ok_31:OKt 31 31 1:=by
 intro v w W nsv tsv fn hvb hT hb hr hns hts;have e:(Cal.inAt (Cal.how 31) v 1)=⟨[(Val.number (v 0)).1],[],false,⟨0,0,⟨#[]⟩⟩⟩:=B10
 open X129 in exact C26
theorem ok_32:OKt 32 32 1:=by
 intro v w W nsv tsv fn hvb hT hb hr hns hts;have e:(Cal.inAt (Cal.how 32) v 1)=⟨[],[(Val.asText (v 0)).1],false,⟨0,0,⟨#[]⟩⟩⟩:=B10
 open X77 in exact C13
theorem ok_33:OKt 33 33 1:=by
 intro v w W nsv tsv fn hvb hT hb hr hns hts;have e:(Cal.inAt (Cal.how 33) v 1)=⟨[],[],false,v 0⟩:=B10;rw[e] at hns hts ⊢;clear e;generalize v 0=x at *;clear hvb;obtain ⟨na,nc,rfl⟩:=zb4 hns;obtain rfl:=zbw 200 hr B3 B3;refine .inl ⟨200,rfl,fun args w=>by kernel_rfl,?_⟩;show Calls _ _ _ W fun e w'=>e=jr (vv (cond (x.k==1||x.k==2) (Cal.num x.n) (Cal.num 0)))/\_;cases t0:(x.k==1) with
 |true=>exact wk33a W _ _ ⟨_,_,_,x⟩ t0
 |false=>
  cases t1:(x.k==2) with
  |true=>exact wk33b W _ _ ⟨_,_,_,x⟩ t0 t1
  |false=>exact wk33c W _ _ ⟨_,_,_,x⟩ t0 t1
theorem ok_34:OKt 34 34 1:=by
 intro v w W nsv tsv fn hvb hT hb hr hns hts;have e:(Cal.inAt (Cal.how 34) v 1)=⟨[],[],false,v 0⟩:=B10;rw[e] at hns hts ⊢;clear e;generalize v 0=x at *;clear hvb;obtain ⟨na,nc,rfl⟩:=zb4 hns;obtain rfl:=zbw 229 hr B3 B3;refine .inl ⟨229,rfl,fun args w=>by kernel_rfl,?_⟩;show Calls _ _ _ W fun e w'=>e=jr (vv (cond (x.k==3) x (Cal.txt Cal.cE)))/\_;cases t0:(x.k==3) with
 |true=>exact wk34a W _ _ ⟨_,_,_,x⟩ t0
 |false=>exact wk34b W _ _ ⟨_,_,_,x⟩ t0
theorem ok_35:OKt 35 35 0:=by
 intro v w W nsv tsv fn hvb hT hb hr hns hts;have e:(Cal.inAt (Cal.how 35) v 0)=⟨[],[],false,⟨0,0,⟨#[]⟩⟩⟩:=B10;rw[e] at hns hts ⊢;clear e;clear hvb;obtain ⟨na,nc,rfl⟩:=zb4 hns;obtain rfl:=zbw 201 hr B3 B3;refine .inl ⟨201,rfl,fun args w=>by kernel_rfl,?_⟩;exact wk35 W _ _ _
theorem work_ok(f n:Nat)(v:Nat->Val.V)(w W:World)(nsv tsv fn:Value)(h1:1<=f)(h2:f<36)(hn:(infoV f).1.2.2.1<=(n:Int))(hx:(n:Int)<=(infoV f).1.2.2.2)(hvb:∀k,k<n->VB (v k))(hT:TxtW w)(hb:Below w.heap.size w W)(hr:isRow W f (.agg #[jS (Cal.how f),fn]))(hns:W.ownsRow w.heap.size 2 1 nsv (Cal.inAt (Cal.how f) v n).ns.length ((Cal.inAt (Cal.how f) v n).ns.map (.int .i64)))(hts:W.ownsRow w.heap.size 9 1 tsv (Cal.inAt (Cal.how f) v n).ts.length ((Cal.inAt (Cal.how f) v n).ts.map .string)):
 zqk W fn nsv tsv (Cal.inAt (Cal.how f) v n) (Cal.work f (Cal.inAt (Cal.how f) v n)).k (Cal.work f (Cal.inAt (Cal.how f) v n)).n (Cal.work f (Cal.inAt (Cal.how f) v n)).t:=by
 obtain rfl|rfl|rfl|rfl|rfl|rfl|rfl|rfl|rfl|rfl|rfl|rfl|rfl|rfl|rfl|rfl|rfl|rfl|rfl|rfl|rfl|rfl|rfl|rfl|rfl|rfl|rfl|rfl|rfl|rfl|rfl|rfl|rfl|rfl|rfl:f=1\/f=2\/f=3\/f=4\/f=5\/f=6\/f=7\/f=8\/f=9\/f=10\/f=11\/f=12\/f=13\/f=14\/f=15\/f=16\/f=17\/f=18\/f=19\/f=20\/f=21\/f=22\/f=23\/f=24\/f=25\/f=26\/f=27\/f=28\/f=29\/f=30\/f=31\/f=32\/f=33\/f=34\/f=35:=B1
 .have hn:(1:Int)<=(n:Int):=hn;have hx:(n:Int)<=1:=hx;obtain rfl:n=1:=B1;exact ok_1 v w W nsv tsv fn hvb hT hb hr hns hts
 .have hn:(1:Int)<=(n:Int):=hn;have hx:(n:Int)<=1:=hx;obtain rfl:n=1:=B1;exact ok_2 v w W nsv tsv fn hvb hT hb hr hns hts
 .have hn:(2:Int)<=(n:Int):=hn;have hx:(n:Int)<=2:=hx;obtain rfl:n=2:=B1;exact ok_3 v w W nsv tsv fn hvb hT hb hr hns hts
 .have hn:(2:Int)<=(n:Int):=hn;have hx:(n:Int)<=2:=hx;obtain rfl:n=2:=B1;exact ok_4 v w W nsv tsv fn hvb hT hb hr hns hts
 .have hn:(2:Int)<=(n:Int):=hn;have hx:(n:Int)<=2:=hx;obtain rfl:n=2:=B1;exact ok_5 v w W nsv tsv fn hvb hT hb hr hns hts
 .have hn:(2:Int)<=(n:Int):=hn;have hx:(n:Int)<=2:=hx;obtain rfl:n=2:=B1;exact ok_6 v w W nsv tsv fn hvb hT hb hr hns hts
 .have hn:(2:Int)<=(n:Int):=hn;have hx:(n:Int)<=2:=hx;obtain rfl:n=2:=B1;exact ok_7 v w W nsv tsv fn hvb hT hb hr hns hts
 .have hn:(1:Int)<=(n:Int):=hn;have hx:(n:Int)<=1:=hx;obtain rfl:n=1:=B1;exact ok_8 v w W nsv tsv fn hvb hT hb hr hns hts
 .have hn:(1:Int)<=(n:Int):=hn;have hx:(n:Int)<=1:=hx;obtain rfl:n=1:=B1;exact ok_9 v w W nsv tsv fn hvb hT hb hr hns hts
 .have hn:(1:Int)<=(n:Int):=hn;have hx:(n:Int)<=1:=hx;obtain rfl:n=1:=B1;exact ok_10 v w W nsv tsv fn hvb hT hb hr hns hts
 .have hn:(2:Int)<=(n:Int):=hn;have hx:(n:Int)<=2:=hx;obtain rfl:n=2:=B1;exact ok_11 v w W nsv tsv fn hvb hT hb hr hns hts
 .have hn:(2:Int)<=(n:Int):=hn;have hx:(n:Int)<=2:=hx;obtain rfl:n=2:=B1;exact ok_12 v w W nsv tsv fn hvb hT hb hr hns hts
 .have hn:(2:Int)<=(n:Int):=hn;have hx:(n:Int)<=2:=hx;obtain rfl:n=2:=B1;exact ok_13 v w W nsv tsv fn hvb hT hb hr hns hts
 .have hn:(1:Int)<=(n:Int):=hn;have hx:(n:Int)<=1:=hx;obtain rfl:n=1:=B1;exact ok_14 v w W nsv tsv fn hvb hT hb hr hns hts
 .have hn:(3:Int)<=(n:Int):=hn;have hx:(n:Int)<=3:=hx;obtain rfl:n=3:=B1;exact ok_15 v w W nsv tsv fn hvb hT hb hr hns hts
 .have hn:(1:Int)<=(n:Int):=hn;have hx:(n:Int)<=1:=hx;obtain rfl:n=1:=B1;exact ok_16 v w W nsv tsv fn hvb hT hb hr hns hts
 .have hn:(1:Int)<=(n:Int):=hn;have hx:(n:Int)<=2:=hx;obtain rfl|rfl:n=1\/n=2:=B1
  .exact ok_17a v w W nsv tsv fn hvb hT hb hr hns hts
  .exact ok_17b v w W nsv tsv fn hvb hT hb hr hns hts
 .have hn:(1:Int)<=(n:Int):=hn;have hx:(n:Int)<=2:=hx;obtain rfl|rfl:n=1\/n=2:=B1
  .exact ok_18a v w W nsv tsv fn hvb hT hb hr hns hts
  .exact ok_18b v w W nsv tsv fn hvb hT hb hr hns hts
 .have hn:(3:Int)<=(n:Int):=hn;have hx:(n:Int)<=3:=hx;obtain rfl:n=3:=B1;exact ok_19 v w W nsv tsv fn hvb hT hb hr hns hts
 .have hn:(1:Int)<=(n:Int):=hn;have hx:(n:Int)<=1:=hx;obtain rfl:n=1:=B1;exact ok_20 v w W nsv tsv fn hvb hT hb hr hns hts
 .have hn:(1:Int)<=(n:Int):=hn;have hx:(n:Int)<=1:=hx;obtain rfl:n=1:=B1;exact ok_21 v w W nsv tsv fn hvb hT hb hr hns hts
 .have hn:(1:Int)<=(n:Int):=hn;have hx:(n:Int)<=1:=hx;obtain rfl:n=1:=B1;exact ok_22 v w W nsv tsv fn hvb hT hb hr hns hts
 .have hn:(1:Int)<=(n:Int):=hn;have hx:(n:Int)<=1:=hx;obtain rfl:n=1:=B1;exact ok_23 v w W nsv tsv fn hvb hT hb hr hns hts
 .have hn:(2:Int)<=(n:Int):=hn;have hx:(n:Int)<=3:=hx;obtain rfl|rfl:n=2\/n=3:=B1
  .exact ok_24a v w W nsv tsv fn hvb hT hb hr hns hts
  .exact ok_24b v w W nsv tsv fn hvb hT hb hr hns hts
 .have hn:(3:Int)<=(n:Int):=hn;have hx:(n:Int)<=3:=hx;obtain rfl:n=3:=B1;exact ok_25 v w W nsv tsv fn hvb hT hb hr hns hts
 .have hn:(4:Int)<=(n:Int):=hn;have hx:(n:Int)<=4:=hx;obtain rfl:n=4:=B1;exact ok_26 v w W nsv tsv fn hvb hT hb hr hns hts
 .have hn:(2:Int)<=(n:Int):=hn;have hx:(n:Int)<=2:=hx;obtain rfl:n=2:=B1;exact ok_27 v w W nsv tsv fn hvb hT hb hr hns hts
 .have hn:(2:Int)<=(n:Int):=hn;have hx:(n:Int)<=2:=hx;obtain rfl:n=2:=B1;exact ok_28 v w W nsv tsv fn hvb hT hb hr hns hts
 .have hn:(1:Int)<=(n:Int):=hn;have hx:(n:Int)<=1:=hx;obtain rfl:n=1:=B1;exact ok_29 v w W nsv tsv fn hvb hT hb hr hns hts
 .have hn:(1:Int)<=(n:Int):=hn;have hx:(n:Int)<=1:=hx;obtain rfl:n=1:=B1;exact ok_30 v w W nsv tsv fn hvb hT hb hr hns hts
 .have hn:(1:Int)<=(n:Int):=hn;have hx:(n:Int)<=1:=hx;obtain rfl:n=1:=B1;exact ok_31 v w W nsv tsv fn hvb hT hb hr hns hts
 .have hn:(1:Int)<=(n:Int):=hn;have hx:(n:Int)<=1:=hx;obtain rfl:n=1:=B1;exact ok_32 v w W nsv tsv fn hvb hT hb hr hns hts
 .have hn:(1:Int)<=(n:Int):=hn;have hx:(n:Int)<=1:=hx;obtain rfl:n=1:=B1;exact ok_33 v w W nsv tsv fn hvb hT hb hr hns hts
 .have hn:(1:Int)<=(n:Int):=hn;have hx:(n:Int)<=1:=hx;obtain rfl:n=1:=B1;exact ok_34 v w W nsv tsv fn hvb hT hb hr hns hts
 .have hn:(0:Int)<=(n:Int):=hn;have hx:(n:Int)<=0:=hx;obtain rfl:n=0:=B1;exact ok_35 v w W nsv tsv fn hvb hT hb hr hns hts
theorem call_sc(f n:Nat)(v:Nat->Val.V)(a:Option Addr)(cap:Nat)(w:World)(h1:1<=f)(h2:f<36)(hn:(infoV f).1.2.2.1<=(n:Int))(hx:(n:Int)<=(infoV f).1.2.2.2)(hc:HCellP w a n v)(hvb:∀k,k<n->VB (v k))(hN:NumW w)(hT:TxtW w):
 Ret 72 #[jI f,.slice a n cap] w (.tuple #[vv (Cal.zeu f n v).1,jI (Cal.zeu f n v).2]):=
 call_one f n v a cap w h1 h2 hn hx hc hvb hN fun _ W nsv tsv fn hr hb hns hts=>work_ok f n v w W nsv tsv fn h1 h2 hn hx hvb hT hb hr hns hts
namespace Cal
def ask(f:Int)(v:Val.V):Bool:=
 cond (f==36) (v.k==0)<|cond (f==37) (v.k==1)<|cond (f==38) (v.k==3)<|cond (f==39) (v.k==2)<|cond (f==40) (v.k==4) (v.k==4&&(v.n==6&&v.t.toList.isEmpty))
def zero:Val.V:=⟨0,0,⟨#[]⟩⟩
def callM(f:Int)(n:Nat)(v:Nat->Val.V):Val.V×Int:=
 if (infoV f).2≠0\/((infoV f).1.2.1≠1/\(infoV f).1.2.1≠2)\/(n:Int)<(infoV f).1.2.2.1\/(infoV f).1.2.2.2<(n:Int) then (zero,1)
 else if (infoV f).1.2.1=2 then cond (Val.mayB (v 0)) (tru (ask f (v 0)),0) (zero,24)
 else zeu f.toNat n v
end Cal
def M164(h:jp:=by
 unfold Val.isE at h;have:=List.isEmpty_iff.1 h;have e:t.toList=t.data.toList:=ByteArray.toList_eq t;rw[e] at this;rw[Lib.size_eq,this];rfl):=h
def M207(h:jp:=by
 have e:(⟨(Lib.itoa v.n).toArray⟩:ByteArray).size=(Lib.itoa v.n).length:=rfl;rw[e];omega):=h
theorem class_of:∀k:Fin 77,(infoV (k.val:Int)).2=0->((infoV (k.val:Int)).1.2.1=1->1<=k.val/\k.val<36)/\((infoV (k.val:Int)).1.2.1=2->36<=k.val/\k.val<=41/\(infoV (k.val:Int)).1.2.2.1=1/\(infoV (k.val:Int)).1.2.2.2=1):=B49
theorem zfh{f:Int}(h:(infoV f).2=0):∃k:Fin 77,f=(k.val:Int):=by
 by_cases h1:1<=f/\f<=76
 .exact ⟨⟨f.toNat,B1⟩,by show f=((f.toNat:Nat):Int);omega⟩
 .unfold infoV at h;rw[if_neg h1] at h;simp at h
theorem zx5(f:Int)(h1:36<=f)(h2:f<=41)(k n:Int)(t:ByteArray)(w:World):Ret 136 #[jI f,.agg #[jI k,jI n,jS t]] w (.bool (Cal.ask f ⟨k,n,t⟩)):=by
 obtain rfl|rfl|rfl|rfl|rfl|rfl:f=36\/f=37\/f=38\/f=39\/f=40\/f=41:=B1
 .exact ask_36 k n t w
 .exact ask_37 k n t w
 .exact ask_38 k n t w
 .exact ask_39 k n t w
 .exact ask_40 k n t w
 .exact ask_41 k n t w
theorem call_any(f:Int)(n:Nat)(v:Nat->Val.V)(a:Option Addr)(cap:Nat)(w:World)(hc:HCellP w a n v)(hvb:∀k,k<n->VB (v k))(hN:NumW w)(hT:TxtW w):
 Ret 72 #[jI f,.slice a n cap] w (.tuple #[vv (Cal.callM f n v).1,jI (Cal.callM f n v).2]):=by
 unfold Cal.callM
 by_cases hb:(infoV f).2≠0\/((infoV f).1.2.1≠1/\(infoV f).1.2.1≠2)\/(n:Int)<(infoV f).1.2.2.1\/(infoV f).1.2.2.2<(n:Int)
 .rw[if_pos hb];generalize hI:infoV f=r at hb;obtain ⟨⟨nm,c,mn,mx⟩,e0⟩:=r;simp only at hb
  by_cases h0:e0=0
  .subst h0
   by_cases h1:c=1
   .subst h1
    by_cases h3:(n:Int)<mn
    .exact zsl f 0 1 mn mx n nm a cap w hI rfl rfl rfl (decide_eq_true h3)
    .exact zsj f 0 1 mn mx n nm a cap w hI rfl rfl rfl (decide_eq_false h3) (decide_eq_true B1)
   .by_cases h2:c=2
    .subst h2
     by_cases h3:(n:Int)<mn
     .exact zsk f 0 2 mn mx n nm a cap w hI rfl rfl rfl (decide_eq_true h3)
     .exact zsi f 0 2 mn mx n nm a cap w hI rfl rfl rfl (decide_eq_false h3) (decide_eq_true B1)
    .exact zxu f 0 c mn mx n nm a cap w hI rfl B82 B70
  .exact zxv f e0 c mn mx n nm a cap w hI B71
 .rw[if_neg hb];have he:(infoV f).2=0:=B1;obtain ⟨k,rfl⟩:=zfh he;obtain ⟨k1,k2⟩:=class_of k he
  by_cases h2:(infoV (k.val:Int)).1.2.1=2
  .rw[if_pos h2];obtain ⟨g1,g2,g3,g4⟩:=k2 h2;obtain rfl:n=1:=B1;obtain ⟨b,o,rfl,hbl,c0,c1,c2⟩:=hc 0 B1;have hI:infoV (k.val:Int)=(((infoV (k.val:Int)).1.1,2,1,1),0):=by
    generalize infoV (k.val:Int)=r at h2 g3 g4 he;obtain ⟨⟨a,b,c,d⟩,e⟩:=r;simp only at h2 g3 g4 he;subst h2 g3 g4 he;rfl
   simp only[Nat.zero_mul,Nat.add_zero] at c0 c1 c2;have hA:=fun w=>zx5 (k.val:Int) B1 B1 (v 0).k (v 0).n (v 0).t w;generalize Cal.ask (k.val:Int) (v 0)=q at *;generalize v 0=x at *;obtain ⟨xk,xn,xt⟩:=x;generalize (infoV (k.val:Int)).1.1=nm at *;cases hm:Val.mayB (⟨xk,xn,xt⟩:Val.V) with
   |true=>exact zqe _ xk xn _ _ _ xt nm _ q b o cap w hI hbl c0 c1 c2 (jH hA) (jH fun h=>by rw[hm] at h;cases h) (jH fun _=> ⟨rfl,rfl⟩)
   |false=>exact zqe _ xk xn _ _ _ xt nm _ q b o cap w hI hbl c0 c1 c2 (jH hA) (jH fun _=> ⟨rfl,rfl,rfl,rfl⟩) (jH fun h=>by rw[hm] at h;cases h)
  .rw[if_neg h2];obtain ⟨g1,g2⟩:=k1 B1;exact call_sc k.val n v a cap w g1 g2 B1 B1 hc hvb hN hT
namespace Ma
def mayS(s:Sp):Bool:=decide (0<=s.r)&&decide (s.r<65536)&&decide (0<=s.c)&&decide (s.c<702)
def mayA(a:Ar):Bool:=mayS ⟨a.t,a.l⟩&&mayS ⟨a.b,a.r⟩&&decide (a.t<=a.b)&&decide (a.l<=a.r)
def places(a:Ar):Int:=(a.b-a.t+1)*(a.r-a.l+1)
def sizeA(a:Ar):Int×Int:=cond (mayA a) (cond (decide (places a<=4096)) (places a,0) (0,2)) (0,11)
def isErr(x:Arg):Bool:=!x.isA&&x.v.k==4
def zb1(a:Ar)(n:Nat):Sp:=⟨a.t+(n:Int)/(a.r-a.l+1),a.l+(n:Int)%(a.r-a.l+1)⟩
def equal(x v:Val.V):Bool:=v.k !=4&&Val.cmpG (Val.good x) (Val.good v)==0
def alike(x y:Arg):Bool:=x.isA&&y.isA&&(x.a.b-x.a.t==y.a.b-y.a.t)&&(x.a.r-x.a.l==y.a.r-y.a.l)
structure FZ where
 f:Int
 a:List Arg
 items:List Arg
 i:Nat
 pos:Nat
 here:Sp
 next:Sp
 wants:Bool
 over:Bool
 fin:Val.V
 n:Int
 all:Int
 l:List Int
 k:Int
 odd:Bool
 b:List UInt8
 sep:List UInt8
 pend:Option Val.V
namespace FZ
def ends(x:FZ)(v:Val.V):FZ:=cond x.over x {x with over:=true,wants:=false,fin:=v}
def fails(x:FZ)(e:Int):FZ:=x.ends (Cal.bad e)
def want(x:FZ)(s:Sp)(v:Val.V):FZ:={x with next:=s,wants:=true,pend:=some v}
def i64(n:Int):Int:=IntKind.i64.wrap n
def sum(x:FZ)(n:Int):FZ:={(cond (Ref.fitB (x.all+n)) x (x.fails 2)) with all:=Ref.fitV (x.all+n)}
def prod(x:FZ)(n:Int):FZ:={(cond (Ref.fitB (x.all*n)) x (x.fails 2)) with all:=Ref.fitV (x.all*n)}
def add(x:FZ)(n:Int):FZ:=
 if x.f=54\/x.f=61 then sum {x with n:=i64 (x.n+1)} n
 else if x.f=55 then x.prod n
 else {x with l:=x.l++ [n]}
def gather(x:FZ)(v:Val.V)(cell:Bool):FZ:=
 cond cell (cond (v.k==4) (x.ends v) (cond (v.k==1) (x.add v.n) x))
  (cond ((Val.number v).2==0) (x.add (Val.number v).1) (x.fails (Val.number v).2))
def count(x:FZ)(v:Val.V)(cell:Bool):FZ:=
 cond (cond (x.f==57) (v.k !=0)<|cond (x.f==58) (v.k==0)<|cond cell (v.k==1) ((Val.number v).2==0)) {x with n:=i64 (x.n+1)} x
def truths1(x:FZ)(is:Bool):FZ:=
 let y:={x with n:=i64 (x.n+1),odd:=x.odd !=is}
 cond (x.f==65&& !is||x.f==66&&is) (y.ends (Cal.tru is)) y
def truths(x:FZ)(v:Val.V)(cell:Bool):FZ:=
 cond cell (cond (v.k==4) (x.ends v) (cond (v.k !=2&&v.k !=1) x (x.truths1 (v.n !=0))))
  (cond ((Val.truth v).2==0) (x.truths1 (Val.truth v).1) (x.fails (Val.truth v).2))
def texts(x:FZ)(v:Val.V)(cell:Bool):FZ:=
 cond (x.f==69&&cell&&v.k==0) x<|
 cond ((Val.asText v).2==0)
  (let b:=x.b++(cond x.odd x.sep [])++(Val.asText v).1.data.toList
   let y:={x with odd:=true,b:=b}
   cond (decide (32767<b.length)) (y.fails 4) y)
  (x.fails (Val.asText v).2)
def arg(x:FZ)(i:Nat):Arg:=x.a.getD i (vArg Cal.zero)
def addIf(x:FZ)(w:Val.V):FZ:=cond (w.k==4) (x.ends w) (cond (w.k==1) (x.sum w.n) x)
def ifs(x:FZ)(v:Val.V):FZ:=
 cond (equal (x.arg 1).v v)
  (let y:={x with n:=i64 (x.n+1)}
   cond (x.f==74) y<|
   cond (x.a.length==3) (y.want ⟨(x.arg 2).a.t+x.here.r-(x.arg 0).a.t,(x.arg 2).a.l+x.here.c-(x.arg 0).a.l⟩ v) (y.addIf v)) x
def lookup(x:FZ)(v:Val.V):FZ:=
 cond (equal (x.arg 0).v v)
  (x.want (cond (x.f==72) ⟨(x.arg 1).a.t+x.k-1,x.here.c⟩ ⟨x.here.r,(x.arg 1).a.l+x.k-1⟩) v) x
def product(x:FZ)(v:Val.V):FZ:=
 cond (v.k==4) (x.ends v) (x.want ⟨(x.arg 1).a.t+x.here.r-(x.arg 0).a.t,(x.arg 1).a.l+x.here.c-(x.arg 0).a.l⟩ v)
def take(x:FZ)(v:Val.V)(cell:Bool):FZ:=
 if x.f=54\/x.f=55\/(59<=x.f/\x.f<=64) then x.gather v cell
 else if x.f=56\/x.f=57\/x.f=58 then x.count v cell
 else if x.f=65\/x.f=66\/x.f=67 then x.truths v cell
 else if x.f=68\/x.f=69 then x.texts v cell
 else if x.f=70 then
  (let y:={x with n:=i64 (x.n+1)}
   cond (equal (x.arg 0).v v) (y.ends (Cal.num y.n)) y)
 else if x.f=71\/x.f=72 then x.lookup v
 else if x.f=73\/x.f=74 then x.ifs v
 else if x.f=75 then x.product v
 else cond (v.k !=0) (x.ends v) x
def after(x:FZ)(v w:Val.V):FZ:=
 if x.f=71\/x.f=72 then x.ends w
 else if x.f=73 then x.addIf w
 else cond (w.k==4) (x.ends w)<|cond (v.k !=1||w.k !=1) x<|cond (Ref.fitB (v.n*w.n)) (x.sum (v.n*w.n)) (x.fails 2)
def zbh(f k:Int)(l:List Int):Val.V:=
 let n:Int:=l.length
 cond ((f==59||f==60)&&n==0) (Cal.num 0)<|
 cond (f !=59&&f !=60&&(n==0||decide (k<1)||decide (n<k))) (Cal.bad 2)<|
 cond (f==59||f==64) (Cal.num (l.getD (k-1).toNat 0))<|
 cond (f==60||f==63) (Cal.num (l.getD (n-k).toNat 0))<|
 cond (l.length%2==1) (Cal.num (l.getD (l.length/2) 0))
  (let a:=l.getD (l.length/2-1) 0
   let b:=l.getD (l.length/2) 0
   cond (decide (a<0) !=decide (b<0)) (Cal.num ((a+b).tdiv 2)) (Cal.num (a.tdiv 2+b.tdiv 2+(a.tmod 2+b.tmod 2).tdiv 2)))
def finish(sort:List Int->List Int)(x:FZ):Val.V:=
 if x.f=54\/x.f=55\/x.f=73\/x.f=75 then Cal.num x.all
 else if x.f=61 then cond (x.n==0) (Cal.bad 5) (Cal.num (x.all.tdiv x.n))
 else if x.f=56\/x.f=57\/x.f=58\/x.f=74 then Cal.num x.n
 else if 59<=x.f/\x.f<=64 then zbh x.f x.k (sort x.l)
 else if x.f=65\/x.f=66\/x.f=67 then cond (x.n==0) (Cal.bad 4) (cond (x.f==67) (Cal.tru x.odd) (Cal.tru (x.f==65)))
 else if x.f=68\/x.f=69 then Cal.txt ⟨x.b.toArray⟩
 else Cal.bad 6
def stop(x:FZ):Bool:=x.over||x.wants
def adv1(sort:List Int->List Int)(x:FZ):FZ:=
 cond x.stop x<|
 match x.items[x.i]? with
 |none=>x.ends (x.finish sort)
 |some it=>cond it.isA
  (cond ((sizeA it.a).1==x.pos) {x with i:=x.i+1,pos:=0} {x with next:=zb1 it.a x.pos,wants:=true})
  ({x with i:=x.i+1}.take it.v false)
def advN(sort:List Int->List Int):Nat->FZ->FZ
 |0,x=>x
 |k+1,x=>advN sort k (adv1 sort x)
def advance(sort:List Int->List Int)(x:FZ):FZ:=advN sort (x.items.length+1) x
def give(sort:List Int->List Int)(x:FZ)(w:Val.V):FZ:=
 advance sort (match x.pend with
  |some v=>{x with wants:=false,pend:=none}.after v w
  |none=>{x with wants:=false,here:=x.next,pos:=x.pos+1}.take w true)
def looks(x:FZ)(p q:Arg):FZ:=
 {(cond p.isA (x.fails 4)<|cond (p.v.k==4) (x.ends p.v)<|cond q.isA x (x.fails 4)) with items:=[q]}
def blank(f:Int)(a:List Arg):FZ:=⟨f,a,a,0,0,sp0,sp0,false,false,Cal.zero,0,0,[],1,false,[],[],none⟩
def begin(f:Int)(a:List Arg):FZ:=
 let x:=blank f a
 if f=55 then {x with all:=1}
 else if f=63\/f=64 then
  (let y:={x with items:=a.take 1}
   cond (x.arg 1).isA (y.fails 4)<|cond ((Val.number (x.arg 1).v).2==0) {y with k:=(Val.number (x.arg 1).v).1} (y.fails (Val.number (x.arg 1).v).2))
 else if f=69 then
  (let y:={x with items:=a.drop 1}
   cond (x.arg 0).isA (y.fails 4)<|cond ((Val.asText (x.arg 0).v).2==0) {y with sep:=(Val.asText (x.arg 0).v).1.data.toList} (y.fails (Val.asText (x.arg 0).v).2))
 else if f=70 then x.looks (x.arg 0) (x.arg 1)
 else if f=71\/f=72 then
  (let y:=x.looks (x.arg 0) (x.arg 1)
   let r:=(x.arg 1).a
   let n:=Val.number (x.arg 2).v
   cond y.over y<|cond (x.arg 2).isA (y.fails 4)<|cond (n.2 !=0) (y.fails n.2)<|
   cond (decide (n.1<1)||decide (cond (f==72) (r.b-r.t+1) (r.r-r.l+1)<n.1)) (y.fails 3)
    {y with k:=n.1,items:=[aArg (cond (f==72) {r with b:=r.t} {r with r:=r.l})]})
 else if f=73\/f=74 then
  {(cond (!(x.arg 0).isA||(x.arg 1).isA) (x.fails 4)<|cond ((x.arg 1).v.k==4) (x.ends (x.arg 1).v)<|
    cond (a.length==3&& !alike (x.arg 0) (x.arg 2)) (x.fails 4) x) with items:=a.take 1}
 else if f=75 then {(cond (alike (x.arg 0) (x.arg 1)) x (x.fails 4)) with items:=a.take 1}
 else x
def badArg:List Arg->Int
 |[]=>0
 |x::r=>cond x.isA (cond ((sizeA x.a).2==0) (badArg r) (sizeA x.a).2) (cond (Val.mayB x.v) (badArg r) 24)
def zfm(f:Int)(a:List Arg):Int:=
 if (infoV f).2≠0\/(infoV f).1.2.1≠6 then 5
 else if (a.length:Int)<(infoV f).1.2.2.1\/(0<=(infoV f).1.2.2.2/\(infoV f).1.2.2.2<(a.length:Int)) then 1
 else badArg a
def start(sort:List Int->List Int)(f:Int)(a:List Arg):FZ:=advance sort (begin f a)
end FZ
structure Ins where
 op:Int
 a:Int
 b:Int
 c:Int
 d:Int
 T:List Int
structure Code where
 ins:List Ins
 con:List Val.V
structure MS where
 ip:Nat
 st:List Arg
 walk:Option FZ
 want:Sp
 wants:Bool
 over:Bool
 great:Bool
 n:Nat
namespace MS
def zaz(e:Int):Arg:=vArg (Cal.bad e)
def lay(m:MS)(x:Arg):MS:={m with st:=m.st++ [x]}
def top(m:MS):Arg:=m.st.getLastD (vArg Cal.zero)
def cut(m:MS)(n:Nat):MS:={m with st:=m.st.take (m.st.length-n)}
def last(m:MS)(n:Nat):List Arg:=m.st.drop (m.st.length-n)
def asks(m:MS)(s:Sp):MS:=cond (m.n==65536) {m with over:=true,great:=true} {m with want:=s,wants:=true}
def jump(m:MS)(x:Ins)(tg:Nat):MS×Nat:=
 if x.op=7 then cond (isErr m.top) ((m.cut (x.b+1).toNat).lay m.top,x.a.toNat) (m,tg)
 else if x.op=8 then
  (let t:=Val.truth m.top.v
   cond (t.2 !=0) ((m.cut 1).lay (zaz t.2),x.b.toNat) (cond t.1 (m.cut 1,tg) (m.cut 1,x.a.toNat)))
 else if x.op=9 then cond (m.top.v.k !=4||x.b==6&&m.top.v.n !=6) (m,x.a.toNat) (m.cut 1,tg)
 else if x.op=10 then
  (let t:=Val.number m.top.v
   cond (t.2 !=0) ((m.cut 1).lay (zaz t.2),x.a.toNat)<|
   cond (decide (t.1<1)||decide ((x.T.length:Int)<t.1)) ((m.cut 1).lay (zaz 4),x.a.toNat) (m.cut 1,(x.T.getD (t.1-1).toNat 0).toNat))
 else if x.op=11 then
  cond (Val.cmpG (Val.good (m.cut 1).top.v) (Val.good m.top.v) !=0) (m.cut 1,x.a.toNat) (m.cut 2,tg)
 else (m,x.a.toNat)
def placeN(f:Int)(a:Ar):Int:=cond (f==47) (a.t+1)<|cond (f==48) (a.l+1)<|cond (f==49) (a.b-a.t+1) (a.r-a.l+1)
def nums:List Arg->List Int×Int
 |[]=>([],0)
 |x::r=>cond ((Val.number x.v).2==0) ((Val.number x.v).1::(nums r).1,(nums r).2) ([],(Val.number x.v).2)
def zv3(a:Ar)(ns:List Int):Option Ar:=
 let i:=ns.getD 0 0
 let j:=ns.getD 1 1
 cond (decide (i<1)||decide (a.b-a.t+1<i)||decide (j<1)||decide (a.r-a.l+1<j)) none (some ⟨a.t+i-1,a.l+j-1,a.t+i-1,a.l+j-1⟩)
def moveA(a:Ar)(dr dc:Int):Option Ar:=
 cond (!mayA a) none<|cond (decide (dr < -65536)||decide (65536<dr)||decide (dc < -702)||decide (702<dc)) none<|
 cond (mayA ⟨a.t+dr,a.l+dc,a.b+dr,a.r+dc⟩) (some ⟨a.t+dr,a.l+dc,a.b+dr,a.r+dc⟩) none
def offset (a:Ar)(ns:List Int):Option Ar:=
 let h:=ns.getD 2 (a.b-a.t+1)
 let w:=ns.getD 3 (a.r-a.l+1)
 match moveA ⟨a.t,a.l,a.t,a.l⟩ (ns.getD 0 0) (ns.getD 1 0) with
 |none=>none
 |some b=>cond (decide (h<1)||decide (65536<h)||decide (w<1)||decide (702<w)) none (some ⟨b.t,b.l,b.t+h-1,b.l+w-1⟩)
def zdk(x:Ins)(l:List Arg):Arg:=
 match l.find? isErr with
 |some e=>e
 |none=>
  let ns:=nums (l.drop 1)
  cond (ns.2 !=0) (zaz ns.2)<|
  match cond (x.op==19) (zv3 (l.getD 0 (vArg Cal.zero)).a ns.1) (offset (l.getD 0 (vArg Cal.zero)).a ns.1) with
  |none=>zaz 3
  |some a=>cond ((sizeA a).2==0) (aArg a) (zaz 3)
def za5(read:List UInt8->Ar×Int)(v:Val.V):Arg:=
 let s:=Val.asText v
 cond (s.2 !=0) (zaz s.2) (cond ((read s.1.data.toList).2 !=0) (zaz 3) (aArg (read s.1.data.toList).1))
def plain(read:List UInt8->Ar×Int)(at_:Sp)(m:MS)(x:Ins):MS:=
 if x.op=3 then m.lay (aArg ⟨x.a,x.b,x.c,x.d⟩)
 else if x.op=4 then (m.cut 1).lay (vArg (Cal.un x.a m.top.v))
 else if x.op=5 then (m.cut 2).lay (vArg (Cal.bin x.a ((m.last 2).getD 0 (vArg Cal.zero)).v ((m.last 2).getD 1 (vArg Cal.zero)).v))
 else if x.op=6 then (m.cut x.b.toNat).lay (vArg (Cal.callM x.a x.b.toNat (fun k=>((m.last x.b.toNat).getD k (vArg Cal.zero)).v)).1)
 else if x.op=12 then m.cut 1
 else if x.op=14 then m.lay (vArg (Cal.num (cond (x.a==47) (at_.r+1) (at_.c+1))))
 else if x.op=15 then cond (isErr m.top) m ((m.cut 1).lay (vArg (Cal.num (placeN x.a m.top.a))))
 else if x.op=17 then (m.cut 1).lay (za5 read m.top.v)
 else (m.cut (x.a+1).toNat).lay (zdk x (m.last (x.a+1).toNat))
def on1(sort:List Int->List Int)(read:List UInt8->Ar×Int)(p:Code)(at_:Sp)(m:MS):MS:=
 cond (m.over||m.wants) m<|
 match p.ins[m.ip]? with
 |none=>{m with over:=true}
 |some x=>
  if x.op=1 then {m.lay (vArg (p.con.getD x.a.toNat Cal.zero)) with ip:=m.ip+1}
  else if x.op=2 then m.asks ⟨x.a,x.b⟩
  else if x.op=16 then
   cond (m.top.isA&&m.top.a.t==m.top.a.b&&m.top.a.l==m.top.a.r) ((m.cut 1).asks ⟨m.top.a.t,m.top.a.l⟩)
    (cond m.top.isA {(m.cut 1).lay (zaz 4) with ip:=m.ip+1} {m with ip:=m.ip+1})
  else if x.op=20 then
   (let m':=match m.walk with
    |some _=>m
    |none=>{m.cut x.b.toNat with walk:=some (FZ.start sort x.a (m.last x.b.toNat))}
    match m'.walk with
     |none=>m'
     |some w=>cond w.wants (m'.asks w.next) {({m' with walk:=none}.lay (vArg w.fin)) with ip:=m.ip+1})
  else if 7<=x.op/\x.op<=11\/x.op=13 then {(m.jump x (m.ip+1)).1 with ip:=(m.jump x (m.ip+1)).2}
  else {m.plain read at_ x with ip:=m.ip+1}
def onN(sort:List Int->List Int)(read:List UInt8->Ar×Int)(p:Code)(at_:Sp):Nat->MS->MS
 |0,m=>m
 |k+1,m=>onN sort read p at_ k (on1 sort read p at_ m)
def on(sort:List Int->List Int)(read:List UInt8->Ar×Int)(p:Code)(at_:Sp)(m:MS):MS:=onN sort read p at_ (p.ins.length+1) m
def new(sort:List Int->List Int)(read:List UInt8->Ar×Int)(p:Code)(at_:Sp):MS:=on sort read p at_ ⟨0,[],none,sp0,false,false,false,0⟩
def give(sort:List Int->List Int)(read:List UInt8->Ar×Int)(p:Code)(at_:Sp)(m:MS)(v:Val.V):MS:=
 on sort read p at_ (match m.walk with
  |some w=>{m with wants:=false,n:=m.n+1,walk:=some (w.give sort v)}
  |none=>{m.lay (vArg v) with wants:=false,n:=m.n+1,ip:=m.ip+1})
def value(m:MS):Val.V×Bool:=cond m.great (Cal.bad 3,true) (cond m.over ((m.st.getD 0 (vArg Cal.zero)).v,true) (Cal.zero,false))
end MS
abbrev St:=List Int
def fits(is asked:Int):Bool:=is==asked||is==69
def zcq:St->List Int->Bool
 |x::s,y::t=>fits x y&&zcq s t
 |_,_=>true
def za3(s:St)(asked:List Int):Bool:=cond (decide (s.length<asked.length)) false (zcq (s.drop (s.length-asked.length)) asked)
def withS(s:St)(n:Nat)(more:List Int):St:=s.take (s.length-n)++more
def many(n:Nat):List Int:=List.replicate n 86
def zbg(asked leaves:List Int)(at_:Int)(s:St):Option (List (Int×St)):=
 cond (za3 s asked) (some [(at_+1,withS s asked.length leaves)]) none
def stepS(con:List Val.V)(x:Ins)(at_:Int)(s:St):Option (List (Int×St)):=
 if x.op=1 then some [(at_+1,withS s 0 [cond ((con.getD x.a.toNat Cal.zero).k==4) 69 86])]
 else if x.op=2 then zbg [] [86] at_ s
 else if x.op=3 then zbg [] [65] at_ s
 else if x.op=4 then zbg [86] [86] at_ s
 else if x.op=5 then zbg [86,86] [86] at_ s
 else if x.op=6 then cond (za3 s (many x.b.toNat)) (some [(at_+1,withS s x.b.toNat [86])]) none
 else if x.op=7 then cond (decide (s.length<1)||decide ((s.length:Int)-1<x.b)) none (some [(at_+1,s),(x.a,withS s (x.b+1).toNat [69])])
 else if x.op=8 then cond (za3 s [86]) (some [(at_+1,withS s 1 []),(x.a,withS s 1 []),(x.b,withS s 1 [69])]) none
 else if x.op=9 then cond (za3 s [86]) (some [(at_+1,withS s 1 []),(x.a,withS s 1 [86])]) none
 else if x.op=10 then cond (za3 s [86]) (some ((x.a,withS s 1 [69])::x.T.map fun tg=>(tg,withS s 1 []))) none
 else if x.op=11 then cond (za3 s [86,86]) (some [(at_+1,withS s 2 []),(x.a,withS s 1 [])]) none
 else if x.op=12 then zbg [86] [] at_ s
 else if x.op=13 then some [(x.a,s)]
 else if x.op=14 then zbg [] [86] at_ s
 else if x.op=15 then zbg [65] [86] at_ s
 else if x.op=16 then zbg [65] [86] at_ s
 else if x.op=17 then zbg [86] [65] at_ s
 else if x.op=18\/x.op=19 then cond (za3 s (65::many x.a.toNat)) (some [(at_+1,withS s (x.a+1).toNat [65])]) none
 else cond (decide ((s.length:Int)<x.b)) none (some [(at_+1,withS s x.b.toNat [86])])
def within(n lo hi:Int):Bool:=decide (lo<=n)&&decide (n<=hi)
def funcOf(x:Ins)(cs:List Int):Bool:=
 cond ((infoV x.a).2 !=0||decide (x.b<(infoV x.a).1.2.2.1)||(decide (0<=(infoV x.a).1.2.2.2)&&decide ((infoV x.a).1.2.2.2<x.b))) false (cs.contains (infoV x.a).1.2.1)
def uses(op:Int):Int:=
 if op=3 then 4 else if op=2\/op=6\/op=7\/op=8\/op=9\/op=20 then 2 else if op=12\/op=16\/op=17 then 0 else 1
def goodI(ncon:Int)(x:Ins):Bool:=
 if x.op=1 then within x.a 0 (ncon-1)
 else if x.op=2 then mayS ⟨x.a,x.b⟩
 else if x.op=3 then (sizeA ⟨x.a,x.b,x.c,x.d⟩).2==0
 else if x.op=4 then within x.a 1 3
 else if x.op=5 then within x.a 1 12
 else if x.op=6 then funcOf x [1,2]
 else if x.op=7 then decide (0<=x.b)
 else if x.op=9 then x.b==0||x.b==6
 else if x.op=14 then x.a==47||x.a==48
 else if x.op=15 then (infoV x.a).1.2.1==4
 else if x.op=18 then within x.a 2 4
 else if x.op=19 then within x.a 1 2
 else if x.op=20 then funcOf x [6]
 else true
def jumps(x:Ins):List Int:=
 if x.op=7\/x.op=9\/x.op=11\/x.op=13 then [x.a] else if x.op=8 then [x.a,x.b] else if x.op=10 then x.a::x.T else []
def zll(x:Ins):Bool:=!within x.op 1 20||decide (uses x.op<1)&&x.a !=0||decide (uses x.op<2)&&x.b !=0||decide (uses x.op<3)&&x.c !=0||decide (uses x.op<4)&&x.d !=0||(decide (0<x.T.length) !=(x.op==10))
def zb2(ncon:Int)(x:Ins)(at_ end_:Int):Bool:=
 cond (zll x) false (((jumps x).all fun tg=> !(decide (tg<=at_)||decide (end_<tg)))&&goodI ncon x)
def zep(a b:Int):Option Int:=cond (a==69) (some b) (cond (b !=69&&b !=a) none (some a))
def meetG:St->St->Option St
 |a::s,b::t=>match zep a b,meetG s t with
  |some c,some u=>some (c::u)
  |_,_=>none
 |_,_=>some []
def meet(s t:St):Option St:=cond (s.length==t.length) (meetG s t) none
abbrev Kn:=List (Option St)
def zff(o:Option St)(s:St):Option St:=
 match o with
 |none=>some s
 |some t=>meet t s
def lead(K:Kn)(e:Int×St):Option Kn:=
 match zff (K.getD e.1.toNat none) e.2 with
 |none=>none
 |some s=>cond (decide (1024<s.length)) none (some (K.set e.1.toNat (some s)))
def zdd:Kn->List (Int×St)->Option Kn
 |K,[]=>some K
 |K,e::r=>match lead K e with
  |none=>none
  |some K'=>zdd K' r
def zoi(p:Code)(K:Kn)(i:Nat):Option Kn:=
 match K.getD i none,p.ins[i]? with
 |some s,some x=>match stepS p.con x i s with
  |none=>none
  |some l=>zdd K l
 |_,_=>none
def flow(p:Code):Nat->Option Kn
 |0=>some (some []::List.replicate p.ins.length none)
 |k+1=>match flow p k with
  |none=>none
  |some K=>zoi p K k
def zbc(ncon end_:Int):List Ins->Int->Bool
 |[],_=>true
 |x::r,i=>zb2 ncon x i end_&&zbc ncon end_ r (i+1)
def longT(l:List Ins):Nat:=(l.map (·.T.length)).sum
def mayC(p:Code):Int:=
 cond (decide (p.ins.length=0)||decide (8192<p.ins.length)||decide (1024<p.con.length)||decide (8192<longT p.ins)) 2<|
 cond (p.con.any fun v=> !Val.mayB v||v.k==0) 23<|
 cond (!zbc p.con.length p.ins.length p.ins 0) 23<|
 match flow p p.ins.length with
 |none=>23
 |some K=>match K.getD p.ins.length none with
  |some [x]=>cond (fits x 86) 0 23
  |_=>23
def _root_.B126(h:jp:=by rw[List.length_take];omega):=h
def _root_.B200(h:jp:=by simpa using hm):=h
end Ma
namespace Mb
abbrev TS:TypeId:=85
def Bp27(h:jp:=by exact World.ownsRow_nil _ _ _ _):=h
def N21(h:jp:=by
 rcases hown2.2 with ⟨rfl,h0⟩|⟨g,cap,cur,rfl,_⟩
 .rw[h0];exact ⟨_,_,rfl⟩
 .exact ⟨_,_,rfl⟩):=h
def M35(h:jp:=by
 generalize hmv:(Value.slice a m.length c)=mv at *;go_enter func42,ntmps42;go_wp2_with (first|(at_builtin;refine wpList_append_rd _ rfl _ _ 79 79 rfl w.heap.size lo TS TS i0 _ 1 underlying79 underlying79 hi hz0 hz1 hz2 rfl _ _ _ rfl Bp27 _ s1 rfl ?c1 ?c2 ?c3 ?c4 ?_)|fail)
 case c1=>exact hs1
 case c2=>unfold maxLen;omega
 case c3=>omega
 case c4=>exact jE
 intro v1 w1 hown hgrow;have hb1:Below w.heap.size w w1:=jB.grown hgrow jE (fun k e=>by cases e);have hm1:Rd lo w1 mv m:=hm.below hb1
 try simp only[Nat.zero_add,List.nil_append] at hown
 clear hgrow;go_wp2_with (first|(at_builtin;refine wpList_append_rd _ rfl _ _ 79 78 rfl w.heap.size lo TS TS i0 _ 1 underlying79 underlying78 hi hz0 hz1 hz2 rfl _ _ _ rfl hown _ m rfl ?d1 ?d2 ?d3 ?d4 ?_)|fail)
 case d1=>exact hm1
 case d2=>unfold maxLen;omega
 case d3=>omega
 case d4=>exact hb1.size
 intro v2 w2 hown2 hgrow2;have hb2:Below w.heap.size w w2:=hb1.grown hgrow2 hb1.size (fun j hj=>(hown.lt j hj).1);rw[<-zft] at hown2;obtain ⟨a2,c2,rfl⟩:∃a c,v2= .slice a (s1.length+m.length) c:=by
  exact N21
 go_wp2_with fail;go_ret;exact ⟨_,rfl,hown2,hb2⟩):=h
def B104(h:jp:=by obtain ⟨e1,e2,e3⟩:=HN.out;omega):=h
def _root_.M16(h:jp:=by
 rcases hown.2 with ⟨rfl,h0⟩|⟨g,cap,cur,rfl,_⟩
 .rw[h0];exact ⟨_,_,rfl⟩
 .exact ⟨_,_,rfl⟩):=h
theorem znx:(prog.info? TS).map (fun i=>(i.zero,i.size,i.bytes))=some (some (.int .u8 0),1,1):=by kernel_rfl
theorem Rd.take{lo:Nat}{w:World}{g cap N k:Nat}{s:List Int}(h:Rd lo w (jP g 0 N cap) s)(hk:k<=N)(hN:N=s.length):Rd lo w (jP g 0 k cap) (s.take k):=by
 rcases h with ⟨h,_⟩|⟨g',cap',h1,h2,h3,h4,h5⟩
 .cases h
 .cases h1;refine .inr ⟨g,cap,by rw[List.length_take,Nat.min_eq_left hk],by rw[List.length_take];omega,h3,h4,fun j x hx=>h5 j x ?_⟩;rw[List.getElem?_take] at hx;split at hx
  .exact hx
  .cases hx
theorem zst(lo g cap N k M:Nat)(mv:Value)(s1 m:List Int)(w:World)(hs1:Rd lo w (jP g 0 k cap) s1)(hm:Rd lo w mv m)(hM:M<=N)(hk:k=N-M)(hcap:N<=cap)(hl:k<=1000000)(hlm:m.length<=1000000)(hN:N<=1000000)(hs1l:s1.length=k):
 Calls prog 42 #[jP g 0 N cap,jI (M:Int),mv] w fun e w'=>∃v,e=jr v/\w'.ownsRow w.heap.size TS 1 v (s1.length+m.length) (u8s (s1++m))/\Below w.heap.size w w':=by
 obtain ⟨i0,hi,hz0,hz1,hz2⟩:=info_parts znx;have hw:IntKind.i64.wrap ((N:Int)-(M:Int))=(k:Int):=B13;have hk0:(0:Int)<=(k:Int):=B1;have hk2:(k:Int)<=(cap:Int):=B1;obtain ⟨a,c,rfl⟩:=hm.any;have hl2:s1.length<=1000000:=B1;clear hk hM hs1l;exact M35
theorem with_nil(lo:Nat)(mv:Value)(s1 m:List Int)(w:World)(hs1:Rd lo w jZ s1)(hm:Rd lo w mv m)(hl:s1.length=0)(hlm:m.length<=1000000):
 Calls prog 42 #[jZ,jI 0,mv] w fun e w'=>∃v,e=jr v/\w'.ownsRow w.heap.size TS 1 v (s1.length+m.length) (u8s (s1++m))/\Below w.heap.size w w':=by
 obtain ⟨i0,hi,hz0,hz1,hz2⟩:=info_parts znx;have hw:IntKind.i64.wrap 0=0:=B3;have hl2:s1.length<=1000000:=B1;clear hl;obtain ⟨a,c,rfl⟩:=hm.any;exact M35
theorem with_any(lo n:Nat)(sv mv:Value)(s m:List Int)(w:World)(hs:Rd lo w sv s)(hm:Rd lo w mv m)(hn:n<=s.length)(hl:s.length<=1000000)(hlm:m.length<=1000000):
 Calls prog 42 #[sv,jI (n:Int),mv] w fun e w'=>∃v,e=jr v/\Rd w.heap.size w' v (Ma.withS s n m)/\Below w.heap.size w w':=by
 have hfin:∀{s1:List Int} {v:Value} {w':World},s1=s.take (s.length-n)->w'.ownsRow w.heap.size TS 1 v (s1.length+m.length) (u8s (s1++m))->Rd w.heap.size w' v (Ma.withS s n m):=fun e h=>by
  subst e;exact Rd.of_own (size:=1) (by simp[Ma.withS]) h jE
 rcases hs with ⟨rfl,rfl⟩|⟨g,cap,rfl,h2,h3,h4,h5⟩
 .obtain rfl:n=0:=by simpa using hn
  refine (with_nil lo mv [] m w (Rd.nil _ _) hm rfl hlm).mono ?_;rintro e w' ⟨v,rfl,h,hb⟩;exact ⟨v,rfl,hfin rfl h,hb⟩
 .have hs0:Rd lo w (jP g 0 s.length cap) s:= .inr ⟨g,cap,rfl,h2,h3,h4,h5⟩;refine (zst lo g cap s.length (s.length-n) n mv (s.take (s.length-n)) m w (hs0.take B1 rfl) hm hn rfl h2 B1 hlm hl B126).mono ?_;rintro e w' ⟨v,rfl,h,hb⟩;exact ⟨v,rfl,hfin rfl h,hb⟩
theorem Rd.get{lo:Nat}{w:World}{g N cap:Nat}{s:List Int}(h:Rd lo w (jP g 0 N cap) s):g<w.heap.size/\∀(j:Nat) (x:Int),s[j]?=some x->w.cell? (jA g j)=some (.int .u8 x):=by
 rcases h with ⟨h,_⟩|⟨g',cap',h1,h2,h3,h4,h5⟩
 .cases h
 .cases h1;exact ⟨h4.lt,h5⟩
theorem Rd.some{lo:Nat}{w:World}{v:Value}{s:List Int}(h:Rd lo w v s)(hs:0<s.length):∃g cap,v=jP g 0 s.length cap:=by
 rcases h with ⟨_,rfl⟩|⟨g',cap',h1,h2,h3,h4,h5⟩
 .simp at hs
 .exact ⟨g',cap',h1⟩
theorem fit_step{s asked:List Int}{d k:Nat}{x y:Int}(hx:s[d+k]?=some x)(hy:asked[k]?=some y)(h:Ma.zcq (s.drop d) asked=Ma.zcq (s.drop (d+k)) (asked.drop k)):
 Ma.zcq (s.drop d) asked=(Ma.fits x y&&Ma.zcq (s.drop (d+(k+1))) (asked.drop (k+1))):=by
 rw[h];obtain ⟨h1,rfl⟩:=List.getElem?_eq_some_iff.1 hx;obtain ⟨h2,rfl⟩:=List.getElem?_eq_some_iff.1 hy;rw[List.drop_eq_getElem_cons h1,List.drop_eq_getElem_cons h2];rfl
theorem zr8(sa aa:Option Addr)(n sc m ac:Nat)(w:World)(hlt:decide ((n:Int)<(m:Int))=true):Ret 81 #[.slice sa n sc,.slice aa m ac] w (.bool false):=by
 have ht:n<m:=by simpa using hlt
 go_enter func81,ntmps81;go_wp2;go_ret;exact ⟨rfl,jB⟩
theorem zw7(sa aa:Option Addr)(n sc ac:Nat)(w:World):Ret 81 #[.slice sa n sc,.slice aa 0 ac] w (.bool true):=by
 go_enter func81,ntmps81;go_wp2;go_loopw [14] (fun i wr=>i=jI 0/\Below w.heap.size w wr) (fun i _=>1-(intOf i).toNat)
 case atStart=>exact ⟨rfl,jB⟩
 case round=>
  obtain ⟨rfl,hb⟩:=hrel;go_wp2;go_ret;exact ⟨rfl,hb⟩
theorem zw6(ls la g h n sc m ac d:Nat)(s asked:List Int)(w:World)(hs:Rd ls w (jP g 0 n sc) s)(ha:Rd la w (jP h 0 m ac) asked)(hn:n=s.length)(hm:m=asked.length)(hd:d+m=n)(hl:n<=1000000)(q:Bool)(hq:Hid (Ma.zcq (s.drop d) asked=q)):Ret 81 #[jP g 0 n sc,jP h 0 m ac] w (.bool q):=by
 obtain ⟨hg,hsc⟩:=hs.get;obtain ⟨hh,hac⟩:=ha.get;have Hs:=jH hsc;have Ha:=jH hac;have HN:=jH (And.intro hn (And.intro hm hd));have t0:decide ((n:Int)<(m:Int))=false:=B14;have t0':decide (n<m)=false:=B14;have t1:IntKind.i64.wrap ((n:Int)-(m:Int))=(d:Int):=B13;have t3:m<=n:=B1;have t4:d<=n:=B1;clear hsc hac hs ha hn hm hd;go_enter func81,ntmps81;go_wp2;go_loopw [5,6,14] (fun _ _ i wr=>∃k:Nat,k<=m/\i=jI (k:Int)/\Below w.heap.size w wr/\Hid (Ma.zcq (s.drop d) asked=Ma.zcq (s.drop (d+k)) (asked.drop k))) (fun _ _ i _=>m-(intOf i).toNat)
 case atStart=>exact ⟨0,Nat.zero_le _,rfl,jB,jH rfl⟩
 case round=>
  obtain ⟨k,hk,rfl,hb,HF⟩:=hrel
  by_cases hlt:k<m
  .have hx:∃x,s[d+k]?=some x:=⟨_,List.getElem?_eq_getElem B104⟩;have hy:∃y,asked[k]?=some y:=⟨_,List.getElem?_eq_getElem B104⟩;obtain ⟨x,hx⟩:=hx;obtain ⟨y,hy⟩:=hy;have HS:=jH (fit_step hx hy HF.out);have c0:=jQ hb (Hs.out _ _ hx) hg;have c1:=jQ hb (Ha.out _ _ hy) hh;have HC:=jH (fun u=>cfits_any x y u);have t2:IntKind.i64.wrap ((d:Int)+(k:Int))=((d+k:Nat):Int):=B13;have hlt2:d+k<n:=B104;clear hx hy HF;generalize d+k=j at *;cases hf:Ma.fits x y
   .have hf':(x==y||x==69)=false:=hf;rw[hf'] at HC;go_wp2_with fail;refine jM (HC.out _) ?_;intro w1 hb1;go_wp2_with fail;go_ret;refine ⟨?_,jN hb hb1⟩;rw[<-hq.out,HS.out,hf];rfl
   .have hf':(x==y||x==69)=true:=hf;rw[hf'] at HC;go_wp2_with fail;refine jM (HC.out _) ?_;intro w1 hb1;go_wp2_with fail;go_roundw
    case rel=>
     have hn1:k+1<=m:=B1;have hb9:=jN hb hb1;have hf9:=jH (show Ma.zcq (s.drop d) asked=Ma.zcq (s.drop (d+(k+1))) (asked.drop (k+1)) by rw[HS.out,hf];rfl)
     first|exact ⟨k+1,hn1,by go_num,hb9,hf9⟩|((repeat apply Exists.intro);exact ⟨⟨k+1,hn1,by go_num,hb9,hf9⟩,rfl⟩)
    case measure=>simp[intOf];omega
  .obtain rfl:k=m:=by omega
   go_wp2_with fail;go_ret;refine ⟨?_,hb⟩;rw[<-hq.out,HF.out,show asked.drop k=[] from List.drop_eq_nil_of_le B104];cases s.drop (d+k) <;> rfl
theorem ends_any(ls la:Nat)(sv av:Value)(s asked:List Int)(w:World)(hs:Rd ls w sv s)(ha:Rd la w av asked)(hl:s.length<=1000000):
 Ret 81 #[sv,av] w (.bool (Ma.za3 s asked)):=by
 unfold Ma.za3
 by_cases h:s.length<asked.length
 .rw[decide_eq_true h];obtain ⟨a,c,rfl⟩:=hs.any;obtain ⟨a2,c2,rfl⟩:=ha.any;exact zr8 a a2 _ c _ c2 w B14
 .rw[decide_eq_false h]
  by_cases h0:asked.length=0
  .obtain rfl:=List.eq_nil_of_length_eq_zero h0;obtain ⟨a,c,rfl⟩:=hs.any;obtain ⟨a2,c2,rfl⟩:=ha.any;refine (zw7 a a2 _ c c2 w).mono ?_;rintro e w' ⟨rfl,hb⟩;refine ⟨?_,hb⟩;show _=Ending.returned (.bool (Ma.zcq (s.drop (s.length-0)) []));cases s.drop (s.length-0) <;> rfl
  .obtain ⟨g,sc,rfl⟩:=hs.some B1;obtain ⟨h2,ac,rfl⟩:=ha.some B1;exact zw6 ls la g h2 s.length sc asked.length ac (s.length-asked.length) s asked w hs ha rfl rfl B1 hl _ (jH rfl)
theorem zpn(n:Nat)(hn:n<=1000000)(w:World):Calls prog 82 #[jI (n:Int)] w fun e w'=>∃v,e=jr v/\w'.ownsRow w.heap.size TS 1 v n (u8s (Ma.many n))/\Below w.heap.size w w':=by
 obtain ⟨i0,hi,hz0,hz1,hz2⟩:=info_parts znx;go_enter func82,ntmps82;go_wp2;go_loopw [3,5] (fun v i wr=>∃k:Nat,k<=n/\i=jI (k:Int)/\wr.ownsRow w.heap.size TS 1 v k (u8s (Ma.many k))/\Below w.heap.size w wr) (fun _ i _=>n-(intOf i).toNat)
 case atStart=>exact ⟨0,Nat.zero_le _,rfl,World.ownsRow_nil _ _ _ _,jB⟩
 case round=>
  obtain ⟨k,hk,rfl,hown,hb⟩:=hrel
  by_cases hlt:k<n
  .have hsz:=hb.size;have hown2:=hown.alloc (Obj.cells #[.int .u8 86] TS);have hb2:Below w.heap.size w (wr.alloc (Obj.cells #[.int .u8 86] TS)):=hb.alloc hb.size _;have hrd:Rd wr.heap.size (wr.alloc (Obj.cells #[.int .u8 86] TS)) (jP wr.heap.size 0 1 1) [86]:= .inr ⟨_,1,rfl,jE,jE,⟨_,_,heap_alloc_new _ _⟩,fun j x hx=>by
    rw[Lib.cell_of_heap Bp4]
    match j,hx with
    |0,hx=>cases hx;rfl⟩
   go_wp2_with (first|(at_builtin;refine wpList_append_rd _ rfl _ _ 78 78 rfl w.heap.size wr.heap.size TS TS i0 _ 1 underlying78 underlying78 hi hz0 hz1 hz2 rfl _ _ _ rfl hown2 _ [86] rfl ?c1 ?c2 ?c3 ?c4 ?_)|fail)
   case c1=>exact hrd
   case c2=>unfold maxLen;simp;omega
   case c3=>simp;omega
   case c4=>exact hb2.size
   intro v1 w1 h1 hgrow;have hb3:=hb2.grown hgrow hb2.size (fun j hj=>(hown2.lt j hj).1);have h2:w1.ownsRow w.heap.size TS 1 v1 (k+1) (u8s (Ma.many (k+1))):=by
    have e:Ma.many (k+1)=Ma.many k++ [86]:=by unfold Ma.many;exact List.replicate_succ'
    rw[e,zft];exact h1
   go_wp2_with fail;go_roundw
   case rel=>exact ⟨k+1,by omega,by go_num,h2,hb3⟩
   case measure=>simp[intOf];omega
  .obtain rfl:k=n:=by omega
   obtain ⟨a2,c2,rfl⟩:∃a c,u3= .slice a k c:=by
    exact M16
   go_wp2_with fail;go_ret;exact ⟨_,rfl,hown,hb⟩
def ExR(lo:Nat)(w:World)(v:Value)(l:List (Int×List Int)):Prop:=
 ∃vs:List (Int×Value),Exits w lo v vs/\vs.length=l.length/\∀(j:Nat) (p:Int×Value) (q:Int×List Int),vs[j]?=some p->l[j]?=some q->p.1=q.1/\Rd lo w p.2 q.2
def StepOut(w:World)(lo:Nat)(r:Option (List (Int×List Int)))(e:Ending)(w':World):Prop:=
 Below w.heap.size w w'/\match r with
 |none=>e=jr (.tuple #[.slice none 0 0,.bool false])
 |some l=>∃v,e=jr (.tuple #[v,.bool true])/\ExR lo w' v l
theorem zkc{w w':World}{lo:Nat}{e:Ending}(he:e=jr (.tuple #[jZ,.bool false]))(hb:Below w.heap.size w w'):StepOut w lo none e w':=⟨hb,he⟩
theorem ex_one{lo:Nat}{w:World}{k:Int}{a:Option Addr}{n c:Nat}{s:List Int}(hl:lo<=w.heap.size)(h:Rd lo w (.slice a n c) s):
 ExR lo (w.alloc (.cells #[jI k,.slice a n c] 81)) (jP w.heap.size 0 1 1) [(k,s)]:=by
 refine ⟨[(k,.slice a n c)],⟨w.heap.size,1,_,rfl,hl,heap_alloc_new _ _,rfl⟩,rfl,fun j p q h1 h2=> ?_⟩
 match j,h1,h2 with
 |0,h1,h2=>cases h1;cases h2;exact ⟨rfl,h.below (jB.alloc jE _)⟩
theorem zw4{lo:Nat}{w:World}{k k2:Int}{a a2:Option Addr}{n c n2 c2:Nat}{s s2:List Int}(hl:lo<=w.heap.size)(h:Rd lo w (.slice a n c) s)(h2:Rd lo w (.slice a2 n2 c2) s2):
 ExR lo (w.alloc (.cells #[jI k,.slice a n c,jI k2,.slice a2 n2 c2] 81)) (jP w.heap.size 0 2 2) [(k,s),(k2,s2)]:=by
 refine ⟨[(k,.slice a n c),(k2,.slice a2 n2 c2)],⟨w.heap.size,2,_,rfl,hl,heap_alloc_new _ _,rfl⟩,rfl,fun j p q e1 e2=> ?_⟩
 match j,e1,e2 with
 |0,e1,e2=>cases e1;cases e2;exact ⟨rfl,h.below (jB.alloc jE _)⟩
 |1,e1,e2=>cases e1;cases e2;exact ⟨rfl,h2.below (jB.alloc jE _)⟩
theorem zkb{w w1:World}{lo:Nat}{e:Ending}{k:Int}{a:Option Addr}{n c:Nat}{s:List Int}(he:e=jr (.tuple #[jP w1.heap.size 0 1 1,.bool true]))(hb:Below w.heap.size w w1)(hl:lo<=w.heap.size)(h:Rd lo w1 (.slice a n c) s):
 StepOut w lo (some [(k,s)]) e (w1.alloc (.cells #[jI k,.slice a n c] 81)):=⟨hb.alloc hb.size _,_,he,ex_one (jR hl hb.size) h⟩
theorem zbo(w:World)(x:Int):Rd w.heap.size (w.alloc (.cells #[.int .u8 x] TS)) (jP w.heap.size 0 1 1) [x]:= .inr ⟨_,1,rfl,jE,jE,⟨_,_,heap_alloc_new _ _⟩,fun j y hy=>by
 rw[Lib.cell_of_heap Bp4]
 match j,hy with
 |0,hy=>cases hy;rfl⟩
theorem rd_lit2(w:World)(x z:Int):Rd w.heap.size (w.alloc (.cells #[.int .u8 x,.int .u8 z] TS)) (jP w.heap.size 0 2 2) [x,z]:= .inr ⟨_,2,rfl,jE,jE,⟨_,_,heap_alloc_new _ _⟩,fun j y hy=>by
 rw[Lib.cell_of_heap Bp4]
 match j,hy with
 |0,hy=>cases hy;rfl
 |1,hy=>cases hy;rfl⟩
theorem below1(w:World)(o:Obj):Below w.heap.size w (w.alloc o):=jB.alloc jE _
def zkm(s:ByteArray):List Int:=s.data.toList.map fun b=>(b.toNat:Int)
def B195(h:jp:=by first|exact rfl|trivial):=h
def M130(h:jp:=by
 go_wp2_with fail;go_ret2;exact zkc rfl hb):=h
def Bp67(h:jp:=by exact jR hlo hb3.size):=h
def M111(h:jp:=by
 have hb5:=jN hb3 hb4;clear hb4 hb3 hb;go_wp2_with fail;go_ret2;exact zkb rfl hb5 hlo hr):=h
def C39(h:jp:=by
 have hw1:=zfr i hi0 hi1;have hml:Hid ((Ma.many n).length=n):=jH (by simp[Ma.many]);obtain ⟨sa,sc,rfl⟩:=hs.any;generalize hsv:Value.slice sa s.length sc=sv at *;subst hn;have hx0:=hx;obtain ⟨hlt,c0,c1,c2,c3,c4,c5⟩:=hx;exact K39):=h
def X160.K39(h:jp:=by
 cases hq:Ma.za3 s (Ma.many n)
 all_goals
  rw[hq] at HE HW;go_enter func51,ntmps51;go_wp2_with fail;refine (HM.out _).mono ?_;rintro e w1 ⟨v,rfl,hown,hb1⟩;have hrd:=(Rd.of_own (size:=1) hml.out.symm hown (Nat.zero_le _):Rd 0 w1 v _);obtain ⟨va,vc,rfl⟩:=hrd.any;rw[hml.out] at hrd;rw[hml.out];clear hown;go_wp2_with fail;refine jM (HE.out _ _ (hs.below hb1) hrd) ?_;intro w2 hb2;have hb:Below w.heap.size w w2:=jN hb1 hb2;clear hb1 hb2 hrd
 .exact M130
 .obtain ⟨hlt,c0,c1,c2,c3,c4,c5⟩:=hx0.below hlt hb;go_wp2_with fail;have hb3:Below w.heap.size w (w2.alloc (Obj.cells #[.int .u8 86] TS)):=hb.alloc hb.size _;refine (HW.out B195 _ _ Bp67 (hs.below hb3) ((zbo w2 86).mono (Nat.zero_le _)) _ rfl).mono ?_;rintro e w3 ⟨a,c,rfl,hr,hb4⟩;exact M111):=h
def X161.K39(h:jp:=by
 cases hq:Ma.za3 s (65::Ma.many n)
 all_goals
  rw[hq] at HE HW;go_enter func57,ntmps57;go_wp2_with fail;have hbl:Below w.heap.size w (w.alloc (Obj.cells #[.int .u8 65] TS)):=below1 _ _;have hol:=lit_own w 65;generalize w.alloc (Obj.cells #[.int .u8 65] TS)=w0 at *;refine (HM.out _).mono ?_;rintro e w1 ⟨v,rfl,hown,hb1⟩;have hrd:=(Rd.of_own (size:=1) hml.out.symm hown (Nat.zero_le _):Rd 0 w1 v _);obtain ⟨va,vc,rfl⟩:=hrd.any;replace hol:=zci hol hb1;replace hb1:=jN hbl hb1;have Q2:=jH (show 1+(Ma.many n).length<=maxLen by rw[hml.out];unfold maxLen;omega);have Q3:=jH (show (1+(Ma.many n).length)*1<=140737488355328 by rw[hml.out];omega);clear hbl;go_wp2_with (first|(at_builtin;refine wpList_append_rd _ rfl _ _ 78 78 rfl w.heap.size 0 TS TS i0 _ 1 underlying78 underlying78 hi hz0 hz1 hz2 rfl _ _ _ rfl hol _ (Ma.many n) rfl hrd Q2.out Q3.out hb1.size ?_)|fail);intro v2 w2 hown2 hgrow;have hb2:=hb1.grown hgrow hb1.size (fun j hj=>(hol.lt j hj).1);rw[<-zft] at hown2;have hrd2:=(Rd.of_own (size:=1) B14 hown2 (Nat.zero_le _):Rd 0 w2 v2 (65::Ma.many n));obtain ⟨va2,vc2,rfl⟩:=hrd2.any;clear hown2 hgrow hol hb1 hrd hown;go_wp2_with fail;refine jM (HE.out _ _ (hs.below hb2) hrd2) ?_;intro w3 hb3;have hb:Below w.heap.size w w3:=jN hb2 hb3;clear hb2 hb3 hrd2
 .exact M130
 .obtain ⟨hlt,c0,c1,c2,c3,c4,c5⟩:=hx0.below hlt hb;go_wp2_with fail;have hb3:Below w.heap.size w (w3.alloc (Obj.cells #[.int .u8 65] TS)):=hb.alloc hb.size _;refine (HW.out B195 _ _ Bp67 (hs.below hb3) ((zbo w3 65).mono (Nat.zero_le _)) _ B1).mono ?_;rintro e w4 ⟨a,c,rfl,hr,hb4⟩;exact M111):=h
theorem sorts_len(s:ByteArray):(zkm s).length=s.size:=by simp[zkm]
theorem rd_bytes(w:World)(s:ByteArray)(hs:s.size<=1000)(m:Nat×Nat):Rd w.heap.size (w.drew.alloc (.cells (bytesRow s (grownCap w s.size 0 TS)) TS m)) (jP w.heap.size 0 s.size (grownCap w s.size 0 TS)) (zkm s):=by
 have hge:=grownCap_ge w s.size 0 TS;refine .inr ⟨w.heap.size,_,by rw[sorts_len],by rw[sorts_len];exact hge,jE,⟨_,_,heap_alloc_new w.drew _⟩,fun j x hx=> ?_⟩;have hj:j<s.size:=by rw[<-sorts_len];exact (jl hx)
 have hcell:(w.drew.alloc (.cells (bytesRow s (grownCap w s.size 0 TS)) TS m)).cell? (jA w.heap.size j)=(bytesRow s (grownCap w s.size 0 TS))[j]?:=by
  have:=heap_alloc_new w.drew (.cells (bytesRow s (grownCap w s.size 0 TS)) TS m);unfold World.cell?;rw[show w.drew.heap.size=w.heap.size from rfl] at this;rw[this];rfl
 rw[hcell];unfold zkm at hx;rw[List.getElem?_map] at hx;obtain ⟨b,hb,rfl⟩:=Option.map_eq_some_iff.1 hx;unfold bytesRow;rw[Array.getElem?_append_left (by rw[Array.size_map];exact hj),Array.getElem?_map,<-Array.getElem?_toList,hb];rfl
theorem ends_le{s t:List Int}(h:Ma.za3 s t=true):t.length<=s.length:=by
 unfold Ma.za3 at h
 by_cases hh:s.length<t.length
 .rw[decide_eq_true hh] at h;cases h
 .omega
theorem zfr(i:Int)(h0:0<=i)(h1:i<=1000000):IntKind.i64.wrap (i+1)=i+1:=B13
theorem zbz(lo n:Nat)(sv mv:Value)(s m:List Int)(hn:n<=s.length)(hl:s.length<=1000000)(hlm:m.length<=1000)(w:World)(hlo:lo<=w.heap.size)(hs:Rd lo w sv s)(hm:Rd 0 w mv m)(x:Int)(hx:x=(n:Int)):
 Calls prog 42 #[sv,jI x,mv] w fun e w'=>∃a c,e=jr (.slice a (Ma.withS s n m).length c)/\Rd lo w' (.slice a (Ma.withS s n m).length c) (Ma.withS s n m)/\Below w.heap.size w w':=by
 subst hx;refine (with_any 0 n sv mv s m w (hs.mono (Nat.zero_le _)) hm hn hl B1).mono ?_;rintro e w' ⟨v,rfl,h1,h2⟩;obtain ⟨a,c,rfl⟩:=h1.any;exact ⟨a,c,rfl,h1.mono hlo,h2⟩
theorem zc2(lo:Nat)(asked:ByteArray)(leaves s:List Int)(x sv mv:Value)(i:Int)(b1 b2:Nat)(w:World)(hi0:0<=i)(hi1:i<=1000000)(hz:asked.size<=1000)(hl1:b1<w.heap.size)(h1:w.cell? (jA b1 0)=some (jS asked))(hl2:b2<w.heap.size)(h2:w.cell? (jA b2 0)=some mv)(hm:Rd 0 w mv leaves)(hml:leaves.length<=1000)(hs:Rd lo w sv s)(hsl:s.length<=1000000)(hlo:lo<=w.heap.size):
 Calls prog 80 #[x,jI i,sv,PT b1,PT b2] w (StepOut w lo (Ma.zbg (zkm asked) leaves i s)):=by
 have HE:=jH fun (u:World) (av:Value) (hs:Rd lo u sv s) (ha:Rd 0 u av (zkm asked))=>ends_any lo 0 sv av s (zkm asked) u hs ha hsl;have hcv:=fun u:World=>run_bytes_of_string (P:=prog) u 9 78 TS asked underlying9 underlying78 underlying85;have HB:=jH fun u:World=>rd_bytes u asked hz;have HW:=jH fun (h:Ma.za3 s (zkm asked)=true)=>zbz lo asked.size sv mv s leaves (by rw[<-sorts_len];exact ends_le h) hsl hml;have w1:=zfr i hi0 hi1;have hlen:=jH (sorts_len asked);obtain ⟨sa,sc,rfl⟩:=hs.any;obtain ⟨ma,mc,rfl⟩:=hm.any;generalize hsv:Value.slice sa s.length sc=sv at *;generalize hmv:Value.slice ma leaves.length mc=mv at *;unfold Ma.zbg;cases hq:Ma.za3 s (zkm asked)
 all_goals
  rw[hq] at HE HW;go_enter func80,ntmps80;go_wp2_with fail;refine (HE.out _ _ (hs.below ?hb0) ((HB.out w _).mono (Nat.zero_le _))).mono ?_
  case hb0=>repeat (first|assumption|exact jB|apply Below.drew|(refine Below.alloc ?_ B15 _))
  rintro e w2 ⟨rfl,hb1⟩;have hb:Below w.heap.size w w2:=Below.trans Bp17 (hb1.mono B7);clear hb1
 .exact M130
 .have c1:=jQ hb h1 hl1;have c2:=jQ hb h2 hl2;go_wp2_with fail;refine (HW.out B195 _ (jR hlo hb.size) (hs.below hb) (hm.below hb) _ rfl).mono ?_;rintro e w3 ⟨a,c,rfl,hr,hb2⟩;have hb3:=jN hb hb2;clear hb2 hb;go_wp2_with fail;go_ret2;exact zkb rfl hb3 hlo (by rw[hlen.out];exact hr)
theorem zci{base:Nat}{w w':World}{e:TypeId}{size:Nat}{v:Value}{n:Nat}{xs:List Value}(h:w.ownsRow base e size v n xs)(hb:Below w.heap.size w w'):w'.ownsRow base e size v n xs:=by
 obtain ⟨h1,h2⟩:=h;refine ⟨h1,?_⟩;rcases h2 with h2|⟨g,cap,cur,rfl,hg,hh,r⟩
 .exact .inl h2
 .exact .inr ⟨g,cap,cur,rfl,hg,(hb.block g (jg hh)).trans hh,r⟩
section
variable(lo g o:Nat)(op a b c d:Int)(T:Value)(s:List Int)(sv:Value)(i:Int)(w:World)(hx:InsAt w g o op a b c d T)(hi0:0<=i)(hi1:i<=1000000)(hs:Rd lo w sv s)(hsl:s.length<=1000000)(hlo:lo<=w.heap.size)
include lo g o op a b c d T s sv i w hx hi0 hi1 hs hsl hlo
theorem zxt(n:Nat)(hn:b=(n:Int))(hnl:n<=1000):
 Calls prog 51 #[PI g o,jI i,sv] w (StepOut w lo (cond (Ma.za3 s (Ma.many n)) (some [(i+1,Ma.withS s n [86])]) none)):=by
 have HE:=jH fun (u:World) (av:Value) (hs:Rd lo u sv s) (ha:Rd 0 u av (Ma.many n))=>ends_any lo 0 sv av s (Ma.many n) u hs ha hsl;have HM:=jH fun u:World=>zpn n B1 u;have HW:=jH fun (h:Ma.za3 s (Ma.many n)=true) (mv:Value)=>zbz lo n sv mv s [86] (by have:=ends_le h;simpa[Ma.many] using this) hsl B7
 open X160 in exact C39
theorem zsx(hq:decide ((s.length:Int)<b)=true):Calls prog 60 #[PI g o,jI i,sv] w (StepOut w lo none):=by
 obtain ⟨sa,sc,rfl⟩:=hs.any;obtain ⟨hlt,c0,c1,c2,c3,c4,c5⟩:=hx;go_enter func60,ntmps60;go_wp2_with fail;go_ret2;exact zkc rfl jB
theorem zsw(n:Nat)(hn:b=(n:Int))(hq:decide ((s.length:Int)<b)=false)(hq2:decide (s.length<n)=false)(hnl:n<=s.length):Calls prog 60 #[PI g o,jI i,sv] w (StepOut w lo (some [(i+1,Ma.withS s n [86])])):=by
 have HW:=jH fun (mv:Value)=>zbz lo n sv mv s [86] hnl hsl B7;have hw1:=zfr i hi0 hi1;obtain ⟨sa,sc,rfl⟩:=hs.any;subst hn;obtain ⟨hlt,c0,c1,c2,c3,c4,c5⟩:=hx;go_enter func60,ntmps60;go_wp2_with fail;have hb3:Below w.heap.size w (w.alloc (Obj.cells #[.int .u8 86] TS)):=below1 _ _;refine (HW.out _ _ Bp67 (hs.below hb3) ((zbo w 86).mono (Nat.zero_le _)) _ rfl).mono ?_;rintro e w3 ⟨a,c,rfl,hr,hb4⟩;have hb5:=jN hb3 hb4;clear hb4 hb3;go_wp2_with fail;go_ret2;exact zkb rfl hb5 hlo hr
end
theorem lit_own(w:World)(x:Int):(w.alloc (.cells #[.int .u8 x] TS)).ownsRow w.heap.size TS 1 (jP w.heap.size 0 1 1) 1 (u8s [x]):=
 ⟨rfl,.inr ⟨w.heap.size,1,_,rfl,jE,heap_alloc_new _ _,jE,by decide,rfl,rfl⟩⟩
theorem moved_ok(lo g o:Nat)(op a b c d:Int)(T:Value)(s:List Int)(sv:Value)(i:Int)(w:World)(hx:InsAt w g o op a b c d T)(hi0:0<=i)(hi1:i<=1000000)(hs:Rd lo w sv s)(hsl:s.length<=1000000)(hlo:lo<=w.heap.size)(n:Nat)(hn:a=(n:Int))(hnl:n<=1000):
 Calls prog 57 #[PI g o,jI i,sv] w (StepOut w lo (cond (Ma.za3 s (65::Ma.many n)) (some [(i+1,Ma.withS s (n+1) [65])]) none)):=by
 obtain ⟨i0,hi,hz0,hz1,hz2⟩:=info_parts znx;have HE:=jH fun (u:World) (av:Value) (hs:Rd lo u sv s) (ha:Rd 0 u av (65::Ma.many n))=>ends_any lo 0 sv av s (65::Ma.many n) u hs ha hsl;have HM:=jH fun u:World=>zpn n B1 u;have HW:=jH fun (h:Ma.za3 s (65::Ma.many n)=true) (mv:Value)=>zbz lo (n+1) sv mv s [65] (by have:=ends_le h;simpa[Ma.many] using this) hsl B7
 open X161 in exact C39
def ConRd(w:World)(v:Value)(l:List Val.V):Prop:=
 (v=jZ/\l=[])\/∃g cap,v=jP g 0 l.length cap/\l.length<=cap/\g<w.heap.size/\∀(j:Nat) (x:Val.V),l[j]?=some x->w.cell? (jA g (j*3))=some (jI x.k)/\w.cell? (jA g (j*3+1))=some (jI x.n)/\w.cell? (jA g (j*3+2))=some (jS x.t)
theorem ConRd.below{w w':World}{v:Value}{l:List Val.V}(h:ConRd w v l)(hb:Below w.heap.size w w'):ConRd w' v l:=by
 rcases h with h|⟨g,cap,h1,h2,h3,h4⟩
 .exact .inl h
 .refine .inr ⟨g,cap,h1,h2,jL h3 hb.size,fun j x hx=> ?_⟩;obtain ⟨a,b,c⟩:=h4 j x hx;exact ⟨jQ hb a h3,jQ hb b h3,jQ hb c h3⟩
def IsR(lo:Nat)(L:List Int)(v:Value)(w:World):Prop:=∃a c,v= .slice a L.length c/\Rd lo w (.slice a L.length c) L
def IsE(lo:Nat)(k:Int)(L:List Int)(v:Value)(w:World):Prop:=∃a c,v= .agg #[jI k,.slice a L.length c]/\Rd lo w (.slice a L.length c) L
def IsX(lo n:Nat)(l:List (Int×List Int))(v:Value)(w:World):Prop:=∃b,v=jP b 0 n n/\ExR lo w v l
def B89(h:jp:=by first|rfl|omega):=h
def Bp23(h:jp:=by exact jR hlo hbb.size):=h
def M23(h:jp:=by
 unfold Drw.Give;go_simp;exact hK.out _ _ rfl jB (Drw.no rfl)):=h
def M31(h:jp:=by
 intro f;symm;simp only[Drw.putAll,Drw.dst,List.range,List.range.loop,List.getElem?_toArray,List.getElem?_cons_zero,List.getElem?_cons_succ,Option.bind_some,Act.put,List.setIfInBounds_toArray,List.set_cons_zero,List.set_cons_succ];exact rfl):=h
def M76(h:jp:=by
 intro f w2 hS hV K hK;have v0:=Drw.val (hV 0 rfl);clear hV;unfold Drw.Give;go_simp;exact hK.out _ _ rfl jB (Drw.no rfl)):=h
def M88(h:jp:=by
 intro f w2 hS hV K hK;unfold Drw.Give;go_simp;exact hK.out _ _ (Drw.bk ⟨_,rfl,heap_alloc_new _ _⟩) (below1 _ _) (Drw.no rfl)):=h
def M94(h:jp:=by
 intro f w2 hS hV K hK;have v5:=Drw.val (hV 5 rfl);clear hV;unfold Drw.Give;go_simp;exact hK.out _ _ rfl jB (Drw.no rfl)):=h
def M96(h:jp:=by
 obtain ⟨-,-,-,-,hb9⟩:=hS;clear hV;simp only[e',e''];go_wp2_with fail;go_ret2;exact ⟨hb9,_,rfl,e'▸hr⟩):=h
def M179(h:jp:=by
 intro f w2 hS hV K hK;have v12:=Drw.val (hV 12 rfl);clear hV;unfold Drw.Give;go_simp;exact hK.out _ _ rfl jB (Drw.no rfl)):=h
def B48(h:jp:=by have:=ends_le hq;simp at this;omega):=h
def Bp39(h:jp:=by exact HE.out _ _ (hs.below hbl) ((zbo w 86).mono (Nat.zero_le _))):=h
def M92(h:jp:=by
 intro f w2 hS hV K hK;have vk:=Drw.val (hV 1 rfl);obtain ⟨a',c',vl,hr⟩:=(hV 3 rfl:IsR lo _ _ _);clear hV;unfold Drw.Give;go_simp;exact hK.out _ _ (mkE hr) jB (Drw.no rfl)):=h
def M98(h:jp:=by
 intro f w2 hS hV K hK;obtain ⟨q1,q2,hlt,hrs,hbb⟩:=hS;have v2:=Drw.val (hV 2 rfl);clear hV;unfold Drw.Give;go_simp;unfold Drw.giveUpon;(with_reducible refine (HW1.out _ w2 Bp23 hrs (Rd.nil _ _) 1 B89).mono ?_);rintro e w3 ⟨a',c',rfl,hr,hb2⟩;exact ⟨_,rfl,hK.out _ _ (mkR hr) hb2 (Drw.no rfl)⟩):=h
def M100(h:jp:=by
 intro f w2 hS hV K hK;obtain ⟨q1,q2,hlt,hrs,hbb⟩:=hS;have v7:=Drw.val (hV 7 rfl);clear hV;unfold Drw.Give;go_simp;exact hK.out _ _ rfl jB (Drw.no rfl)):=h
def M124(h:jp:=by
 intro f w2 hS hV K hK;have v6:=Drw.val (hV 6 rfl);clear hV;unfold Drw.Give;go_simp;exact hK.out _ _ rfl jB (Drw.no rfl)):=h
def M149(h:jp:=by
 intro f w2 hS hV K hK;have vk:=Drw.val (hV 8 rfl);obtain ⟨a',c',vl,hr⟩:=(hV 10 rfl:IsR lo _ _ _);clear hV;unfold Drw.Give;go_simp;exact hK.out _ _ (mkE hr) jB (Drw.no rfl)):=h
def M201(h:jp:=by
 have v13:=Drw.val (hV 13 rfl);clear hV;unfold Drw.Give;go_simp;exact hK.out _ _ rfl jB (Drw.no rfl)):=h
def C35(h:jp:=by
 clear c0 c1 c2 c3 c4 c5;obtain ⟨hlt,c0,c1,c2,c3,c4,c5⟩:=hx0.below hlt hb;replace hs:=hs.below hb;clear hx0 HE;replace HW1:=jH (HW1.out B48);replace HW2:=jH (HW2.out B48);clear hq;go_wp2_with fail;exact K35):=h
def X151.K35(h:jp:=by
 refine Drw.zaq 23 ?Aif_ok (fun w'=>w'.cell? (jA g (o+1))=some (jI a)/\w'.cell? (jA g (o+2))=some (jI b)/\g<w'.heap.size/\Rd lo w' (Value.slice sa s.length sc) s/\Below w.heap.size w w') (fun iq=>match iq with|0=>fun v _=>v=jI i|1=>fun v _=>v=jI (i+1)|2=>fun v _=>v=(Value.slice sa s.length sc)|3=>IsR lo (Ma.withS s 1 [])|4=>IsE lo (i+1) (Ma.withS s 1 [])|5=>fun v _=>v=PI g o|6=>fun v _=>v=PI g o|7=>fun v _=>v=jU g (o+1)|8=>fun v _=>v=jI a|9=>fun v _=>v=(Value.slice sa s.length sc)|10=>IsR lo (Ma.withS s 1 [])|11=>IsE lo (a) (Ma.withS s 1 [])|12=>fun v _=>v=PI g o|13=>fun v _=>v=PI g o|14=>fun v _=>v=jU g (o+2)|15=>fun v _=>v=jI b|16=>fun v _=>v=(Value.slice sa s.length sc)|17=>Drw.Blk (fun b=>jP b 0 1 1) (.cells #[.int .u8 69] TS (0,0))|18=>IsR lo (Ma.withS s 1 [69])|19=>IsE lo (b) (Ma.withS s 1 [69])|20=>IsX lo 3 [(i+1,Ma.withS s 1 []),(a,Ma.withS s 1 []),(b,Ma.withS s 1 [69])]|21=>IsX lo 3 [(i+1,Ma.withS s 1 []),(a,Ma.withS s 1 []),(b,Ma.withS s 1 [69])]|22=>fun v _=>v= .bool true|_=>fun _ _=>True) (fun _=>false) ?hAif_ok (by kernel_rfl) (by kernel_rfl) rfl ⟨c1,c2,hlt,hs,hb.drew⟩ (fun w1 w2 h hS=> ⟨jQ h hS.1 hS.2.2.1,jQ h hS.2.1 hS.2.2.1,jL hS.2.2.1 h.size,hS.2.2.2.1.below h,jN hS.2.2.2.2 h⟩) (Drw.zac (Drw.zac (Drw.zac (Drw.zac (Drw.zac (Drw.zac (Drw.zac (Drw.zac (Drw.zac (Drw.zac (Drw.zac (Drw.zac (Drw.zac (Drw.zac (Drw.zac (Drw.zac (Drw.zac (Drw.zac (Drw.zac (Drw.zac (Drw.zac (Drw.zac (Drw.zac Drw.zie Drw.st) Drw.st) Drw.st) IsR.st) IsE.st) Drw.st) Drw.st) Drw.st) Drw.st) Drw.st) IsR.st) IsE.st) Drw.st) Drw.st) Drw.st) Drw.st) Drw.st) Drw.stb) IsR.st) IsE.st) IsX.st) IsX.st) Drw.st) ?_ ?_
 case hAif_ok=>
  exact M31
 refine .cons ?_ ?_
 .intro f w2 hS hV K hK;exact M23
 refine .cons ?_ ?_
 .exact M76
 refine .cons ?_ ?_
 .intro f w2 hS hV K hK;exact M23
 refine .cons ?_ ?_
 .exact M98
 refine .cons ?_ ?_
 .exact M92
 refine .cons ?_ ?_
 .intro f w2 hS hV K hK;exact M23
 refine .cons ?_ ?_
 .exact M94
 refine .cons ?_ ?_
 .exact M124
 refine .cons ?_ ?_
 .exact M100
 refine .cons ?_ ?_
 .intro f w2 hS hV K hK;exact M23
 refine .cons ?_ ?_
 .intro f w2 hS hV K hK;obtain ⟨q1,q2,hlt,hrs,hbb⟩:=hS;have v9:=Drw.val (hV 9 rfl);clear hV;unfold Drw.Give;go_simp;unfold Drw.giveUpon;(with_reducible refine (HW1.out _ w2 Bp23 hrs (Rd.nil _ _) 1 B89).mono ?_);rintro e w3 ⟨a',c',rfl,hr,hb2⟩;exact ⟨_,rfl,hK.out _ _ (mkR hr) hb2 (Drw.no rfl)⟩
 refine .cons ?_ ?_
 .exact M149
 refine .cons ?_ ?_
 .intro f w2 hS hV K hK;exact M23
 refine .cons ?_ ?_
 .exact M179
 refine .cons ?_ ?_
 .intro f w2 hS hV K hK;exact M201
 refine .cons ?_ ?_
 .intro f w2 hS hV K hK;obtain ⟨q1,q2,hlt,hrs,hbb⟩:=hS;have v14:=Drw.val (hV 14 rfl);clear hV;unfold Drw.Give;go_simp;exact hK.out _ _ rfl jB (Drw.no rfl)
 refine .cons ?_ ?_
 .intro f w2 hS hV K hK;exact M23
 refine .cons ?_ ?_
 .exact M88
 refine .cons ?_ ?_
 .intro f w2 hS hV K hK;obtain ⟨q1,q2,hlt,hrs,hbb⟩:=hS;have v16:=Drw.val (hV 16 rfl);obtain ⟨bq,vq,kq⟩:=Drw.own (hV 17 rfl);clear hV;unfold Drw.Give;go_simp;unfold Drw.giveUpon;(with_reducible refine (HW2.out _ w2 Bp23 hrs (rd_blk1 kq) 1 B89).mono ?_);rintro e w3 ⟨a',c',rfl,hr,hb2⟩;exact ⟨_,rfl,hK.out _ _ (mkR hr) hb2 (Drw.no rfl)⟩
 refine .cons ?_ ?_
 .intro f w2 hS hV K hK;have vk:=Drw.val (hV 15 rfl);obtain ⟨a',c',vl,hr⟩:=(hV 18 rfl:IsR lo _ _ _);clear hV;unfold Drw.Give;go_simp;exact hK.out _ _ (mkE hr) jB (Drw.no rfl)
 refine .cons ?_ ?_
 .intro f w2 hS hV K hK;obtain ⟨q1,q2,hlt,hrs,hbb⟩:=hS;obtain ⟨a0',c0',v0,hr0⟩:=(hV 4 rfl:IsE lo _ _ _ _);obtain ⟨a1',c1',v1,hr1⟩:=(hV 11 rfl:IsE lo _ _ _ _);obtain ⟨a2',c2',v2,hr2⟩:=(hV 19 rfl:IsE lo _ _ _ _);clear hV;unfold Drw.Give;go_simp;exact hK.out _ _ (mkX (ex_three Bp23 hr0 hr1 hr2)) (below1 _ _) (Drw.no rfl)
 refine .cons ?_ ?_
 .intro f w2 hS hV K hK;obtain ⟨b',vx,hr⟩:=(hV 20 rfl:IsX lo _ _ _ _);clear hV;unfold Drw.Give;go_simp;exact hK.out _ _ (mkX (vx▸hr)) jB (Drw.no rfl)
 refine .cons ?_ ?_
 .intro f w2 hS hV K hK;exact M23
 exact Drw.Obs.nil;intro f w9 hS hV _ _;obtain ⟨b',e',hr⟩:=(hV 21 B3:IsX lo _ _ _ _);have e'':=Drw.val (hV 22 B3);exact M96):=h
def D24(h:jp:=by
 have HE:=jH fun (u:World) (av:Value) (hs:Rd lo u sv s) (ha:Rd 0 u av [86])=>ends_any lo 0 sv av s [86] u hs ha hsl;have HW1:=jH fun (hle:1<=s.length) (mv:Value)=>zbz lo 1 sv mv s [] hle hsl B7;exact J24):=h
def Da17(h:jp:=by
 have hx0:=hx;have hbl:Below w.heap.size w (w.alloc (Obj.cells #[.int .u8 86] TS)):=below1 _ _;obtain ⟨sa,sc,rfl⟩:=hs.any;exact Ja17):=h
def Va44.Ja17(h:jp:=by
 obtain ⟨hlt,c0,c1,c2,c3,c4,c5⟩:=hx;cases hq:Ma.za3 s [86]
 all_goals
  rw[hq] at HE;go_enter func86,ntmps86;go_wp2_with fail;refine jM Bp39 ?_;intro w1 hb1;have hb:Below w.heap.size w w1:=jN hbl hb1;clear hb1 hbl
 .exact M130
 .open X151 in exact C35):=h
def V74.J24(h:jp:=by
 have HW2:=jH fun (hle:1<=s.length) (mv:Value)=>zbz lo 1 sv mv s [69] hle hsl B7;have hw1:=zfr i hi0 hi1
 open Va44 in exact Da17):=h
def X152.K35(h:jp:=by
 refine Drw.zaq 16 ?Aok_ok (fun w'=>w'.cell? (jA g (o+1))=some (jI a)/\w'.cell? (jA g (o+2))=some (jI b)/\g<w'.heap.size/\Rd lo w' (Value.slice sa s.length sc) s/\Below w.heap.size w w') (fun iq=>match iq with|0=>fun v _=>v=jI i|1=>fun v _=>v=jI (i+1)|2=>fun v _=>v=(Value.slice sa s.length sc)|3=>IsR lo (Ma.withS s 1 [])|4=>IsE lo (i+1) (Ma.withS s 1 [])|5=>fun v _=>v=PI g o|6=>fun v _=>v=PI g o|7=>fun v _=>v=jU g (o+1)|8=>fun v _=>v=jI a|9=>fun v _=>v=(Value.slice sa s.length sc)|10=>Drw.Blk (fun b=>jP b 0 1 1) (.cells #[.int .u8 86] TS (0,0))|11=>IsR lo (Ma.withS s 1 [86])|12=>IsE lo (a) (Ma.withS s 1 [86])|13=>IsX lo 2 [(i+1,Ma.withS s 1 []),(a,Ma.withS s 1 [86])]|14=>IsX lo 2 [(i+1,Ma.withS s 1 []),(a,Ma.withS s 1 [86])]|15=>fun v _=>v= .bool true|_=>fun _ _=>True) (fun _=>false) ?hAok_ok (by kernel_rfl) (by kernel_rfl) rfl ⟨c1,c2,hlt,hs,hb.drew⟩ (fun w1 w2 h hS=> ⟨jQ h hS.1 hS.2.2.1,jQ h hS.2.1 hS.2.2.1,jL hS.2.2.1 h.size,hS.2.2.2.1.below h,jN hS.2.2.2.2 h⟩) (Drw.zac (Drw.zac (Drw.zac (Drw.zac (Drw.zac (Drw.zac (Drw.zac (Drw.zac (Drw.zac (Drw.zac (Drw.zac (Drw.zac (Drw.zac (Drw.zac (Drw.zac (Drw.zac Drw.zie Drw.st) Drw.st) Drw.st) IsR.st) IsE.st) Drw.st) Drw.st) Drw.st) Drw.st) Drw.st) Drw.stb) IsR.st) IsE.st) IsX.st) IsX.st) Drw.st) ?_ ?_
 case hAok_ok=>
  exact M31
 refine .cons ?_ ?_
 .intro f w2 hS hV K hK;exact M23
 refine .cons ?_ ?_
 .exact M76
 refine .cons ?_ ?_
 .intro f w2 hS hV K hK;exact M23
 refine .cons ?_ ?_
 .exact M98
 refine .cons ?_ ?_
 .exact M92
 refine .cons ?_ ?_
 .intro f w2 hS hV K hK;exact M23
 refine .cons ?_ ?_
 .exact M94
 refine .cons ?_ ?_
 .exact M124
 refine .cons ?_ ?_
 .exact M100
 refine .cons ?_ ?_
 .intro f w2 hS hV K hK;exact M23
 refine .cons ?_ ?_
 .exact M88
 refine .cons ?_ ?_
 .intro f w2 hS hV K hK;obtain ⟨q1,q2,hlt,hrs,hbb⟩:=hS;have v9:=Drw.val (hV 9 rfl);obtain ⟨bq,vq,kq⟩:=Drw.own (hV 10 rfl);clear hV;unfold Drw.Give;go_simp;unfold Drw.giveUpon;(with_reducible refine (HW2.out _ w2 Bp23 hrs (rd_blk1 kq) 1 B89).mono ?_);rintro e w3 ⟨a',c',rfl,hr,hb2⟩;exact ⟨_,rfl,hK.out _ _ (mkR hr) hb2 (Drw.no rfl)⟩
 refine .cons ?_ ?_
 .intro f w2 hS hV K hK;have vk:=Drw.val (hV 8 rfl);obtain ⟨a',c',vl,hr⟩:=(hV 11 rfl:IsR lo _ _ _);clear hV;unfold Drw.Give;go_simp;exact hK.out _ _ (mkE hr) jB (Drw.no rfl)
 refine .cons ?_ ?_
 .intro f w2 hS hV K hK;obtain ⟨q1,q2,hlt,hrs,hbb⟩:=hS;obtain ⟨a0',c0',v0,hr0⟩:=(hV 4 rfl:IsE lo _ _ _ _);obtain ⟨a1',c1',v1,hr1⟩:=(hV 12 rfl:IsE lo _ _ _ _);clear hV;unfold Drw.Give;go_simp;exact hK.out _ _ (mkX (zw4 Bp23 hr0 hr1)) (below1 _ _) (Drw.no rfl)
 refine .cons ?_ ?_
 .intro f w2 hS hV K hK;obtain ⟨b',vx,hr⟩:=(hV 13 rfl:IsX lo _ _ _ _);clear hV;unfold Drw.Give;go_simp;exact hK.out _ _ (mkX (vx▸hr)) jB (Drw.no rfl)
 refine .cons ?_ ?_
 .intro f w2 hS hV K hK;exact M23
 exact Drw.Obs.nil;intro f w9 hS hV _ _;obtain ⟨b',e',hr⟩:=(hV 14 B3:IsX lo _ _ _ _);have e'':=Drw.val (hV 15 B3);exact M96):=h
def Va45.Ja17(h:jp:=by
 obtain ⟨hlt,c0,c1,c2,c3,c4,c5⟩:=hx;cases hq:Ma.za3 s [86]
 all_goals
  rw[hq] at HE;go_enter func88,ntmps88;go_wp2_with fail;refine jM Bp39 ?_;intro w1 hb1;have hb:Below w.heap.size w w1:=jN hbl hb1;clear hb1 hbl
 .exact M130
 .open X152 in exact C35):=h
def V75.J24(h:jp:=by
 have HW2:=jH fun (hle:1<=s.length) (mv:Value)=>zbz lo 1 sv mv s [86] hle hsl B7;have hw1:=zfr i hi0 hi1
 open Va45 in exact Da17):=h
def X153.K35(h:jp:=by
 refine Drw.zaq 15 ?Amatch_ok (fun w'=>w'.cell? (jA g (o+1))=some (jI a)/\w'.cell? (jA g (o+2))=some (jI b)/\g<w'.heap.size/\Rd lo w' (Value.slice sa s.length sc) s/\Below w.heap.size w w') (fun iq=>match iq with|0=>fun v _=>v=jI i|1=>fun v _=>v=jI (i+1)|2=>fun v _=>v=(Value.slice sa s.length sc)|3=>IsR lo (Ma.withS s 2 [])|4=>IsE lo (i+1) (Ma.withS s 2 [])|5=>fun v _=>v=PI g o|6=>fun v _=>v=PI g o|7=>fun v _=>v=jU g (o+1)|8=>fun v _=>v=jI a|9=>fun v _=>v=(Value.slice sa s.length sc)|10=>IsR lo (Ma.withS s 1 [])|11=>IsE lo (a) (Ma.withS s 1 [])|12=>IsX lo 2 [(i+1,Ma.withS s 2 []),(a,Ma.withS s 1 [])]|13=>IsX lo 2 [(i+1,Ma.withS s 2 []),(a,Ma.withS s 1 [])]|14=>fun v _=>v= .bool true|_=>fun _ _=>True) (fun _=>false) ?hAmatch_ok (by kernel_rfl) (by kernel_rfl) rfl ⟨c1,c2,hlt,hs,hb.drew⟩ (fun w1 w2 h hS=> ⟨jQ h hS.1 hS.2.2.1,jQ h hS.2.1 hS.2.2.1,jL hS.2.2.1 h.size,hS.2.2.2.1.below h,jN hS.2.2.2.2 h⟩) (Drw.zac (Drw.zac (Drw.zac (Drw.zac (Drw.zac (Drw.zac (Drw.zac (Drw.zac (Drw.zac (Drw.zac (Drw.zac (Drw.zac (Drw.zac (Drw.zac (Drw.zac Drw.zie Drw.st) Drw.st) Drw.st) IsR.st) IsE.st) Drw.st) Drw.st) Drw.st) Drw.st) Drw.st) IsR.st) IsE.st) IsX.st) IsX.st) Drw.st) ?_ ?_
 case hAmatch_ok=>
  exact M31
 refine .cons ?_ ?_
 .intro f w2 hS hV K hK;exact M23
 refine .cons ?_ ?_
 .exact M76
 refine .cons ?_ ?_
 .intro f w2 hS hV K hK;exact M23
 refine .cons ?_ ?_
 .intro f w2 hS hV K hK;obtain ⟨q1,q2,hlt,hrs,hbb⟩:=hS;have v2:=Drw.val (hV 2 rfl);clear hV;unfold Drw.Give;go_simp;unfold Drw.giveUpon;(with_reducible refine (HW1.out _ w2 Bp23 hrs (Rd.nil _ _) 2 B89).mono ?_);rintro e w3 ⟨a',c',rfl,hr,hb2⟩;exact ⟨_,rfl,hK.out _ _ (mkR hr) hb2 (Drw.no rfl)⟩
 refine .cons ?_ ?_
 .exact M92
 refine .cons ?_ ?_
 .intro f w2 hS hV K hK;exact M23
 refine .cons ?_ ?_
 .exact M94
 refine .cons ?_ ?_
 .exact M124
 refine .cons ?_ ?_
 .exact M100
 refine .cons ?_ ?_
 .intro f w2 hS hV K hK;exact M23
 refine .cons ?_ ?_
 .intro f w2 hS hV K hK;obtain ⟨q1,q2,hlt,hrs,hbb⟩:=hS;have v9:=Drw.val (hV 9 rfl);clear hV;unfold Drw.Give;go_simp;unfold Drw.giveUpon;(with_reducible refine (HW2.out _ w2 Bp23 hrs (Rd.nil _ _) 1 B89).mono ?_);rintro e w3 ⟨a',c',rfl,hr,hb2⟩;exact ⟨_,rfl,hK.out _ _ (mkR hr) hb2 (Drw.no rfl)⟩
 refine .cons ?_ ?_
 .exact M149
 refine .cons ?_ ?_
 .intro f w2 hS hV K hK;obtain ⟨q1,q2,hlt,hrs,hbb⟩:=hS;obtain ⟨a0',c0',v0,hr0⟩:=(hV 4 rfl:IsE lo _ _ _ _);obtain ⟨a1',c1',v1,hr1⟩:=(hV 11 rfl:IsE lo _ _ _ _);clear hV;unfold Drw.Give;go_simp;exact hK.out _ _ (mkX (zw4 Bp23 hr0 hr1)) (below1 _ _) (Drw.no rfl)
 refine .cons ?_ ?_
 .intro f w2 hS hV K hK;obtain ⟨b',vx,hr⟩:=(hV 12 rfl:IsX lo _ _ _ _);clear hV;unfold Drw.Give;go_simp;exact hK.out _ _ (mkX (vx▸hr)) jB (Drw.no rfl)
 refine .cons ?_ ?_
 .intro f w2 hS hV K hK;exact M23
 exact Drw.Obs.nil;intro f w9 hS hV _ _;obtain ⟨b',e',hr⟩:=(hV 13 B3:IsX lo _ _ _ _);have e'':=Drw.val (hV 14 B3);exact M96):=h
theorem mkR{lo:Nat}{L:List Int}{a:Option Addr}{c:Nat}{w:World}(h:Rd lo w (.slice a L.length c) L):IsR lo L (.slice a L.length c) w:=⟨a,c,rfl,h⟩
theorem mkE{lo:Nat}{k:Int}{L:List Int}{a:Option Addr}{c:Nat}{w:World}(h:Rd lo w (.slice a L.length c) L):IsE lo k L (.agg #[jI k,.slice a L.length c]) w:=⟨a,c,rfl,h⟩
theorem mkX{lo n:Nat}{l:List (Int×List Int)}{b:Nat}{w:World}(h:ExR lo w (jP b 0 n n) l):IsX lo n l (jP b 0 n n) w:=⟨b,rfl,h⟩
theorem IsR.st{lo:Nat}{L:List Int}(v:Value)(w w':World)(hb:Below w.heap.size w w')(h:IsR lo L v w):IsR lo L v w':=by
 obtain ⟨a,c,e,h⟩:=h;exact ⟨a,c,e,h.below hb⟩
theorem IsE.st{lo:Nat}{k:Int}{L:List Int}(v:Value)(w w':World)(hb:Below w.heap.size w w')(h:IsE lo k L v w):IsE lo k L v w':=by
 obtain ⟨a,c,e,h⟩:=h;exact ⟨a,c,e,h.below hb⟩
theorem ExR.below{lo:Nat}{w w':World}{v:Value}{l:List (Int×List Int)}(h:ExR lo w v l)(hb:Below w.heap.size w w'):ExR lo w' v l:=by
 obtain ⟨vs,⟨g,cap,cur,h1,h2,h3,h4⟩,h5,h6⟩:=h;exact ⟨vs,⟨g,cap,cur,h1,h2,(hb.block g (jg h3)).trans h3,h4⟩,h5,fun j p q e1 e2=> ⟨(h6 j p q e1 e2).1,(h6 j p q e1 e2).2.below hb⟩⟩
theorem IsX.st{lo n:Nat}{l:List (Int×List Int)}(v:Value)(w w':World)(hb:Below w.heap.size w w')(h:IsX lo n l v w):IsX lo n l v w':=by
 obtain ⟨b,e,h⟩:=h;exact ⟨b,e,h.below hb⟩
theorem ex_three{lo:Nat}{w:World}{k k2 k3:Int}{a a2 a3:Option Addr}{n c n2 c2 n3 c3:Nat}{s s2 s3:List Int}(hl:lo<=w.heap.size)(h:Rd lo w (.slice a n c) s)(h2:Rd lo w (.slice a2 n2 c2) s2)(h3:Rd lo w (.slice a3 n3 c3) s3):
 ExR lo (w.alloc (.cells #[jI k,.slice a n c,jI k2,.slice a2 n2 c2,jI k3,.slice a3 n3 c3] 81)) (jP w.heap.size 0 3 3) [(k,s),(k2,s2),(k3,s3)]:=by
 refine ⟨[(k,.slice a n c),(k2,.slice a2 n2 c2),(k3,.slice a3 n3 c3)],⟨w.heap.size,3,_,rfl,hl,heap_alloc_new _ _,rfl⟩,rfl,fun j p q e1 e2=> ?_⟩
 match j,e1,e2 with
 |0,e1,e2=>cases e1;cases e2;exact ⟨rfl,h.below (below1 _ _)⟩
 |1,e1,e2=>cases e1;cases e2;exact ⟨rfl,h2.below (below1 _ _)⟩
 |2,e1,e2=>cases e1;cases e2;exact ⟨rfl,h3.below (below1 _ _)⟩
theorem rd_blk1{w:World}{b:Nat}{x:Int}(h:w.heap[b]?=some (.cells #[.int .u8 x] TS (0,0))):Rd 0 w (jP b 0 1 1) [x]:= .inr ⟨b,1,rfl,jE,Nat.zero_le _,⟨_,_,h⟩,fun j y hy=>by
 rw[Lib.cell_of_heap h]
 match j,hy with
 |0,hy=>cases hy;rfl⟩
section
variable(lo g o:Nat)(op a b c d:Int)(T:Value)(s:List Int)(sv:Value)(i:Int)(w:World)(hx:InsAt w g o op a b c d T)(hi0:0<=i)(hi1:i<=1000000)(hs:Rd lo w sv s)(hsl:s.length<=1000000)(hlo:lo<=w.heap.size)
include lo g o op a b c d T s sv i w hx hi0 hi1 hs hsl hlo
theorem const_ok(b1:Nat)(cv:Value)(con:List Val.V)(n:Nat)(x:Val.V)(q:Bool)(z:Int)(hz:z=cond q 69 86)(hb1:b1<w.heap.size)(hbc:w.cell? (jA b1 0)=some cv)(hc:ConRd w cv con)(hn:a=(n:Int))(hcx:con[n]?=some x)(hq:(x.k==4)=q):
 Calls prog 41 #[PI g o,jI i,sv,PT b1] w (StepOut w lo (some [(i+1,Ma.withS s 0 [z])])):=by
 have HW:=jH fun (mv:Value)=>zbz lo 0 sv mv s [z] (Nat.zero_le _) hsl B7;have hw1:=zfr i hi0 hi1;have hlt0:n<con.length:=(jl hcx);rcases hc with ⟨_,rfl⟩|⟨gc,cap,rfl,h2,h3,h4⟩
 .simp at hcx
 obtain ⟨k0,k1,k2⟩:=h4 n x hcx;have k0:=k0;have t1:(n:Int)<(con.length:Int):=B1;obtain ⟨sa,sc,rfl⟩:=hs.any;generalize hsv:Value.slice sa s.length sc=sv at *;subst hn;obtain ⟨hlt,c0,c1,c2,c3,c4,c5⟩:=hx;obtain ⟨xk,xn,xt⟩:=x;simp only at k0 k1 k2 hq;clear h4 k1 k2 hcx;generalize con.length=cl at *;cases q
 .obtain rfl:=hz;go_enter func41,ntmps41;go_wp2_with fail;go_quiet (fail);have hb:Below w.heap.size w (w.drewN nq):=below_drewN jB nq;generalize w.drewN nq=w2 at *;go_wp2_with fail;have hb3:Below w.heap.size w (w2.alloc (Obj.cells #[.int .u8 86] TS)):=hb.alloc hb.size _;refine (HW.out _ _ Bp67 (hs.below hb3) ((zbo w2 86).mono (Nat.zero_le _)) _ rfl).mono ?_;rintro e w3 ⟨a,c,rfl,hr,hb4⟩;exact M111
 .obtain rfl:=hz;go_enter func41,ntmps41;go_wp2_with fail;go_quiet (fail);have hb:Below w.heap.size w (w.drewN nq):=below_drewN jB nq;generalize w.drewN nq=w2 at *;go_wp2_with fail;have hb3:Below w.heap.size w (w2.alloc (Obj.cells #[.int .u8 69] TS)):=hb.alloc hb.size _;refine (HW.out _ _ Bp67 (hs.below hb3) ((zbo w2 69).mono (Nat.zero_le _)) _ rfl).mono ?_;rintro e w3 ⟨a,c,rfl,hr,hb4⟩;exact M111
theorem err_no(hq:decide (s.length<1)=true\/decide (s.length<1)=false/\decide ((s.length:Int)-1<b)=true):Calls prog 85 #[PI g o,jI i,sv] w (StepOut w lo none):=by
 obtain ⟨sa,sc,rfl⟩:=hs.any;obtain ⟨hlt,c0,c1,c2,c3,c4,c5⟩:=hx;generalize s.length=n at *;have t3:(n:Int)<=1000000:=B1;rcases hq with hq|⟨hq,hq2⟩
 .have hq':decide ((n:Int)<1)=true:=by simp at hq ⊢;omega
  go_enter func85,ntmps85;go_wp2_with fail;go_ret2;exact zkc rfl jB
 .have hq':decide ((n:Int)<1)=false:=by simp at hq ⊢;omega
  have hn1:1<=n:=by simp at hq;omega
  go_enter func85,ntmps85;go_wp2_with fail;go_ret2;exact zkc rfl jB
theorem err_ok(m:Nat)(hm:b=(m:Int))(hq:decide (s.length<1)=false)(hq2:decide ((s.length:Int)-1<b)=false):Calls prog 85 #[PI g o,jI i,sv] w (StepOut w lo (some [(i+1,s),(a,Ma.withS s (m+1) [69])])):=by
 have hn1:1<=s.length:=by have:=of_decide_eq_false hq;omega
 have hm1:m+1<=s.length:=by have:=of_decide_eq_false hq2;omega
 have HW:=jH fun (mv:Value)=>zbz lo (m+1) sv mv s [69] hm1 hsl B7;have hw1:=zfr i hi0 hi1;have hw2:IntKind.i64.wrap ((m:Int)+1)=(m:Int)+1:=zfr _ B1 B1;have hw3:IntKind.i64.wrap ((s.length:Int)-1)=(s.length:Int)-1:=B13;have hq':decide ((s.length:Int)<1)=false:=B14;obtain ⟨sa,sc,rfl⟩:=hs.any;obtain ⟨hlt,c0,c1,c2,c3,c4,c5⟩:=hx;have hb:Below w.heap.size w w:=jB;subst hm;clear hn1 hm1;go_enter func85,ntmps85;go_wp2_with fail;refine Drw.zaq 20 ?Ae (fun w'=>w'.cell? (jA g (o+1))=some (jI a)/\w'.cell? (jA g (o+2))=some (jI (m:Int))/\g<w'.heap.size/\Rd lo w' (Value.slice sa s.length sc) s/\Below w.heap.size w w') (fun iq=>match iq with|0=>fun v _=>v=jI i|1=>fun v _=>v=jI (i+1)|2=>fun v _=>v=(Value.slice sa s.length sc)|3=>IsE lo (i+1) s|4=>fun v _=>v=PI g o|5=>fun v _=>v=PI g o|6=>fun v _=>v=jU g (o+1)|7=>fun v _=>v=jI a|8=>fun v _=>v=(Value.slice sa s.length sc)|9=>fun v _=>v=PI g o|10=>fun v _=>v=PI g o|11=>fun v _=>v=jU g (o+2)|12=>fun v _=>v=jI (m:Int)|13=>fun v _=>v=jI ((m:Int)+1)|14=>Drw.Blk (fun b=>jP b 0 1 1) (.cells #[.int .u8 69] TS (0,0))|15=>IsR lo (Ma.withS s (m+1) [69])|16=>IsE lo (a) (Ma.withS s (m+1) [69])|17=>IsX lo 2 [(i+1,s),(a,Ma.withS s (m+1) [69])]|18=>IsX lo 2 [(i+1,s),(a,Ma.withS s (m+1) [69])]|19=>fun v _=>v= .bool true|_=>fun _ _=>True) (fun _=>false) ?hAe (by kernel_rfl) (by kernel_rfl) rfl ⟨c1,c2,hlt,hs,hb.drew⟩ (fun w1 w2 h hS=> ⟨jQ h hS.1 hS.2.2.1,jQ h hS.2.1 hS.2.2.1,jL hS.2.2.1 h.size,hS.2.2.2.1.below h,jN hS.2.2.2.2 h⟩) (Drw.zac (Drw.zac (Drw.zac (Drw.zac (Drw.zac (Drw.zac (Drw.zac (Drw.zac (Drw.zac (Drw.zac (Drw.zac (Drw.zac (Drw.zac (Drw.zac (Drw.zac (Drw.zac (Drw.zac (Drw.zac (Drw.zac (Drw.zac Drw.zie Drw.st) Drw.st) Drw.st) IsE.st) Drw.st) Drw.st) Drw.st) Drw.st) Drw.st) Drw.st) Drw.st) Drw.st) Drw.st) Drw.st) Drw.stb) IsR.st) IsE.st) IsX.st) IsX.st) Drw.st) ?_ ?_
 case hAe=>
  exact M31
 refine .cons ?_ ?_
 .intro f w2 hS hV K hK;exact M23
 refine .cons ?_ ?_
 .exact M76
 refine .cons ?_ ?_
 .intro f w2 hS hV K hK;exact M23
 refine .cons ?_ ?_
 .intro f w2 hS hV K hK;obtain ⟨q1,q2,hlt,hrs,hbb⟩:=hS;have vk:=Drw.val (hV 1 rfl);have v2:=Drw.val (hV 2 rfl);clear hV;unfold Drw.Give;go_simp;exact hK.out _ _ (mkE hrs) jB (Drw.no rfl)
 refine .cons ?_ ?_
 .intro f w2 hS hV K hK;exact M23
 refine .cons ?_ ?_
 .intro f w2 hS hV K hK;have v4:=Drw.val (hV 4 rfl);clear hV;unfold Drw.Give;go_simp;exact hK.out _ _ rfl jB (Drw.no rfl)
 refine .cons ?_ ?_
 .exact M94
 refine .cons ?_ ?_
 .intro f w2 hS hV K hK;obtain ⟨q1,q2,hlt,hrs,hbb⟩:=hS;have v6:=Drw.val (hV 6 rfl);clear hV;unfold Drw.Give;go_simp;exact hK.out _ _ rfl jB (Drw.no rfl)
 refine .cons ?_ ?_
 .intro f w2 hS hV K hK;exact M23
 refine .cons ?_ ?_
 .intro f w2 hS hV K hK;exact M23
 refine .cons ?_ ?_
 .intro f w2 hS hV K hK;have v9:=Drw.val (hV 9 rfl);clear hV;unfold Drw.Give;go_simp;exact hK.out _ _ rfl jB (Drw.no rfl)
 refine .cons ?_ ?_
 .intro f w2 hS hV K hK;have v10:=Drw.val (hV 10 rfl);clear hV;unfold Drw.Give;go_simp;exact hK.out _ _ rfl jB (Drw.no rfl)
 refine .cons ?_ ?_
 .intro f w2 hS hV K hK;obtain ⟨q1,q2,hlt,hrs,hbb⟩:=hS;have v11:=Drw.val (hV 11 rfl);clear hV;unfold Drw.Give;go_simp;exact hK.out _ _ rfl jB (Drw.no rfl)
 refine .cons ?_ ?_
 .exact M179
 refine .cons ?_ ?_
 .exact M88
 refine .cons ?_ ?_
 .intro f w2 hS hV K hK;obtain ⟨q1,q2,hlt,hrs,hbb⟩:=hS;have v8:=Drw.val (hV 8 rfl);have v13:=Drw.val (hV 13 rfl);obtain ⟨bq,vq,kq⟩:=Drw.own (hV 14 rfl);clear hV;unfold Drw.Give;go_simp;unfold Drw.giveUpon;(with_reducible refine (HW.out _ w2 Bp23 hrs (rd_blk1 kq) ((m:Int)+1) B89).mono ?_);rintro e w3 ⟨a',c',rfl,hr,hb2⟩;exact ⟨_,rfl,hK.out _ _ (mkR hr) hb2 (Drw.no rfl)⟩
 refine .cons ?_ ?_
 .intro f w2 hS hV K hK;have vk:=Drw.val (hV 7 rfl);obtain ⟨a',c',vl,hr⟩:=(hV 15 rfl:IsR lo _ _ _);clear hV;unfold Drw.Give;go_simp;exact hK.out _ _ (mkE hr) jB (Drw.no rfl)
 refine .cons ?_ ?_
 .intro f w2 hS hV K hK;obtain ⟨q1,q2,hlt,hrs,hbb⟩:=hS;obtain ⟨a0',c0',v0,hr0⟩:=(hV 3 rfl:IsE lo _ _ _ _);obtain ⟨a1',c1',v1,hr1⟩:=(hV 16 rfl:IsE lo _ _ _ _);clear hV;unfold Drw.Give;go_simp;exact hK.out _ _ (mkX (zw4 Bp23 hr0 hr1)) (below1 _ _) (Drw.no rfl)
 refine .cons ?_ ?_
 .intro f w2 hS hV K hK;obtain ⟨b',vx,hr⟩:=(hV 17 rfl:IsX lo _ _ _ _);clear hV;unfold Drw.Give;go_simp;exact hK.out _ _ (mkX (vx▸hr)) jB (Drw.no rfl)
 refine .cons ?_ ?_
 .intro f w2 hS hV K hK;exact M23
 exact Drw.Obs.nil;intro f w9 hS hV _ _;obtain ⟨b',e',hr⟩:=(hV 18 B3:IsX lo _ _ _ _);have e'':=Drw.val (hV 19 B3);exact M96
theorem if_ok:Calls prog 86 #[PI g o,jI i,sv] w (StepOut w lo (cond (Ma.za3 s [86]) (some [(i+1,Ma.withS s 1 []),(a,Ma.withS s 1 []),(b,Ma.withS s 1 [69])]) none)):=by
 open V74 in exact D24
theorem ok_ok:Calls prog 88 #[PI g o,jI i,sv] w (StepOut w lo (cond (Ma.za3 s [86]) (some [(i+1,Ma.withS s 1 []),(a,Ma.withS s 1 [86])]) none)):=by
 open V75 in exact D24
theorem match_ok:Calls prog 90 #[PI g o,jI i,sv] w (StepOut w lo (cond (Ma.za3 s [86,86]) (some [(i+1,Ma.withS s 2 []),(a,Ma.withS s 1 [])]) none)):=by
 have HE:=jH fun (u:World) (av:Value) (hs:Rd lo u sv s) (ha:Rd 0 u av [86,86])=>ends_any lo 0 sv av s [86,86] u hs ha hsl;have HW1:=jH fun (hle:2<=s.length) (mv:Value)=>zbz lo 2 sv mv s [] hle hsl B7;have HW2:=jH fun (hle:1<=s.length) (mv:Value)=>zbz lo 1 sv mv s [] hle hsl B7;have hw1:=zfr i hi0 hi1;have hx0:=hx;have hbl:Below w.heap.size w (w.alloc (Obj.cells #[.int .u8 86,.int .u8 86] TS)):=below1 _ _;obtain ⟨sa,sc,rfl⟩:=hs.any;obtain ⟨hlt,c0,c1,c2,c3,c4,c5⟩:=hx;cases hq:Ma.za3 s [86,86]
 all_goals
  rw[hq] at HE;go_enter func90,ntmps90;go_wp2_with fail;refine jM (HE.out _ _ (hs.below hbl) ((rd_lit2 w 86 86).mono (Nat.zero_le _))) ?_;intro w1 hb1;have hb:Below w.heap.size w w1:=jN hbl hb1;clear hb1 hbl
 .exact M130
 .open X153 in exact C35
end
def IRd(w:World)(v:Value)(l:List Int):Prop:=
 (v=jZ/\l=[])\/∃g o cap,v=jP g o l.length cap/\l.length<=cap/\g<w.heap.size/\∀(j:Nat) (x:Int),l[j]?=some x->w.cell? (jA g (o+j))=some (jI x)
theorem IRd.below{w w':World}{v:Value}{l:List Int}(h:IRd w v l)(hb:Below w.heap.size w w'):IRd w' v l:=by
 rcases h with h|⟨g,o,cap,h1,h2,h3,h4⟩
 .exact .inl h
 .exact .inr ⟨g,o,cap,h1,h2,jL h3 hb.size,fun j x hx=>jQ hb (h4 j x hx) h3⟩
theorem IRd.any{w:World}{v:Value}{l:List Int}(h:IRd w v l):∃a cap,v= .slice a l.length cap:=by
 rcases h with ⟨rfl,rfl⟩|⟨g,o,cap,rfl,_⟩
 .exact ⟨_,_,rfl⟩
 .exact ⟨_,_,rfl⟩
theorem IRd.some{w:World}{v:Value}{l:List Int}(h:IRd w v l)(hl:0<l.length):∃g o cap,v=jP g o l.length cap/\g<w.heap.size/\∀(j:Nat) (x:Int),l[j]?=some x->w.cell? (jA g (o+j))=some (jI x):=by
 rcases h with ⟨rfl,rfl⟩|⟨g,o,cap,h1,h2,h3,h4⟩
 .simp at hl
 .exact ⟨g,o,cap,h1,h3,h4⟩
abbrev TE:TypeId:=81
theorem infoX:(prog.info? TE).map (fun i=>(i.zero,i.size,i.bytes))=some (some (.agg #[jI 0,jZ]),2,32):=by kernel_rfl
theorem zr7(l m:List (Int×Value)):exC (l++m)=exC l++exC m:=by unfold exC;exact List.flatMap_append
def ExO(base lo:Nat)(w:World)(v:Value)(l:List (Int×List Int)):Prop:=
 ∃vs:List (Int×Value),w.ownsRow base TE 2 v l.length (exC vs)/\vs.length=l.length/\∀(j:Nat) (p:Int×Value) (q:Int×List Int),vs[j]?=some p->l[j]?=some q->p.1=q.1/\Rd lo w p.2 q.2
theorem ExO.below{base lo:Nat}{w w':World}{v:Value}{l:List (Int×List Int)}(h:ExO base lo w v l)(hb:Below w.heap.size w w'):ExO base lo w' v l:=by
 obtain ⟨vs,h1,h2,h3⟩:=h;exact ⟨vs,zci h1 hb,h2,fun j p q e1 e2=> ⟨(h3 j p q e1 e2).1,(h3 j p q e1 e2).2.below hb⟩⟩
theorem ExO.ex{base lo:Nat}{w:World}{v:Value}{l:List (Int×List Int)}(h:ExO base lo w v l)(hl:lo<=base)(h0:0<l.length):ExR lo w v l:=by
 obtain ⟨vs,h1,h2,h3⟩:=h;rcases h1.2 with ⟨rfl,e⟩|⟨g,cap,cur,rfl,hb,hg,hle,_,hs,ht⟩
 .omega
 .exact ⟨vs,⟨g,cap,cur,by rw[h2],jR hl hb,hg,by rw[h2];exact ht⟩,h2,h3⟩
def IsO(base lo:Nat)(l:List (Int×List Int))(v:Value)(w:World):Prop:=∃b,v=jP b 0 1 1/\ExO base lo w v l
def B68(h:jp:=by rw[HN.out];exact hlt2):=h
def B80(h:jp:=by rw[HN.out];exact jE):=h
def B92(h:jp:=by rw[HN.out];omega):=h
def Bp79(h:jp:=by exact below1 w2 (Obj.cells #[jI tg,.slice a2 (Ma.withS s 1 []).length c2] TE)):=h
def M144(h:jp:=by
 have v1:=Drw.val (hV 1 rfl);clear hV;unfold Drw.Give;go_simp;exact hK.out _ _ rfl jB (Drw.no rfl)):=h
def Va43.Ja17(h:jp:=by
 have hs0:=jH hs;obtain ⟨ta,tc,rfl⟩:=hT.any;obtain ⟨hlt,c0,c1,c2,c3,c4,c5⟩:=hx;cases hq:Ma.za3 s [86]
 all_goals
  rw[hq] at HE;go_enter func89,ntmps89;go_wp2_with fail;refine jM Bp39 ?_;intro w1 hb1;have hb:Below w.heap.size w w1:=jN hbl hb1;clear hb1 hbl
 .exact M130
 .clear c0 c1 c2 c3 c4 c5;obtain ⟨hlt,c0,c1,c2,c3,c4,c5⟩:=hx0.below hlt hb;replace hs:=hs.below hb;clear HE;replace HW1:=jH (HW1.out B48);replace HW2:=jH (HW2.out B48);clear hq;go_wp2_with fail;refine Drw.zaq 10 ?Ach (fun w'=>w'.cell? (jA g (o+1))=some (jI a)/\w'.cell? (jA g (o+2))=some (jI b)/\g<w'.heap.size/\Rd lo w' (Value.slice sa s.length sc) s/\Below w.heap.size w w') (fun iq=>match iq with|0=>fun v _=>v=PI g o|1=>fun v _=>v=PI g o|2=>fun v _=>v=jU g (o+1)|3=>fun v _=>v=jI a|4=>fun v _=>v=(Value.slice sa s.length sc)|5=>Drw.Blk (fun b=>jP b 0 1 1) (.cells #[.int .u8 69] TS (0,0))|6=>IsR lo (Ma.withS s 1 [69])|7=>IsE lo (a) (Ma.withS s 1 [69])|8=>IsO w.heap.size lo [(a,Ma.withS s 1 [69])]|9=>IsO w.heap.size lo [(a,Ma.withS s 1 [69])]|_=>fun _ _=>True) (fun _=>false) ?hAch (by kernel_rfl) (by kernel_rfl) rfl ⟨c1,c2,hlt,hs,hb.drew⟩ (fun w1 w2 h hS=> ⟨jQ h hS.1 hS.2.2.1,jQ h hS.2.1 hS.2.2.1,jL hS.2.2.1 h.size,hS.2.2.2.1.below h,jN hS.2.2.2.2 h⟩) (Drw.zac (Drw.zac (Drw.zac (Drw.zac (Drw.zac (Drw.zac (Drw.zac (Drw.zac (Drw.zac (Drw.zac Drw.zie Drw.st) Drw.st) Drw.st) Drw.st) Drw.st) Drw.stb) IsR.st) IsE.st) IsO.st) IsO.st) ?_ ?_
  case hAch=>
   exact M31
  refine .cons ?_ ?_
  .intro f w2 hS hV K hK;exact M23
  refine .cons ?_ ?_
  .exact M76
  refine .cons ?_ ?_
  .intro f w2 hS hV K hK;exact M144
  refine .cons ?_ ?_
  .intro f w2 hS hV K hK;obtain ⟨q1,q2,hlt,hrs,hbb⟩:=hS;have v2:=Drw.val (hV 2 rfl);clear hV;unfold Drw.Give;go_simp;exact hK.out _ _ rfl jB (Drw.no rfl)
  refine .cons ?_ ?_
  .intro f w2 hS hV K hK;exact M23
  refine .cons ?_ ?_
  .exact M88
  refine .cons ?_ ?_
  .intro f w2 hS hV K hK;obtain ⟨q1,q2,hlt,hrs,hbb⟩:=hS;have v4:=Drw.val (hV 4 rfl);obtain ⟨bq,vq,kq⟩:=Drw.own (hV 5 rfl);clear hV;unfold Drw.Give;go_simp;unfold Drw.giveUpon;(with_reducible refine (HW2.out _ w2 Bp23 hrs (rd_blk1 kq) 1 B89).mono ?_);rintro e w3 ⟨a',c',rfl,hr,hb2⟩;exact ⟨_,rfl,hK.out _ _ (mkR hr) hb2 (Drw.no rfl)⟩
  refine .cons ?_ ?_
  .intro f w2 hS hV K hK;have vk:=Drw.val (hV 3 rfl);obtain ⟨a',c',vl,hr⟩:=(hV 6 rfl:IsR lo _ _ _);clear hV;unfold Drw.Give;go_simp;exact hK.out _ _ (mkE hr) jB (Drw.no rfl)
  refine .cons ?_ ?_
  .intro f w2 hS hV K hK;obtain ⟨q1,q2,hlt,hrs,hbb⟩:=hS;obtain ⟨a0',c0',v0,hr0⟩:=(hV 7 rfl:IsE lo _ _ _ _);clear hV;unfold Drw.Give;go_simp;exact hK.out _ _ (mkO (exo_one hbb.size hr0)) (below1 _ _) (Drw.no rfl)
  refine .cons ?_ ?_
  .intro f w2 hS hV K hK;obtain ⟨b',vx,hr⟩:=(hV 8 rfl:IsO _ lo _ _ _);clear hV;unfold Drw.Give;go_simp;exact hK.out _ _ (mkO (vx▸hr)) jB (Drw.no rfl)
  exact Drw.Obs.nil;intro f w9 hS hV _ _;obtain ⟨b',e',hr⟩:=(hV 9 B3:IsO _ lo _ _ _);obtain ⟨-,-,-,hs9,hb9⟩:=hS;clear hV;rw[e'] at hr;simp only[e'];have hT9:=hT.below hb9;clear c0 c1 c2 c3 c4 c5 hs;obtain ⟨hlt,c0,c1,c2,c3,c4,c5⟩:=hx0.below (jL hx0.lt jE) hb9;have HT:=jH hT;have hxl:=hx0.lt;clear hT hT9 hx0 hb;generalize hnn:tl.length=n at *;have HN:=jH hnn;clear hnn;go_wp2_with fail;clear c0 c1 c2 c3 c4 c5;go_loopw [8,10,29] (fun v _ i wr=>∃k:Nat,k<=n/\i=jI (k:Int)/\ExO w.heap.size lo wr v ((a,Ma.withS s 1 [69])::(tl.take k).map fun tg=>(tg,Ma.withS s 1 []))/\Below w.heap.size w wr) (fun _ _ i _=>n-(intOf i).toNat)
  case atStart=>exact ⟨0,Nat.zero_le _,rfl,hr,hb9⟩
  case round=>
   obtain ⟨k,hk,rfl,hE,hbr⟩:=hrel
   by_cases hlt2:k<n
   .obtain ⟨gt,ot,tcap,e1,hgt,htc⟩:=HT.out.some B92;rw[HN.out] at e1;cases e1;obtain ⟨tg,hkt⟩:∃tg,tl[k]?=some tg:=⟨_,List.getElem?_eq_getElem B68⟩;have c:=jQ hbr (htc k _ hkt) hgt;have htk:=jH (zj8 tl k tg hkt (fun tg=>(tg,Ma.withS s 1 [])));clear hkt htc;have hs1:Rd lo wr (.slice sa s.length sc) s:=hs0.out.below hbr;go_wp2_with fail;refine (HW1.out _ _ (jR hlo hbr.size) hs1 (Rd.nil _ _) _ rfl).mono ?_;rintro e w2 ⟨a2,c2,rfl,hrd,hb2⟩;replace hE:=hE.below hb2;have hb3:=jN hbr hb2;clear hb2;have hb4:Below w.heap.size w (w2.alloc (Obj.cells #[jI tg,.slice a2 (Ma.withS s 1 []).length c2] TE)):=hb3.alloc hb3.size _;have hE4:=hE.below Bp79;have hr4:=hrd.below Bp79;have hnews:∀(j:Nat) (u:Value),([jI tg,.slice a2 (Ma.withS s 1 []).length c2]:List Value)[j]?=some u->(w2.alloc (Obj.cells #[jI tg,.slice a2 (Ma.withS s 1 []).length c2] TE)).cell? (((jA w2.heap.size 0):Addr).add j)=some u:=by
     intro j u hj;have hadd:((jA w2.heap.size 0):Addr).add j=(jA w2.heap.size j):=B16;rw[hadd,Lib.cell_of_heap Bp4,<-hj];simp
    obtain ⟨vs,hown,hv2,hv3⟩:=hE4;have hl9:((a,Ma.withS s 1 [69])::(tl.take k).map fun tg=>(tg,Ma.withS s 1 [])).length=k+1:=by simp;rw[HN.out];omega
    have HL:=jH hl9;have HV:=jH (And.intro hv2 hv3);rw[hl9] at hown;clear hv2 hv3 hE hrd hl9;obtain ⟨va,vc,rfl⟩:∃a c,u8= .slice a (k+1) c:=by
     rcases hown.2 with ⟨rfl,h0⟩|⟨g,cap,cur,rfl,_⟩
     .omega
     .exact ⟨_,_,rfl⟩
    have Q1:=jH hnews;have Q2:=jH (show k+1+1<=maxLen by unfold maxLen;omega);have Q3:=jH (show (k+1+1)*32<=140737488355328 by omega);clear hnews;go_wp2_with (first|(at_builtin;refine wpList_append_own _ rfl _ _ 72 rfl w.heap.size TE i0 _ 2 32 underlying72 hi hz0 hz1 hz2 rfl B3 _ _ _ rfl hown (jA w2.heap.size 0) 1 1 [jI tg,.slice a2 (Ma.withS s 1 []).length c2] rfl rfl Q1.out (by intro u hu;simp at hu;rcases hu with rfl|rfl <;> rfl) Q2.out Q3.out hb4.size ?_)|fail);intro v3 w3 hown3 hgrow _;have hb5:=hb4.grown hgrow hb4.size (fun j hj=>(hown.lt j hj).1);have hE5:ExO w.heap.size lo w3 v3 ((a,Ma.withS s 1 [69])::(tl.take (k+1)).map fun tg=>(tg,Ma.withS s 1 [])):=by
     rw[htk.out,<-List.cons_append];exact ExO.snoc vs HV.out.1 HV.out.2 hr4 (by rw[HL.out];exact hown3) (fun v t h=>h.grown hown hgrow)
    clear hown3 hgrow hown hr4;go_wp2_with fail;go_roundw
    case rel=>exact ⟨k+1,by omega,by go_num,hE5,hb5⟩
    case measure=>simp[intOf];omega
   .obtain rfl:k=n:=by omega
    rw[List.take_of_length_le B80] at hE;have hE6:=hE.ex hlo B7;obtain ⟨ag,ac,rfl⟩:∃ag ac,u8= .slice ag (k+1) ac:=by
     obtain ⟨vs,hown,_⟩:=hE;have hl9:((a,Ma.withS s 1 [69])::tl.map fun tg=>(tg,Ma.withS s 1 [])).length=k+1:=by simp;exact HN.out
     rw[hl9] at hown;rcases hown.2 with ⟨rfl,h0⟩|⟨g,cap,cur,rfl,_⟩
     .omega
     .exact ⟨_,_,rfl⟩
    clear hE;go_wp2_with fail;go_ret2;exact ⟨hbr,_,rfl,hE6⟩):=h
def V76.J24(h:jp:=by
 have HW2:=jH fun (hle:1<=s.length) (mv:Value)=>zbz lo 1 sv mv s [69] hle hsl B7
 open Va43 in exact Da17):=h
section
variable{base lo:Nat}
include base lo
theorem IsO.st{l:List (Int×List Int)}(v:Value)(w w':World)(hb:Below w.heap.size w w')(h:IsO base lo l v w):IsO base lo l v w':=by
 obtain ⟨b,e,h⟩:=h;exact ⟨b,e,h.below hb⟩
theorem mkO{l:List (Int×List Int)}{b:Nat}{w:World}(h:ExO base lo w (jP b 0 1 1) l):IsO base lo l (jP b 0 1 1) w:=⟨b,rfl,h⟩
theorem exo_one{w:World}{k:Int}{a:Option Addr}{n c:Nat}{s:List Int}(hl:base<=w.heap.size)(h:Rd lo w (.slice a n c) s):
 ExO base lo (w.alloc (.cells #[jI k,.slice a n c] TE)) (jP w.heap.size 0 1 1) [(k,s)]:=by
 refine ⟨[(k,.slice a n c)],⟨rfl,.inr ⟨w.heap.size,1,_,rfl,hl,heap_alloc_new _ _,jE,by decide,rfl,rfl⟩⟩,rfl,fun j p q h1 h2=> ?_⟩
 match j,h1,h2 with
 |0,h1,h2=>cases h1;cases h2;exact ⟨rfl,h.below (below1 _ _)⟩
theorem ExO.snoc{w w2:World}{v2:Value}{l:List (Int×List Int)}{k:Int}{a:Option Addr}{n c:Nat}{s:List Int}(vs:List (Int×Value))(h2:vs.length=l.length)(h3:∀(j:Nat) (p:Int×Value) (q:Int×List Int),vs[j]?=some p->l[j]?=some q->p.1=q.1/\Rd lo w p.2 q.2)(hs:Rd lo w (.slice a n c) s)(hown:w2.ownsRow base TE 2 v2 (l.length+1) (exC vs++ [jI k,.slice a n c]))(hk:∀(v:Value) (t:List Int),Rd lo w v t->Rd lo w2 v t):ExO base lo w2 v2 (l++ [(k,s)]):=by
 refine ⟨vs++ [(k,.slice a n c)],by rw[zr7];simpa[exC] using hown,by simp[h2],fun j p q e1 e2=> ?_⟩;rw[List.getElem?_append] at e1 e2;rw[h2] at e1;split at e1
 .rename_i hj
  rw[if_pos hj] at e2;exact ⟨(h3 j p q e1 e2).1,hk _ _ (h3 j p q e1 e2).2⟩
 .rename_i hj
  rw[if_neg hj] at e2
  match hjj:j-l.length,e1,e2 with
  |0,e1,e2=>cases e1;cases e2;exact ⟨rfl,hk _ _ hs⟩
  |k+1,e1,e2=>simp at e1
end
theorem Rd.grown{lo base:Nat}{w w2:World}{v x:Value}{s:List Int}{n:Nat}{xs:List Value}(h:Rd lo w v s)(hown:w.ownsRow base TE 2 x n xs)(hg:w.grownBy w2 x.ownBlock):Rd lo w2 v s:=by
 refine h.kept hg.size fun g _ ht=>hg.block g ht.lt fun e=> ?_;obtain ⟨cur,fr,hc⟩:=ht;rcases hown.2 with ⟨rfl,_⟩|⟨g',cap',cur',rfl,_,hg',_⟩
 .cases e
 .cases e;rw[hg'] at hc;cases hc
theorem zj8{α:Type}(tl:List Int)(k:Nat)(tg:Int)(h:tl[k]?=some tg)(g:Int->α):(tl.take (k+1)).map g=(tl.take k).map g++ [g tg]:=by
 rw[List.take_add_one,h];simp
theorem zxq(lo g o:Nat)(op a b c d:Int)(T:Value)(s:List Int)(sv:Value)(i:Int)(w:World)(hx:InsAt w g o op a b c d T)(hi0:0<=i)(hi1:i<=1000000)(hs:Rd lo w sv s)(hsl:s.length<=1000000)(hlo:lo<=w.heap.size)(tl:List Int)(hT:IRd w T tl)(htl:tl.length<=1000000):Calls prog 89 #[PI g o,jI i,sv] w (StepOut w lo (cond (Ma.za3 s [86]) (some ((a,Ma.withS s 1 [69])::tl.map fun tg=>(tg,Ma.withS s 1 []))) none)):=by
 obtain ⟨i0,hi,hz0,hz1,hz2⟩:=info_parts infoX
 open V76 in exact D24
theorem ird_lit1(w:World)(x:Int):IRd (w.alloc (.cells #[jI x] 3)) (jP w.heap.size 0 1 1) [x]:= .inr ⟨_,0,1,rfl,jE,by simp,fun j y hy=>by
 rw[Lib.cell_of_heap Bp4]
 match j,hy with
 |0,hy=>cases hy;rfl⟩
theorem ird_lit2(w:World)(x z:Int):IRd (w.alloc (.cells #[jI x,jI z] 3)) (jP w.heap.size 0 2 2) [x,z]:= .inr ⟨_,0,2,rfl,jE,by simp,fun j y hy=>by
 rw[Lib.cell_of_heap Bp4]
 match j,hy with
 |0,hy=>cases hy;rfl
 |1,hy=>cases hy;rfl⟩
def i64s(s:List Int):List Value:=s.map fun x=>jI x
def M89(h:jp:=by
 obtain ⟨hlt,c0,c1,c2,c3,c4,c5⟩:=hx;go_enter func62,ntmps62;go_wp2;go_ret;exact ⟨_,rfl,ird_lit1 w a,below1 _ _⟩):=h
theorem i64s_len(s:List Int):(i64s s).length=s.length:=by simp[i64s]
theorem zn0(s t:List Int):i64s (s++t)=i64s s++i64s t:=by simp[i64s]
theorem i64s_one(s:List Int):∀u∈i64s s,u.oneCell'=true:=by
 intro u hu;obtain ⟨x,_,rfl⟩:=List.mem_map.1 hu;rfl
theorem IRd.of_own{lo:Nat}{e:TypeId}{w:World}{v:Value}{n:Nat}{s:List Int}(hn:n=s.length)(h:w.ownsRow lo e 1 v n (i64s s)):IRd w v s:=by
 subst hn;rcases h.2 with ⟨rfl,h0⟩|⟨g,cap,cur,rfl,hb,hg,hle,_,hs,ht⟩
 .exact .inl ⟨rfl,List.eq_nil_of_length_eq_zero h0⟩
 .refine .inr ⟨g,0,cap,rfl,hle,(jg hg),fun j x hx=> ?_⟩;have h1:=World.ownsRow.cells h (g:=g) rfl j (jI x) (by unfold i64s;rw[List.getElem?_map,hx];rfl);have hadd:((jA g 0):Addr).add j=(jA g j):=B16;rw[hadd] at h1;rw[Nat.zero_add];exact h1
theorem infoI:(prog.info? 3).map (fun i=>(i.zero,i.size,i.bytes))=some (some (jI 0),1,8):=by kernel_rfl
theorem zi4{w:World}(base:Nat)(t ty:TypeId)(e:TypeId)(i:TypeInfo)(ht:prog.underlying t=some (.slice e))(hi:prog.info? e=some i)(hz:i.zero=some (jI 0))(hsize:i.size=1)(hby:i.bytes=8)(v:Value)(n:Nat)(xs:List Value)(hown:w.ownsRow base e 1 v n xs)(x:Value)(s:List Int)(hs:IRd w x s)(hl:n+s.length<=1000000)(hbase:base<=w.heap.size):
 ∃v' w',(Builtin.append_ #[t,t] ty #[v,x]).run prog w= .ok v' w'/\w'.ownsRow base e 1 v' (n+s.length) (xs++i64s s)/\w.grownBy w' v.ownBlock:=by
 rcases hs with ⟨rfl,rfl⟩|⟨g,o,cap,rfl,h2,h3,h4⟩
 .refine ⟨v,w,run_append_owned_none (P:=prog) (w:=w) base t ty e i 1 ht hi v n xs hown,?_,⟨rfl,rfl,rfl,jE,fun _ _ _=>rfl⟩⟩;simpa[i64s] using hown
 .have hnews:∀(j:Nat) (u:Value),(i64s s)[j]?=some u->w.cell? (((jA g o):Addr).add j)=some u:=fun j u hj=>by
   have hadd:((jA g o):Addr).add j=(jA g (o+j)):=B16;rw[hadd];unfold i64s at hj;rw[List.getElem?_map] at hj;obtain ⟨y,hy,rfl⟩:=Option.map_eq_some_iff.1 hj;exact h4 j y hy
  obtain ⟨v',w',r1,r2,r3,_⟩:=run_append_own (P:=prog) w base t ty e i (jI 0) 1 8 ht hi hz hsize hby rfl B3 v n xs hown ⟨g,o,none⟩ s.length cap (i64s s) (by rw[i64s_len];simp) hnews (i64s_one s) B53 B1 hbase;exact ⟨v',w',r1,r2,r3⟩
section
variable(g o:Nat)(a b c d:Int)(T:Value)(w:World)
include g o a b c d T w
theorem jumps_7(hx:InsAt w g o 7 a b c d T):Calls prog 62 #[PI g o] w (fun e w'=>∃v,e=jr v/\IRd w' v [a]/\Below w.heap.size w w'):=by
 exact M89
theorem jumps_9(hx:InsAt w g o 9 a b c d T):Calls prog 62 #[PI g o] w (fun e w'=>∃v,e=jr v/\IRd w' v [a]/\Below w.heap.size w w'):=by
 exact M89
theorem jumps_11(hx:InsAt w g o 11 a b c d T):Calls prog 62 #[PI g o] w (fun e w'=>∃v,e=jr v/\IRd w' v [a]/\Below w.heap.size w w'):=by
 exact M89
theorem jumps_13(hx:InsAt w g o 13 a b c d T):Calls prog 62 #[PI g o] w (fun e w'=>∃v,e=jr v/\IRd w' v [a]/\Below w.heap.size w w'):=by
 exact M89
theorem jumps_8(hx:InsAt w g o 8 a b c d T):Calls prog 62 #[PI g o] w (fun e w'=>∃v,e=jr v/\IRd w' v [a,b]/\Below w.heap.size w w'):=by
 obtain ⟨hlt,c0,c1,c2,c3,c4,c5⟩:=hx;go_enter func62,ntmps62;go_wp2;go_region
 all_goals go_wp2
 all_goals go_ret
 all_goals exact ⟨_,rfl,ird_lit2 _ a b,(below1 _ _).drew⟩
end
theorem jumps_no(g o:Nat)(op a b c d:Int)(T:Value)(w:World)(hx:InsAt w g o op a b c d T)(hq:¬(op=7\/op=8\/op=9\/op=10\/op=11\/op=13)):Calls prog 62 #[PI g o] w (fun e w'=>∃v,e=jr v/\IRd w' v []/\Below w.heap.size w w'):=by
 obtain ⟨hlt,c0,c1,c2,c3,c4,c5⟩:=hx;have t1:(op==7)=false:=B14;have t2:(op==9)=false:=B14;have t3:(op==11)=false:=B14;have t4:(op==13)=false:=B14;have t5:(op==8)=false:=B14;have t6:(op==10)=false:=B14;clear hq;go_enter func62,ntmps62;go_wp2;go_ret;exact ⟨_,rfl,.inl ⟨rfl,rfl⟩,jB⟩
theorem jumps_10(g o:Nat)(a b c d:Int)(T:Value)(tl:List Int)(w:World)(hx:InsAt w g o 10 a b c d T)(hT:IRd w T tl)(htl:tl.length<=100000):Calls prog 62 #[PI g o] w (fun e w'=>∃v,e=jr v/\IRd w' v (a::tl)/\Below w.heap.size w w'):=by
 obtain ⟨i0,hi,hz0,hz1,hz2⟩:=info_parts infoI;have hT1:=hT.below (((Below.refl w.heap.size w).drew).alloc jE (Obj.cells #[jI a] 3));have hl1:(w.drew.alloc (.cells #[jI a] 3)).ownsRow w.heap.size 3 1 (jP w.heap.size 0 1 1) 1 (i64s [a]):=
  ⟨rfl,.inr ⟨w.heap.size,1,_,rfl,jE,heap_alloc_new w.drew _,jE,by decide,rfl,rfl⟩⟩
 obtain ⟨v',w',hrun,hown,hgrow⟩:=zi4 (w:=w.drew.alloc (.cells #[jI a] 3)) w.heap.size 50 50 3 i0 underlying50 hi hz0 hz1 hz2 _ _ _ hl1 T tl hT1 B1 B7;have hb:Below w.heap.size w w':=((jB.drew).alloc jE _).grown hgrow B7 (fun j hj=>(hl1.lt j hj).1);rw[<-zn0] at hown;have hrd:=IRd.of_own B14 hown;have HR:=jH hrun;have HF:=jH (And.intro hrd hb);obtain ⟨va,vc,rfl⟩:=hrd.any;obtain ⟨ta,tc,rfl⟩:=hT.any;obtain ⟨hlt,c0,c1,c2,c3,c4,c5⟩:=hx;clear hrun hown hgrow hl1 hT1 hT hrd hb;go_enter func62,ntmps62;go_wp2_with fail;go_region_law (refine zcn rfl _ _ 50 50 rfl _ _ rfl rfl _ _ HR.out ?_)
 all_goals go_wp2_with fail
 all_goals go_ret
 all_goals exact ⟨_,rfl,HF.out.1,HF.out.2⟩
theorem zul{base:Nat}{w:World}{e:TypeId}{g cap n k:Nat}{xs:List Value}(x:Value)(h:w.ownsRow base e 1 (jP g 0 n cap) n xs):(w.setCell (jA g k) x).ownsRow base e 1 (jP g 0 n cap) n (xs.set k x):=by
 obtain ⟨h1,h2⟩:=h;refine ⟨by rw[List.length_set];exact h1,?_⟩;rcases h2 with ⟨h2,_⟩|⟨g',cap',cur,e1,hb,hg,hle,hm,hs,ht⟩
 .cases h2
 .cases e1;refine .inr ⟨g,cap,_,rfl,hb,heap_setCell_same w g k cur e x hg,hle,hm,by simpa using hs,?_⟩;rw[<-ht];simp[List.take_set]
theorem zjp(x y:Int)(s t:List Int):Ma.meetG (x::s) (y::t)=match Ma.zep x y,Ma.meetG s t with
 |some c,some u=>some (c::u)
 |_,_=>none:=rfl
theorem zu5{s t mk:List Int}{k:Nat}{x y c:Int}(hx:s[k]?=some x)(hy:t[k]?=some y)(h:Ma.meetG s t=(Ma.meetG (s.drop k) (t.drop k)).map (mk++·))(hc:Ma.zep x y=some c):
 Ma.meetG s t=(Ma.meetG (s.drop (k+1)) (t.drop (k+1))).map ((mk++ [c])++·):=by
 rw[h];obtain ⟨h1,rfl⟩:=List.getElem?_eq_some_iff.1 hx;obtain ⟨h2,rfl⟩:=List.getElem?_eq_some_iff.1 hy;rw[List.drop_eq_getElem_cons h1,List.drop_eq_getElem_cons h2];rw[zjp,hc];cases Ma.meetG (s.drop (k+1)) (t.drop (k+1)) with
 |none=>rfl
 |some u=>simp
theorem zu4{s t mk:List Int}{k:Nat}{x y:Int}(hx:s[k]?=some x)(hy:t[k]?=some y)(h:Ma.meetG s t=(Ma.meetG (s.drop k) (t.drop k)).map (mk++·))(hc:Ma.zep x y=none):
 Ma.meetG s t=none:=by
 rw[h];obtain ⟨h1,rfl⟩:=List.getElem?_eq_some_iff.1 hx;obtain ⟨h2,rfl⟩:=List.getElem?_eq_some_iff.1 hy;rw[List.drop_eq_getElem_cons h1,List.drop_eq_getElem_cons h2];rw[zjp,hc];cases Ma.meetG (s.drop (k+1)) (t.drop (k+1)) <;> rfl
def ziz(w:World)(r:Option (List Int))(e:Ending)(w':World):Prop:=
 Below w.heap.size w w'/\match r with
 |none=>e=jr (.tuple #[.slice none 0 0,.bool false])
 |some l=>∃v,e=jr (.tuple #[v,.bool true])/\Rd w.heap.size w' v l
def Bp69(h:jp:=by exact zu5 HX.out.1 HX.out.2 HF.out hc):=h
def M79(h:jp:=by
 have HC:=jH Bp69;have ho9:wr.ownsRow w.heap.size TS 1 (jP g1 0 n cap1) n (u8s ((mk++ [x])++s.drop (k+1))):=by rw[<-same_mk HX.out.1];exact HO.out
 clear hc HF;go_wp2_with fail;go_quiet (fail);have hb9:=below_drewN hb nq;go_wp2_with fail;go_roundw
 case rel=>exact ⟨k+1,mk++ [x],by omega,by go_num,zci ho9 (below_drewN jB nq),by simp[HM.out],hb9,HC⟩
 case measure=>simp[intOf];omega):=h
theorem meet_len(sa ta:Option Addr)(n sc m tc:Nat)(w:World)(hq:(n==m)=false):Calls prog 26 #[.slice sa n sc,.slice ta m tc] w (ziz w none):=by
 have t1:((n:Int) !=(m:Int))=true:=by simp at hq ⊢;omega
 have t2:(n !=m)=true:=by simp at hq ⊢;omega
 go_enter func26,ntmps26;go_wp2;go_ret2;exact ⟨jB,rfl⟩
theorem meet_nil(ta:Option Addr)(tc:Nat)(w:World):Calls prog 26 #[jZ,.slice ta 0 tc] w (ziz w (some [])):=by
 obtain ⟨i0,hi,hz0,hz1,hz2⟩:=info_parts znx;go_enter func26,ntmps26;go_wp2_with (first|(at_builtin;refine wpList_append_own_none rfl _ _ 79 rfl w.heap.size TS i0 1 underlying79 hi _ _ _ rfl Bp27 rfl ?_)|fail);go_loopw [7,17,20,33] (fun _ i _ _ wr=>i=jI 0/\Below w.heap.size w wr) (fun _ i _ _ _=>1-(intOf i).toNat)
 case atStart=>exact ⟨rfl,jB⟩
 case round=>
  obtain ⟨rfl,hb⟩:=hrel;go_wp2;go_ret2;exact ⟨hb,_,rfl,Rd.nil _ _⟩
theorem zu2(g cap:Nat)(ta:Option Addr)(tc:Nat)(w:World):Calls prog 26 #[jP g 0 0 cap,.slice ta 0 tc] w (ziz w (some [])):=by
 obtain ⟨i0,hi,hz0,hz1,hz2⟩:=info_parts znx;go_enter func26,ntmps26;go_wp2_with (first|(at_builtin;refine wpList_append_own _ rfl _ _ 79 rfl w.heap.size TS i0 _ 1 1 underlying79 hi hz0 hz1 hz2 rfl B3 _ _ _ rfl Bp27 (jA g 0) 0 cap [] rfl rfl (fun j u hj=>by cases hj) (fun u hu=>by cases hu) B3 B3 jE ?_)|fail);intro v1 w1 hown hgrow hiff;have hv:v1=jZ:=by first|exact hiff|exact hiff.2 ⟨rfl,rfl⟩
 have hb1:Below w.heap.size w w1:=jB.grown hgrow jE (fun k e=>by cases e);rw[hv];clear hown hgrow hiff hv;go_wp2_with fail;go_loopw [7,17,20,33] (fun _ i _ _ wr=>i=jI 0/\Below w.heap.size w wr) (fun _ i _ _ _=>1-(intOf i).toNat)
 case atStart=>exact ⟨rfl,hb1⟩
 case round=>
  obtain ⟨rfl,hb⟩:=hrel;go_wp2;go_ret2;exact ⟨hb,_,rfl,Rd.nil _ _⟩
theorem set_mid{α:Type}(l1 l2:List α)(a b:α)(n:Nat)(h:l1.length=n):(l1++a::l2).set n b=l1++b::l2:=by subst h;simp[List.set_append]
theorem get_mid{α:Type}(l1 l2:List α)(a:α)(n:Nat)(h:l1.length=n):(l1++a::l2)[n]?=some a:=by subst h;simp
section
variable{mk s:List Int}{k:Nat}
include mk s k
theorem set_mk{x c:Int}(hm:mk.length=k)(hx:s[k]?=some x):(u8s (mk++s.drop k)).set k (.int .u8 c)=u8s ((mk++ [c])++s.drop (k+1)):=by
 obtain ⟨h1,rfl⟩:=List.getElem?_eq_some_iff.1 hx;rw[List.drop_eq_getElem_cons h1,List.append_assoc];unfold u8s;rw[List.map_append,List.map_cons,set_mid _ _ _ _ _ B200,List.map_append];rfl
theorem same_mk{x:Int}(hx:s[k]?=some x):mk++s.drop k=(mk++ [x])++s.drop (k+1):=by
 obtain ⟨h1,rfl⟩:=List.getElem?_eq_some_iff.1 hx;rw[List.drop_eq_getElem_cons h1];simp
theorem get_mk{x:Int}(hm:mk.length=k)(hx:s[k]?=some x):(u8s (mk++s.drop k))[k]?=some (.int .u8 x):=by
 obtain ⟨h1,rfl⟩:=List.getElem?_eq_some_iff.1 hx;rw[List.drop_eq_getElem_cons h1];unfold u8s;rw[List.map_append,List.map_cons,get_mid _ _ _ _ B200]
end
theorem zu3(ls lt g h n sc tc:Nat)(s t:List Int)(w:World)(hs:Rd ls w (jP g 0 n sc) s)(ht:Rd lt w (jP h 0 n tc) t)(hn:n=s.length)(hm:n=t.length)(hl:n<=1000000)(h0:0<n)(r:Option (List Int))(hr:Hid (Ma.meetG s t=r)):
 Calls prog 26 #[jP g 0 n sc,jP h 0 n tc] w (ziz w r):=by
 obtain ⟨i0,hi,hz0,hz1,hz2⟩:=info_parts znx;obtain ⟨hh,htc⟩:=ht.get;have Ht:=jH htc;have HS:=jH hs;have HN:=jH (And.intro hn hm);have Q2:=jH (show 0+s.length<=maxLen by unfold maxLen;omega);have Q3:=jH (show (0+s.length)*1<=140737488355328 by omega);clear htc hs ht hn hm;go_enter func26,ntmps26;go_wp2_with (first|(at_builtin;refine wpList_append_rd _ rfl _ _ 79 79 rfl w.heap.size ls TS TS i0 _ 1 underlying79 underlying79 hi hz0 hz1 hz2 rfl _ _ _ rfl Bp27 _ s rfl HS.out Q2.out Q3.out jE ?_)|fail);intro v1 w1 hown hgrow;have hb1:Below w.heap.size w w1:=jB.grown hgrow jE (fun k e=>by cases e)
 try simp only[Nat.zero_add,List.nil_append] at hown
 rw[<-HN.out.1] at hown;obtain ⟨g1,cap1,rfl⟩:∃g1 cap1,v1= .slice (some ⟨g1,0,none⟩) n cap1:=by
  rcases hown.2 with ⟨rfl,e⟩|⟨g1,cap,cur,rfl,_⟩
  .omega
  .exact ⟨_,_,rfl⟩
 clear hgrow;go_wp2_with fail;go_loopw [7,17,20,33] (fun _ i _ _ wr=>∃(k:Nat) (mk:List Int),k<=n/\i=jI (k:Int)/\wr.ownsRow w.heap.size TS 1 (jP g1 0 n cap1) n (u8s (mk++s.drop k))/\mk.length=k/\Below w.heap.size w wr/\Hid (Ma.meetG s t=(Ma.meetG (s.drop k) (t.drop k)).map (mk++·))) (fun _ i _ _ _=>n-(intOf i).toNat)
 case atStart=>exact ⟨0,[],Nat.zero_le _,rfl,hown,rfl,hb1,jH B7⟩
 case round=>
  obtain ⟨k,mk,hk,rfl,ho,hmk,hb,HF⟩:=hrel;have HM:=jH hmk;clear hmk
  by_cases hlt:k<n
  .obtain ⟨x,hx⟩:∃x,s[k]?=some x:=⟨_,List.getElem?_eq_getElem (by have:=HN.out.1;omega)⟩;obtain ⟨y,hy⟩:∃y,t[k]?=some y:=⟨_,List.getElem?_eq_getElem (by have:=HN.out.2;omega)⟩;have hg1:=ho.lt g1 rfl;have cx:=World.ownsRow.cells ho (g:=g1) rfl k _ (get_mk HM.out hx);have hadd:((jA g1 0):Addr).add k=(jA g1 k):=B16;rw[hadd] at cx;have cy:=jQ hb (Ht.out k y hy) hh;have hfz:wr.frozen? (jA g1 k)=false:=by
    rcases ho.2 with ⟨e,_⟩|⟨g2,cap,cur,e,_,hg2,_⟩
    .cases e
    .cases e;exact frozen_of_row wr g1 k _ _ hg2
   have HX:=jH (And.intro hx hy);have hgl:=hg1.2;have hbg:=hg1.1;have HO:=jH ho;clear hx hy hg1 hadd ho;cases h1:(x==69)
   .cases h2:(y !=69)
    .have hc:Ma.zep x y=some x:=by unfold Ma.zep;rw[h1,h2];rfl
     exact M79
    .cases h3:(y !=x)
     .have hc:Ma.zep x y=some x:=by unfold Ma.zep;rw[h1,h2,h3];rfl
      exact M79
     .have hc:Ma.zep x y=none:=by unfold Ma.zep;rw[h1,h2,h3];rfl
      have HC:=jH (zu4 HX.out.1 HX.out.2 HF.out hc);clear hc HF;go_wp2_with fail;go_quiet (fail);have hb9:=below_drewN hb nq;go_wp2_with fail;go_ret2;rw[<-hr.out,HC.out];exact ⟨hb9,rfl⟩
   .have hc:Ma.zep x y=some y:=by unfold Ma.zep;rw[h1];rfl
    have HC:=jH Bp69;have ho9:=zul (k:=k) (.int .u8 y) HO.out;rw[set_mk HM.out HX.out.1] at ho9;have hb9:Below w.heap.size w (wr.setCell (jA g1 k) (.int .u8 y)):=hb.setCell (p:=(jA g1 k)) hbg _;clear hc HF;go_wp2_with fail;go_roundw
    case rel=>exact ⟨k+1,mk++ [y],by omega,by go_num,ho9,by simp[HM.out],hb9,HC⟩
    case measure=>simp[intOf];omega
  .obtain rfl:k=n:=by omega
   go_wp2_with fail;go_ret2;have e1:s.drop k=[]:=List.drop_eq_nil_of_le (by have:=HN.out.1;omega);have e2:t.drop k=[]:=List.drop_eq_nil_of_le (by have:=HN.out.2;omega);rw[<-hr.out,HF.out,e1,e2];rw[e1,List.append_nil] at ho;refine ⟨hb,_,rfl,?_⟩;show Rd _ _ _ (mk++ []);rw[List.append_nil];exact Rd.of_own (size:=1) HM.out.symm ho jE
theorem meet_any(ls lt:Nat)(sv tv:Value)(s t:List Int)(w:World)(hs:Rd ls w sv s)(ht:Rd lt w tv t)(hl:s.length<=1000000):Calls prog 26 #[sv,tv] w (ziz w (Ma.meet s t)):=by
 unfold Ma.meet;cases hq:(s.length==t.length)
 .obtain ⟨a,c,rfl⟩:=hs.any;obtain ⟨a2,c2,rfl⟩:=ht.any;exact meet_len a a2 _ c _ c2 w hq
 .have e:s.length=t.length:=by simpa using hq
  by_cases h0:s.length=0
  .obtain rfl:=List.eq_nil_of_length_eq_zero h0;obtain rfl:=List.eq_nil_of_length_eq_zero (e.symm.trans h0);obtain ⟨a2,c2,rfl⟩:=ht.any;rcases hs with ⟨rfl,_⟩|⟨g,cap,rfl,_⟩
   .exact meet_nil a2 c2 w
   .exact zu2 g cap a2 c2 w
  .obtain ⟨g,sc,rfl⟩:=hs.some B1;obtain ⟨g2,tc,rfl⟩:=ht.some B1;rw[<-e] at ht ⊢;exact zu3 ls lt g g2 s.length sc tc s t w hs ht rfl e hl B1 _ (jH rfl)
abbrev TFn:TypeId:=105
def M200(h:jp:=by
 refine ⟨?_,?_,?_,?_⟩ <;> (rw[Lib.cell_of_heap h];rfl)):=h
def M30(h:jp:=by
 have hx0:=hx;obtain ⟨hlt,c0,c1,c2,c3,c4,c5⟩:=hx;go_enter func50,ntmps50;go_wp2_with fail;refine jM (HI.out _) ?_;intro w1 hb1;go_wp2_with fail;have hb:Below w.heap.size w (w1.alloc (.cells #[jS nm,jI cl,jI mn,jI mx] TFn)):=hb1.alloc hb1.size _;have hB:=heap_alloc_new w1 (.cells #[jS nm,jI cl,jI mn,jI mx] TFn);generalize hBB:w1.heap.size=B at *;generalize w1.alloc (.cells #[jS nm,jI cl,jI mn,jI mx] TFn)=w2 at *;obtain ⟨f0,f1,f2,f3⟩:=zk2 hB;have hBl:B<w2.heap.size:=(jg hB);clear c0 c1 c2 c3 c4 c5 hBB;obtain ⟨hlt,c0,c1,c2,c3,c4,c5⟩:=hx0.below hlt hb;go_quiet (fail);have hb9:Below w.heap.size w (w2.drewN nq):=below_drewN hb nq;go_wp2_with fail;go_ret;exact ⟨rfl,hb9⟩):=h
def M14(h:jp:=by
 have HC:=jH hc;have HN:=jH hn;clear hc hn;have hx0:=hx;obtain ⟨hlt,c0,c1,c2,c3,c4,c5⟩:=hx;go_enter func50,ntmps50;go_wp2_with fail;refine jM (HI.out _) ?_;intro w1 hb1;go_wp2_with fail;have hb:Below w.heap.size w (w1.alloc (.cells #[jS nm,jI cl,jI mn,jI mx] TFn)):=hb1.alloc hb1.size _;have hB:=heap_alloc_new w1 (.cells #[jS nm,jI cl,jI mn,jI mx] TFn);generalize hBB:w1.heap.size=B at *;generalize w1.alloc (.cells #[jS nm,jI cl,jI mn,jI mx] TFn)=w2 at *;obtain ⟨f0,f1,f2,f3⟩:=zk2 hB;have hBl:B<w2.heap.size:=(jg hB);clear c0 c1 c2 c3 c4 c5 hBB;obtain ⟨hlt,c0,c1,c2,c3,c4,c5⟩:=hx0.below hlt hb;go_quiet (fail);have hb9:Below w.heap.size w (w2.drewN nq):=below_drewN hb nq;have hBq:(w2.drewN nq).heap[B]?=some (.cells #[jS nm,jI cl,jI mn,jI mx] TFn (0,0)):=((below_drewN jB nq).block _ hBl).trans hB;generalize w2.drewN nq=w3 at *;clear f0 f1 f2 f3 c0 c1 c2 c3 c4 c5 hB hb hBl t0 t1 t2;go_wp2_with fail;go_loopw [8,44] (fun _ i wr=>∃k:Nat,k<=n/\i=jI (k:Int)/\wr=w3/\Hid (cs.contains cl=(cs.drop k).contains cl)) (fun _ i _=>n-(intOf i).toNat)
 case atStart=>exact ⟨0,Nat.zero_le _,rfl,rfl,jH rfl⟩
 case round=>
  obtain ⟨k,hk,rfl,rfl,HK⟩:=hrel;obtain ⟨f0,f1,f2,f3⟩:=zk2 hBq;have hBl:B<wr.heap.size:=(jg hBq)
  by_cases hlt2:k<n
  .obtain ⟨y,hy⟩:∃y,cs[k]?=some y:=⟨_,List.getElem?_eq_getElem B68⟩;obtain ⟨gt,ot,tcap,e1,hgt,htc⟩:=HC.out.some B92;rw[HN.out] at e1;cases e1;have ck:=jQ hb9 (htc k y hy) hgt;have HD:=jH (show (cs.drop k).contains cl=(cl==y||(cs.drop (k+1)).contains cl) by
    obtain ⟨h1,rfl⟩:=List.getElem?_eq_some_iff.1 hy;rw[List.drop_eq_getElem_cons h1,List.contains_cons])
   clear htc hy;cases h1:(cl==y)
   .go_wp2_with fail;go_roundw
    case rel=>exact ⟨k+1,by omega,by go_num,by first|rfl|trivial,jH (by rw[HK.out,HD.out,h1];rfl)⟩
    case measure=>simp[intOf];omega
   .go_wp2_with fail;go_ret;exact ⟨by rw[<-hq.out,HK.out,HD.out,h1];rfl,hb9⟩
  .obtain rfl:k=n:=by omega
   go_wp2_with fail;go_ret;refine ⟨?_,hb9⟩;rw[<-hq.out,HK.out,List.drop_eq_nil_of_le B80];rfl):=h
def M188(h:jp:=by
 go_wp2_with fail;refine jM HF.out ?_;intro w1 hb1;have hb:=jN hbl hb1;go_wp2_with fail;go_ret;exact ⟨rfl,hb⟩):=h
theorem zk2{w:World}{B:Nat}{nm:ByteArray}{cl mn mx:Int}(h:w.heap[B]?=some (.cells #[jS nm,jI cl,jI mn,jI mx] TFn (0,0))):
 w.cell? (jA B 0)=some (jS nm)/\w.cell? (jA B 1)=some (jI cl)/\w.cell? (jA B 2)=some (jI mn)/\w.cell? (jA B 3)=some (jI mx):=by
 exact M200
section
variable(g o:Nat)(op a b c d:Int)(T:Value)(nm:ByteArray)(cl mn mx e0:Int)(sa:Option Addr)(n sc:Nat)(w:World)(hx:InsAt w g o op a b c d T)(HI:Hid (∀u,Ret 55 #[jI a] u (.tuple #[.agg #[jS nm,jI cl,jI mn,jI mx],jI e0])))
include g o op a b c d T nm cl mn mx e0 sa n sc w hx HI
theorem func_e(t0:(e0 !=0)=true):Ret 50 #[PI g o,.slice sa n sc] w (.bool false):=by
 exact M30
section
variable(t0:(e0 !=0)=false)
include t0
theorem func_mn(t1:decide (b<mn)=true):Ret 50 #[PI g o,.slice sa n sc] w (.bool false):=by
 exact M30
section
variable(t1:decide (b<mn)=false)
include t1
theorem func_mx(t2:decide (0<=mx)=true)(t3:decide (mx<b)=true):Ret 50 #[PI g o,.slice sa n sc] w (.bool false):=by
 exact M30
theorem func_goa(t2:decide (0<=mx)=true)(t3:decide (mx<b)=false)(cs:List Int)(hn:cs.length=n)(hnl:n<=1000)(hc:IRd w (.slice sa n sc) cs)(q:Bool)(hq:Hid (cs.contains cl=q)):Ret 50 #[PI g o,.slice sa n sc] w (.bool q):=by
 exact M14
theorem func_gob(t2:decide (0<=mx)=false)(cs:List Int)(hn:cs.length=n)(hnl:n<=1000)(hc:IRd w (.slice sa n sc) cs)(q:Bool)(hq:Hid (cs.contains cl=q)):Ret 50 #[PI g o,.slice sa n sc] w (.bool q):=by
 exact M14
end
end
end
section
variable(g o:Nat)(op a b c d:Int)(T:Value)(x:Ma.Ins)(hxa:x.a=a)(hxb:x.b=b)
include g o op a b c d T x hxa hxb
theorem zp6(cs:List Int)(cv:Value)(w:World)(hx:InsAt w g o op a b c d T)(hc:IRd w cv cs)(hl:cs.length<=1000):Ret 50 #[PI g o,cv] w (.bool (Ma.funcOf x cs)):=by
 subst hxa hxb;have HI:=zd4 x.a;unfold Ma.funcOf;generalize infoV x.a=r at HI ⊢;obtain ⟨⟨nm,cl,mn,mx⟩,e0⟩:=r;obtain ⟨sa,sc,rfl⟩:=hc.any;show Calls _ _ _ w fun e w'=>e=jr (.bool (cond (e0 !=0||decide (x.b<mn)||(decide (0<=mx)&&decide (mx<x.b))) false (cs.contains cl)))/\_;cases t0:(e0 !=0)
 case true=>exact func_e g o op x.a x.b c d T nm cl mn mx e0 sa _ sc w hx (jH HI) t0
 cases t1:decide (x.b<mn)
 case true=>exact func_mn g o op x.a x.b c d T nm cl mn mx e0 sa _ sc w hx (jH HI) t0 t1
 cases t2:decide (0<=mx)
 case false=>exact func_gob g o op x.a x.b c d T nm cl mn mx e0 sa _ sc w hx (jH HI) t0 t1 t2 cs rfl hl hc _ (jH rfl)
 cases t3:decide (mx<x.b)
 case true=>exact func_mx g o op x.a x.b c d T nm cl mn mx e0 sa _ sc w hx (jH HI) t0 t1 t2 t3
 exact func_goa g o op x.a x.b c d T nm cl mn mx e0 sa _ sc w hx (jH HI) t0 t1 t2 t3 cs rfl hl hc _ (jH rfl)
section
variable(w:World)(hx:InsAt w g o op a b c d T)
include w hx
theorem zwd:Ret 49 #[PI g o] w (.bool (Ma.funcOf x [1,2])):=by
 have hbl:Below w.heap.size w (w.alloc (Obj.cells #[jI 1,jI 2] 3)):=below1 _ _;have HF:=jH (zp6 g o op a b c d T x hxa hxb [1,2] _ _ (hx.below hx.lt hbl) (ird_lit2 w 1 2) B3);generalize Ma.funcOf x [1,2]=q at *;go_enter func49,ntmps49;exact M188
theorem zwa:Ret 59 #[PI g o] w (.bool (Ma.funcOf x [6])):=by
 have hbl:Below w.heap.size w (w.alloc (Obj.cells #[jI 6] 3)):=below1 _ _;have HF:=jH (zp6 g o op a b c d T x hxa hxb [6] _ _ (hx.below hx.lt hbl) (ird_lit1 w 6) B3);generalize Ma.funcOf x [6]=q at *;go_enter func59,ntmps59;exact M188
end
end
theorem zr0(g o:Nat)(op a b c d:Int)(T:Value)(b1:Nat)(ca:Option Addr)(n cc:Nat)(hn:n<=1000000)(w:World)(hx:InsAt w g o op a b c d T)(hb1:b1<w.heap.size)(hbc:w.cell? (jA b1 0)=some (.slice ca n cc)):
 Ret 39 #[PI g o,PT b1] w (.bool (decide (0<=a)&&decide (a<=(n:Int)-1))):=by
 have HW:=jH fun u=>zcu a 0 ((n:Int)-1) u;generalize (decide (0<=a)&&decide (a<=(n:Int)-1))=q at HW ⊢;have hw:IntKind.i64.wrap ((n:Int)-1)=(n:Int)-1:=B13;obtain ⟨hlt,c0,c1,c2,c3,c4,c5⟩:=hx;go_enter func39,ntmps39;go_wp2_with fail;go_still_tail 7,(by kernel_rfl);exact M82
