import Derived.Laws.AppendOwnNone
import Derived.Laws.EntriesVeiled
import Derived.Test.YtoffmfgaohjjpaaGreatDoorQ00
set_option linter.unusedVariables false
set_option linter.unusedSectionVars false
set_option linter.unusedSimpArgs false
open Go.Proofs.Tryz
set_option maxHeartbeats 8000000
variable{jp:Sort _}
set_option maxRecDepth 100000
namespace Go.Proofs.YtoffmfgaohjjpaaGreatDoor
section
section
open Go.RowKit
def zjl(P:Program):List Oper->Act->World->Option (Act×World)
 |[],a,w=>some (a,w)
 |o::r,a,w=>
  match o.guard,(execOp a.eval o).run P w with
  |none,.ok (.value v) w'=>zjl P r (a.put o.dst v) w'
  |none,.ok .skip w'=>zjl P r (a.put o.dst undef) w'
  |_,_=>none
theorem zdw{P:Program}{ops:Array Oper}{Q:Exit->Act->World->Prop}{a1:Act}{w1:World}(hQ:Q .normal a1 w1):∀(l:List Oper) (a:Act) (w:World),zjl P l a w=some (a1,w1)->wpList P ops Q l a w
 |[],a,w,h=>by
  cases h;exact hQ
 |o::r,a,w,h=>by
  unfold zjl at h;split at h
  .rename_i hg hrun
   refine wpList_plain hg fun K hK=> ?_;unfold Oper.wp;rw[hrun,Oper.upon_value];exact hK _ _ (zdw hQ r _ _ h)
  .rename_i hg hrun
   refine wpList_plain hg fun K hK=> ?_;unfold Oper.wp;rw[hrun,Oper.upon_skip];exact hK _ _ (zdw hQ r _ _ h)
  .cases h
theorem zj2{P:Program}{id:Nat}{ops:Array Oper}{Q:Exit->Act->World->Prop}{a:Act}{w w1:World}(k:Nat)(v:Value)(h:(zjl P ops.toList a w).map (fun p=>(p.1.defers,p.1.tmps[k]?,p.2))=some ([],some v,w1))(hQ:∀a1:Act,a1.defers=[]->a1.tmps[k]?=some v->Q .normal a1 w1):(Code.region id ops false).wp P Q a w:=by
 refine wp_region_list ?_;cases hr:zjl P ops.toList a w with
 |none=>rw[hr] at h;cases h
 |some p=>
  obtain ⟨a1,w2⟩:=p;rw[hr] at h;simp only[Option.map_some,Option.some.injEq,Prod.mk.injEq] at h;obtain ⟨h1,h2,rfl⟩:=h;exact zdw (hQ a1 h1 h2) _ _ _ hr
def zl7:List (ByteArray×Int×Int×Int):=[(⟨#[65,66,83]⟩,1,1,1),(⟨#[83,73,71,78]⟩,1,1,1),(⟨#[77,79,68]⟩,1,2,2),(⟨#[81,85,79,84,73,69,78,84]⟩,1,2,2),(⟨#[80,79,87,69,82]⟩,1,2,2),(⟨#[71,67,68]⟩,1,2,2),(⟨#[76,67,77]⟩,1,2,2),(⟨#[70,65,67,84]⟩,1,1,1),(⟨#[73,83,69,86,69,78]⟩,1,1,1),(⟨#[73,83,79,68,68]⟩,1,1,1),(⟨#[66,73,84,65,78,68]⟩,1,2,2),(⟨#[66,73,84,79,82]⟩,1,2,2),(⟨#[66,73,84,88,79,82]⟩,1,2,2),(⟨#[78,79,84]⟩,1,1,1),(⟨#[67,76,65,77,80]⟩,1,3,3),(⟨#[76,69,78]⟩,1,1,1),(⟨#[76,69,70,84]⟩,1,1,2),(⟨#[82,73,71,72,84]⟩,1,1,2),(⟨#[77,73,68]⟩,1,3,3),(⟨#[85,80,80,69,82]⟩,1,1,1),(⟨#[76,79,87,69,82]⟩,1,1,1),(⟨#[84,82,73,77]⟩,1,1,1),(⟨#[82,69,86,69,82,83,69]⟩,1,1,1),(⟨#[70,73,78,68]⟩,1,2,3),(⟨#[83,85,66,83,84,73,84,85,84,69]⟩,1,3,3),(⟨#[82,69,80,76,65,67,69]⟩,1,4,4),(⟨#[82,69,80,84]⟩,1,2,2),(⟨#[69,88,65,67,84]⟩,1,2,2),(⟨#[67,79,68,69]⟩,1,1,1),(⟨#[67,72,65,82]⟩,1,1,1),(⟨#[86,65,76,85,69]⟩,1,1,1),(⟨#[84,69,88,84]⟩,1,1,1),(⟨#[78]⟩,1,1,1),(⟨#[84]⟩,1,1,1),(⟨#[78,65]⟩,1,0,0),(⟨#[73,83,66,76,65,78,75]⟩,2,1,1),(⟨#[73,83,78,85,77,66,69,82]⟩,2,1,1),(⟨#[73,83,84,69,88,84]⟩,2,1,1),(⟨#[73,83,76,79,71,73,67,65,76]⟩,2,1,1),(⟨#[73,83,69,82,82,79,82]⟩,2,1,1),(⟨#[73,83,78,65]⟩,2,1,1),(⟨#[73,70]⟩,3,2,3),(⟨#[73,70,69,82,82,79,82]⟩,3,2,2),(⟨#[73,70,78,65]⟩,3,2,2),(⟨#[67,72,79,79,83,69]⟩,3,2,-1),(⟨#[83,87,73,84,67,72]⟩,3,3,-1),(⟨#[82,79,87]⟩,4,0,1),(⟨#[67,79,76,85,77,78]⟩,4,0,1),(⟨#[82,79,87,83]⟩,4,1,1),(⟨#[67,79,76,85,77,78,83]⟩,4,1,1),(⟨#[73,78,68,73,82,69,67,84]⟩,5,1,1),(⟨#[79,70,70,83,69,84]⟩,5,3,5),(⟨#[73,78,68,69,88]⟩,5,2,3),(⟨#[83,85,77]⟩,6,1,-1),(⟨#[80,82,79,68,85,67,84]⟩,6,1,-1),(⟨#[67,79,85,78,84]⟩,6,1,-1),(⟨#[67,79,85,78,84,65]⟩,6,1,-1),(⟨#[67,79,85,78,84,66,76,65,78,75]⟩,6,1,-1),(⟨#[77,73,78]⟩,6,1,-1),(⟨#[77,65,88]⟩,6,1,-1),(⟨#[65,86,69,82,65,71,69]⟩,6,1,-1),(⟨#[77,69,68,73,65,78]⟩,6,1,-1),(⟨#[76,65,82,71,69]⟩,6,2,2),(⟨#[83,77,65,76,76]⟩,6,2,2),(⟨#[65,78,68]⟩,6,1,-1),(⟨#[79,82]⟩,6,1,-1),(⟨#[88,79,82]⟩,6,1,-1),(⟨#[67,79,78,67,65,84]⟩,6,1,-1),(⟨#[74,79,73,78]⟩,6,2,-1),(⟨#[77,65,84,67,72]⟩,6,2,2),(⟨#[86,76,79,79,75,85,80]⟩,6,3,3),(⟨#[72,76,79,79,75,85,80]⟩,6,3,3),(⟨#[83,85,77,73,70]⟩,6,2,3),(⟨#[67,79,85,78,84,73,70]⟩,6,2,2),(⟨#[83,85,77,80,82,79,68,85,67,84]⟩,6,2,2),(⟨#[70,73,82,83,84]⟩,6,1,-1)]
def infoC(L:List (ByteArray×Int×Int×Int)):List Value:=L.flatMap fun r=> [jS r.1,jI r.2.1,jI r.2.2.1,jI r.2.2.2]
theorem zu7(w:World):Calls prog 83 #[] w fun e w'=>e=jr (jP w.heap.size 0 76 76)/\w'=w.alloc (.cells (infoC zl7).toArray 105 (0,0)):=by
 go_enter func83,ntmps83;refine wp_seq ?_;refine wp_region_list (zdw (a1:={tmps:=(Array.replicate 78 undef).setIfInBounds 0 jZ,defers:=[]}) (w1:=w) ?_ _ _ _ (by kernel_rfl));simp only[Exit.then];refine wp_seq ?_;refine zj2 0 (jP w.heap.size 0 76 76) (w1:=w.alloc (.cells (infoC zl7).toArray 105 (0,0))) (by kernel_rfl) ?_;intro a1 h1 h2;simp only[Exit.then];refine wp_ret ?_;exact bodyPost_ret (v:=jP w.heap.size 0 76 76) (by simp[results,results83,h2,go_sem]) h1 ⟨rfl,rfl⟩
theorem zl8:∀(L:List (ByteArray×Int×Int×Int)) (k:Nat) (r:ByteArray×Int×Int×Int),L[k]?=some r->
 (infoC L)[4*k]?=some (jS r.1)/\(infoC L)[4*k+1]?=some (jI r.2.1)/\(infoC L)[4*k+2]?=some (jI r.2.2.1)/\(infoC L)[4*k+3]?=some (jI r.2.2.2)
 |[],k,r,h=>by simp at h
 |x::L,0,r,h=>by
  simp only[List.getElem?_cons_zero,Option.some.injEq] at h;subst h;exact ⟨rfl,rfl,rfl,rfl⟩
 |x::L,k+1,r,h=>by
  have ih:=zl8 L k r B38;have e:∀j,(infoC (x::L))[4*(k+1)+j]?=(infoC L)[4*k+j]?:=fun j=>by
   show ([jS x.1,jI x.2.1,jI x.2.2.1,jI x.2.2.2]++infoC L)[4*(k+1)+j]?=_;rw[List.getElem?_append_right B14]
   congr 1
   simp;omega
  exact ⟨(e 0).trans ih.1,(e 1).trans ih.2.1,(e 2).trans ih.2.2.1,(e 3).trans ih.2.2.2⟩
theorem zv5:zl7.length=76:=B49
def infoV(f:Int):(ByteArray×Int×Int×Int)×Int:=if 1<=f/\f<=76 then (zl7.getD (f-1).toNat (⟨#[]⟩,0,0,0),0) else ((⟨#[]⟩,0,0,0),1)
abbrev rv(r:ByteArray×Int×Int×Int):Value:= .agg #[jS r.1,jI r.2.1,jI r.2.2.1,jI r.2.2.2]
def M148(h:jp:=by
 clear h;go_enter func55,ntmps55;go_wp2;exact jX (.tuple #[.agg #[jS ⟨#[]⟩,jI 0,jI 0,jI 0],jI 1]) (by simp[results,results55,go_sem]) ⟨rfl,jB.alloc jE _⟩):=h
def B117(h:jp:=by simp[results,results128,go_sem,x0,x1,x2]):=h
def C19(h:jp:=by
 go_wp2_with fail;refine jM (HE.out _) ?_;intro w1 hb1;have hx:=(hb1.block w.heap.size B7).trans Bp4;have hs:Below w.heap.size w w1:=zbe hb1;clear hb1;obtain ⟨x0,x1,x2⟩:=zaa hx;obtain ⟨f0,f1,f2⟩:=zab hx;clear hx;exact K19):=h
def X93.K19(h:jp:=by
 go_wp2;exact jX (.agg #[jI 1,jI n,jS ⟨#[]⟩]) B117 ⟨rfl,set3 hs B7⟩):=h
def X94.K19(h:jp:=by
 go_wp2;exact jX (.agg #[jI 4,jI 5,jS ⟨#[]⟩]) B117 ⟨rfl,set3 hs B7⟩):=h
def X95.K19(h:jp:=by
 go_wp2;exact jX (.agg #[jI 4,jI 2,jS ⟨#[]⟩]) B117 ⟨rfl,set3 hs B7⟩):=h
def B118(h:jp:=by simp[results,results131,go_sem,x0,x1,x2]):=h
def M80(h:jp:=by
 have HE:=jH (fun w=>zar 4 w);go_enter func131,ntmps131;go_wp2_with fail;refine jM (HE.out _) ?_;intro w1 hb1;have hx:=(hb1.block w.heap.size B7).trans Bp4;have hs:Below w.heap.size w w1:=zbe hb1;clear hb1;obtain ⟨x0,x1,x2⟩:=zaa hx;obtain ⟨f0,f1,f2⟩:=zab hx;clear hx;go_wp2;exact jX (.agg #[jI 4,jI 4,jS ⟨#[]⟩]) B118 ⟨rfl,set3 hs B7⟩):=h
def X96.K19(h:jp:=by
 go_wp2;exact jX (.agg #[jI 3,jI 0,jS s]) B118 ⟨rfl,set3 hs B7⟩):=h
def X97.K19(h:jp:=by
 go_wp2;exact jX (.agg #[jI 1,jI n,jS ⟨#[]⟩]) (by simp[results,results126,go_sem,x0,x1,x2]) ⟨rfl,set3 hs B7⟩):=h
def X98.K19(h:jp:=by
 go_wp2;exact jX (.agg #[jI 4,jI 2,jS ⟨#[]⟩]) (by simp[results,results126,go_sem,x0,x1,x2]) ⟨rfl,set3 hs B7⟩):=h
theorem info_in(k:Nat)(hk:k<76)(s:ByteArray)(c a b:Int)(hr:zl7[k]?=some (s,c,a,b))(w:World):Ret 55 #[jI ((k:Int)+1)] w (.tuple #[.agg #[jS s,jI c,jI a,jI b],jI 0]):=by
 obtain ⟨g0,g1,g2,g3⟩:=zl8 _ _ _ hr;have HL:=jH (fun w=>zu7 w);have t1:decide ((k:Int)+1<1)=false:=B14;have t2:decide ((76:Int)<(k:Int)+1)=false:=B14;have e1:IntKind.i64.wrap ((k:Int)+1-1)=(k:Int):=B87;go_enter func55,ntmps55;go_wp2_with fail;refine jM (HL.out _) ?_;intro w1 hb1;have hB:w1.heap[w.heap.size+1]?=some (.cells (infoC zl7).toArray 105 (0,0)):=by
  rw[hb1];have:=heap_alloc_new (w.alloc (.cells #[jS ⟨#[]⟩,jI 0,jI 0,jI 0] 105 (0,0))) (.cells (infoC zl7).toArray 105 (0,0));simpa using this
 have hx:w1.heap[w.heap.size]?=some (.cells #[jS ⟨#[]⟩,jI 0,jI 0,jI 0] 105 (0,0)):=by
  rw[hb1];exact (heap_alloc_old _ _ B7).trans Bp4
 have hs:Below w.heap.size w w1:=by
  rw[hb1];exact (jB.alloc jE _).alloc B7 _
 clear hb1;have c0:w1.cell? (jA (w.heap.size+1) (k*4))=some (jS s):=by simp[World.cell?,hB,Nat.mul_comm k 4,g0]
 have c1:w1.cell? (jA (w.heap.size+1) (k*4+1))=some (jI c):=by simp[World.cell?,hB,Nat.mul_comm k 4,g1]
 have c2:w1.cell? (jA (w.heap.size+1) (k*4+2))=some (jI a):=by simp[World.cell?,hB,Nat.mul_comm k 4,g2]
 have c3:w1.cell? (jA (w.heap.size+1) (k*4+3))=some (jI b):=by simp[World.cell?,hB,Nat.mul_comm k 4,g3]
 clear hB g0 g1 g2 g3;have x0:=ch hx 0;have x1:=ch hx 1;have x2:=ch hx 2;have x3:=ch hx 3;have f0:=Lib.frozen_of_heap hx 0;have f1:=Lib.frozen_of_heap hx 1;have f2:=Lib.frozen_of_heap hx 2;have f3:=Lib.frozen_of_heap hx 3;clear hx;simp at x0 x1 x2 x3;go_wp2;exact jX (.tuple #[.agg #[jS s,jI c,jI a,jI b],jI 0]) (by simp[results,results55,go_sem,x0,x1,x2,x3]) ⟨rfl,(set3 hs B7).setCell (p:=(jA w.heap.size 3)) B7 _⟩
theorem info_lo(f:Int)(h:f<1)(w:World):Ret 55 #[jI f] w (.tuple #[.agg #[jS ⟨#[]⟩,jI 0,jI 0,jI 0],jI 1]):=by
 have t1:decide (f<1)=true:=B14;exact M148
theorem info_hi(f:Int)(h:76<f)(w:World):Ret 55 #[jI f] w (.tuple #[.agg #[jS ⟨#[]⟩,jI 0,jI 0,jI 0],jI 1]):=by
 have t1:decide (f<1)=false:=B14;have t2:decide ((76:Int)<f)=true:=B14;exact M148
theorem zd4(f:Int)(w:World):Ret 55 #[jI f] w (.tuple #[rv (infoV f).1,jI (infoV f).2]):=by
 unfold infoV rv
 by_cases h1:f<1
 .rw[if_neg B1];exact info_lo f h1 w
 .by_cases h2:76<f
  .rw[if_neg B1];exact info_hi f h2 w
  .rw[if_pos B1];obtain ⟨k,hk⟩:=Int.eq_ofNat_of_zero_le (show 0<=f-1 by omega);obtain rfl:f=(k:Int)+1:=B1;have hlt:k<zl7.length:=by rw[zv5];omega
   have e:((k:Int)+1-1).toNat=k:=B1;rw[e,List.getD_eq_getElem?_getD,List.getElem?_eq_getElem hlt];exact info_in k B1 _ _ _ _ (by rw[List.getElem?_eq_getElem hlt];rfl) w
theorem zar(c:Int)(w:World):Ret 124 #[jI c] w (.agg #[jI 4,jI c,jS ⟨#[]⟩]):=by
 go_enter func124,ntmps124;go_wp2;exact jX (.agg #[jI 4,jI c,jS ⟨#[]⟩]) (by simp[results,results124,go_sem]) ⟨rfl,jB.alloc jE _⟩
theorem zda(n:Int)(w:World):Ret 130 #[jI n] w (.agg #[jI 1,jI n,jS ⟨#[]⟩]):=by
 go_enter func130,ntmps130;go_wp2;exact jX (.agg #[jI 1,jI n,jS ⟨#[]⟩]) (by simp[results,results130,go_sem]) ⟨rfl,jB.alloc jE _⟩
theorem zml(s:ByteArray)(w:World):Ret 172 #[jS s] w (.agg #[jI 3,jI 0,jS s]):=by
 go_enter func172,ntmps172;go_wp2;exact jX (.agg #[jI 3,jI 0,jS s]) (by simp[results,results172,go_sem]) ⟨rfl,jB.alloc jE _⟩
theorem ctruth_t(w:World):Ret 132 #[.bool true] w (.agg #[jI 2,jI 1,jS ⟨#[]⟩]):=by
 go_enter func132,ntmps132;go_wp2;exact jX (.agg #[jI 2,jI 1,jS ⟨#[]⟩]) (by simp[results,results132,go_sem]) ⟨rfl,jB.alloc jE _⟩
theorem ctruth_f(w:World):Ret 132 #[.bool false] w (.agg #[jI 2,jI 0,jS ⟨#[]⟩]):=by
 go_enter func132,ntmps132;go_wp2;exact jX (.agg #[jI 2,jI 0,jS ⟨#[]⟩]) (by simp[results,results132,go_sem]) ⟨rfl,jB.alloc jE _⟩
theorem ctold_0(n:Int)(w:World):Ret 128 #[jI n,jI 0] w (.agg #[jI 1,jI n,jS ⟨#[]⟩]):=by
 have HE:=jH (fun w=>zda n w);go_enter func128,ntmps128
 open X93 in exact C19
theorem ctold_14(n:Int)(w:World):Ret 128 #[jI n,jI 14] w (.agg #[jI 4,jI 5,jS ⟨#[]⟩]):=by
 have HE:=jH (fun w=>zar 5 w);go_enter func128,ntmps128
 open X94 in exact C19
theorem ctold_e(n x:Int)(w:World)(h0:(x==0)=false)(h1:(x==14)=false):Ret 128 #[jI n,jI x] w (.agg #[jI 4,jI 2,jS ⟨#[]⟩]):=by
 have HE:=jH (fun w=>zar 2 w);go_enter func128,ntmps128
 open X95 in exact C19
theorem cspelt_e(s:ByteArray)(x:Int)(w:World)(h0:(x !=0)=true):Ret 131 #[jS s,jI x] w (.agg #[jI 4,jI 4,jS ⟨#[]⟩]):=by
 exact M80
theorem zsa(s:ByteArray)(w:World)(h0:decide ((32767:Int)<(s.size:Int))=true):Ret 131 #[jS s,jI 0] w (.agg #[jI 4,jI 4,jS ⟨#[]⟩]):=by
 exact M80
theorem zxh(s:ByteArray)(w:World)(h0:decide ((32767:Int)<(s.size:Int))=false):Ret 131 #[jS s,jI 0] w (.agg #[jI 3,jI 0,jS s]):=by
 have HE:=jH (fun w=>zml s w);go_enter func131,ntmps131
 open X96 in exact C19
theorem cfits_t(n:Int)(w:World):Ret 126 #[jI n,.bool true] w (.agg #[jI 1,jI n,jS ⟨#[]⟩]):=by
 have HE:=jH (fun w=>zda n w);go_enter func126,ntmps126
 open X97 in exact C19
theorem cfits_f(n:Int)(w:World):Ret 126 #[jI n,.bool false] w (.agg #[jI 4,jI 2,jS ⟨#[]⟩]):=by
 have HE:=jH (fun w=>zar 2 w);go_enter func126,ntmps126
 open X98 in exact C19
namespace Cal
def num(n:Int):Val.V:=⟨1,n,⟨#[]⟩⟩
def txt(s:ByteArray):Val.V:=⟨3,0,s⟩
def tru(b:Bool):Val.V:=⟨2,cond b 1 0,⟨#[]⟩⟩
def bad(e:Int):Val.V:=⟨4,e,⟨#[]⟩⟩
def told(n x:Int):Val.V:=cond (x==0) (num n) (cond (x==14) (bad 5) (bad 2))
def spelt(s:ByteArray)(x:Int):Val.V:=cond (x==0&&decide (s.size<=32767)) (txt s) (bad 4)
def fits(n:Int)(b:Bool):Val.V:=cond b (num n) (bad 2)
def zne(op k:Int):Bool:=cond (op==7) (k==0)<|cond (op==8) (k !=0)<|cond (op==9) (decide (k<0))<|cond (op==10) (decide (k<=0))<|cond (op==11) (decide (0<k)) (decide (0<=k))
end Cal
def M103(h:jp:=by
 go_enter func133,ntmps133;go_wp2;go_ret;exact ⟨rfl,rfl⟩):=h
theorem zcc(b:Bool)(w:World):Ret 132 #[.bool b] w (vv (Cal.tru b)):=by
 cases b
 .exact ctruth_f w
 .exact ctruth_t w
theorem zfk(n x:Int)(w:World):Ret 128 #[jI n,jI x] w (vv (Cal.told n x)):=by
 unfold Cal.told;cases h0:(x==0) with
 |true=>obtain rfl:x=0:=by simpa using h0
        exact ctold_0 n w
 |false=>cases h1:(x==14) with
  |true=>obtain rfl:x=14:=by simpa using h1
         exact ctold_14 n w
  |false=>exact ctold_e n x w h0 h1
theorem zc0(s:ByteArray)(x:Int)(w:World):Ret 131 #[jS s,jI x] w (vv (Cal.spelt s x)):=by
 unfold Cal.spelt;cases h0:(x==0) with
 |true=>obtain rfl:x=0:=by simpa using h0
        by_cases h:s.size<=32767
        .rw[decide_eq_true h];exact zxh s w B14
        .rw[decide_eq_false h];exact zsa s w B14
 |false=>exact cspelt_e s x w B71
theorem cfits_any(n:Int)(b:Bool)(w:World):Ret 126 #[jI n,.bool b] w (vv (Cal.fits n b)):=by
 cases b
 .exact cfits_f n w
 .exact cfits_t n w
section
variable(k:Int)(w:World)
include k w
theorem crel_7:Calls prog 133 #[jI 7,jI k] w fun e w'=>e=jr (.bool (k==0))/\w=w':=by
 generalize hb:(k==0)=b;exact M103
theorem crel_8:Calls prog 133 #[jI 8,jI k] w fun e w'=>e=jr (.bool (k !=0))/\w=w':=by
 generalize hb:(k !=0)=b;exact M103
theorem crel_9:Calls prog 133 #[jI 9,jI k] w fun e w'=>e=jr (.bool (decide (k<0)))/\w=w':=by
 generalize hb:(decide (k<0))=b;exact M103
theorem crel_10:Calls prog 133 #[jI 10,jI k] w fun e w'=>e=jr (.bool (decide (k<=0)))/\w=w':=by
 generalize hb:(decide (k<=0))=b;exact M103
theorem crel_11:Calls prog 133 #[jI 11,jI k] w fun e w'=>e=jr (.bool (decide (0<k)))/\w=w':=by
 generalize hb:(decide (0<k))=b;exact M103
theorem crel_12:Calls prog 133 #[jI 12,jI k] w fun e w'=>e=jr (.bool (decide (0<=k)))/\w=w':=by
 generalize hb:(decide (0<=k))=b;exact M103
end
theorem zmm(op k:Int)(h1:7<=op)(h2:op<=12)(w:World):Calls prog 133 #[jI op,jI k] w fun e w'=>e=jr (.bool (Cal.zne op k))/\w=w':=by
 obtain rfl|rfl|rfl|rfl|rfl|rfl:op=7\/op=8\/op=9\/op=10\/op=11\/op=12:=B1
 .exact crel_7 k w
 .exact crel_8 k w
 .exact crel_9 k w
 .exact crel_10 k w
 .exact crel_11 k w
 .exact crel_12 k w
def I64(x:Int):Prop:=-9223372036854775808<=x/\x<=9223372036854775807
def Bin2(f:FuncId)(x y:Int)(u v:Value):Prop:=∀w,Ret f #[jI x,jI y] w (.tuple #[u,v])
theorem zav{f:FuncId}{x y:Int}{u v:Value}(h:∀w,Calls prog f #[jI x,jI y] w fun e w'=>e=jr (.tuple #[u,v])/\w=w'):Bin2 f x y u v:=
 fun w=>(h w).mono fun _ _ ⟨he,hw⟩=> ⟨he,hw▸jB⟩
theorem zfl{f:FuncId}{x y:Int}{u v:Value}(h:∀w,Calls prog f #[jI x,jI y] w fun e w'=>e=jr (.tuple #[u,v])/\∃n,w'=w.drewN n):Bin2 f x y u v:=
 fun w=>(h w).mono fun _ _ ⟨he,n,hw⟩=> ⟨he,by rw[hw];exact ⟨rfl,rfl,rfl,jE,fun _ _=>rfl⟩⟩
theorem zkt{v:Int}(h:¬PowG.Fits v):v < -9223372036854775808\/9223372036854775807<v:=by unfold PowG.Fits at h;omega
namespace Cal
def errV(x:Int):Int×Int:=(Ref.fitV x,cond (Ref.fitB x) 0 13)
def quoV(x y:Int):Int×Int:=if y=0 then (0,14) else errV (x.tdiv y)
def modV(x y:Int):Int×Int:=if y=0 then (0,14) else (Div.modV x y,0)
def gcdV(x y:Int):Int×Int:=errV (Nat.gcd x.natAbs y.natAbs:Nat)
def lcmV(x y:Int):Int×Int:=if x=0\/y=0 then (0,0) else errV (x.natAbs/Nat.gcd x.natAbs y.natAbs*y.natAbs:Nat)
def powV(x y:Int):Int×Int:=if y<0 then (0,13) else errV (x ^ y.toNat)
theorem zk7{v:Int}(h:PowG.Fits v):errV v=(v,0):=by unfold errV;rw[(zfi h).1,(zfi h).2];rfl
theorem zhn{v:Int}(h:¬PowG.Fits v):errV v=(0,13):=by unfold errV;rw[(zc9 h).1,(zc9 h).2];rfl
theorem fitV_in(v:Int):I64 (Ref.fitV v):=by
 by_cases h:PowG.Fits v
 .rw[(zfi h).1];exact h
 .rw[(zc9 h).1];exact ⟨by decide,B3⟩
end Cal
section
variable (x y:Int) (hx:I64 x) (hy:I64 y)
include hx hy
theorem cadd:Bin2 135 x y (jI (Ref.fitV (x+y))) (.bool (Ref.fitB (x+y))):=by
 by_cases h:PowG.Fits (x+y)
 .rw[(zfi h).1,(zfi h).2];exact zav fun w=>zyj x y w h.1 h.2
 .rw[(zc9 h).1,(zc9 h).2];exact zav fun w=>add64_no x y w hx.1 hx.2 hy.1 hy.2 (zkt h)
theorem csub:Bin2 127 x y (jI (Ref.fitV (x-y))) (.bool (Ref.fitB (x-y))):=by
 by_cases h:PowG.Fits (x-y)
 .rw[(zfi h).1,(zfi h).2];exact zav fun w=>ztr x y w h.1 h.2
 .rw[(zc9 h).1,(zc9 h).2];exact zav fun w=>sub64_no x y w hx.1 hx.2 hy.1 hy.2 (zkt h)
theorem cmul:Bin2 100 x y (jI (Ref.fitV (x*y))) (.bool (Ref.fitB (x*y))):=by
 by_cases h:PowG.Fits (x*y)
 .rw[(zfi h).1,(zfi h).2];exact zav fun w=>zlx x y _ w hy.1 hy.2 rfl h.1 h.2
 .rw[(zc9 h).1,(zc9 h).2];exact zav fun w=>zph x y w hx.1 hx.2 hy.1 hy.2 (zkt h)
theorem cquo:Bin2 129 x y (jI (Cal.quoV x y).1) (jI (Cal.quoV x y).2):=by
 unfold Cal.quoV
 by_cases h0:y=0
 .subst h0;exact zav fun w=>quo_zero x w
 .rw[if_neg h0]
  by_cases hm:x=-9223372036854775808/\y=-1
  .obtain ⟨rfl,rfl⟩:=hm;rw[Cal.zhn B3];exact zav fun w=>quo_over w
  .have hm':x=-9223372036854775808->y≠-1:=fun e e2=>hm ⟨e,e2⟩;rw[Cal.zk7 (Div.fits64 x y h0 hx.1 hx.2 hm')];exact zav fun w=>quo_ok x y _ w h0 hm' hx.1 hx.2 rfl
theorem cmod:Bin2 187 x y (jI (Cal.modV x y).1) (jI (Cal.modV x y).2):=by
 have:=hx;unfold Cal.modV
 by_cases h0:y=0
 .subst h0;exact zav fun w=>mod_zero x w
 .rw[if_neg h0];exact zav fun w=>mod_ok x y _ w h0 hy.1 hy.2 rfl
theorem cgcd:Bin2 188 x y (jI (Cal.gcdV x y).1) (jI (Cal.gcdV x y).2):=by
 unfold Cal.gcdV
 by_cases h:Nat.gcd x.natAbs y.natAbs<=9223372036854775807
 .rw[Cal.zk7 B46];exact zfl fun w=>Gcd_ok x y _ w hx.1 hx.2 hy.1 hy.2 rfl h
 .rw[Cal.zhn B46];exact zfl fun w=>Gcd_over x y _ w hx.1 hx.2 hy.1 hy.2 rfl B1
theorem clcm:Bin2 189 x y (jI (Cal.lcmV x y).1) (jI (Cal.lcmV x y).2):=by
 unfold Cal.lcmV
 by_cases h1:x=0
 .subst h1;exact zav fun w=>zmx y w
 .by_cases h2:y=0
  .subst h2;rw[if_pos (.inr rfl)];exact zav fun w=>zyk x w
  .rw[if_neg B1]
   by_cases h:x.natAbs/Nat.gcd x.natAbs y.natAbs*y.natAbs<=9223372036854775807
   .rw[Cal.zk7 B46];exact zfl fun w=>Lcm_ok x y _ _ _ _ _ w h1 h2 hx.1 hx.2 hy.1 hy.2 rfl rfl rfl rfl rfl h
   .rw[Cal.zhn B46];exact zfl fun w=>Lcm_over x y _ _ _ _ _ w h1 h2 hx.1 hx.2 hy.1 hy.2 rfl rfl rfl rfl rfl B1
theorem cpow:Bin2 134 x y (jI (Cal.powV x y).1) (jI (Cal.powV x y).2):=by
 unfold Cal.powV
 by_cases h0:y<0
 .rw[if_pos h0];exact zav fun w=>pow_neg x y w h0
 .rw[if_neg h0];obtain ⟨k,rfl⟩:=Int.eq_ofNat_of_zero_le (show 0<=y by omega);have e:(k:Int).toNat=k:=B1;rw[e];unfold I64 at hy
  by_cases h:PowG.Fits (x ^ k)
  .rw[Cal.zk7 h];exact zav fun w=>zuc x _ _ k w hx.1 hx.2 B1 (zbk h).1 (zbk h).2
  .rw[Cal.zhn h];exact zav fun w=>zuc x _ _ k w hx.1 hx.2 B1 (zhe h).1 (zhe h).2
end
namespace Mb
structure MH where
 ins:Value
 con:Value
 ar:Int
 ac:Int
 ip:Int
 st:Value
 wk:Value
 wr:Int
 wc:Int
 wants:Bool
 over:Bool
 great:Bool
 n:Int
def mc(h:MH):Array Value:=#[h.ins,h.con,jI h.ar,jI h.ac,jI h.ip,h.st,h.wk,jI h.wr,jI h.wc,.bool h.wants,.bool h.over,.bool h.great,jI h.n]
abbrev TM:TypeId:=60
def At(w:World)(B:Nat)(h:MH):Prop:=w.heap[B]?=some (.cells (mc h) TM (0,0))
structure Cells(w:World)(B:Nat)(h:MH):Prop where
 c0:w.cell? (jA B 0)=some h.ins
 c1:w.cell? (jA B 1)=some h.con
 c2:w.cell? (jA B 2)=some (jI h.ar)
 c3:w.cell? (jA B 3)=some (jI h.ac)
 c4:w.cell? (jA B 4)=some (jI h.ip)
 c5:w.cell? (jA B 5)=some h.st
 c6:w.cell? (jA B 6)=some h.wk
 c7:w.cell? (jA B 7)=some (jI h.wr)
 c8:w.cell? (jA B 8)=some (jI h.wc)
 c9:w.cell? (jA B 9)=some (.bool h.wants)
 c10:w.cell? (jA B 10)=some (.bool h.over)
 c11:w.cell? (jA B 11)=some (.bool h.great)
 c12:w.cell? (jA B 12)=some (jI h.n)
 f:∀i,w.frozen? (jA B i)=false
theorem At.cells{w:World}{B:Nat}{h:MH}(k:At w B h):Cells w B h:=by
 constructor
 all_goals first|(rw[Lib.cell_of_heap k];rfl)|exact fun i=>frozen_of_row w B i _ _ k
theorem At.lt{w:World}{B:Nat}{h:MH}(k:At w B h):B<w.heap.size:=(jg k)
theorem At.grown{w w':World}{B:Nat}{h:MH}{row:Option Nat}(k:At w B h)(hg:w.grownBy w' row)(hne:some B≠row):At w' B h:=(hg.block B k.lt hne).trans k
theorem At.below{w w':World}{B:Nat}{h:MH}(k:At w B h)(hb:Below w.heap.size w w'):At w' B h:=(hb.block B k.lt).trans k
theorem zcj(w:World)(B i:Nat)(v:Value):w.grownBy (w.setCell (jA B i) v) (some B):=
 ⟨rfl,rfl,rfl,by simp,fun k _ hne=>heap_setCell_other w _ k v (fun e=>hne B196)⟩
theorem zeq{a b c:World}{row:Option Nat}(h:a.grownBy b row)(k:b.grownBy c row):a.grownBy c row:=
 ⟨k.os.trans h.os,k.tape.trans h.tape,k.output.trans h.output,jR h.size k.size,fun i hi hne=>(k.block i (jL hi h.size) hne).trans (h.block i hi hne)⟩
theorem zer(w:World)(o:Obj)(row:Option Nat):w.grownBy (w.alloc o) row:=
 ⟨rfl,rfl,rfl,by simp,fun k hk _=>Below.heap_alloc w o k hk⟩
theorem zad{w:World}{B:Nat}{cs:Array Value}{T:TypeId}(h:w.heap[B]?=some (.cells cs T (0,0)))(i:Nat)(v:Value):(w.setCell (jA B i) v).heap[B]?=some (.cells (cs.setIfInBounds i v) T (0,0)):=heap_setCell_same w B i cs T v h
theorem zai{w:World}{B:Nat}{x o:Obj}(h:w.heap[B]?=some x):(w.alloc o).heap[B]?=some x:=(Below.heap_alloc w o B (jg h)).trans h
theorem gset{w v:World}{B i:Nat}{x:Value}(h:w.grownBy v (some B)):w.grownBy (v.setCell (jA B i) x) (some B):=zeq h (zcj v B i x)
theorem zwh{w v:World}{row:Option Nat}{o:Obj}(h:w.grownBy v row):w.grownBy (v.alloc o) row:=zeq h (zer v o row)
theorem grefl(w:World)(row:Option Nat):w.grownBy w row:=⟨rfl,rfl,rfl,jE,fun _ _ _=>rfl⟩
abbrev SP(r c:Int):Value:= .agg #[jI r,jI c]
abbrev PT(B:Nat):Value:=jU B 0
def _root_.B4(h:jp:=by repeat (first|exact jB|apply Below.drew|(refine Below.alloc ?_ (by simp) _)|(refine Below.setCell ?_ (by simp) _))):=h
section
variable(B:Nat)(h:MH)
include B h
theorem zsv(w:World)(hB:At w B h):Ret 8 #[PT B] w (.tuple #[cond h.wants (SP h.wr h.wc) (SP 0 0),.bool h.wants]):=by
 obtain ⟨c0,c1,c2,c3,c4,c5,c6,c7,c8,c9,c10,c11,c12,f⟩:=hB.cells;have hlt:=hB.lt;cases t:h.wants
 all_goals rw[t] at c9
 all_goals go_enter func8,ntmps8
 all_goals go_wp2
 .exact jX (.tuple #[SP 0 0,.bool false]) (by simp[results,results8,go_sem]) ⟨rfl,B4⟩
 .exact jX (.tuple #[SP h.wr h.wc,.bool true]) (by simp[results,results8,go_sem]) ⟨rfl,B4⟩
theorem look_any(a:Option Addr)(n cap:Nat)(w:World)(hB:At w B h)(hst:h.st= .slice a n cap):Ret 9 #[PT B] w (.agg #[jI h.ip,jI n,jI h.n,.bool h.over]):=by
 obtain ⟨c0,c1,c2,c3,c4,c5,c6,c7,c8,c9,c10,c11,c12,f⟩:=hB.cells;have hlt:=hB.lt;rw[hst] at c5;go_enter func9,ntmps9;go_wp2_with fail;go_region
 all_goals go_wp2
 all_goals exact jX (.agg #[jI h.ip,jI n,jI h.n,.bool h.over]) (by simp[results,results9,go_sem]) ⟨rfl,B4⟩
theorem zlb(r c:Int)(w:World)(hB:At w B h)(hn:(h.n==65536)=false):Calls prog 28 #[PT B,SP r c] w fun e w'=>e=jr jT/\
 At w' B {h with wr:=r,wc:=c,wants:=true}/\w.grownBy w' (some B):=by
 obtain ⟨c0,c1,c2,c3,c4,c5,c6,c7,c8,c9,c10,c11,c12,f⟩:=hB.cells;have hlt:=hB.lt;go_enter func28,ntmps28;go_wp2;exact jY jT (by simp[results,results28,go_sem]) ⟨rfl,zai (zad (zad (zad hB 7 _) 8 _) 9 _),zwh (gset (gset (gset (grefl _ _))))⟩
theorem zd8(r c:Int)(w:World)(hB:At w B h)(hn:(h.n==65536)=true):Calls prog 28 #[PT B,SP r c] w fun e w'=>e=jr jT/\
 At w' B {h with over:=true,great:=true}/\w.grownBy w' (some B):=by
 obtain ⟨c0,c1,c2,c3,c4,c5,c6,c7,c8,c9,c10,c11,c12,f⟩:=hB.cells;have hlt:=hB.lt;go_enter func28,ntmps28;go_wp2;exact jX jT (by simp[results,results28,go_sem]) ⟨rfl,zai (zad (zad hB 10 _) 11 _),zwh (gset (gset (grefl _ _)))⟩
end
abbrev TA:TypeId:=64
abbrev SA:TypeId:=57
def argC(x:Ma.Arg):List Value:=[.bool x.isA,jI x.a.t,jI x.a.l,jI x.a.b,jI x.a.r,jI x.v.k,jI x.v.n,jS x.v.t]
abbrev argV(x:Ma.Arg):Value:= .agg #[.bool x.isA,jI x.a.t,jI x.a.l,jI x.a.b,jI x.a.r,jI x.v.k,jI x.v.n,jS x.v.t]
def argsC(l:List Ma.Arg):List Value:=l.flatMap argC
theorem zfp(x:Ma.Arg):(argC x).length=8:=rfl
theorem zcl:∀l:List Ma.Arg,(argsC l).length=l.length*8
 |[]=>rfl
 |x::l=>by unfold argsC;rw[List.flatMap_cons,List.length_append,zfp];have:=zcl l;unfold argsC at this;rw[this,List.length_cons];omega
theorem zdt(l m:List Ma.Arg):argsC (l++m)=argsC l++argsC m:=by unfold argsC;exact List.flatMap_append
theorem argC_one(x:Ma.Arg):∀u∈argC x,u.oneCell'=true:=by
 intro u hu;simp only[argC,List.mem_cons,List.not_mem_nil,or_false] at hu;rcases hu with rfl|rfl|rfl|rfl|rfl|rfl|rfl|rfl <;> rfl
def Stk(w:World)(v:Value)(l:List Ma.Arg):Prop:=w.ownsRow 0 TA 8 v l.length (argsC l)
def _root_.M158(h:jp:=by
 rw[hr] at hrun;cases hrun;intro k hk;cases hk;exact .inr jE):=h
theorem infoA:(prog.info? TA).map (fun i=>(i.zero,i.size,i.bytes))=some (some (.agg #[.bool false,jI 0,jI 0,jI 0,jI 0,jI 0,jI 0,jS ⟨#[]⟩]),8,72):=by kernel_rfl
theorem zcn{P:Program}{ops:Array Oper}{o:Oper}{a:Act}{w:World}{K:Act->World->Prop}{Q:Exit->Act->World->Prop}{E:Prop}(hg:o.guard=none)(s x:Operand)(t u:TypeId)(hop:o.op=Op.call {callee:=Callee.builtin Builtin.append,args:=#[s,x],argTypes:=#[t,u]})(v y:Value)(hs:a.eval s=v)(hx:a.eval x=y)(v':Value)(w':World)(hrun:(Builtin.append_ #[t,u] o.type #[v,y]).run P w= .ok v' w')(hK:K (a.put o.dst v') w'):
 if Region.wanted o (yielded ops a.tmps)=true then Oper.wp P o a w K Q else E:=by
 have hw:Region.wanted o (yielded ops a.tmps)=true:=by simp[Region.wanted,hg]
 rw[if_pos hw];unfold Oper.wp;simp[execOp,hop,resolve,invoke,builtin,hs,hx,hrun,Result.andThen];exact hK
theorem append_block{P:Program}{w:World}(base:Nat)(t ty e:TypeId)(i:TypeInfo)(z:Value)(size bytes:Nat)(ht:P.underlying t=some (.slice e))(hi:P.info? e=some i)(hz:i.zero=some z)(hsize:i.size=size)(hby:i.bytes=bytes)(v:Value)(n:Nat)(xs:List Value)(hown:w.ownsRow base e size v n xs)(a:Addr)(m c:Nat)(news:List Value)(hl:news.length=m*size)(hnews:∀j u,news[j]?=some u->w.cell? (a.add j)=some u)(h1:∀u∈news,u.oneCell'=true)(hm:0<m)(h63:n+m<=maxLen)(hbytes:(n+m)*bytes<=140737488355328)(v':Value)(w':World)(hrun:(Builtin.append_ #[t,t] ty #[v,.slice (some a) m c]).run P w= .ok v' w'):
 ∀k,v'.ownBlock=some k->v.ownBlock=some k\/w.heap.size<=k:=by
 subst hsize;subst hby;have hsmall:n+m<=9223372036854775807:=by simp only[maxLen] at h63;omega
 rcases hown.2 with ⟨rfl,rfl⟩|⟨g,cap,cur,rfl,hbg,hg,hnc,hcm,hcs,htake⟩
 .have hr:=run_append_nil (P:=P) w t ty e i z ht hi hz a m c news hl hnews B1 B1 (by have hb:=hbytes;simp only[Nat.zero_add] at hb;omega);exact M158
 .by_cases hroom:n+m<=cap
  .have hfit:n*i.size+news.length<=cur.size:=by rw[hl,hcs,<-Nat.add_mul];exact Nat.mul_le_mul_right _ hroom
   have hr:=run_append_room (P:=P) w t ty e i ht hi g n cap cur hg a m c news hl hnews h1 hroom hfit;rw[hr] at hrun;cases hrun;intro k hk;exact .inl hk
  .have holds:∀j u,xs[j]?=some u->w.cell? (((jA g 0):Addr).add j)=some u:=hown.cells (g:=g) rfl;have hr:=run_append_grow (P:=P) w t ty e i z ht hi hz (jA g 0) n cap xs hown.1 holds a m c news hl hnews B1 B1 (growslice_fits B1 hbytes);exact M158
structure Foot(F:Nat->Prop)(w w':World):Prop where
 os:w'.os=w.os
 tape:w'.tape=w.tape
 output:w'.output=w.output
 size:w.heap.size<=w'.heap.size
 block:∀k,k<w.heap.size->¬F k->w'.heap[k]?=w.heap[k]?
def _root_.B53(h:jp:=by unfold maxLen;omega):=h
theorem Foot.refl(F:Nat->Prop)(w:World):Foot F w w:=⟨rfl,rfl,rfl,jE,fun _ _ _=>rfl⟩
theorem Foot.trans{F:Nat->Prop}{a b c:World}(h:Foot F a b)(k:Foot F b c):Foot F a c:=
 ⟨k.os.trans h.os,k.tape.trans h.tape,k.output.trans h.output,jR h.size k.size,fun i hi hne=>(k.block i (jL hi h.size) hne).trans (h.block i hi hne)⟩
theorem Foot.mono{F G:Nat->Prop}{a b:World}(h:Foot F a b)(k:∀i,i<a.heap.size->F i->G i):Foot G a b:=
 ⟨h.os,h.tape,h.output,h.size,fun i hi hne=>h.block i hi fun e=>hne (k i hi e)⟩
theorem Foot.next{F G:Nat->Prop}{a b c:World}(h:Foot F a b)(k:Foot G b c)(hG:∀i,i<a.heap.size->G i->F i):Foot F a c:=
 ⟨k.os.trans h.os,k.tape.trans h.tape,k.output.trans h.output,jR h.size k.size,fun i hi hne=>(k.block i (jL hi h.size) fun e=>hne (hG i hi e)).trans (h.block i hi hne)⟩
section
variable{F:Nat->Prop}
include F
theorem Foot.of_grown{w w':World}{row:Option Nat}(h:w.grownBy w' row)(hF:∀k,row=some k->F k):Foot F w w':=
 ⟨h.os,h.tape,h.output,h.size,fun k hk hne=>h.block k hk fun e=>hne (hF k e.symm)⟩
theorem Foot.of_below{w w':World}(h:Below w.heap.size w w'):Foot F w w':=⟨h.os,h.tape,h.output,h.size,fun k hk _=>h.block k hk⟩
theorem Foot.set{w v:World}{B i:Nat}{x:Value}(h:Foot F w v)(hF:F B):Foot F w (v.setCell (jA B i) x):=h.trans (Foot.of_grown (zcj v B i x) fun k e=>by cases e;exact hF)
theorem Foot.alloc{w v:World}{o:Obj}(h:Foot F w v):Foot F w (v.alloc o):=h.trans (Foot.of_grown (row:=none) (zer v o none) fun k e=>by cases e)
end
theorem Stk.kept{w w':World}{v:Value}{l:List Ma.Arg}(h:Stk w v l)(hk:∀g,v.ownBlock=some g->w'.heap[g]?=w.heap[g]?):Stk w' v l:=by
 obtain ⟨h1,h2⟩:=h;refine ⟨h1,?_⟩;rcases h2 with h2|⟨g,cap,cur,rfl,hb,hg,r⟩
 .exact .inl h2
 .exact .inr ⟨g,cap,cur,rfl,hb,(hk g rfl).trans hg,r⟩
theorem Stk.lt{w:World}{v:Value}{l:List Ma.Arg}(h:Stk w v l){g:Nat}(hg:v.ownBlock=some g):g<w.heap.size/\∃cur,w.heap[g]?=some (.cells cur TA (0,0)):=by
 rcases h.2 with ⟨rfl,_⟩|⟨g',cap,cur,rfl,hb,hh,r⟩
 .cases hg
 .cases hg;exact ⟨(jg hh),cur,hh⟩
theorem At.ne{w:World}{B g:Nat}{h:MH}{v:Value}{l:List Ma.Arg}(hB:At w B h)(hs:Stk w v l)(hg:v.ownBlock=some g):g≠B:=by
 rintro rfl;obtain ⟨_,cur,h2⟩:=hs.lt hg;unfold At at hB;rw[hB] at h2;cases h2
theorem zvi(B:Nat)(h:MH)(l:List Ma.Arg)(x:Ma.Arg)(w:World)(hB:At w B h)(hs:Stk w h.st l)(hl:l.length<=1000000):
 Calls prog 38 #[PT B,argV x] w fun e w'=>e=jr jT/\∃sv,At w' B {h with st:=sv}/\Stk w' sv (l++ [x])/\
  Foot (fun k=>k=B\/h.st.ownBlock=some k) w w'/\(∀k,sv.ownBlock=some k->h.st.ownBlock=some k\/w.heap.size<=k):=by
 obtain ⟨i0,hi,hz0,hz1,hz2⟩:=info_parts infoA;go_enter func38,ntmps38;go_wp2_with fail;have hB1:At (w.alloc (Obj.cells #[.bool x.isA,jI x.a.t,jI x.a.l,jI x.a.b,jI x.a.r,jI x.v.k,jI x.v.n,jS x.v.t] 64)) B h:=zai hB;have hs1:Stk (w.alloc (Obj.cells #[.bool x.isA,jI x.a.t,jI x.a.l,jI x.a.b,jI x.a.r,jI x.v.k,jI x.v.n,jS x.v.t] 64)) h.st l:=hs.kept fun g hg=>Below.heap_alloc _ _ _ (hs.lt hg).1;have hx1:=heap_alloc_new w (Obj.cells #[.bool x.isA,jI x.a.t,jI x.a.l,jI x.a.b,jI x.a.r,jI x.v.k,jI x.v.n,jS x.v.t] 64);have hf1:Foot (fun k=>k=B\/h.st.ownBlock=some k) w (w.alloc (Obj.cells #[.bool x.isA,jI x.a.t,jI x.a.l,jI x.a.b,jI x.a.r,jI x.v.k,jI x.v.n,jS x.v.t] 64)):=(Foot.refl _ w).alloc;have hz1':w.heap.size<(w.alloc (Obj.cells #[.bool x.isA,jI x.a.t,jI x.a.l,jI x.a.b,jI x.a.r,jI x.v.k,jI x.v.n,jS x.v.t] 64)).heap.size:=B7;generalize (w.alloc (Obj.cells #[.bool x.isA,jI x.a.t,jI x.a.l,jI x.a.b,jI x.a.r,jI x.v.k,jI x.v.n,jS x.v.t] 64))=W1 at hB1 hs1 hx1 hf1 hz1' ⊢;have hlt:=hB1.lt;obtain ⟨c0,c1,c2,c3,c4,c5,c6,c7,c8,c9,c10,c11,c12,f⟩:=hB1.cells;clear c0 c1 c2 c3 c4 c6 c7 c8 c9 c10 c11 c12;have e0:=ch hx1 0;have e1:=ch hx1 1;have e2:=ch hx1 2;have e3:=ch hx1 3;have e4:=ch hx1 4;have e5:=ch hx1 5;have e6:=ch hx1 6;have e7:=ch hx1 7;simp at e0 e1 e2 e3 e4 e5 e6 e7;have hB2:At (W1.drew.alloc (Obj.cells #[.bool x.isA,jI x.a.t,jI x.a.l,jI x.a.b,jI x.a.r,jI x.v.k,jI x.v.n,jS x.v.t] 64)) B h:=zai (w:=W1.drew) hB1;have hs2:Stk (W1.drew.alloc (Obj.cells #[.bool x.isA,jI x.a.t,jI x.a.l,jI x.a.b,jI x.a.r,jI x.v.k,jI x.v.n,jS x.v.t] 64)) h.st l:=hs1.kept fun g hg=>Below.heap_alloc W1.drew _ _ (hs1.lt hg).1;have hx2:(W1.drew.alloc (Obj.cells #[.bool x.isA,jI x.a.t,jI x.a.l,jI x.a.b,jI x.a.r,jI x.v.k,jI x.v.n,jS x.v.t] 64)).heap[W1.heap.size]?=some (.cells #[.bool x.isA,jI x.a.t,jI x.a.l,jI x.a.b,jI x.a.r,jI x.v.k,jI x.v.n,jS x.v.t] 64 (0,0)):=heap_alloc_new W1.drew _;have hf2:Foot (fun k=>k=B\/h.st.ownBlock=some k) w (W1.drew.alloc (Obj.cells #[.bool x.isA,jI x.a.t,jI x.a.l,jI x.a.b,jI x.a.r,jI x.v.k,jI x.v.n,jS x.v.t] 64)):=hf1.trans (Foot.alloc (Foot.of_below (jB.drew)));have hnews:∀(q:Nat) (u:Value),(argC x)[q]?=some u->(W1.drew.alloc (Obj.cells #[.bool x.isA,jI x.a.t,jI x.a.l,jI x.a.b,jI x.a.r,jI x.v.k,jI x.v.n,jS x.v.t] 64)).cell? (((jA W1.heap.size 0):Addr).add q)=some u:=by
  intro q u hq;have hcq:=ch hx2 q;have hadd:((jA W1.heap.size 0):Addr).add q=(jA W1.heap.size q):=B16;rw[hadd,hcq,<-hq,List.getElem?_toArray];rfl
 obtain ⟨v',w',hrun,hown,hgrow,_⟩:=run_append_own (P:=prog) (W1.drew.alloc (Obj.cells #[.bool x.isA,jI x.a.t,jI x.a.l,jI x.a.b,jI x.a.r,jI x.v.k,jI x.v.n,jS x.v.t] 64)) 0 57 57 64 i0 _ 8 72 underlying57 hi hz0 hz1 hz2 rfl B3 h.st l.length _ hs2 ⟨W1.heap.size,0,none⟩ 1 1 (argC x) rfl hnews (argC_one x) B53 B1 (Nat.zero_le _);have hne:some B≠h.st.ownBlock:=fun e=>hB2.ne hs2 e.symm rfl;have hB3:At w' B h:=hB2.grown hgrow hne;have e9:=ch hB3 5;have f9:=frozen_of_row w' B 5 _ _ hB3;simp[mc] at e9;have HR:=jH hrun;have hst:Stk w' v' (l++ [x]):=by
  unfold Stk;rw[List.length_append,zdt];exact hown
 have hB4:At (w'.setCell (jA B 5) v') B {h with st:=v'}:=zad hB3 5 v';have hs4:Stk (w'.setCell (jA B 5) v') v' (l++ [x]):=hst.kept fun g hg=>heap_setCell_other _ _ _ _ fun e=>hB3.ne hst hg e;have hf4:Foot (fun k=>k=B\/h.st.ownBlock=some k) w (w'.setCell (jA B 5) v'):=(hf2.trans (Foot.of_grown hgrow fun k e=> .inr e)).set (.inl rfl);have ho:∀k,v'.ownBlock=some k->h.st.ownBlock=some k\/w.heap.size<=k:=fun k hk=>by
  rcases append_block 0 57 57 64 i0 _ 8 72 underlying57 hi hz0 hz1 hz2 h.st l.length _ hs2 ⟨W1.heap.size,0,none⟩ 1 1 (argC x) rfl hnews (argC_one x) B3 B53 B1 v' w' hrun k hk with h5|h5
  .exact .inl h5
  .refine .inr (jR (Nat.le_of_lt hz1') (jR ?_ h5));simp
 obtain ⟨g',cp',rfl⟩:∃g' cp',v'= .slice (some ⟨g',0,none⟩) (l.length+1) cp':=by
  rcases hown.2 with ⟨_,h0⟩|⟨g,cap,cur,rfl,_⟩
  .omega
  .exact ⟨g,cap,rfl⟩
 have HF:=jH (And.intro hB4 (And.intro hs4 (And.intro hf4 ho)));clear hrun hown hgrow hB2 hs2 hx2 hf2 hB1 hs1 hx1 hf1 hB3 hst hB4 hs4 hf4 ho hi hz0 hz1 hz2 hne;go_region_law (refine zcn rfl (.tmp 8) (.tmp 10) 57 57 rfl _ _ rfl rfl _ _ HR.out ?_)
 all_goals (try go_wp2)
 all_goals exact jY jT (by simp[results,results38,go_sem]) ⟨rfl,_,HF.out.1,HF.out.2.1,HF.out.2.2.1,HF.out.2.2.2⟩
theorem zmt:∀(l:List Ma.Arg) (i j:Nat) (x:Ma.Arg),l[i]?=some x->j<8->(argsC l)[i*8+j]?=(argC x)[j]?
 |[],i,j,x,h,_=>by simp at h
 |y::l,0,j,x,h,hj=>by
  simp only[List.getElem?_cons_zero,Option.some.injEq] at h;subst h;unfold argsC;rw[List.flatMap_cons,Nat.zero_mul,Nat.zero_add,List.getElem?_append_left (by rw[zfp];exact hj)]
 |y::l,i+1,j,x,h,hj=>by
  have ih:=zmt l i j x B38 hj;unfold argsC at ih ⊢;rw[List.flatMap_cons,List.getElem?_append_right (by rw[zfp];omega),zfp,show (i+1)*8+j-8=i*8+j by omega];exact ih
structure ItemAt(w:World)(g o:Nat)(x:Ma.Arg):Prop where
 c0:w.cell? (jA g o)=some (.bool x.isA)
 c1:w.cell? (jA g (o+1))=some (jI x.a.t)
 c2:w.cell? (jA g (o+2))=some (jI x.a.l)
 c3:w.cell? (jA g (o+3))=some (jI x.a.b)
 c4:w.cell? (jA g (o+4))=some (jI x.a.r)
 c5:w.cell? (jA g (o+5))=some (jI x.v.k)
 c6:w.cell? (jA g (o+6))=some (jI x.v.n)
 c7:w.cell? (jA g (o+7))=some (jS x.v.t)
def B84(h:jp:=by rw[hst];rfl):=h
section
variable{w:World}
include w
theorem Stk.item{g n cap:Nat}{l:List Ma.Arg}(h:Stk w (jP g 0 n cap) l){i:Nat}{x:Ma.Arg}(hx:l[i]?=some x):ItemAt w g (i*8) x:=by
 have hc:∀j,j<8->w.cell? (jA g (i*8+j))=(argC x)[j]?:=by
  intro j hj;have h1:=zmt l i j x hx hj;have h2:=World.ownsRow.cells h (g:=g) rfl (i*8+j);cases he:(argC x)[j]? with
  |none=>exact absurd (List.getElem?_eq_none_iff.1 he) (by rw[zfp];omega)
  |some u=>
   have h3:=h2 u (h1.trans he);have hadd:((jA g 0):Addr).add (i*8+j)=(jA g (i*8+j)):=B16;rw[hadd] at h3;exact h3
 exact ⟨hc 0 B3,hc 1 B3,hc 2 B3,hc 3 B3,hc 4 B3,hc 5 B3,hc 6 B3,hc 7 B3⟩
section
variable{v:Value}{l:List Ma.Arg}(h:Stk w v l)
include v l h
theorem Stk.shape(hl:0<l.length):∃g cap,v=jP g 0 l.length cap/\l.length<=cap:=by
 rcases h.2 with ⟨_,h0⟩|⟨g,cap,cur,rfl,_,_,hle,_⟩
 .omega
 .exact ⟨g,cap,rfl,hle⟩
theorem Stk.any:∃a cap,v= .slice a l.length cap:=by
 rcases h.2 with ⟨rfl,h0⟩|⟨g,cap,cur,rfl,_⟩
 .rw[h0];exact ⟨_,_,rfl⟩
 .exact ⟨_,_,rfl⟩
end
theorem Stk.less{g n cap:Nat}{l m:List Ma.Arg}(h:Stk w (jP g 0 n cap) (l++m)):Stk w (jP g 0 l.length cap) l:=by
 obtain ⟨h1,h2⟩:=h;refine ⟨zcl l,?_⟩;rcases h2 with ⟨h2,_⟩|⟨g',cap',cur,e,hb,hh,hle,hm,hs,ht⟩
 .cases h2
 .cases e;refine .inr ⟨g,cap,cur,rfl,hb,hh,by rw[List.length_append] at hle;omega,hm,hs,?_⟩;have:=congrArg (List.take (l.length*8)) ht;rw[List.take_take,zdt,List.take_append_of_le_length (by rw[zcl];omega),List.take_of_length_le (l:=argsC l) (by rw[zcl];omega)] at this;rw[List.length_append] at this;rw[show min (l.length*8) ((l.length+m.length)*8)=l.length*8 by omega] at this;exact this
section
variable{v:Value}{l:List Ma.Arg}(h:Stk w v l)
include v l h
theorem Stk.alloc(o:Obj):Stk (w.alloc o) v l:=h.kept fun g hg=>Below.heap_alloc w o g (h.lt hg).1
theorem Stk.set{B i:Nat}{x:Value}(hne:∀g,v.ownBlock=some g->g≠B):Stk (w.setCell (jA B i) x) v l:=h.kept fun g hg=>heap_setCell_other w _ g x (hne g hg)
end
end
theorem take_any(B:Nat)(h:MH)(l:List Ma.Arg)(x:Ma.Arg)(w:World)(hB:At w B h)(hs:Stk w h.st (l++ [x]))(hl:l.length<=1000000):
 Calls prog 29 #[PT B] w fun e w'=>e=jr (argV x)/\∃sv,At w' B {h with st:=sv}/\Stk w' sv l/\Foot (fun k=>k=B) w w'/\sv.ownBlock=h.st.ownBlock:=by
 obtain ⟨c0,c1,c2,c3,c4,c5,c6,c7,c8,c9,c10,c11,c12,f⟩:=hB.cells;have hlt:=hB.lt;obtain ⟨g,cap,hst,hle⟩:=hs.shape B7;rw[List.length_append,List.length_singleton] at hst hle;rw[hst] at c5 hs;have hgl:g<w.heap.size:=(hs.lt rfl).1;have hgB:g≠B:=by
  have:=hB.ne (v:=jP g 0 (l.length+1) cap) hs rfl;exact this
 obtain ⟨i0,i1,i2,i3,i4,i5,i6,i7⟩:=hs.item (i:=l.length) (x:=x) B7;have hs':=hs.less;go_enter func29,ntmps29;go_wp2;exact jX (argV x) (by simp[results,results29,go_sem]) ⟨rfl,jP g 0 l.length cap,zai (zai (zad hB 5 _)),
  ((hs'.set fun g' e=>by cases e;exact hgB).alloc _).alloc _,(((Foot.refl (fun k=>k=B) w).set rfl).alloc).alloc,B84⟩
theorem zhu(B:Nat)(h:MH)(l:List Ma.Arg)(v:Val.V)(w:World)(hB:At w B h)(hs:Stk w h.st l)(hl:l.length<=1000000):Calls prog 23 #[PT B,.agg #[jI v.k,jI v.n,jS v.t]] w fun e w'=>e=jr jT/\∃sv,At w' B {h with st:=sv}/\Stk w' sv (l++ [Ma.vArg v])/\Foot (fun k=>k=B\/h.st.ownBlock=some k) w w'/\(∀k,sv.ownBlock=some k->h.st.ownBlock=some k\/w.heap.size<=k):=by
 have H:=jH fun (u:World) (hB:At u B h) (hs:Stk u h.st l)=>zvi B h l (Ma.vArg v) u hB hs hl;go_enter func23,ntmps23;go_wp2_with fail;refine (H.out _ (zai hB) (hs.alloc _)).mono ?_;rintro e w1 ⟨rfl,sv,h1,h2,h3,h4⟩;go_wp2;exact jY jT (by simp[results,results23,go_sem]) ⟨rfl,sv,h1,h2,((Foot.refl _ w).alloc).trans h3,fun k hk=>(h4 k hk).imp_right fun hh=>jR B7 hh⟩
def Lies(w:World)(b o:Nat)(l:List Ma.Arg):Prop:=b<w.heap.size/\∀(j:Nat) (u:Value),(argsC l)[j]?=some u->w.cell? (jA b (o+j))=some u
def N24(h:jp:=by
 rcases h1.2 with ⟨rfl,h0⟩|⟨g,cp,cur,rfl,_⟩
 .rw[h0];exact ⟨_,_,rfl⟩
 .exact ⟨_,_,rfl⟩):=h
def M138(h:jp:=by
 go_wp2_with fail;go_ret;exact ⟨_,rfl,World.ownsRow_nil _ _ _ _,jB⟩):=h
def _root_.Bp104(h:jp:=by exact ⟨h.os,h.tape,h.output,h.size,h.block⟩):=h
def B138(h:jp:=by obtain ⟨e1,e2,e3⟩:=hE.out;omega):=h
def C44(h:jp:=by
 go_enter func32,ntmps32;go_wp2_with fail;go_still_tail 12,(by kernel_rfl);change wpList _ _ _ _ _ w.drew;have hd:Below w.heap.size w w.drew:=jB.drew;have hBd:At w.drew B h:=hB;exact K44):=h
def X171.K44(h:jp:=by
 have hsd:Stk w.drew (jP g 0 N cap) (l++m):=hs;generalize w.drew=w2 at *;have hm0:cap=k->m=[]:=fun e=>List.eq_nil_of_length_eq_zero B138;have hm1:N-k=m.length:=B138;have hm2:k*8=l.length*8:=B138;have HM:=jH (And.intro hm0 (And.intro hm1 hm2));clear hm0 hm1 hm2;go_wp2_with fail
 all_goals
  refine (HC.out _ _ _ _ hd (by first|exact .inl HM.out.2.2|exact .inr (HM.out.1 (by first|assumption|rfl))) HM.out.2.1).mono ?_;rintro e w1 ⟨v,rfl,hv,hb1⟩;replace hBd:=hBd.below hb1;replace hsd:=hsd.kept fun g' e=>hb1.block g' (hsd.lt e).1;have hd1:=jN hd hb1;have hlt1:=hBd.lt;obtain ⟨a,c,rfl⟩:∃a c,v= .slice a m.length c:=by
   rcases hv.2 with ⟨rfl,h0⟩|⟨g,cp,cur,rfl,_⟩
   .rw[h0];exact ⟨_,_,rfl⟩
   .exact ⟨_,_,rfl⟩
  obtain ⟨c0,c1,c2,c3,c4,c5,c6,c7,c8,c9,c10,c11,c12,f⟩:=hBd.cells;rw[hst] at c5;clear c0 c1 c2 c3 c4 c6 c7 c8 c9 c10 c11 c12;go_wp2_with fail;go_still_tail 15,(by kernel_rfl);change wpList _ _ _ _ _ w1.drew;go_wp2;go_ret;obtain ⟨e1,e2,e3⟩:=hE.out;have hsl:=Stk.less hsd;rw[<-e2] at hsl;refine ⟨_,jP g 0 k _,rfl,zpb hv hd.size (jL hlt hd.size),zad hBd 5 _,?_,?_,B84⟩
  .first
    |exact (hsl.set (B:=B) (i:=5) fun g' e=>by cases e;exact hgB).drew
    |(have hck:cap=k:=by assumption
      rw[hck] at hsl;exact (hsl.set (B:=B) (i:=5) fun g' e=>by cases e;exact hgB).drew)
  .exact ((Foot.of_below (F:=fun k=>k=B) hd1).set rfl).drew):=h
def X172.K44(h:jp:=by
 generalize w.drew=w2 at *;go_wp2_with fail;refine (HC.out _).mono ?_;rintro e w1 ⟨v,rfl,hv,hb1⟩;replace hBd:=hBd.below hb1;have hd1:=jN hd hb1;have hlt1:=hBd.lt;obtain ⟨a,c,rfl⟩:∃a c,v= .slice a 0 c:=by
  rcases hv.2 with ⟨rfl,h0⟩|⟨g,cp,cur,rfl,_⟩
  .exact ⟨_,_,rfl⟩
  .exact ⟨_,_,rfl⟩
 obtain ⟨c0,c1,c2,c3,c4,c5,c6,c7,c8,c9,c10,c11,c12,f⟩:=hBd.cells;rw[hst] at c5;clear c0 c1 c2 c3 c4 c6 c7 c8 c9 c10 c11 c12;go_wp2_with fail;go_still_tail 15,(by kernel_rfl);change wpList _ _ _ _ _ w1.drew;go_wp2;go_ret;refine ⟨_,jZ,rfl,zpb hv hd.size (jL hlt hd.size),zad hBd 5 _,World.ownsRow_nil _ _ _ _,?_,by rw[hst]⟩;exact ((Foot.of_below (F:=fun k=>k=B) hd1).set rfl).drew):=h
theorem zx8(l:List Ma.Arg):∀u∈argsC l,u.oneCell'=true:=by
 intro u hu;obtain ⟨x,_,hx⟩:=List.mem_flatMap.1 hu;exact argC_one x u hx
theorem zjw(b o cap:Nat)(l:List Ma.Arg)(w:World)(hl:l.length<=1000000)(hc:Lies w b o l):
 Calls prog 64 #[jP b o l.length cap] w fun e w'=>∃v,e=jr v/\w'.ownsRow w.heap.size TA 8 v l.length (argsC l)/\Below w.heap.size w w':=by
 obtain ⟨i0,hi,hz0,hz1,hz2⟩:=info_parts infoA;have hnews:∀(j:Nat) (u:Value),(argsC l)[j]?=some u->w.cell? (((jA b o):Addr).add j)=some u:=fun j u hu=>by
  have hadd:((jA b o):Addr).add j=(jA b (o+j)):=B16;rw[hadd];exact hc.2 j u hu
 go_enter func64,ntmps64;have hnil:∀(a:Addr) (n c:Nat) (w:World),(binOp .eql 57 (.slice (some a) n c) jZ).run prog w= .ok (.bool false) w:=fun _ _ _ _=>by kernel_rfl
 have hown:(w.alloc (Obj.cells #[] 64)).ownsRow w.heap.size 64 8 (jP w.heap.size 0 0 0) 0 []:=World.ownsRow_made w #[] 0 jE B3 rfl;have hnews2:∀(j:Nat) (u:Value),(argsC l)[j]?=some u->(w.alloc (Obj.cells #[] 64)).cell? (((jA b o):Addr).add j)=some u:=fun j u hu=>by
  have hadd:((jA b o):Addr).add j=(jA b (o+j)):=B16;rw[hadd];exact jQ ((Below.refl w.heap.size w).alloc jE _) (hc.2 j u hu) hc.1
 have hlen:=zcl l;have hone:=zx8 l;go_wp2_with (first|(at_builtin;refine wpList_append_own _ rfl _ _ 57 rfl w.heap.size 64 i0 _ 8 72 underlying57 hi hz0 hz1 hz2 rfl B3 _ _ _ rfl hown (jA b o) l.length cap (argsC l) rfl hlen hnews2 hone ?d3 ?d4 ?d5 ?_)|fail)
 case d3=>unfold maxLen;omega
 case d4=>omega
 case d5=>simp
 intro v w' h1 h2 _;have hb:Below w.heap.size w w':=((Below.refl w.heap.size w).alloc jE (Obj.cells #[] 64)).grown h2 B7 (fun k e=>by cases e;exact jE);obtain ⟨a',c',rfl⟩:∃a' c',v= .slice a' l.length c':=by
  exact N24
 go_wp2_with fail;go_ret;exact ⟨_,rfl,h1,hb⟩
theorem zsg(w:World):Calls prog 64 #[jZ] w fun e w'=>∃v,e=jr v/\w'.ownsRow w.heap.size TA 8 v 0 []/\Below w.heap.size w w':=by
 have hnil:∀(w:World),(binOp .eql 57 jZ jZ).run prog w= .ok (.bool true) w:=fun _=>by kernel_rfl
 go_enter func64,ntmps64;exact M138
theorem zpb{w:World}{base b' B i:Nat}{e:TypeId}{size:Nat}{v x:Value}{n:Nat}{xs:List Value}(h:w.ownsRow base e size v n xs)(hb:b'<=base)(hB:B<base):(w.setCell (jA B i) x).drew.ownsRow b' e size v n xs:=by
 obtain ⟨h1,h2⟩:=h;refine ⟨h1,?_⟩;rcases h2 with h2|⟨g,cap,cur,rfl,hg,hh,r⟩
 .exact .inl h2
 .exact .inr ⟨g,cap,cur,rfl,jR hb hg,(heap_setCell_other w (jA B i) g x (by show g≠B;omega)).trans hh,r⟩
theorem Stk.drew{w:World}{v:Value}{l:List Ma.Arg}(h:Stk w v l):Stk w.drew v l:=h
theorem Foot.drew{F:Nat->Prop}{a b:World}(h:Foot F a b):Foot F a b.drew:=Bp104
theorem zqu(B g cap:Nat)(h:MH)(l m:List Ma.Arg)(w:World)(hB:At w B h)(N k M:Nat)(hN:N=l.length+m.length)(hk:k=l.length)(hM:M=m.length)(hst:h.st=jP g 0 N cap)(hle:N<=cap)(hs:Stk w h.st (l++m))(hl:N<=1000000):
 Calls prog 32 #[PT B,jI (M:Int)] w fun e w'=>∃v sv,e=jr v/\w'.ownsRow w.heap.size TA 8 v m.length (argsC m)/\At w' B {h with st:=sv}/\Stk w' sv l/\Foot (fun k=>k=B) w w'/\sv.ownBlock=h.st.ownBlock:=by
 obtain ⟨c0,c1,c2,c3,c4,c5,c6,c7,c8,c9,c10,c11,c12,f⟩:=hB.cells;have hlt:=hB.lt;rw[hst] at c5 hs;have hgl:g<w.heap.size:=(hs.lt rfl).1;have hgB:g≠B:=hB.ne (v:=jP g 0 N cap) hs rfl;have hlies:Lies w g (l.length*8) m:=⟨hgl,fun j u hu=>by
  have h1:=World.ownsRow.cells hs (g:=g) rfl (l.length*8+j) u (by
   rw[zdt,List.getElem?_append_right (by rw[zcl];omega),zcl,show l.length*8+j-l.length*8=j by omega];exact hu)
  have hadd:((jA g 0):Addr).add (l.length*8+j)=(jA g (l.length*8+j)):=B16;rw[hadd] at h1;exact h1⟩
 have hw:IntKind.i64.wrap ((N:Int)-(M:Int))=(k:Int):=B13;have hk0:(0:Int)<=(k:Int):=B1;have hk1:(k:Int)<=(N:Int):=B1;have hk2:(N:Int)<=(cap:Int):=B1;have hk3:(k:Int)<=(cap:Int):=B1;have HC:Hid (∀(u:World) (o n c:Nat),Below w.heap.size w u->(o=l.length*8\/m=[])->n=m.length->Calls prog 64 #[jP g o n c] u fun e w'=>∃v,e=jr v/\w'.ownsRow u.heap.size TA 8 v m.length (argsC m)/\Below u.heap.size u w'):=
  jH fun u o n c hb ho hn=>by
   subst hn;refine zjw g o c m u B1 ⟨jL hgl hb.size,fun j x hx=> ?_⟩;rcases ho with rfl|rfl
   .exact jQ hb (hlies.2 j x hx) hgl
   .simp[argsC] at hx
 have hE:=jH (And.intro hN (And.intro hk hM));clear hN hk hM
 open X171 in exact C44
theorem zhz(B:Nat)(h:MH)(l m:List Ma.Arg)(w:World)(hB:At w B h)(hs:Stk w h.st (l++m))(hl:(l++m).length<=1000000):
 Calls prog 32 #[PT B,jI (m.length:Int)] w fun e w'=>∃v sv,e=jr v/\w'.ownsRow w.heap.size TA 8 v m.length (argsC m)/\At w' B {h with st:=sv}/\Stk w' sv l/\Foot (fun k=>k=B) w w'/\sv.ownBlock=h.st.ownBlock:=by
 rcases hs.2 with ⟨hst,h0⟩|⟨g,cap,cur,hst,_,_,hle,_⟩
 .rw[List.length_append] at h0;obtain rfl:l=[]:=List.eq_nil_of_length_eq_zero B1;obtain rfl:m=[]:=List.eq_nil_of_length_eq_zero B1;obtain ⟨c0,c1,c2,c3,c4,c5,c6,c7,c8,c9,c10,c11,c12,f⟩:=hB.cells;have hlt:=hB.lt;rw[hst] at c5;have HC:=jH fun u=>zsg u;show Calls prog 32 #[PT B,jI 0] w _;have hw:IntKind.i64.wrap 0=0:=B3
  open X172 in exact C44
 .rw[List.length_append] at hst hle hl;exact zqu B g cap h l m w hB _ _ _ rfl rfl rfl hst hle hs hl
abbrev vv3(v:Val.V):Value:= .agg #[jI v.k,jI v.n,jS v.t]
def M208(h:jp:=by
 go_enter func66,ntmps66;go_wp2
 all_goals go_ret
 all_goals exact ⟨by simp,B4⟩):=h
section
variable(B:Nat)(h:MH)(l:List Ma.Arg)(n:Int)(w:World)(hB:At w B h)(hs:Stk w h.st l)(hl:l.length<=1000000)
include B h l n w hB hs hl
theorem zw2:Calls prog 30 #[PT B,jI n] w fun e w'=>e=jr jT/\∃sv,At w' B {h with st:=sv}/\Stk w' sv (l++ [Ma.vArg ⟨4,n,⟨#[]⟩⟩])/\Foot (fun k=>k=B\/h.st.ownBlock=some k) w w'/\(∀k,sv.ownBlock=some k->h.st.ownBlock=some k\/w.heap.size<=k):=by
 have H:=jH fun (u:World) (hB:At u B h) (hs:Stk u h.st l)=>zhu B h l ⟨4,n,⟨#[]⟩⟩ u hB hs hl;go_enter func30,ntmps30;go_wp2_with fail;refine jM (H.out _ hB hs) ?_;intro w1 hp;go_wp2;exact jY jT (by simp[results,results30,go_sem]) ⟨rfl,hp⟩
theorem zri:Calls prog 74 #[PT B,jI n] w fun e w'=>e=jr jT/\∃sv,At w' B {h with st:=sv}/\Stk w' sv (l++ [Ma.vArg ⟨1,n,⟨#[]⟩⟩])/\Foot (fun k=>k=B\/h.st.ownBlock=some k) w w'/\(∀k,sv.ownBlock=some k->h.st.ownBlock=some k\/w.heap.size<=k):=by
 have H:=jH fun (u:World) (hB:At u B h) (hs:Stk u h.st l)=>zhu B h l ⟨1,n,⟨#[]⟩⟩ u hB hs hl;go_enter func74,ntmps74;go_wp2_with fail;refine jM (H.out _ hB hs) ?_;intro w1 hp;go_wp2;exact jY jT (by simp[results,results74,go_sem]) ⟨rfl,hp⟩
end
theorem zdn(x:Ma.Arg)(w:World):Ret 66 #[argV x] w (.bool (!x.isA&&x.v.k==4)):=by
 obtain ⟨b,a,v⟩:=x;cases b
 .exact M208
 .exact M208
end Mb
namespace Fd
open Mb (SP PT Foot argV argC argsC zad zai zcj zeq zer gset zwh grefl)
structure FH where
 items:Value
 i:Int
 pos:Int
 hr:Int
 hc:Int
 nr:Int
 nc:Int
 wants:Bool
 over:Bool
 fk:Int
 fi:Int
 ft:ByteArray
 tk:Value
 fn:Value
 th:Value
def fc(h:FH):Array Value:=#[h.items,jI h.i,jI h.pos,jI h.hr,jI h.hc,jI h.nr,jI h.nc,.bool h.wants,.bool h.over,jI h.fk,jI h.fi,jS h.ft,h.tk,h.fn,h.th]
abbrev TF:TypeId:=97
def At(w:World)(X:Nat)(h:FH):Prop:=w.heap[X]?=some (.cells (fc h) TF (0,0))
structure Cells(w:World)(X:Nat)(h:FH):Prop where
 c0:w.cell? (jA X 0)=some (h.items)
 c1:w.cell? (jA X 1)=some (jI h.i)
 c2:w.cell? (jA X 2)=some (jI h.pos)
 c3:w.cell? (jA X 3)=some (jI h.hr)
 c4:w.cell? (jA X 4)=some (jI h.hc)
 c5:w.cell? (jA X 5)=some (jI h.nr)
 c6:w.cell? (jA X 6)=some (jI h.nc)
 c7:w.cell? (jA X 7)=some (.bool h.wants)
 c8:w.cell? (jA X 8)=some (.bool h.over)
 c9:w.cell? (jA X 9)=some (jI h.fk)
 c10:w.cell? (jA X 10)=some (jI h.fi)
 c11:w.cell? (jA X 11)=some (jS h.ft)
 c12:w.cell? (jA X 12)=some (h.tk)
 c13:w.cell? (jA X 13)=some (h.fn)
 c14:w.cell? (jA X 14)=some (h.th)
 f:∀i,w.frozen? (jA X i)=false
theorem At.cells{w:World}{X:Nat}{h:FH}(k:At w X h):Cells w X h:=by
 constructor
 all_goals first|(rw[Lib.cell_of_heap k];rfl)|exact fun i=>frozen_of_row w X i _ _ k
theorem At.lt{w:World}{X:Nat}{h:FH}(k:At w X h):X<w.heap.size:=(jg k)
theorem At.foot{F:Nat->Prop}{w w':World}{X:Nat}{h:FH}(k:At w X h)(hf:Foot F w w')(hX:¬F X):At w' X h:=(hf.block X k.lt hX).trans k
theorem At.below{w w':World}{X:Nat}{h:FH}(k:At w X h)(hb:Below w.heap.size w w'):At w' X h:=(hb.block X k.lt).trans k
abbrev VL(v:Val.V):Value:= .agg #[jI v.k,jI v.n,jS v.t]
theorem zck{F:Nat->Prop}{w v:World}(h:Foot F w v):Foot F w v.drew:=Bp104
def FH.ends(h:FH)(v:Val.V):FH:=cond h.over h {h with over:=true,wants:=false,fk:=v.k,fi:=v.n,ft:=v.t}
def _root_.Bp10(h:jp:=by exact Foot.set (Foot.refl _ _) rfl):=h
theorem ends_any(X:Nat)(h:FH)(v:Val.V)(w:World)(hX:At w X h):Calls prog 78 #[PT X,VL v] w fun e w'=>e=jr jT/\At w' X (h.ends v)/\Foot (fun k=>k=X) w w':=by
 obtain ⟨c0,c1,c2,c3,c4,c5,c6,c7,c8,c9,c10,c11,c12,c13,c14,f⟩:=hX.cells;have hlt:=hX.lt;cases t:h.over
 all_goals rw[t] at c8
 all_goals go_enter func78,ntmps78
 all_goals go_wp2
 .go_region;refine jY jT (by simp[results,results78,go_sem]) ⟨rfl,?_,zck (Foot.alloc (Foot.set (Foot.set (Foot.set (Foot.set Bp10 rfl) rfl) rfl) rfl))⟩;unfold FH.ends;rw[t];exact zai (zad (zad (zad (zad (zad (hX) 8 _) 7 _) 9 _) 10 _) 11 _)
 .refine jY jT (by simp[results,results78,go_sem]) ⟨rfl,?_,Foot.alloc (Foot.refl _ _)⟩;unfold FH.ends;rw[t];exact zai hX
theorem zbi(n:Int)(w:World):Ret 97 #[jI n] w (VL (⟨1,n,⟨#[]⟩⟩)):=by
 go_enter func97,ntmps97;go_wp2;exact jX (VL ⟨1,n,⟨#[]⟩⟩) (by simp[results,results97,go_sem]) ⟨rfl,B4⟩
theorem zcd(n:Int)(w:World):Ret 98 #[jI n] w (VL (⟨4,n,⟨#[]⟩⟩)):=by
 go_enter func98,ntmps98;go_wp2;exact jX (VL ⟨4,n,⟨#[]⟩⟩) (by simp[results,results98,go_sem]) ⟨rfl,B4⟩
theorem truth_any(b:Bool)(w:World):Ret 151 #[.bool b] w (VL (⟨2,cond b 1 0,⟨#[]⟩⟩)):=by
 cases b
 all_goals go_enter func151,ntmps151
 all_goals go_wp2
 .exact jX (VL ⟨2,0,⟨#[]⟩⟩) (by simp[results,results151,go_sem]) ⟨rfl,B4⟩
 .exact jX (VL ⟨2,1,⟨#[]⟩⟩) (by simp[results,results151,go_sem]) ⟨rfl,B4⟩
theorem zaf{F:Nat->Prop}{a b c:World}(h:Foot F b c)(hb:Below a.heap.size a b):Foot F a c:=
 (Foot.of_below hb).trans h
def FH.fails(h:FH)(n:Int):FH:=h.ends ⟨4,n,⟨#[]⟩⟩
theorem za6(X:Nat)(h:FH)(n:Int)(w:World)(hX:At w X h):Calls prog 101 #[PT X,jI n] w fun e w'=>e=jr jT/\At w' X (h.fails n)/\Foot (fun k=>k=X) w w':=by
 have HW:=jH fun (u:World)=>zcd n u;have HE:=jH fun (u:World) (hX:At u X h)=>ends_any X h ⟨4,n,⟨#[]⟩⟩ u hX;go_enter func101,ntmps101;go_wp2_with fail;refine jM (HW.out _) ?_;intro w1 hb;go_wp2_with fail;refine (HE.out _ (hX.below hb)).mono ?_;rintro e w2 ⟨rfl,h1,h2⟩;go_wp2_with fail;exact jY jT (by simp[results,results101,go_sem]) ⟨rfl,h1,zaf h2 hb⟩
def FH.want(h:FH)(r c:Int)(th:Value):FH:={h with nr:=r,nc:=c,wants:=true,th:=th}
theorem zg2(X:Nat)(h:FH)(r c:Int)(id:FuncId)(cs bs:Array Value)(w:World)(hX:At w X h):Calls prog 159 #[PT X,SP r c,.func (.func id) cs bs] w fun e w'=>e=jr jT/\At w' X (h.want r c (.func (.func id) cs bs))/\Foot (fun k=>k=X) w w':=by
 obtain ⟨c0,c1,c2,c3,c4,c5,c6,c7,c8,c9,c10,c11,c12,c13,c14,f⟩:=hX.cells;have hlt:=hX.lt;go_enter func159,ntmps159;go_wp2;exact jY jT (by simp[results,results159,go_sem]) ⟨rfl,zai (zad (zad (zad (zad (hX) 5 _) 6 _) 7 _) 14 _),Foot.alloc (Foot.set (Foot.set (Foot.set Bp10 rfl) rfl) rfl)⟩
theorem next_any(X:Nat)(h:FH)(w:World)(hX:At w X h):Ret 33 #[PT X] w (.tuple #[cond h.wants (SP h.nr h.nc) (SP 0 0),.bool h.wants]):=by
 obtain ⟨c0,c1,c2,c3,c4,c5,c6,c7,c8,c9,c10,c11,c12,c13,c14,f⟩:=hX.cells;have hlt:=hX.lt;cases t:h.wants
 all_goals rw[t] at c7
 all_goals go_enter func33,ntmps33
 all_goals go_wp2
 .exact jX (.tuple #[SP 0 0,.bool false]) (by simp[results,results33,go_sem]) ⟨rfl,B4⟩
 .exact jX (.tuple #[SP h.nr h.nc,.bool true]) (by simp[results,results33,go_sem]) ⟨rfl,B4⟩
theorem zw0(X:Nat)(h:FH)(w:World)(hX:At w X h):Ret 34 #[PT X] w (.tuple #[VL ⟨h.fk,h.fi,h.ft⟩,.bool h.over]):=by
 obtain ⟨c0,c1,c2,c3,c4,c5,c6,c7,c8,c9,c10,c11,c12,c13,c14,f⟩:=hX.cells;have hlt:=hX.lt;go_enter func34,ntmps34;go_wp2_with fail;go_region
 all_goals go_wp2
 all_goals exact jX (.tuple #[VL ⟨h.fk,h.fi,h.ft⟩,.bool h.over]) (by simp[results,results34,go_sem]) ⟨rfl,B4⟩
end Fd
namespace Mb
def mayP(r c:Int):Bool:=decide (0<=r)&&decide (r<65536)&&decide (0<=c)&&decide (c<702)
abbrev AR(t l b r:Int):Value:= .agg #[jI t,jI l,jI b,jI r]
def M182(h:jp:=by
 go_enter func16,ntmps16;go_wp2;go_ret;exact ⟨rfl,B4⟩):=h
def M183(h:jp:=by
 go_enter func14,ntmps14;go_wp2;go_ret;exact ⟨rfl,B4⟩):=h
theorem zdz(r c:Int)(w:World):Ret 16 #[SP r c] w (.bool (mayP r c)):=by
 unfold mayP;cases h1:decide (0<=r)
 .exact M182
 cases h2:decide (r<65536)
 .exact M182
 cases h3:decide (0<=c)
 .exact M182
 cases h4:decide (c<702)
 all_goals
  go_enter func16,ntmps16;go_wp2;go_ret;exact ⟨rfl,B4⟩
theorem zty(r c:Int)(w:World):Ret 14 #[SP r c] w (.bool (mayP r c)):=by
 unfold mayP;cases h1:decide (0<=r)
 .exact M183
 cases h2:decide (r<65536)
 .exact M183
 cases h3:decide (0<=c)
 .exact M183
 cases h4:decide (c<702)
 all_goals
  go_enter func14,ntmps14;go_wp2;go_ret;exact ⟨rfl,B4⟩
theorem zwr(t l b r:Int)(w:World):Ret 142 #[AR t l b r] w (SP t l):=by
 go_enter func142,ntmps142;go_wp2;exact jX (SP t l) (by simp[results,results142,go_sem]) ⟨rfl,B4⟩
theorem last_any(t l b r:Int)(w:World):Ret 143 #[AR t l b r] w (SP b r):=by
 go_enter func143,ntmps143;go_wp2;exact jX (SP b r) (by simp[results,results143,go_sem]) ⟨rfl,B4⟩
def zc6(t l b r:Int):Bool:=mayP t l&&mayP b r&&decide (t<=b)&&decide (l<=r)
def M11(h:jp:=by
 subst h1 h2;obtain ⟨hb,kk⟩:=zbd w #[jI t,jI l,jI b,jI r] 62;go_enter func92,ntmps92;go_wp2_with fail;generalize w.alloc (Obj.cells #[jI t,jI l,jI b,jI r] 62)=w0 at *;refine jM (HF.out _) ?_;intro w1 hb1;replace kk:=blk0 hb1 kk;replace hb:=jN hb hb1;clear hb1;obtain ⟨a0,a1,a2,a3⟩:=zah kk;go_wp2_with fail;clear a0 a1 a2 a3;refine jM (HP.out _) ?_;intro w2 hb2;replace kk:=blk0 hb2 kk;replace hb:=jN hb hb2;clear hb2;obtain ⟨a0,a1,a2,a3⟩:=zah kk;go_wp2_with fail;clear a0 a1 a2 a3;refine jM (HL.out _) ?_;intro w3 hb3;replace kk:=blk0 hb3 kk;replace hb:=jN hb hb3;clear hb3;obtain ⟨a0,a1,a2,a3⟩:=zah kk;go_wp2_with fail;clear a0 a1 a2 a3;refine jM (HQ.out _) ?_;intro w4 hb4;replace kk:=blk0 hb4 kk;replace hb:=jN hb hb4;clear hb4;obtain ⟨a0,a1,a2,a3⟩:=zah kk;go_wp2;go_ret;exact ⟨rfl,hb⟩):=h
theorem blk0{w w':World}{i:Nat}{o:Obj}(hb:Below w.heap.size w w')(k:w.heap[i]?=some o):w'.heap[i]?=some o:=jk hb k
theorem zah{w:World}{B T:Nat}{t l b r:Int}(h:w.heap[B]?=some (.cells #[jI t,jI l,jI b,jI r] T (0,0))):
 w.cell? (jA B 0)=some (jI t)/\w.cell? (jA B 1)=some (jI l)/\w.cell? (jA B 2)=some (jI b)/\w.cell? (jA B 3)=some (jI r):=
 ⟨(Lib.cell_of_heap h 0).trans rfl,(Lib.cell_of_heap h 1).trans rfl,(Lib.cell_of_heap h 2).trans rfl,(Lib.cell_of_heap h 3).trans rfl⟩
theorem zbd(w:World)(a:Array Value)(t:TypeId):Below w.heap.size w (w.alloc (.cells a t))/\(w.alloc (.cells a t)).heap[w.heap.size]?=some (.cells a t (0,0)):=
 ⟨jB.alloc jE _,heap_alloc_new _ _⟩
section
variable(t l b r:Int)(p q:Bool)(w:World)(HF:Hid (∀u,Ret 142 #[AR t l b r] u (SP t l)))(HL:Hid (∀u,Ret 143 #[AR t l b r] u (SP b r)))(HP:Hid (∀u,Ret 16 #[SP t l] u (.bool p)))(HQ:Hid (∀u,Ret 16 #[SP b r] u (.bool q)))
include t l b r p q w HF HL HP HQ
theorem amay_p(h1:p=false):
 Ret 92 #[AR t l b r] w (jI 11):=by
 subst h1;obtain ⟨hb,kk⟩:=zbd w #[jI t,jI l,jI b,jI r] 62;go_enter func92,ntmps92;go_wp2_with fail;generalize w.alloc (Obj.cells #[jI t,jI l,jI b,jI r] 62)=w0 at *;refine jM (HF.out _) ?_;intro w1 hb1;replace kk:=blk0 hb1 kk;replace hb:=jN hb hb1;clear hb1;obtain ⟨a0,a1,a2,a3⟩:=zah kk;go_wp2_with fail;clear a0 a1 a2 a3;refine jM (HP.out _) ?_;intro w2 hb2;replace kk:=blk0 hb2 kk;replace hb:=jN hb hb2;clear hb2;obtain ⟨a0,a1,a2,a3⟩:=zah kk;go_wp2;go_ret;exact ⟨rfl,hb⟩
theorem amay_q(h1:p=true)(h2:q=false):
 Ret 92 #[AR t l b r] w (jI 11):=by
 exact M11
section
variable(h1:p=true)(h2:q=true)
include h1 h2
theorem amay_tb(h3:decide (b<t)=true):
 Ret 92 #[AR t l b r] w (jI 11):=by
 exact M11
theorem amay_lr(h3:decide (b<t)=false)(h4:decide (r<l)=true):
 Ret 92 #[AR t l b r] w (jI 11):=by
 exact M11
theorem amay_ok(h3:decide (b<t)=false)(h4:decide (r<l)=false):
 Ret 92 #[AR t l b r] w (jI 0):=by
 exact M11
end
end
theorem zlc(t l b r:Int)(w:World):Ret 92 #[AR t l b r] w (jI (cond (zc6 t l b r) 0 11)):=by
 have HF:=jH (zwr t l b r);have HL:=jH (last_any t l b r);have HP:=jH (zdz t l);have HQ:=jH (zdz b r);unfold zc6;cases h1:mayP t l
 .exact amay_p t l b r _ _ w HF HL HP HQ h1
 cases h2:mayP b r
 .exact amay_q t l b r _ _ w HF HL HP HQ h1 h2
 by_cases h3:t<=b
 .by_cases h4:l<=r
  .rw[decide_eq_true h3,decide_eq_true h4];exact amay_ok t l b r _ _ w HF HL HP HQ h1 h2 (decide_eq_false B1) (decide_eq_false B1)
  .rw[decide_eq_false h4,Bool.and_false];exact amay_lr t l b r _ _ w HF HL HP HQ h1 h2 (decide_eq_false B1) (decide_eq_true B1)
 .rw[decide_eq_false h3,Bool.and_false];exact amay_tb t l b r _ _ w HF HL HP HQ h1 h2 (decide_eq_true B1)
def sizeAr(t l b r:Int):Int×Int:=cond (zc6 t l b r) (cond (decide ((b-t+1)*(r-l+1)<=4096)) ((b-t+1)*(r-l+1),0) (0,2)) (0,11)
def M60(h:jp:=by
 obtain ⟨hb,kk⟩:=zbd w #[jI t,jI l,jI b,jI r] 62;go_enter func63,ntmps63;go_wp2_with fail;generalize w.alloc (Obj.cells #[jI t,jI l,jI b,jI r] 62)=w0 at *;refine jM (HM.out _) ?_;intro w1 hb1;replace kk:=blk0 hb1 kk;replace hb:=jN hb hb1;clear hb1;obtain ⟨a0,a1,a2,a3⟩:=zah kk;go_wp2;go_ret2;exact ⟨rfl,hb⟩):=h
def B15(h:jp:=by first|(simp;done)|(have:=hb.size;simp;omega)):=h
def Bp17(h:jp:=by repeat (first|assumption|exact jB|apply Below.drew|(refine Below.alloc ?_ B15 _))):=h
theorem zf6{t l b r:Int}(h:zc6 t l b r=true):0<=t/\t<=b/\b<65536/\0<=l/\l<=r/\r<702:=by
 unfold zc6 mayP at h;simp only[Bool.and_eq_true,decide_eq_true_eq] at h;omega
theorem zae{x:Int}(h1:-9223372036854775808<=x)(h2:x<=9223372036854775807):IntKind.i64.wrap x=x:=by
 exact M139
section
variable(t l b r:Int)
include t l b r
theorem zx7(m:Int)(w:World)(HM:Hid (∀u,Ret 92 #[AR t l b r] u (jI m)))(h1:(m !=0)=true):
 Ret 63 #[AR t l b r] w (.tuple #[jI 0,jI m]):=by
 exact M60
section
variable(m d1 h d2 v n:Int)(w:World)(HM:Hid (∀u,Ret 92 #[AR t l b r] u (jI m)))(h1:(m !=0)=false)(w1:IntKind.i64.wrap (b-t)=d1)(w2:IntKind.i64.wrap (d1+1)=h)(w3:IntKind.i64.wrap (r-l)=d2)(w4:IntKind.i64.wrap (d2+1)=v)(w5:IntKind.i64.wrap (h*v)=n)
include m d1 h d2 v n w HM h1 w1 w2 w3 w4 w5
theorem zx6(h2:decide (4096<n)=true):
 Ret 63 #[AR t l b r] w (.tuple #[jI 0,jI 2]):=by
 exact M60
theorem asize_ok(h2:decide (4096<n)=false):
 Ret 63 #[AR t l b r] w (.tuple #[jI n,jI 0]):=by
 exact M60
end
theorem zfo(w:World):Ret 63 #[AR t l b r] w (.tuple #[jI (sizeAr t l b r).1,jI (sizeAr t l b r).2]):=by
 have HM:=jH (zlc t l b r);unfold sizeAr;cases hm:zc6 t l b r
 .rw[hm] at HM;exact zx7 t l b r _ w HM rfl
 .rw[hm] at HM;have hB:=zf6 hm;have hmul:(b-t+1)*(r-l+1)<=65536*702:=Int.mul_le_mul B1 B1 B1 B1;have hmul0:0<=(b-t+1)*(r-l+1):=Int.mul_nonneg B1 B1;have e1:IntKind.i64.wrap (b-t)=b-t:=zae B1 B1;have e2:IntKind.i64.wrap (b-t+1)=b-t+1:=zae B1 B1;have e3:IntKind.i64.wrap (r-l)=r-l:=zae B1 B1;have e4:IntKind.i64.wrap (r-l+1)=r-l+1:=zae B1 B1;have e5:IntKind.i64.wrap ((b-t+1)*(r-l+1))=(b-t+1)*(r-l+1):=zae B1 B1
  by_cases h:(b-t+1)*(r-l+1)<=4096
  .rw[decide_eq_true h];exact asize_ok t l b r _ (b-t) (b-t+1) (r-l) (r-l+1) ((b-t+1)*(r-l+1)) w HM rfl e1 e2 e3 e4 e5 (decide_eq_false B1)
  .rw[decide_eq_false h];exact zx6 t l b r _ (b-t) (b-t+1) (r-l) (r-l+1) ((b-t+1)*(r-l+1)) w HM rfl e1 e2 e3 e4 e5 (decide_eq_true B1)
end
theorem cfits_any(x y:Int)(w:World):Ret 27 #[.int .u8 x,.int .u8 y] w (.bool (x==y||x==69)):=by
 cases h1:x==y
 .cases h2:x==69
  all_goals
   go_enter func27,ntmps27;go_wp2;go_ret;exact ⟨rfl,jB⟩
 .go_enter func27,ntmps27;go_wp2;go_ret;exact ⟨rfl,jB⟩
theorem zcu(n lo hi:Int)(w:World):Ret 40 #[jI n,jI lo,jI hi] w (.bool (decide (lo<=n)&&decide (n<=hi))):=by
 cases h1:decide (lo<=n)
 .go_enter func40,ntmps40;go_wp2;go_ret;exact ⟨rfl,jB⟩
 .cases h2:decide (n<=hi)
  all_goals
   go_enter func40,ntmps40;go_wp2;go_ret;exact ⟨rfl,jB⟩
theorem zsb(t l b r n e0:Int)(q:Bool)(w:World)(hq:(e0==0)=q)(HS:Hid (∀u,Ret 63 #[AR t l b r] u (.tuple #[jI n,jI e0]))):
 Ret 46 #[AR t l b r] w (.bool q):=by
 have hb:Below w.heap.size w (w.alloc (Obj.cells #[jI t,jI l,jI b,jI r] 62)):=jB.alloc jE _;go_enter func46,ntmps46;go_wp2_with fail;generalize w.alloc (Obj.cells #[jI t,jI l,jI b,jI r] 62)=w0 at *;refine jM (HS.out _) ?_;intro w1 hb1;replace hb:=jN hb hb1;cases q
 all_goals
  go_wp2;go_ret;exact ⟨rfl,hb⟩
theorem zsc(t l b r:Int)(w:World):Ret 46 #[AR t l b r] w (.bool ((sizeAr t l b r).2==0)):=
 zsb t l b r _ _ _ w rfl (jH (zfo t l b r))
theorem zxk(a:Value)(w:World):Ret 52 #[a] w (.bool true):=by
 go_enter func52,ntmps52;go_wp2;go_ret;exact ⟨rfl,jB⟩
structure InsAt(w:World)(g o:Nat)(op a b c d:Int)(T:Value):Prop where
 lt:g<w.heap.size
 c0:w.cell? (jA g o)=some (jI op)
 c1:w.cell? (jA g (o+1))=some (jI a)
 c2:w.cell? (jA g (o+2))=some (jI b)
 c3:w.cell? (jA g (o+3))=some (jI c)
 c4:w.cell? (jA g (o+4))=some (jI d)
 c5:w.cell? (jA g (o+5))=some T
theorem InsAt.below{w w':World}{g o B:Nat}{op a b c d:Int}{T:Value}(h:InsAt w g o op a b c d T)(hB:g<B)(hb:Below B w w'):InsAt w' g o op a b c d T:=
 ⟨jL h.lt hb.size,jQ hb h.c0 hB,jQ hb h.c1 hB,jQ hb h.c2 hB,
  jQ hb h.c3 hB,jQ hb h.c4 hB,jQ hb h.c5 hB⟩
abbrev PI(g o:Nat):Value:=jU g o
def M120(h:jp:=by
 go_wp2_with fail;refine jM (HW.out _) ?_;intro w1 hb;go_wp2;go_ret;exact ⟨rfl,hb⟩):=h
def M82(h:jp:=by
 change wpList _ _ _ _ _ w.drew;have hd:Below w.heap.size w w.drew:=jB.drew;generalize w.drew=w2 at *;go_wp2_with fail;refine jM (HW.out _) ?_;intro w1 hb;go_wp2;go_ret;exact ⟨rfl,jN hd hb⟩):=h
section
variable(g o:Nat)(op a b c d:Int)(T:Value)(w:World)(h:InsAt w g o op a b c d T)
include g o op a b c d T w h
theorem good_un:Ret 47 #[PI g o] w (.bool (decide ((1:Int)<=a)&&decide (a<=3))):=by
 have HW:=jH fun u=>zcu a 1 3 u;generalize (decide ((1:Int)<=a)&&decide (a<=3))=q at HW ⊢;obtain ⟨hlt,c0,c1,c2,c3,c4,c5⟩:=h;go_enter func47,ntmps47;exact M120
theorem good_bin:Ret 48 #[PI g o] w (.bool (decide ((1:Int)<=a)&&decide (a<=12))):=by
 have HW:=jH fun u=>zcu a 1 12 u;generalize (decide ((1:Int)<=a)&&decide (a<=12))=q at HW ⊢;obtain ⟨hlt,c0,c1,c2,c3,c4,c5⟩:=h;go_enter func48,ntmps48;exact M120
theorem zn3:Ret 56 #[PI g o] w (.bool (decide ((2:Int)<=a)&&decide (a<=4))):=by
 have HW:=jH fun u=>zcu a 2 4 u;generalize (decide ((2:Int)<=a)&&decide (a<=4))=q at HW ⊢;obtain ⟨hlt,c0,c1,c2,c3,c4,c5⟩:=h;go_enter func56,ntmps56;exact M120
theorem zry:Ret 58 #[PI g o] w (.bool (decide ((1:Int)<=a)&&decide (a<=2))):=by
 have HW:=jH fun u=>zcu a 1 2 u;generalize (decide ((1:Int)<=a)&&decide (a<=2))=q at HW ⊢;obtain ⟨hlt,c0,c1,c2,c3,c4,c5⟩:=h;go_enter func58,ntmps58;exact M120
theorem zrz:Ret 43 #[PI g o] w (.bool (mayP a b)):=by
 have HW:=jH fun u=>zdz a b u;generalize (mayP a b)=q at HW ⊢;obtain ⟨hlt,c0,c1,c2,c3,c4,c5⟩:=h;go_enter func43,ntmps43;go_wp2_with fail;go_still_tail 9,(by kernel_rfl);exact M82
theorem zwe:Ret 45 #[PI g o] w (.bool ((sizeAr a b c d).2==0)):=by
 have HW:=jH fun u=>zsc a b c d u;generalize ((sizeAr a b c d).2==0)=q at HW ⊢;obtain ⟨hlt,c0,c1,c2,c3,c4,c5⟩:=h;go_enter func45,ntmps45;go_wp2_with fail;go_still_tail 17,(by kernel_rfl);exact M82
theorem zwb:Ret 53 #[PI g o] w (.bool (a==47||a==48)):=by
 obtain ⟨hlt,c0,c1,c2,c3,c4,c5⟩:=h;cases h1:a==47
 .cases h2:a==48
  all_goals
   go_enter func53,ntmps53;go_wp2;go_ret;exact ⟨rfl,jB⟩
 .go_enter func53,ntmps53;go_wp2;go_ret;exact ⟨rfl,jB⟩
theorem good_err:Ret 84 #[PI g o] w (.bool (decide (0<=b))):=by
 obtain ⟨hlt,c0,c1,c2,c3,c4,c5⟩:=h;cases h1:decide (0<=b)
 all_goals
  go_enter func84,ntmps84;go_wp2;go_ret;exact ⟨rfl,jB⟩
theorem good_ok:Ret 87 #[PI g o] w (.bool (b==0||b==6)):=by
 obtain ⟨hlt,c0,c1,c2,c3,c4,c5⟩:=h;cases h1:b==0
 .cases h2:b==6
  all_goals
   go_enter func87,ntmps87;go_wp2;go_ret;exact ⟨rfl,jB⟩
 .skip
  go_enter func87,ntmps87;go_wp2;go_ret;exact ⟨rfl,jB⟩
end
theorem zn2(nm:ByteArray)(cl mn mx e0:Int)(q:Bool)(hq:(cl==4)=q)(g o:Nat)(op a b c d:Int)(T:Value)(w:World)(h:InsAt w g o op a b c d T)(HI:Hid (∀u,Ret 55 #[jI a] u (.tuple #[.agg #[jS nm,jI cl,jI mn,jI mx],jI e0]))):
 Ret 54 #[PI g o] w (.bool q):=by
 obtain ⟨hlt,c0,c1,c2,c3,c4,c5⟩:=h;go_enter func54,ntmps54;go_wp2_with fail;refine jM (HI.out _) ?_;intro w1 hb;cases q
 all_goals
  go_wp2;go_ret;exact ⟨rfl,Bp17⟩
theorem zrx(g o:Nat)(op a b c d:Int)(T:Value)(w:World)(h:InsAt w g o op a b c d T):Ret 54 #[PI g o] w (.bool ((infoV a).1.2.1==4)):=by
 have HI:=zd4 a;generalize infoV a=r at HI ⊢;obtain ⟨⟨nm,cl,mn,mx⟩,e0⟩:=r;exact zn2 nm cl mn mx e0 _ rfl g o op a b c d T w h (jH HI)
def exC(l:List (Int×Value)):List Value:=l.flatMap fun p=> [jI p.1,p.2]
def Exits(w':World)(lo:Nat)(v:Value)(l:List (Int×Value)):Prop:=
 ∃(g cap:Nat) (cur:Array Value),v=jP g 0 l.length cap/\lo<=g/\w'.heap[g]?=some (.cells cur 81 (0,0))/\cur.toList.take (l.length*2)=exC l
theorem zts(g o:Nat)(op a b c d i:Int)(T:Value)(sa:Option Addr)(n cap:Nat)(w:World)(h:InsAt w g o op a b c d T):Calls prog 91 #[PI g o,jI i,.slice sa n cap] w fun e w'=>
 ∃v,e=jr (.tuple #[v,.bool true])/\Exits w' w.heap.size v [(a,.slice sa n cap)]/\Below w.heap.size w w':=by
 obtain ⟨hlt,c0,c1,c2,c3,c4,c5⟩:=h;go_enter func91,ntmps91;go_wp2;go_ret2;exact ⟨_,rfl,⟨w.heap.size,1,_,rfl,jE,heap_alloc_new _ _,rfl⟩,jB.alloc jE _⟩
theorem zx9{P:Program}(w:World)(t u ty e e':TypeId)(i:TypeInfo)(ht:P.underlying t=some (.slice e))(hu:P.underlying u=some (.slice e'))(hi:P.info? e=some i)(base:Option Addr)(n c:Nat)(x:Value):
 (Builtin.append_ #[t,u] ty #[.slice base n c,x]).run P w=(Builtin.append_ #[t,t] ty #[.slice base n c,x]).run P w:=by
 simp[Builtin.append_,run_underlying ht,run_underlying hu,sizeOf,typeInfo,hi]
def u8s(s:List Int):List Value:=s.map fun x=> .int .u8 x
theorem u8s_len(s:List Int):(u8s s).length=s.length:=by simp[u8s]
theorem zft(s t:List Int):u8s (s++t)=u8s s++u8s t:=by simp[u8s]
theorem u8s_one(s:List Int):∀u∈u8s s,u.oneCell'=true:=by
 intro u hu;obtain ⟨x,_,rfl⟩:=List.mem_map.1 hu;rfl
def Typed(w:World)(g:Nat):Prop:=∃cur fr,w.heap[g]?=some (.cells cur 85 fr)
theorem Typed.lt{w:World}{g:Nat}(h:Typed w g):g<w.heap.size:=by
 obtain ⟨_,_,h⟩:=h;exact (jg h)
theorem Typed.kept{w w':World}{g:Nat}(h:Typed w g)(hk:w'.heap[g]?=w.heap[g]?):Typed w' g:=by
 obtain ⟨a,b,h⟩:=h;exact ⟨a,b,hk.trans h⟩
def Rd(lo:Nat)(w:World)(v:Value)(s:List Int):Prop:=
 (v=jZ/\s=[])\/∃g cap,v=jP g 0 s.length cap/\s.length<=cap/\lo<=g/\Typed w g/\∀(j:Nat) (x:Int),s[j]?=some x->w.cell? (jA g j)=some (.int .u8 x)
def M151(h:jp:=by
 rcases h with ⟨rfl,rfl⟩|⟨g,cap,rfl,_⟩
 .exact ⟨_,_,rfl⟩
 .exact ⟨_,_,rfl⟩):=h
theorem Rd.nil(lo:Nat)(w:World):Rd lo w jZ []:= .inl ⟨rfl,rfl⟩
theorem Rd.mono{lo lo':Nat}{w:World}{v:Value}{s:List Int}(h:Rd lo w v s)(hl:lo'<=lo):Rd lo' w v s:=by
 rcases h with h|⟨g,cap,h1,h2,h3,h4⟩
 .exact .inl h
 .exact .inr ⟨g,cap,h1,h2,jR hl h3,h4⟩
section
variable{lo:Nat}{w w':World}{v:Value}{s:List Int}(h:Rd lo w v s)
include lo w w' v s h
theorem Rd.kept(hs:w.heap.size<=w'.heap.size)(hk:∀g,lo<=g->Typed w g->w'.heap[g]?=w.heap[g]?):Rd lo w' v s:=by
 rcases h with h|⟨g,cap,h1,h2,h3,h4,h5⟩
 .exact .inl h
 .refine .inr ⟨g,cap,h1,h2,h3,h4.kept (hk g h3 h4),fun j x hx=> ?_⟩;rw[<-h5 j x hx];exact World.cell?_of_block (a:=(jA g j)) (hk g h3 h4)
theorem Rd.below(hb:Below w.heap.size w w'):Rd lo w' v s:=h.kept hb.size fun g _ hg=>hb.block g hg.lt
end
theorem Rd.any{lo:Nat}{w:World}{v:Value}{s:List Int}(h:Rd lo w v s):∃a cap,v= .slice a s.length cap:=by
 exact M151
theorem Rd.of_own{lo lo' size:Nat}{w:World}{v:Value}{n:Nat}{s:List Int}(hn:n=s.length)(h:w.ownsRow lo 85 1 v n (u8s s))(hl:lo'<=lo):Rd lo' w v s:=by
 subst hn;rcases h.2 with ⟨rfl,h0⟩|⟨g,cap,cur,rfl,hb,hg,hle,_,hs,ht⟩
 .exact .inl ⟨rfl,List.eq_nil_of_length_eq_zero h0⟩
 .refine .inr ⟨g,cap,rfl,hle,jR hl hb,⟨_,_,hg⟩,fun j x hx=> ?_⟩;have h1:=World.ownsRow.cells h (g:=g) rfl j (.int .u8 x) (by unfold u8s;rw[List.getElem?_map,hx];rfl);have hadd:((jA g 0):Addr).add j=(jA g j):=B16;rw[hadd] at h1;exact h1
theorem zkn{P:Program}{w:World}(base lo:Nat)(t u ty e e':TypeId)(i:TypeInfo)(z:Value)(bytes:Nat)(ht:P.underlying t=some (.slice e))(hu:P.underlying u=some (.slice e'))(hi:P.info? e=some i)(hz:i.zero=some z)(hsize:i.size=1)(hby:i.bytes=bytes)(hzs:z.cells.size=1)(v:Value)(n:Nat)(xs:List Value)(hown:w.ownsRow base e 1 v n xs)(x:Value)(s:List Int)(hs:Rd lo w x s)(h63:n+s.length<=maxLen)(hbytes:(n+s.length)*bytes<=140737488355328)(hbase:base<=w.heap.size):
 ∃v' w',(Builtin.append_ #[t,u] ty #[v,x]).run P w= .ok v' w'/\w'.ownsRow base e 1 v' (n+s.length) (xs++u8s s)/\w.grownBy w' v.ownBlock:=by
 have hsh:∃b c,v= .slice b n c:=by
  rcases hown.2 with ⟨rfl,rfl⟩|⟨g,cap,cur,rfl,_⟩
  .exact ⟨_,_,rfl⟩
  .exact ⟨_,_,rfl⟩
 have htx:(Builtin.append_ #[t,u] ty #[v,x]).run P w=(Builtin.append_ #[t,t] ty #[v,x]).run P w:=by
  obtain ⟨b,c,rfl⟩:=hsh;exact zx9 w t u ty e e' i ht hu hi b n c x
 rw[htx];rcases hs with ⟨rfl,rfl⟩|⟨g,cap,rfl,h2,h3,h4,h5⟩
 .refine ⟨v,w,run_append_owned_none (P:=P) (w:=w) base t ty e i 1 ht hi v n xs hown,?_,⟨rfl,rfl,rfl,jE,fun _ _ _=>rfl⟩⟩;simpa[u8s] using hown
 .have hnews:∀(j:Nat) (u:Value),(u8s s)[j]?=some u->w.cell? (((jA g 0):Addr).add j)=some u:=fun j u hj=>by
   have hadd:((jA g 0):Addr).add j=(jA g j):=B16;rw[hadd];unfold u8s at hj;rw[List.getElem?_map] at hj;obtain ⟨y,hy,rfl⟩:=Option.map_eq_some_iff.1 hj;exact h5 j y hy
  obtain ⟨v',w',r1,r2,r3,_⟩:=run_append_own (P:=P) w base t ty e i z 1 bytes ht hi hz hsize hby hzs B3 v n xs hown ⟨g,0,none⟩ s.length cap (u8s s) (by rw[u8s_len];simp) hnews (u8s_one s) h63 hbytes hbase;exact ⟨v',w',r1,r2,r3⟩
theorem wpList_append_rd{P:Program}(w:World){ops:Array Oper}{rest:List Oper}{o:Oper}{a:Act}{Q:Exit->Act->World->Prop}(hgd:o.guard=none)(sx x:Operand)(t u:TypeId)(ho:o.op= .call {callee:= .builtin .append,args:=#[sx,x],argTypes:=#[t,u]})(base lo:Nat)(e e':TypeId)(i:TypeInfo)(z:Value)(bytes:Nat)(ht:P.underlying t=some (.slice e))(hu:P.underlying u=some (.slice e'))(hi:P.info? e=some i)(hz:i.zero=some z)(hsize:i.size=1)(hby:i.bytes=bytes)(hzs:z.cells.size=1)(v:Value)(n:Nat)(xs:List Value)(hv:a.eval sx=v)(hown:w.ownsRow base e 1 v n xs)(xv:Value)(s:List Int)(hx:a.eval x=xv)(hs:Rd lo w xv s)(h63:n+s.length<=maxLen)(hbytes:(n+s.length)*bytes<=140737488355328)(hbase:base<=w.heap.size)(h:∀v' w',w'.ownsRow base e 1 v' (n+s.length) (xs++u8s s)->w.grownBy w' v.ownBlock->wpList P ops Q rest (a.put o.dst v') w'):wpList P ops Q (o::rest) a w:=by
 obtain ⟨v',w',hr,h2,h3⟩:=zkn (P:=P) (w:=w) base lo t u o.type e e' i z bytes ht hu hi hz hsize hby hzs v n xs hown xv s hs h63 hbytes hbase;refine wpList_plain hgd fun K hK=> ?_;unfold Oper.wp;simp[execOp,ho,resolve,invoke,builtin,hv,hx,hr,Result.andThen];exact hK _ _ (h v' w' h2 h3)
end Mb
end
open Go Go.RowKit
namespace Drw
variable {P:Program} {ops:Array Oper} {Q:Exit->Act->World->Prop}
def dst(ops:Array Oper)(j:Nat):Option Tmp:=(ops[j]?).bind (·.dst)
def putAll(ops:Array Oper)(f:Nat->Value):List Nat->Act->Act
 |[],a=>a
 |j::js,a=>putAll ops f js (a.put (dst ops j) (f j))
def giveUpon(P:Program)(R:Value->World->Prop):Result Next->Prop
 | .ok (.value v) w'=>R v w'
 | .ok .skip w'=>R undef w'
 | .ok (.enter f args) w'=>Calls P f args w' fun e w''=>∃v,e=jr v/\R v w''
 | .ok (.row row args) w'=>Rows P row args w' R
 |_=>False
def Give(P:Program)(ops:Array Oper)(o:Oper)(b:Act)(w:World)(R:Value->World->Prop):Prop:=
 if Region.wanted o (yielded ops b.tmps)=true then giveUpon P R ((execOp b.eval o).run P w) else R undef w
theorem zlf{i:Nat}{o:Oper}{a b:Act}{w:World}{R:Value->World->Prop}{K:Act->World->Prop}(ho:ops[i]?=some o)(hs:∀cs x,o.op≠ .select cs x)(hl:∀t∈o.looksAt ops,a.tmps[t]?=b.tmps[t]?)(hK:∀v w',R v w'->K (a.put o.dst v) w')(h:Give P ops o b w R):wpOp P ops Q i K a w:=by
 have he:execOp a.eval o=execOp b.eval o:=execOp_congr o hs fun x hx=>by
  cases x with
  |tmp t=>
   have:=hl t (List.mem_append_left _ (List.mem_filterMap.2 ⟨.tmp t,by simpa using hx,rfl⟩));simp[Act.eval,this]
  |_=>rfl
 have hw:Region.wanted o (yielded ops a.tmps)=Region.wanted o (yielded ops b.tmps):=by
  unfold Region.wanted;cases hg:o.guard with
  |none=>rfl
  |some gw=>
   obtain ⟨g,want⟩:=gw;have hy:yielded ops a.tmps g=yielded ops b.tmps g:=by
    unfold yielded;cases ht:(ops[g]?).bind (·.dst) with
    |none=>rfl
    |some t=>
     have:=hl t (by simp[Oper.looksAt,hg,ht]);simp[this]
   simp only[hy]
 unfold wpOp;simp only[ho];unfold Give at h;rw[hw];split
 .rename_i hwd
  rw[if_pos hwd] at h;refine .inl ?_;unfold Oper.wp;rw[he];generalize (execOp b.eval o).run P w=r at *;cases r with
  |ok n w'=>
   cases n <;> simp only[giveUpon,Oper.upon] at h ⊢
   case value u=>exact hK _ _ h
   case skip=>exact hK _ _ h
   case enter f args=>exact Calls.mono h fun e w'' ⟨v,he,hr⟩=>by subst he;exact hK _ _ hr
   case row row args=>exact Rows.mono h fun v w'' hr=>hK _ _ hr
  |halt x w'=>cases x <;> simp only[giveUpon] at h
 .rename_i hwd
  rw[if_neg hwd] at h;exact hK _ _ h
def Blk(f:Nat->Value)(o:Obj)(v:Value)(w:World):Prop:=∃b,v=f b/\w.heap[b]?=some o
section
variable{f:Nat->Value}{o:Obj}{v:Value}
include f o v
theorem Blk.stable{w w':World}(h:Blk f o v w)(hb:Below w.heap.size w w'):Blk f o v w':=by
 obtain ⟨b,e,k⟩:=h;exact ⟨b,e,jk hb k⟩
theorem bk{w:World}(h:∃b,v=f b/\w.heap[b]?=some o):Blk f o v w:=h
theorem own{w:World}(h:Blk f o v w):∃b,v=f b/\w.heap[b]?=some o:=h
end
theorem val{v x:Value}(h:v=x):v=x:=h
theorem no{b:Bool}{p:Prop}(h:b=false)(k:b=true):p:=by rw[h] at k;cases k
theorem st{p:Value->Prop}(v:Value)(w w':World)(h:Below w.heap.size w w')(hv:p v):p v:=hv
theorem stb{f:Nat->Value}{o:Obj}(v:Value)(w w':World)(h:Below w.heap.size w w')(hv:Blk f o v w):Blk f o v w':=hv.stable h
theorem zie{p:Nat->Prop}:∀j,j<0->p j:=fun j h=>absurd h (Nat.not_lt_zero j)
theorem zac{p:Nat->Prop}{n:Nat}(h:∀j,j<n->p j)(hn:p n):∀j,j<n+1->p j:=fun j hj=>by
 by_cases e:j=n
 .subst e;exact hn
 .exact h j B1
def blk:Value->Option Nat
 | .pointer (some p)=>some p.block
 | .slice (some p) _ _=>some p.block
 |_=>none
def zsz(ops:Array Oper):Nat->Nat->Nat->Bool
 |0,_,_=>false
 |k+1,i,j=>((ops[i]?).map fun o=>o.after.any fun e=>Region.binds .any e&&(e.on==j||zsz ops k e.on j)).getD false
def needs(o:Oper)(j:Nat):Bool:=o.after.toList.any fun e=>Region.binds .any e&&e.on==j
def zea(ops:Array Oper)(m:Nat):Bool:=
 decide (m<=ops.size)&&Region.noSelect ops&&
 (List.range ops.size).all (fun i=>((ops[i]?).map fun o=>o.after.all fun e=> !Region.binds .any e||decide (e.on<i)).getD true)&&
 (List.range m).all (fun i=>((ops[i]?).map fun o=>(o.looksAt ops).all fun t=>(List.range m).all fun j=>dst ops j !=some t||needs o j).getD true)&&
 (List.range m).all (fun j=>(List.range m).all fun k=>j==k||dst ops j==none||dst ops j !=dst ops k)&&
 (List.range ops.size).all (fun i=>decide (i<m)||(List.range m).all fun j=>zsz ops ops.size i j)
section
variable {m:Nat}
def _root_.B204(h:jp:=by simpa using hi):=h
def _root_.B206(h:jp:=by simpa using hk):=h
section
variable(h:zea ops m=true)
include h
theorem ok_le:m<=ops.size:=by
 unfold zea at h;simp only[Bool.and_eq_true,decide_eq_true_eq] at h;exact h.1.1.1.1.1
theorem ok_sel{i:Nat}{o:Oper}(ho:ops[i]?=some o):∀cs x,o.op≠ .select cs x:=by
 unfold zea at h;simp only[Bool.and_eq_true] at h;exact fun cs x=>Region.noSelect_spec h.1.1.1.1.2 i o cs x ho
theorem zuq{i:Nat}{o:Oper}(ho:ops[i]?=some o){e:Edge}(he:e∈o.after)(hb:Region.binds .any e=true):e.on<i:=by
 unfold zea at h;simp only[Bool.and_eq_true] at h;have h3:=h.1.1.1.2;have hi:i<ops.size:=(jg ho);have:=List.all_eq_true.1 h3 i B204;simp only[ho,Option.map_some,Option.getD_some] at this;have:=Array.all_eq_true_iff_forall_mem.1 this e he;simpa[hb] using this
theorem zup{i:Nat}(hi:i<m){o:Oper}(ho:ops[i]?=some o){t:Tmp}(ht:t∈o.looksAt ops){j:Nat}(hj:j<m)(hd:dst ops j=some t):needs o j=true:=by
 unfold zea at h;simp only[Bool.and_eq_true] at h;have h3:=h.1.1.2;have:=List.all_eq_true.1 h3 i B204;simp only[ho,Option.map_some,Option.getD_some] at this;have:=List.all_eq_true.1 (List.all_eq_true.1 this t ht) j B69;simpa[hd] using this
theorem ok_one{j k:Nat}(hj:j<m)(hk:k<m){t:Tmp}(h1:dst ops j=some t)(h2:dst ops k=some t):j=k:=by
 unfold zea at h;simp only[Bool.and_eq_true] at h;have:=List.all_eq_true.1 (List.all_eq_true.1 h.1.2 j B69) k B206;simpa[h1,h2] using this
theorem ok_late{i:Nat}(hi:i<ops.size)(hm:m<=i){j:Nat}(hj:j<m):zsz ops ops.size i j=true:=by
 unfold zea at h;simp only[Bool.and_eq_true] at h;have:=List.all_eq_true.1 h.2 i B204;simp only[Bool.or_eq_true,decide_eq_true_eq] at this;rcases this with h|h
 .omega
 .exact List.all_eq_true.1 h j B69
end
theorem ze7(f:Nat->Value):∀(js:List Nat) (a:Act),(putAll ops f js a).defers=a.defers
 |[],a=>rfl
 |j::js,a=>by
  unfold putAll;rw[ze7 f js];cases dst ops j <;> rfl
theorem zkq(a:Act)(x:Option Tmp)(v:Value):(a.put x v).tmps.size=a.tmps.size:=by cases x <;> simp[Act.put]
theorem zel(f:Nat->Value):∀(js:List Nat) (a:Act),(putAll ops f js a).tmps.size=a.tmps.size
 |[],a=>rfl
 |j::js,a=>by
  unfold putAll;rw[zel f js,zkq]
theorem zh6(a:Act)(x:Option Tmp)(v:Value)(t:Tmp)(h:x≠some t):(a.put x v).tmps[t]?=a.tmps[t]?:=by
 cases x with
 |none=>rfl
 |some d=>
  have:d≠t:=fun e=>h B196;simp[Act.put,Array.getElem?_setIfInBounds_ne this]
theorem zo6(a:Act)(v:Value)(t:Tmp)(h:t<a.tmps.size):(a.put (some t) v).tmps[t]?=some v:=by
 simp[Act.put,h]
theorem zdi(f:Nat->Value)(t:Tmp):∀(js:List Nat) (a:Act),(∀j∈js,dst ops j≠some t)->(putAll ops f js a).tmps[t]?=a.tmps[t]?
 |[],a,_=>rfl
 |j::js,a,h=>by
  unfold putAll;rw[zdi f t js _ (fun k hk=>h k (List.mem_cons_of_mem _ hk)),zh6 _ _ _ _ (h j (List.mem_cons_self ..))]
theorem zem(f:Nat->Value)(t:Tmp)(j:Nat)(hd:dst ops j=some t):∀(js:List Nat) (a:Act),t<a.tmps.size->j∈js->(∀k∈js,dst ops k=some t->k=j)->(putAll ops f js a).tmps[t]?=some (f j)
 |[],a,_,h,_=>by cases h
 |k::js,a,ht,h,hu=>by
  unfold putAll
  by_cases hj:j∈js
  .exact zem f t j hd js _ (by rw[zkq];exact ht) hj (fun k hk=>hu k (List.mem_cons_of_mem _ hk))
  .obtain rfl:j=k:=by
    rcases List.mem_cons.1 h with h|h
    .exact h
    .exact absurd h hj
   rw[zdi f t js _ (fun k hk e=>hj (hu k (List.mem_cons_of_mem _ hk) e▸hk)),hd,zo6 _ _ _ ht]
end
structure Inv(ops:Array Oper)(m:Nat)(S:World->Prop)(V:Nat->Value->World->Prop)(mk:Nat->Bool)(a0:Act)(z:Nat)(listed:Array Bool)(f:Nat->Value)(a:Act)(w:World):Prop where
 hz:z<=w.heap.size
 sz:listed.size=ops.size
 late:∀i,m<=i->listed.getD i false=false
 closed:∀k,listed.getD k false=true->∀o,ops[k]?=some o->∀e∈o.after,Region.binds .any e=true->listed.getD e.on false=true
 df:a.defers=a0.defers
 ts:a.tmps.size=a0.tmps.size
 at1:∀j,j<m->listed.getD j false=true->∀t,dst ops j=some t->t<a0.tmps.size->a.tmps[t]?=some (f j)
 at2:∀t,(∀j,j<m->listed.getD j false=true->dst ops j≠some t)->a.tmps[t]?=a0.tmps[t]?
 s:S w
 v:∀j,j<m->listed.getD j false=true->V j (f j) w
 b:∀j,j<m->listed.getD j false=true->mk j=true->∃b,blk (f j)=some b/\z<=b/\b<w.heap.size
 d:∀j k,j<m->k<m->listed.getD j false=true->listed.getD k false=true->mk j=true->mk k=true->j≠k->blk (f j)≠blk (f k)
def Ob(P:Program)(ops:Array Oper)(m:Nat)(S:World->Prop)(V:Nat->Value->World->Prop)(mk:Nat->Bool)(A:(Nat->Value)->Act)(i:Nat)(o:Oper):Prop:=
 ∀f w,S w->(∀j,needs o j=true->V j (f j) w)->∀K:Value->World->Prop,
  Hid (∀v w',V i v w'->Below w.heap.size w w'->(mk i=true->∃b,blk v=some b/\w.heap.size<=b/\b<w'.heap.size)->K v w')->Give P ops o (A f) w K
def Obs(P:Program)(ops:Array Oper)(m:Nat)(S:World->Prop)(V:Nat->Value->World->Prop)(mk:Nat->Bool)(A:(Nat->Value)->Act):Nat->List Oper->Prop
 |_,[]=>True
 |i,o::l=>Ob P ops m S V mk A i o/\Obs P ops m S V mk A (i+1) l
section
variable {m:Nat} {S:World->Prop} {V:Nat->Value->World->Prop} {mk:Nat->Bool} {A:(Nat->Value)->Act}
def M190(h:jp:=by
 rw[zdi f t _ _ (fun j hj e=>hd ⟨j,by simpa using hj,e⟩)];exact I.at2 t fun j hj _ e=>hd ⟨j,hj,e⟩):=h
theorem Obs.nil{i:Nat}:Obs P ops m S V mk A i []:=trivial
theorem Obs.cons{i:Nat}{o:Oper}{l:List Oper}(h:Ob P ops m S V mk A i o)(hs:Obs P ops m S V mk A (i+1) l):Obs P ops m S V mk A i (o::l):=⟨h,hs⟩
theorem Obs.get:∀{l:List Oper} {i:Nat},Obs P ops m S V mk A i l->∀{j:Nat} {o:Oper},l[j]?=some o->Ob P ops m S V mk A (i+j) o
 |[],_,_,j,o,ho=>by simp at ho
 |x::l,i,h,0,o,ho=>by
  simp only[List.getElem?_cons_zero,Option.some.injEq] at ho;subst ho;exact h.1
 |x::l,i,h,j+1,o,ho=>by
  have:=Obs.get h.2 (j:=j) (o:=o) (by simpa using ho);rw[show i+(j+1)=i+1+j by omega];exact this
theorem zgg{listed:Array Bool}(hc:∀k,listed.getD k false=true->∀o,ops[k]?=some o->∀e∈o.after,Region.binds .any e=true->listed.getD e.on false=true):
 ∀(n i j:Nat),zsz ops n i j=true->(∀o,ops[i]?=some o->∀e∈o.after,Region.binds .any e=true->listed.getD e.on false=true)->listed.getD j false=true
 |0,i,j,h,_=>by cases h
 |n+1,i,j,h,hi=>by
  unfold zsz at h;cases ho:ops[i]? with
  |none=>rw[ho] at h;cases h
  |some o=>
   rw[ho] at h;simp only[Option.map_some,Option.getD_some] at h;obtain ⟨k,hk,he⟩:=Array.any_eq_true.1 h;simp only[Bool.and_eq_true,Bool.or_eq_true,beq_iff_eq] at he;have hl:=hi o ho _ (Array.getElem_mem hk) he.1;rcases he.2 with h2|h2
   .rw[h2] at hl;exact hl
   .exact zgg hc n _ j h2 (hc _ hl)
section
variable{listed:Array Bool}
include listed
theorem zwg{j:Nat}(h:j<listed.size):listed.getD j true=listed.getD j false:=by simp[Array.getD,h]
theorem getD_set{i j:Nat}(h:i<listed.size):(listed.setIfInBounds i true).getD j false=(if i=j then true else listed.getD j false):=by
 by_cases e:i=j
 .subst e;simp[Array.getD,h]
 .rw[if_neg e];simp[Array.getElem?_setIfInBounds_ne e]
theorem zyc{n:Nat}(hs:listed.size=n)(hm:m<=n)(h1:∀j,j<m->listed.getD j false=true)(h2:∀i,m<=i->listed.getD i false=false):
 listed=Array.replicate m true++Array.replicate (n-m) false:=by
 apply Array.ext
 .simp;omega
 .intro i hi _;rw[Array.getElem_append];have:listed.getD i false=listed[i]:=by simp[Array.getD,hi]
  by_cases h:i<m
  .rw[dif_pos B38];rw[<-this,h1 i h];simp
  .rw[dif_neg B38];rw[<-this,h2 i B1];simp
end
theorem count_set:∀(l:List Bool) (i:Nat),i<l.length->l[i]?=some false->((l.set i true).filter id).length=(l.filter id).length+1
 |[],i,h,_=>by simp at h
 |x::l,0,_,h=>by
  simp only[List.getElem?_cons_zero,Option.some.injEq] at h;subst h;simp
 |x::l,i+1,h,h2=>by
  have:=count_set l i B38 B70;cases x <;> simp[this]
theorem zqb:∀(l:List Bool) (i:Nat),l[i]?=some false->(l.filter id).length<l.length
 |[],i,h=>by simp at h
 |x::l,0,h=>by
  simp only[List.getElem?_cons_zero,Option.some.injEq] at h;subst h;simp only[List.filter_cons,id,Bool.false_eq_true,if_false,List.length_cons];have:=List.length_filter_le id l;omega
 |x::l,i+1,h=>by
  have:=zqb l i B38;cases x
  .simp only[List.filter_cons,id,Bool.false_eq_true,if_false,List.length_cons];omega
  .simp only[List.filter_cons,id,if_true,List.length_cons];omega
theorem zio(hok:zea ops m=true){listed:Array Bool}(hs:listed.size=ops.size):∀(n j:Nat),j<n->j<m->listed.getD j false=false->∃i,i∈Region.ready .any ops listed
 |0,j,h,_,_=>by omega
 |n+1,j,h,hj,hl=>by
  by_cases hx:∃k,k<j/\listed.getD k false=false
  .obtain ⟨k,hk,hk2⟩:=hx;exact zio hok hs n k B1 B1 hk2
  .have hm:=ok_le hok;refine ⟨j,mem_ready.2 ⟨by rw[zwg B1];exact hl,ops[j]' B1,Array.getElem?_eq_getElem B1,fun e he hb=> ?_⟩⟩;have:=zuq hok (Array.getElem?_eq_getElem B1) he hb;cases h2:listed.getD e.on false with
   |true=>rfl
   |false=>exact absurd ⟨e.on,this,h2⟩ hx
theorem zpu{a0:Act}{z:Nat}(hok:zea ops m=true)(hA:∀f,A f=putAll ops f (List.range m) a0)
 (hSs:∀w w',Below w.heap.size w w'->S w->S w') (hVs:∀j,j<m->∀v w w',Below w.heap.size w w'->V j v w->V j v w') (hob:Obs P ops m S V mk A 0 (ops.toList.take m))
 (hfin:∀f w,S w->(∀j,j<m->V j (f j) w)->(∀j k,j<m->k<m->mk j=true->mk k=true->j≠k->blk (f j)≠blk (f k))->(∀j,j<m->mk j=true->∃b,blk (f j)=some b/\z<=b)->
  wpAny P .any ops Q (ops.size-m) (Array.replicate m true++Array.replicate (ops.size-m) false) (A f) w)
 (fuel:Nat) (listed:Array Bool) (f:Nat->Value) (a:Act) (w:World) (I:Inv ops m S V mk a0 z listed f a w) (hf:fuel+(listed.toList.filter id).length=ops.size):wpAny P .any ops Q fuel listed a w:=by
 have hm:=ok_le hok
 by_cases hall:∀j,j<m->listed.getD j false=true
 .have e:=zyc I.sz hm hall I.late;have ea:a=A f:=by
   rw[hA];obtain ⟨tm,df⟩:=a;have h1:=I.df;have:tm=(putAll ops f (List.range m) a0).tmps:=by
    apply Array.ext_getElem?;intro t
    by_cases hd:∃j,j<m/\dst ops j=some t
    .obtain ⟨j,hj,hd⟩:=hd
     by_cases ht:t<a0.tmps.size
     .rw[zem f t j hd _ _ ht B69 (fun k hk hk2=>ok_one hok B206 hj hk2 hd)];exact I.at1 j hj (hall j hj) t hd ht
     .rw[Array.getElem?_eq_none (by have:=I.ts;simp only at this;omega),Array.getElem?_eq_none (by rw[zel];omega)]
    .exact M190
   have h2:=ze7 (ops:=ops) f (List.range m) a0;generalize putAll ops f (List.range m) a0=b at *;obtain ⟨tb,db⟩:=b;simp only at h1 h2 this;rw[this,h1,h2]
  have hz:fuel=ops.size-m:=by
   rw[e] at hf;simp only[Array.toList_append,List.filter_append,Array.toList_replicate,List.filter_replicate,id,if_true,Bool.false_eq_true,if_false,List.append_nil,List.length_replicate] at hf;omega
  have:=hfin f w I.s (fun j hj=>I.v j hj (hall j hj)) (fun j k hj hk=>I.d j k hj hk (hall j hj) (hall k hk)) (fun j hj hk=>(I.b j hj (hall j hj) hk).imp fun b h=> ⟨h.1,h.2.1⟩);rw[<-hz,<-ea] at this;rw[hz] at this ⊢;rw[<-e] at this;exact this
 .obtain ⟨j,hj⟩:=Classical.not_forall.1 hall;obtain ⟨hj,hj2⟩:=Classical.not_imp.1 hj;have hjl:listed.getD j false=false:=by simpa using hj2
  clear hall hj2;have hc:(listed.toList.filter id).length<listed.toList.length:=zqb _ j (by
   have hz:j<listed.size:=by have:=I.sz;omega
   have:listed.getD j false=listed[j]:=by simp[Array.getD,hz]
   rw[this] at hjl;rw[Array.getElem?_toList,Array.getElem?_eq_getElem hz,hjl])
  rw[show listed.toList.length=ops.size by rw[<-I.sz];rfl] at hc;obtain ⟨fuel,rfl⟩:∃n,fuel=n+1:=⟨fuel-1,B1⟩;refine ⟨fun h0=> ?_,fun i hi=> ?_⟩
  .obtain ⟨i,hi⟩:=zio hok I.sz (j+1) j B1 hj hjl;rw[h0] at hi;cases hi
  .obtain ⟨hu,o,ho,haft⟩:=mem_ready.1 hi;have hio:i<ops.size:=(jg ho);have hil:i<listed.size:=by rw[I.sz];exact hio
   rw[zwg hil] at hu
   by_cases him:i<m
   .have hgive:=(hob.get (j:=i) (o:=o) (by rw[List.getElem?_take,if_pos him];simpa using ho)) f w I.s
     (fun j hn=>by
      unfold needs at hn;obtain ⟨x,hk,he⟩:=List.any_eq_true.1 hn;rw[Array.mem_toList_iff] at hk;simp only[Bool.and_eq_true,beq_iff_eq] at he;have h2:=haft _ hk he.1;have h3:=zuq hok ho hk he.1;rw[he.2] at h2 h3;exact I.v j B1 h2) (fun v w'=>V i v w'/\Below w.heap.size w w'/\(mk i=true->∃b,blk v=some b/\w.heap.size<=b/\b<w'.heap.size)) (jH fun v w' hv hb hmk=> ⟨by rw[Nat.zero_add] at hv;exact hv,hb,by rw[Nat.zero_add] at hmk;exact hmk⟩)
    refine zlf (R:=fun v w'=>V i v w'/\Below w.heap.size w w'/\(mk i=true->∃b,blk v=some b/\w.heap.size<=b/\b<w'.heap.size)) ho (ok_sel hok ho) (fun t ht=> ?_) (fun v w' ⟨hv,hb,hmk⟩=> ?_) hgive
    .rw[hA]
     by_cases hd:∃j,j<m/\dst ops j=some t
     .obtain ⟨k,hk,hd⟩:=hd;have hn:=zup hok him ho ht hk hd;unfold needs at hn;obtain ⟨x,hq,he⟩:=List.any_eq_true.1 hn;rw[Array.mem_toList_iff] at hq;simp only[Bool.and_eq_true,beq_iff_eq] at he;have h2:=haft _ hq he.1;rw[he.2] at h2
      by_cases ht:t<a0.tmps.size
      .rw[I.at1 k hk h2 t hd ht,zem f t k hd _ _ ht B206 (fun k' hk' hk2=>ok_one hok (by simpa using hk') hk hk2 hd)]
      .rw[Array.getElem?_eq_none (by rw[I.ts];exact Nat.le_of_not_lt ht),Array.getElem?_eq_none (by rw[zel];exact Nat.le_of_not_lt ht)]
     .exact M190
    .have hdi:dst ops i=o.dst:=by unfold dst;rw[ho];rfl
     have hne:∀{k},listed.getD k false=true->k≠i:=fun h e=>by rw[e,hu] at h;cases h
     refine zpu hok hA hSs hVs hob hfin fuel (listed.setIfInBounds i true) (fun k=>if k=i then v else f k) _ w' ?_ ?_
     .have hg:∀{k},(listed.setIfInBounds i true).getD k false=true->k=i\/(k≠i/\listed.getD k false=true):=fun {k} h=>by
       rw[getD_set hil] at h
       by_cases e:i=k
       .exact .inl e.symm
       .rw[if_neg e] at h;exact .inr ⟨fun e2=>e e2.symm,h⟩
      refine ⟨jR I.hz hb.size,by simp[I.sz],fun k hk=> ?_,fun k hk o' ho' e he hb=> ?_,?_,?_,fun k hk hl t hd ht=> ?_,fun t hd=> ?_,hSs _ _ hb I.s,fun k hk hl=> ?_,fun k hk hl hmk2=> ?_,fun k l hk hl h1 h2 h3 h4 h5=> ?_⟩
      .rw[getD_set hil,if_neg B1];exact I.late k hk
      .rw[getD_set hil];split
       .rfl
       .rcases hg hk with rfl|⟨_,hk⟩
        .rw[ho] at ho';cases ho';exact haft e he hb
        .exact I.closed k hk o' ho' e he hb
      .rw[<-I.df];cases o.dst <;> rfl
      .rw[zkq];exact I.ts
      .rcases hg hl with rfl|⟨hki,hl⟩
       .rw[hdi] at hd;rw[if_pos rfl,hd];exact zo6 _ _ _ (by rw[I.ts];exact ht)
       .rw[if_neg hki,zh6 _ _ _ _ (fun e=>hki (ok_one hok hk him hd (hdi.trans e)))];exact I.at1 k hk hl t hd ht
      .rw[zh6 _ _ _ _ (fun e=>hd i him (by rw[getD_set hil,if_pos rfl]) (hdi.trans e))];exact I.at2 t fun k hk hl=>hd k hk (by rw[getD_set hil];split <;> first|rfl|exact hl)
      .rcases hg hl with rfl|⟨hki,hl⟩
       .rw[if_pos rfl];exact hv
       .rw[if_neg hki];exact hVs k hk _ _ _ hb (I.v k hk hl)
      .rcases hg hl with rfl|⟨hki,hl⟩
       .rw[if_pos rfl];obtain ⟨b,h1,h2,h3⟩:=hmk hmk2;exact ⟨b,h1,jR I.hz h2,h3⟩
       .rw[if_neg hki];obtain ⟨b,h1,h2,h3⟩:=I.b k hk hl hmk2;exact ⟨b,h1,h2,jL h3 hb.size⟩
      .rcases hg h1 with rfl|⟨hki,g1⟩ <;> rcases hg h2 with rfl|⟨hli,g2⟩
       .exact absurd rfl h5
       .rw[if_pos rfl,if_neg hli];obtain ⟨b,q1,q2,_⟩:=hmk h3;obtain ⟨c,q4,_,q5⟩:=I.b l hl g2 h4;rw[q1,q4];intro e;have:=Option.some.inj e;omega
       .rw[if_pos rfl,if_neg hki];obtain ⟨b,q1,q2,_⟩:=hmk h4;obtain ⟨c,q4,_,q5⟩:=I.b k hk g1 h3;rw[q1,q4];intro e;have:=Option.some.inj e;omega
       .rw[if_neg hki,if_neg hli];exact I.d k l hk hl g1 g2 h3 h4 h5
     .rw[Array.toList_setIfInBounds,count_set _ i (by simpa using hil) (by rw[Array.getElem?_toList,Array.getElem?_eq_getElem hil];have:listed.getD i false=listed[i]:=by simp[Array.getD,hil]
                                                                           rw[<-this,hu])]
      omega
   .have:=zgg I.closed ops.size i j (ok_late hok hio B1 hj) (fun o' ho' e he hb=>by rw[ho] at ho';cases ho';exact haft e he hb);rw[hjl] at this;cases this
termination_by fuel
theorem zko{id:Nat}{a0:Act}{w0:World}(m:Nat)(A:(Nat->Value)->Act)(S:World->Prop)(V:Nat->Value->World->Prop)(mk:Nat->Bool)(hA:∀f,A f=putAll ops f (List.range m) a0)(hm:P.follows .mixedOrders=true)(hok:zea ops m=true)(hS0:S w0.drew)(hSs:∀w w',Below w.heap.size w w'->S w->S w')(hVs:∀j,j<m->∀v w w',Below w.heap.size w w'->V j v w->V j v w')(hob:Obs P ops m S V mk A 0 (ops.toList.take m))(hfin:∀f w,S w->(∀j,j<m->V j (f j) w)->(∀j k,j<m->k<m->mk j=true->mk k=true->j≠k->blk (f j)≠blk (f k))->(∀j,j<m->mk j=true->∃b,blk (f j)=some b/\w0.heap.size<=b)->
  wpAny P .any ops Q (ops.size-m) (Array.replicate m true++Array.replicate (ops.size-m) false) (A f) w):(Code.region id ops true).wp P Q a0 w0:=by
 refine wp_region_any hm (zpu hok hA hSs hVs hob hfin ops.size _ (fun _=>undef) a0 _ ?_ ?_)
 .have h0:∀k,(Array.replicate ops.size false).getD k false=false:=fun k=>by
   by_cases h:k<ops.size <;> simp[Array.getD,h]
  have h1:∀{p:Prop} k,(Array.replicate ops.size false).getD k false=true->p:=fun k h=>by rw[h0] at h;cases h
  exact ⟨jE,by simp,fun k _=>h0 k,fun k h=>h1 k h,rfl,rfl,fun j _ h=>h1 j h,fun t _=>rfl,hS0,fun j _ h=>h1 j h,fun j _ h=>h1 j h,fun j k _ _ h=>h1 j h⟩
 .simp
theorem zaq{id:Nat}{a0:Act}{w0:World}(m:Nat)(A:(Nat->Value)->Act)(S:World->Prop)(V:Nat->Value->World->Prop)(mk:Nat->Bool)(hA:∀f,A f=putAll ops f (List.range m) a0)(hm:P.follows .mixedOrders=true)(hok:zea ops m=true)(hsz:ops.size=m)(hS0:S w0.drew)(hSs:∀w w',Below w.heap.size w w'->S w->S w')(hVs:∀j,j<m->∀v w w',Below w.heap.size w w'->V j v w->V j v w')(hob:Obs P ops m S V mk A 0 (ops.toList.take m))(hfin:∀f w,S w->(∀j,j<m->V j (f j) w)->(∀j k,j<m->k<m->mk j=true->mk k=true->j≠k->blk (f j)≠blk (f k))->(∀j,j<m->mk j=true->∃b,blk (f j)=some b/\w0.heap.size<=b)->Q .normal (A f) w):(Code.region id ops true).wp P Q a0 w0:=by
 refine zko m A S V mk hA hm hok hS0 hSs hVs hob fun f w h1 h2 h3 h4=> ?_;have e:ops.size-m=0:=B1;rw[e];refine ⟨?_,hfin f w h1 h2 h3 h4⟩;rw[List.eq_nil_iff_forall_not_mem];intro i hi;have hi2:=mem_ready.1 hi;obtain ⟨hu,o,ho,_⟩:=hi2;have hio:i<ops.size:=(jg ho);simp[Array.getD,show i<m by omega] at hu
end
end Drw
end
open Go.RowKit
namespace Mb
def M104(h:jp:=by
 have hb:=Below.refl w.heap.size w;go_enter func75,ntmps75;go_wp2;go_ret;exact ⟨rfl,Bp17⟩):=h
def Bp5(h:jp:=by repeat (first|assumption|exact jB|apply Below.drew|(refine Below.alloc ?_ B15 _)|(refine setB ?_ B1))):=h
def B41(h:jp:=by simp[results,results177,go_sem,z0,z1,z2,z3]):=h
def M19(h:jp:=by
 obtain ⟨hb,kk,kz⟩:=zdb w #[jI t,jI l,jI b,jI r] 62 #[jI 0,jI 0,jI 0,jI 0] 62;go_enter func177,ntmps177;go_wp2_with fail;generalize (w.alloc (Obj.cells #[jI t,jI l,jI b,jI r] 62)).alloc (Obj.cells #[jI 0,jI 0,jI 0,jI 0] 62)=w0 at *;refine jM (HM.out _) ?_;intro w1 hb1;replace kk:=blk0 hb1 kk;replace kz:=blk0 hb1 kz;replace hb:=jN hb hb1;clear hb1;have hz1:w.heap.size+1<w1.heap.size:=(jg kz);obtain ⟨a0,a1,a2,a3⟩:=zah kk;obtain ⟨z0,z1,z2,z3⟩:=zah kz;obtain ⟨f0,f1,f2,f3⟩:=zas kz;go_wp2;exact jX (.tuple #[AR 0 0 0 0,jI 10]) B41 ⟨rfl,Bp5⟩):=h
def C18(h:jp:=by
 obtain ⟨hb,kk,kz⟩:=zdb w #[jI t,jI l,jI b,jI r] 62 #[jI 0,jI 0,jI 0,jI 0] 62;go_enter func177,ntmps177;go_wp2_with fail;generalize (w.alloc (Obj.cells #[jI t,jI l,jI b,jI r] 62)).alloc (Obj.cells #[jI 0,jI 0,jI 0,jI 0] 62)=w0 at *;refine jM (HM.out _) ?_;intro w1 hb1;replace kk:=blk0 hb1 kk;replace kz:=blk0 hb1 kz;replace hb:=jN hb hb1;clear hb1;have hz1:w.heap.size+1<w1.heap.size:=(jg kz);obtain ⟨a0,a1,a2,a3⟩:=zah kk;obtain ⟨z0,z1,z2,z3⟩:=zah kz;obtain ⟨f0,f1,f2,f3⟩:=zas kz;go_wp2_with fail;have hb2:Below w.heap.size w (w1.alloc (Obj.cells #[jI x1,jI x2,jI x3,jI x4] 62)):=hb.alloc hb.size _;have kz2:(w1.alloc (Obj.cells #[jI x1,jI x2,jI x3,jI x4] 62)).heap[w.heap.size+1]?=_:=zai kz;have km:=heap_alloc_new w1 (Obj.cells #[jI x1,jI x2,jI x3,jI x4] 62);generalize w1.alloc (Obj.cells #[jI x1,jI x2,jI x3,jI x4] 62)=w2 at *;refine jM (HM2.out _) ?_;intro w3 hb3;replace kz2:=blk0 hb3 kz2;replace km:=blk0 hb3 km;replace hb2:=jN hb2 hb3;have hz3:w.heap.size+1<w3.heap.size:=(jg kz2);exact K18):=h
def D35(h:jp:=by
 clear hb3 hb kk kz a0 a1 a2 a3 z0 z1 z2 z3 f0 f1 f2 f3;have hb:=hb2;clear hb2;obtain ⟨a0,a1,a2,a3⟩:=zah km;obtain ⟨z0,z1,z2,z3⟩:=zah kz2;obtain ⟨f0,f1,f2,f3⟩:=zas kz2;exact J35):=h
def V104.J35(h:jp:=by
 go_wp2;exact jX (.tuple #[AR 0 0 0 0,jI 10]) B41 ⟨rfl,Bp5⟩):=h
def X91.K18(h:jp:=by
 open V104 in exact D35):=h
def V105.J35(h:jp:=by
 go_wp2;exact jX (.tuple #[AR x1 x2 x3 x4,jI 0]) B41 ⟨rfl,Bp5⟩):=h
def X92.K18(h:jp:=by
 open V105 in exact D35):=h
section
variable(f t l b r x y:Int)(w:World)
include f t l b r x y w
theorem zuj(h1:(f==47)=true)(e1:IntKind.i64.wrap (t+1)=y):Ret 75 #[jI f,AR t l b r] w (jI y):=by
 exact M104
section
variable(h1:(f==47)=false)
include h1
theorem zuk(h2:(f==48)=true)(e1:IntKind.i64.wrap (l+1)=y):Ret 75 #[jI f,AR t l b r] w (jI y):=by
 exact M104
theorem zre(h2:(f==48)=false)(h3:(f==49)=true)(e0:IntKind.i64.wrap (b-t)=x)(e1:IntKind.i64.wrap (x+1)=y):Ret 75 #[jI f,AR t l b r] w (jI y):=by
 exact M104
theorem zrf(h2:(f==48)=false)(h3:(f==49)=false)(e0:IntKind.i64.wrap (r-l)=x)(e1:IntKind.i64.wrap (x+1)=y):Ret 75 #[jI f,AR t l b r] w (jI y):=by
 exact M104
end
end
theorem place_any(f t l b r:Int)(w:World)(hB:zc6 t l b r=true):Calls prog 75 #[jI f,AR t l b r] w fun e w'=>
 e=jr (jI (cond (f==47) (t+1)<|cond (f==48) (l+1)<|cond (f==49) (b-t+1) (r-l+1)))/\Below w.heap.size w w':=by
 have hb:=zf6 hB;cases h1:f==47
 case true=>exact zuj f t l b r 0 _ w h1 (zae B1 B1)
 cases h2:f==48
 case true=>exact zuk f t l b r 0 _ w h1 h2 (zae B1 B1)
 cases h3:f==49
 case true=>exact zre f t l b r (b-t) (b-t+1) w h1 h2 h3 (zae B1 B1) (zae B1 B1)
 exact zrf f t l b r (r-l) (r-l+1) w h1 h2 h3 (zae B1 B1) (zae B1 B1)
theorem zdb(w:World)(a:Array Value)(t:TypeId)(b:Array Value)(u:TypeId):Below w.heap.size w ((w.alloc (.cells a t)).alloc (.cells b u))/\
 ((w.alloc (.cells a t)).alloc (.cells b u)).heap[w.heap.size]?=some (.cells a t (0,0))/\((w.alloc (.cells a t)).alloc (.cells b u)).heap[w.heap.size+1]?=some (.cells b u (0,0)):=by
 obtain ⟨h1,h2⟩:=zbd w a t;refine ⟨h1.alloc h1.size _,(Below.heap_alloc _ _ _ B7).trans h2,?_⟩;exact M209
theorem zas{w:World}{B T:Nat}{t l b r:Int}(h:w.heap[B]?=some (.cells #[jI t,jI l,jI b,jI r] T (0,0))):
 w.frozen? (jA B 0)=false/\w.frozen? (jA B 1)=false/\w.frozen? (jA B 2)=false/\w.frozen? (jA B 3)=false:=
 ⟨frozen_of_row w B 0 _ _ h,frozen_of_row w B 1 _ _ h,frozen_of_row w B 2 _ _ h,frozen_of_row w B 3 _ _ h⟩
theorem setB{s B i:Nat}{a W:World}(hb:Below s a W)(h:s<=B){x:Value}:Below s a (W.setCell (jA B i) x):=hb.setCell (p:=(jA B i)) h _
theorem aof_same(r c:Int)(w:World):Ret 176 #[SP r c,SP r c] w (AR r c r c):=by
 have e1:min r r=r:=B1;have e2:min c c=c:=B1;have e3:max r r=r:=B1;have e4:max c c=c:=B1;have hb:=Below.refl w.heap.size w;go_enter func176,ntmps176;go_wp2;exact jX (AR r c r c) (by simp[results,results176,go_sem]) ⟨rfl,Bp5⟩
section
variable(t l b r dr dc:Int)(m:Int)(w:World)(HM:Hid (∀u,Ret 92 #[AR t l b r] u (jI m)))
include t l b r dr dc m w HM
theorem zyb(h0:(m !=0)=true):
 Ret 177 #[AR t l b r,jI dr,jI dc] w (.tuple #[AR 0 0 0 0,jI m]):=by
 obtain ⟨hb,kk,kz⟩:=zdb w #[jI t,jI l,jI b,jI r] 62 #[jI 0,jI 0,jI 0,jI 0] 62;go_enter func177,ntmps177;go_wp2_with fail;generalize (w.alloc (Obj.cells #[jI t,jI l,jI b,jI r] 62)).alloc (Obj.cells #[jI 0,jI 0,jI 0,jI 0] 62)=w0 at *;refine jM (HM.out _) ?_;intro w1 hb1;replace kk:=blk0 hb1 kk;replace kz:=blk0 hb1 kz;replace hb:=jN hb hb1;clear hb1;have hz1:w.heap.size+1<w1.heap.size:=(jg kz);obtain ⟨a0,a1,a2,a3⟩:=zah kk;obtain ⟨z0,z1,z2,z3⟩:=zah kz;obtain ⟨f0,f1,f2,f3⟩:=zas kz;go_wp2;exact jX (.tuple #[AR 0 0 0 0,jI m]) B41 ⟨rfl,Bp5⟩
section
variable(h0:(m !=0)=false)
include h0
theorem amove_a(h1:decide (dr < -65536)=true):
 Ret 177 #[AR t l b r,jI dr,jI dc] w (.tuple #[AR 0 0 0 0,jI 10]):=by
 exact M19
section
variable(h1:decide (dr < -65536)=false)
include h1
theorem amove_b(h2:decide (65536<dr)=true):
 Ret 177 #[AR t l b r,jI dr,jI dc] w (.tuple #[AR 0 0 0 0,jI 10]):=by
 exact M19
theorem amove_c(h2:decide (65536<dr)=false)(h3:decide (dc < -702)=true):
 Ret 177 #[AR t l b r,jI dr,jI dc] w (.tuple #[AR 0 0 0 0,jI 10]):=by
 exact M19
theorem amove_d(h2:decide (65536<dr)=false)(h3:decide (dc < -702)=false)(h4:decide (702<dc)=true):
 Ret 177 #[AR t l b r,jI dr,jI dc] w (.tuple #[AR 0 0 0 0,jI 10]):=by
 exact M19
end
end
end
section
variable(t l b r dr dc:Int)(m m2 x1 x2 x3 x4:Int)(w:World)(HM:Hid (∀u,Ret 92 #[AR t l b r] u (jI m)))(h0:(m !=0)=false)(h1:decide (dr < -65536)=false)(h2:decide (65536<dr)=false)(h3:decide (dc < -702)=false)(h4:decide (702<dc)=false)(w1':IntKind.i64.wrap (t+dr)=x1)(w2':IntKind.i64.wrap (l+dc)=x2)(w3':IntKind.i64.wrap (b+dr)=x3)(w4':IntKind.i64.wrap (r+dc)=x4)(HM2:Hid (∀u,Ret 92 #[AR x1 x2 x3 x4] u (jI m2)))
include t l b r dr dc m m2 x1 x2 x3 x4 w HM h0 h1 h2 h3 h4 w1' w2' w3' w4' HM2
theorem amove_e(h5:(m2 !=0)=true):
 Ret 177 #[AR t l b r,jI dr,jI dc] w (.tuple #[AR 0 0 0 0,jI 10]):=by
 open X91 in exact C18
theorem amove_ok(h5:(m2 !=0)=false):
 Ret 177 #[AR t l b r,jI dr,jI dc] w (.tuple #[AR x1 x2 x3 x4,jI 0]):=by
 open X92 in exact C18
end
def moveAr(t l b r dr dc:Int):Int:=cond (zc6 t l b r) (cond (decide (dr < -65536)||decide (65536<dr)||decide (dc < -702)||decide (702<dc)) 10 (cond (zc6 (t+dr) (l+dc) (b+dr) (r+dc)) 0 10)) 11
def Bp3(h:jp:=by repeat (first|with_reducible exact hbT|with_reducible refine Below.drew ?_|with_reducible refine setB ?_ B1)):=h
theorem ziu(t l b r dr dc:Int)(w:World):Calls prog 177 #[AR t l b r,jI dr,jI dc] w fun e w'=>
 e=jr (.tuple #[cond (moveAr t l b r dr dc==0) (AR (t+dr) (l+dc) (b+dr) (r+dc)) (AR 0 0 0 0),jI (moveAr t l b r dr dc)])/\Below w.heap.size w w':=by
 have HM:=jH (zlc t l b r);unfold moveAr;cases hm:zc6 t l b r
 .rw[hm] at HM;exact zyb t l b r dr dc 11 w HM rfl
 rw[hm] at HM;have hB:=zf6 hm;cases h1:decide (dr < -65536)
 case true=>exact amove_a t l b r dr dc 0 w HM rfl h1
 cases h2:decide (65536<dr)
 case true=>exact amove_b t l b r dr dc 0 w HM rfl h1 h2
 cases h3:decide (dc < -702)
 case true=>exact amove_c t l b r dr dc 0 w HM rfl h1 h2 h3
 cases h4:decide (702<dc)
 case true=>exact amove_d t l b r dr dc 0 w HM rfl h1 h2 h3 h4
 have g1:=of_decide_eq_false h1;have g2:=of_decide_eq_false h2;have g3:=of_decide_eq_false h3;have g4:=of_decide_eq_false h4;have e1:IntKind.i64.wrap (t+dr)=t+dr:=zae B1 B1;have e2:IntKind.i64.wrap (l+dc)=l+dc:=zae B1 B1;have e3:IntKind.i64.wrap (b+dr)=b+dr:=zae B1 B1;have e4:IntKind.i64.wrap (r+dc)=r+dc:=zae B1 B1;have HM2:=jH (zlc (t+dr) (l+dc) (b+dr) (r+dc));cases hm2:zc6 (t+dr) (l+dc) (b+dr) (r+dc)
 .rw[hm2] at HM2;exact amove_e t l b r dr dc 0 11 _ _ _ _ w HM rfl h1 h2 h3 h4 e1 e2 e3 e4 HM2 rfl
 .rw[hm2] at HM2;exact amove_ok t l b r dr dc 0 0 _ _ _ _ w HM rfl h1 h2 h3 h4 e1 e2 e3 e4 HM2 rfl
def NsAt(w:World)(g:Nat)(ns:List Int):Prop:=g<w.heap.size/\∀(j:Nat) (n:Int),ns[j]?=some n->w.cell? (jA g j)=some (jI n)
def B35(h:jp:=by simp[results,results140,go_sem,z0,z1,z2,z3]):=h
def M15(h:jp:=by
 go_enter func140,ntmps140;go_upto_region 1 with fail;generalize (w.alloc (Obj.cells #[jI t,jI l,jI b,jI r] 62)).alloc (Obj.cells #[jI 0,jI 0,jI 0,jI 0] 62)=w0 at *;have hz1:w.heap.size+1<w0.heap.size:=(jg kz);obtain ⟨a0,a1,a2,a3⟩:=zah kk;obtain ⟨z0,z1,z2,z3⟩:=zah kz;obtain ⟨f0,f1,f2,f3⟩:=zas kz;go_wp2;exact jX (.tuple #[AR t l b r,.bool false]) B35 ⟨rfl,Bp5⟩):=h
def N15(h:jp:=by
 obtain ⟨hb,kk,kz⟩:=zdb w #[jI t,jI l,jI b,jI r] 62 #[jI 0,jI 0,jI 0,jI 0] 62;have q0:=jQ hb n0 hg;exact M15):=h
def M44(h:jp:=by
 go_enter func140,ntmps140;go_upto_region 1 with fail;generalize (w.alloc (Obj.cells #[jI t,jI l,jI b,jI r] 62)).alloc (Obj.cells #[jI 0,jI 0,jI 0,jI 0] 62)=w0 at *;have hz1:w.heap.size+1<w0.heap.size:=(jg kz);obtain ⟨a0,a1,a2,a3⟩:=zah kk;obtain ⟨z0,z1,z2,z3⟩:=zah kz;obtain ⟨f0,f1,f2,f3⟩:=zas kz;go_wp2_with fail;have hb2:Below w.heap.size w (w0.alloc (Obj.cells #[jI u1,jI u2] 27)):=hb.alloc hb.size _;have kz2:(w0.alloc (Obj.cells #[jI u1,jI u2] 27)).heap[w.heap.size+1]?=_:=zai kz;generalize w0.alloc (Obj.cells #[jI u1,jI u2] 27)=w2 at *;refine jM (HO.out _) ?_;intro w3 hb3;replace kz2:=blk0 hb3 kz2;replace hb2:=jN hb2 hb3;have hz3:w.heap.size+1<w3.heap.size:=(jg kz2);clear hb3 hb kk kz a0 a1 a2 a3 z0 z1 z2 z3 f0 f1 f2 f3;have hb:=hb2;clear hb2;obtain ⟨z0,z1,z2,z3⟩:=zah kz2;obtain ⟨f0,f1,f2,f3⟩:=zas kz2;go_wp2;exact jX (.tuple #[AR u1 u2 u1 u2,.bool true]) B35 ⟨rfl,Bp5⟩):=h
def N9(h:jp:=by
 obtain ⟨hb,kk,kz⟩:=zdb w #[jI t,jI l,jI b,jI r] 62 #[jI 0,jI 0,jI 0,jI 0] 62;have q0:=jQ hb n0 hg;have q1:=jQ hb n1 hg;exact M15):=h
def Da14(h:jp:=by
 obtain ⟨hb,kk,kz⟩:=zdb w #[jI t,jI l,jI b,jI r] 62 #[jI 0,jI 0,jI 0,jI 0] 62;have q0:=jQ hb n0 hg;exact Ja14):=h
def Va35.Ja14(h:jp:=by
 have q1:=jQ hb n1 hg;exact M44):=h
theorem NsAt.below{w w':World}{g:Nat}{ns:List Int}(h:NsAt w g ns){B:Nat}(hB:g<B)(hb:Below B w w'):NsAt w' g ns:=
 ⟨jL h.1 hb.size,fun j n hn=>jQ hb (h.2 j n hn) hB⟩
section
variable(t l b r i j d1 d2 hh vv s1 s2 u1 u2:Int)(g cap:Nat)(w:World)(hg:g<w.heap.size)(n0:w.cell? (jA g 0)=some (jI i))
include t l b r i j d1 d2 hh vv s1 s2 u1 u2 g cap w hg n0
section
variable(w1:IntKind.i64.wrap (b-t)=d1)(w2:IntKind.i64.wrap (d1+1)=hh)(w3:IntKind.i64.wrap (r-l)=d2)(w4:IntKind.i64.wrap (d2+1)=vv)
include w1 w2 w3 w4
theorem zv2(h1:decide (i<1)=true):
 Ret 140 #[AR t l b r,jP g 0 1 cap] w (.tuple #[AR t l b r,.bool false]):=by
 exact N15
theorem zv0(h1:decide (i<1)=false)(h2:decide (hh<i)=true):
 Ret 140 #[AR t l b r,jP g 0 1 cap] w (.tuple #[AR t l b r,.bool false]):=by
 exact N15
theorem zru(HO:Hid (∀u,Ret 176 #[SP u1 u2,SP u1 u2] u (AR u1 u2 u1 u2)))(s1':IntKind.i64.wrap (t+i)=s1)(s1'':IntKind.i64.wrap (s1-1)=u1)(s2':IntKind.i64.wrap (l+1)=s2)(s2'':IntKind.i64.wrap (s2-1)=u2)(h1:decide (i<1)=false)(h2:decide (hh<i)=false)(h4:decide (vv<1)=false):
 Ret 140 #[AR t l b r,jP g 0 1 cap] w (.tuple #[AR u1 u2 u1 u2,.bool true]):=by
 obtain ⟨hb,kk,kz⟩:=zdb w #[jI t,jI l,jI b,jI r] 62 #[jI 0,jI 0,jI 0,jI 0] 62;have q0:=jQ hb n0 hg;exact M44
end
section
variable(n1:w.cell? (jA g 1)=some (jI j))(w1:IntKind.i64.wrap (b-t)=d1)(w2:IntKind.i64.wrap (d1+1)=hh)(w3:IntKind.i64.wrap (r-l)=d2)(w4:IntKind.i64.wrap (d2+1)=vv)
include n1 w1 w2 w3 w4
theorem zv1(h1:decide (i<1)=true):
 Ret 140 #[AR t l b r,jP g 0 2 cap] w (.tuple #[AR t l b r,.bool false]):=by
 exact N9
section
variable(h1:decide (i<1)=false)
include h1
theorem zvz(h2:decide (hh<i)=true):
 Ret 140 #[AR t l b r,jP g 0 2 cap] w (.tuple #[AR t l b r,.bool false]):=by
 exact N9
theorem zvy(h2:decide (hh<i)=false)(h3:decide (j<1)=true):
 Ret 140 #[AR t l b r,jP g 0 2 cap] w (.tuple #[AR t l b r,.bool false]):=by
 exact N9
theorem zvx(h2:decide (hh<i)=false)(h3:decide (j<1)=false)(h4:decide (vv<j)=true):
 Ret 140 #[AR t l b r,jP g 0 2 cap] w (.tuple #[AR t l b r,.bool false]):=by
 exact N9
end
theorem zrt(HO:Hid (∀u,Ret 176 #[SP u1 u2,SP u1 u2] u (AR u1 u2 u1 u2)))(s1':IntKind.i64.wrap (t+i)=s1)(s1'':IntKind.i64.wrap (s1-1)=u1)(s2':IntKind.i64.wrap (l+j)=s2)(s2'':IntKind.i64.wrap (s2-1)=u2)(h1:decide (i<1)=false)(h2:decide (hh<i)=false)(h3:decide (j<1)=false)(h4:decide (vv<j)=false):
 Ret 140 #[AR t l b r,jP g 0 2 cap] w (.tuple #[AR u1 u2 u1 u2,.bool true]):=by
 open Va35 in exact Da14
end
end
def insideOk(t l b r i j:Int):Bool:=!(decide (i<1)||decide (b-t+1<i)||decide (j<1)||decide (r-l+1<j))
def Bp59(h:jp:=by exact jH (aof_same _ _)):=h
theorem zrv(t l b r i:Int)(ns:List Int)(g cap:Nat)(w:World)(hB:zc6 t l b r=true)(hns:NsAt w g (i::ns))(hn:ns.length<=1):
 Calls prog 140 #[AR t l b r,jP g 0 (ns.length+1) cap] w fun e w'=>
  e=jr (.tuple #[cond (insideOk t l b r i (ns.getD 0 1)) (AR (t+i-1) (l+ns.getD 0 1-1) (t+i-1) (l+ns.getD 0 1-1)) (AR t l b r),.bool (insideOk t l b r i (ns.getD 0 1))])/\Below w.heap.size w w':=by
 have hb:=zf6 hB;have e1:IntKind.i64.wrap (b-t)=b-t:=zae B1 B1;have e2:IntKind.i64.wrap (b-t+1)=b-t+1:=zae B1 B1;have e3:IntKind.i64.wrap (r-l)=r-l:=zae B1 B1;have e4:IntKind.i64.wrap (r-l+1)=r-l+1:=zae B1 B1;have n0:=hns.2 0 i rfl;unfold insideOk
 match ns,hn,hns with
 |[],_,hns=>
  cases h1:decide (i<1)
  case true=>exact zv2 t l b r i 0 _ _ _ _ 0 0 0 0 g cap w hns.1 n0 e1 e2 e3 e4 h1
  cases h2:decide (b-t+1<i)
  case true=>exact zv0 t l b r i 0 _ _ _ _ 0 0 0 0 g cap w hns.1 n0 e1 e2 e3 e4 h1 h2
  have g1:=of_decide_eq_false h1;have g2:=of_decide_eq_false h2;have g3:decide ((1:Int)<1)=false:=B3;have g4:decide (r-l+1<(1:Int))=false:=decide_eq_false B1;have s1:IntKind.i64.wrap (t+i)=t+i:=zae B1 B1;have s2:IntKind.i64.wrap (t+i-1)=t+i-1:=zae B1 B1;have s3:IntKind.i64.wrap (l+1)=l+1:=zae B1 B1;have s4:IntKind.i64.wrap (l+1-1)=l+1-1:=zae B1 B1;show Calls _ _ _ _ fun e w'=>e=jr (.tuple #[cond (!(false||false||decide ((1:Int)<1)||decide (r-l+1<(1:Int)))) _ _,.bool (!(false||false||decide ((1:Int)<1)||decide (r-l+1<(1:Int))))])/\_;rw[g3,g4];exact zru t l b r i 0 _ _ _ _ (t+i) (l+1) (t+i-1) (l+1-1) g cap w hns.1 n0 e1 e2 e3 e4 Bp59 s1 s2 s3 s4 h1 h2 g4
 |[j],_,hns=>
  have n1:=hns.2 1 j rfl;cases h1:decide (i<1)
  case true=>exact zv1 t l b r i j _ _ _ _ 0 0 0 0 g cap w hns.1 n0 n1 e1 e2 e3 e4 h1
  cases h2:decide (b-t+1<i)
  case true=>exact zvz t l b r i j _ _ _ _ 0 0 0 0 g cap w hns.1 n0 n1 e1 e2 e3 e4 h1 h2
  show Calls _ _ _ _ fun e w'=>e=jr (.tuple #[cond (!(false||false||decide (j<1)||decide (r-l+1<j))) _ _,.bool (!(false||false||decide (j<1)||decide (r-l+1<j)))])/\_;cases h3:decide (j<1)
  case true=>exact zvy t l b r i j _ _ _ _ 0 0 0 0 g cap w hns.1 n0 n1 e1 e2 e3 e4 h1 h2 h3
  cases h4:decide (r-l+1<j)
  case true=>exact zvx t l b r i j _ _ _ _ 0 0 0 0 g cap w hns.1 n0 n1 e1 e2 e3 e4 h1 h2 h3 h4
  have g1:=of_decide_eq_false h1;have g2:=of_decide_eq_false h2;have g3:=of_decide_eq_false h3;have g4:=of_decide_eq_false h4;have s1:IntKind.i64.wrap (t+i)=t+i:=zae B1 B1;have s2:IntKind.i64.wrap (t+i-1)=t+i-1:=zae B1 B1;have s3:IntKind.i64.wrap (l+j)=l+j:=zae B1 B1;have s4:IntKind.i64.wrap (l+j-1)=l+j-1:=zae B1 B1;exact zrt t l b r i j _ _ _ _ (t+i) (l+j) (t+i-1) (l+j-1) g cap w hns.1 n0 n1 e1 e2 e3 e4 Bp59 s1 s2 s3 s4 h1 h2 h3 h4
def offNo(e h v:Int):Bool:=e !=0||decide (h<1)||decide (65536<h)||decide (v<1)||decide (702<v)
def B19(h:jp:=by simp[results,results141,go_sem,z0,z1,z2,z3]):=h
def B24(h:jp:=by first|with_reducible exact hs1.size|exact jE):=h
def B56(h:jp:=by first|with_reducible exact jN hs1 hq5|exact (hs1.alloc hs1.size _).trans (hq5.mono (hs1.alloc hs1.size _).size)):=h
def B61(h:jp:=by first|with_reducible exact jN hs0 hq4|with_reducible exact (hsA _).trans (hq4.mono (hsA _).size)):=h
def B78(h:jp:=by rw[Lib.cell_of_heap kbx];rfl):=h
def B95(h:jp:=by assumption):=h
def B139(h:jp:=by unfold offNo;rw[t0,t1,t2,t3,t4];rfl):=h
def B160(h:jp:=by first|exact hs1.size|exact jE):=h
def B177(h:jp:=by unfold offNo;rw[t1];simp):=h
def B178(h:jp:=by unfold offNo;rw[t2];simp):=h
def B179(h:jp:=by unfold offNo;rw[t3];simp):=h
def B180(h:jp:=by unfold offNo;rw[t4];simp):=h
def B190(h:jp:=by unfold offNo;rw[t0];rfl):=h
def Bp40(h:jp:=by exact zad (zad (zad kA 0 (jI c0)) 1 (jI c1)) 2 (jI c2)):=h
def Bp73(h:jp:=by exact hs2.alloc hs2.size _):=h
def Bp74(h:jp:=by exact hs1.alloc hs1.size _):=h
def Bp75(h:jp:=by exact hs0.alloc hs0.size _):=h
def M8(h:jp:=by
 go_region_held3 (fun w'=>Below u2.heap.size u2 w'/\w'.cell? (jA bx 0)=some (jI t)/\w'.cell? (jA bx 1)=some (jI l)/\w'.cell? (jA g 0)=some (jI a0)/\w'.cell? (jA g 1)=some (jI a1))
  (first|with_reducible exact OS _ hs0|with_reducible exact OS _ (And.left B95)|with_reducible exact OS _ hs1|with_reducible exact OS _ hs2|with_reducible exact OS _ Bp73|with_reducible exact OS _ Bp74|with_reducible exact OS _ Bp75|with_reducible exact OS _ (hsA _)|with_reducible exact OS _ ((((hs2.setCell (p:=(jA _ 0)) B24 _).setCell (p:=(jA _ 1)) B24 _).setCell (p:=(jA _ 2)) B24 _).setCell (p:=(jA _ 3)) B24 _)|fail)
  (first
   |(go_at_call 176;refine (HO.out _).mono ?_;rintro e w4 ⟨rfl,hq4⟩;have hs1:Below u2.heap.size u2 w4:=B61;(first|(have kA:=(hq4.block _ B7).trans Bp4)|skip))
   |(go_at_call 177;refine (HMv.out _).mono ?_;rintro e w5 ⟨rfl,hq5⟩;have hs2:Below u2.heap.size u2 w5:=B56;(first|(replace kA:=jk hq5 kA;obtain ⟨kA0,kA1,kA2,kA3⟩:=zah kA;have kAf:=fun j=>frozen_of_row _ _ j _ _ kA;have kAl:=(jg kA))|(have kA:=(hq5.block _ B7).trans Bp4;obtain ⟨kA0,kA1,kA2,kA3⟩:=zah kA;have kAf:=fun j=>frozen_of_row _ _ j _ _ kA;have kAl:=(jg kA))|skip)))
 all_goals (clear OS HO HMv)
 .have hW:Below u2.heap.size u2 (w5.alloc (Obj.cells #[jI c0,jI c1,jI c2,jI c3] 62)):=hs2.alloc hs2.size _;have kB:=heap_alloc_new w5 (Obj.cells #[jI c0,jI c1,jI c2,jI c3] 62);go_wp2_with fail;go_meet;exact ⟨rfl,_,rfl,jN hbz hW,(hW.block w.heap.size (by have:=hbz.size;omega)).trans kk2,(hW.block (w.heap.size+1) (jg kz2)).trans kz2,kB,jL (jg kz2) hs2.size⟩
 all_goals
  have kB:=zad Bp40 3 (jI c3);go_wp2_with fail;go_meet;exact off_meet hbz kk2 kz2 hs2 B160 kB):=h
def M43(h:jp:=by
 go_wp2_with fail;rw[tt];exact jX (.tuple #[AR t l b r,.bool false]) B19 ⟨rfl,Bp3⟩):=h
def M83(h:jp:=by
 obtain ⟨s3,v3⟩:∃s3,IntKind.i64.wrap (c1+vv)=s3:=⟨_,rfl⟩;have e3:s3=c1+vv:=v3.symm.trans (zae B1 B1);obtain ⟨s4,v4⟩:∃s4,IntKind.i64.wrap (s3-1)=s4:=⟨_,rfl⟩;have k2:=jH (show c1+vv-1=s4 by rw[<-v4,zae B1 B1];omega);clear p1 p2 p3 p4 hc0 hc1 hc2 hc3 e1 e3;go_wp2;rw[tt,k1.out,k2.out];exact jX (.tuple #[AR c0 c1 s2 s4,.bool true]) B19 ⟨rfl,Bp3⟩):=h
def C4(h:jp:=by
 generalize u0.drewN nq=u1 at *;clear kk kz hb;obtain ⟨a0',a1',a2',a3'⟩:=zah kkq;have hz2:w.heap.size+1<u1.heap.size:=(jg kzq);go_wp2_with fail;have hbz:Below w.heap.size w (u1.alloc (Obj.cells #[jI t,jI l] 27)):=hbq.alloc hbq.size _;have kbx:=heap_alloc_new u1 (Obj.cells #[jI t,jI l] 27);have kk2:=zai (o:=Obj.cells #[jI t,jI l] 27) kkq;have kz2:=zai (o:=Obj.cells #[jI t,jI l] 27) kzq;have hgz:g<(u1.alloc (Obj.cells #[jI t,jI l] 27)).heap.size:=jL hg hbz.size;have qz0:=jQ hbz n0 hg;have qz1:=jQ hbz n1 hg;clear hbq kkq kzq a0' a1' a2' a3' q0 q1;generalize u1.alloc (Obj.cells #[jI t,jI l] 27)=u2 at *;generalize u1.heap.size=bx at *;have hbx:bx<u2.heap.size:=(jg kbx);have z0:u2.cell? (jA bx 0)=some (jI t):=B78;have z1:u2.cell? (jA bx 1)=some (jI l):=B78;have OS:∀w',Below u2.heap.size u2 w'->(Below u2.heap.size u2 w'/\w'.cell? (jA bx 0)=some (jI t)/\w'.cell? (jA bx 1)=some (jI l)/\w'.cell? (jA g 0)=some (jI a0)/\w'.cell? (jA g 1)=some (jI a1)):=fun w' h=> ⟨h,jQ h z0 hbx,jQ h z1 hbx,jQ h qz0 hgz,jQ h qz1 hgz⟩;have hs0:Below u2.heap.size u2 u2.drew:=jB.drew;have hsA:∀o,Below u2.heap.size u2 (u2.alloc o).drew:=fun o=>(jB.alloc jE o).drew;exact K4):=h
def D9(h:jp:=by
 obtain ⟨rfl,A,rfl,hbT,kkW,kzW,kB,hA1⟩:=hcut;clear kk2 kz2 hgz qz0 qz1 kbx hbx z0 z1 hbz hs0 hsA OS HO HMv;obtain ⟨x0,x1,x2,x3⟩:=zah kkW;obtain ⟨z0,z1,z2,z3⟩:=zah kzW;obtain ⟨f0,f1,f2,f3⟩:=zas kzW;obtain ⟨y0,y1,y2,y3⟩:=zah kB;obtain ⟨g0,g1,g2,g3⟩:=zas kB;have hAl:=(jg kB);exact J9):=h
def V26.J9(h:jp:=by
 cases t0:(e0 !=0)
 case true=>
  have tt:offNo e0 hh vv=true:=B190;exact M43
 cases t1:decide (hh<1)
 case true=>
  have tt:offNo e0 hh vv=true:=B177;exact M43
 cases t2:decide (65536<hh)
 case true=>
  have tt:offNo e0 hh vv=true:=B178;exact M43
 cases t3:decide (vv<1)
 case true=>
  have tt:offNo e0 hh vv=true:=B179;exact M43
 cases t4:decide (702<vv)
 case true=>
  have tt:offNo e0 hh vv=true:=B180;exact M43
 have tt:offNo e0 hh vv=false:=B139;obtain ⟨hc0,hc1,hc2,hc3⟩:=hc B198;have p1:=of_decide_eq_false t1;have p2:=of_decide_eq_false t2;have p3:=of_decide_eq_false t3;have p4:=of_decide_eq_false t4;obtain ⟨s1,v1⟩:∃s1,IntKind.i64.wrap (c0+hh)=s1:=⟨_,rfl⟩;have e1:s1=c0+hh:=v1.symm.trans (zae B1 B1);obtain ⟨s2,v2⟩:∃s2,IntKind.i64.wrap (s1-1)=s2:=⟨_,rfl⟩;have k1:=jH (show c0+hh-1=s2 by rw[<-v2,zae B1 B1];omega);exact M83):=h
def X30.K4(h:jp:=by
 go_cut [9,10] (fun s9 s10 wx=>s10=jI e0/\∃A,s9=PT A/\Below w.heap.size w wx/\wx.heap[w.heap.size]?=some (.cells #[jI t,jI l,jI b,jI r] 62 (0,0))/\wx.heap[w.heap.size+1]?=some (.cells #[jI 0,jI 0,jI 0,jI 0] 62 (0,0))/\wx.heap[A]?=some (.cells #[jI c0,jI c1,jI c2,jI c3] 62 (0,0))/\w.heap.size+1<A)
 case first=>
  exact M8
 case rest=>
 open V26 in exact D9):=h
def D2(h:jp:=by
 go_enter func141,ntmps141;go_upto_region 1 with fail;generalize ((w.alloc (Obj.cells #[jI t,jI l,jI b,jI r] 62)).alloc (Obj.cells #[jI 0,jI 0,jI 0,jI 0] 62))=u0 at *;have hz1:w.heap.size+1<u0.heap.size:=(jg kz);obtain ⟨a0',a1',a2',a3'⟩:=zah kk;have hgu:g<u0.heap.size:=jL hg hb.size;go_quiet (fail);have hbq:Below w.heap.size w (u0.drewN nq):=below_drewN hb nq;have kkq:=((below_drewN (Below.refl u0.heap.size u0) nq).block _ B1).trans kk;have kzq:=((below_drewN (Below.refl u0.heap.size u0) nq).block _ B1).trans kz;clear a0' a1' a2' a3';have q0:=jQ (below_drewN (Below.refl u0.heap.size u0) nq) q0 B1;exact J2):=h
def V7.J2(h:jp:=by
 have q1:=jQ (below_drewN (Below.refl u0.heap.size u0) nq) q1 B1
 open X30 in exact C4):=h
def Va38.Ja14(h:jp:=by
 have q1:=jQ hb n1 hg
 open V7 in exact D2):=h
def Da9(h:jp:=by
 obtain ⟨hc0,hc1,hc2,hc3⟩:=hc B198;have p1:=of_decide_eq_false t1;have p2:=of_decide_eq_false t2;have p3:=of_decide_eq_false t3;have p4:=of_decide_eq_false t4;obtain ⟨s1,v1⟩:∃s1,IntKind.i64.wrap (c0+a2)=s1:=⟨_,rfl⟩;have e1:s1=c0+a2:=v1.symm.trans (zae B1 B1);obtain ⟨s2,v2⟩:∃s2,IntKind.i64.wrap (s1-1)=s2:=⟨_,rfl⟩;exact Ja9):=h
def Va23.Ja9(h:jp:=by
 have k1:=jH (show c0+a2-1=s2 by rw[<-v2,zae B1 B1];omega);exact M83):=h
def V27.J9(h:jp:=by
 cases t0:(e0 !=0)
 case true=>
  have tt:offNo e0 a2 vv=true:=B190;exact M43
 cases t1:decide (a2<1)
 case true=>
  have tt:offNo e0 a2 vv=true:=B177;exact M43
 cases t2:decide (65536<a2)
 case true=>
  have tt:offNo e0 a2 vv=true:=B178;exact M43
 cases t3:decide (vv<1)
 case true=>
  have tt:offNo e0 a2 vv=true:=B179;exact M43
 cases t4:decide (702<vv)
 case true=>
  have tt:offNo e0 a2 vv=true:=B180;exact M43
 have tt:offNo e0 a2 vv=false:=B139
 open Va23 in exact Da9):=h
def X29.K4(h:jp:=by
 go_cut [9,10] (fun s9 s10 wx=>s10=jI e0/\∃A,s9=PT A/\Below w.heap.size w wx/\wx.heap[w.heap.size]?=some (.cells #[jI t,jI l,jI b,jI r] 62 (0,0))/\wx.heap[w.heap.size+1]?=some (.cells #[jI 0,jI 0,jI 0,jI 0] 62 (0,0))/\wx.heap[A]?=some (.cells #[jI c0,jI c1,jI c2,jI c3] 62 (0,0))/\w.heap.size+1<A)
 case first=>
  exact M8
 case rest=>
 open V27 in exact D9):=h
def V8.J2(h:jp:=by
 have q1:=jQ (below_drewN (Below.refl u0.heap.size u0) nq) q1 B1;have q2:=jQ (below_drewN (Below.refl u0.heap.size u0) nq) q2 B1
 open X29 in exact C4):=h
def Va36.Ja14(h:jp:=by
 have q1:=jQ hb n1 hg;have q2:=jQ hb n2 hg
 open V8 in exact D2):=h
def Va24.Ja9(h:jp:=by
 have k1:=jH (show c0+a2-1=s2 by rw[<-v2,zae B1 B1];omega);obtain ⟨s3,v3⟩:∃s3,IntKind.i64.wrap (c1+a3)=s3:=⟨_,rfl⟩;have e3:s3=c1+a3:=v3.symm.trans (zae B1 B1);obtain ⟨s4,v4⟩:∃s4,IntKind.i64.wrap (s3-1)=s4:=⟨_,rfl⟩;have k2:=jH (show c1+a3-1=s4 by rw[<-v4,zae B1 B1];omega);clear p1 p2 p3 p4 hc0 hc1 hc2 hc3 e1 e3;go_wp2;rw[tt,k1.out,k2.out];exact jX (.tuple #[AR c0 c1 s2 s4,.bool true]) B19 ⟨rfl,Bp3⟩):=h
def V28.J9(h:jp:=by
 cases t0:(e0 !=0)
 case true=>
  have tt:offNo e0 a2 a3=true:=B190;exact M43
 cases t1:decide (a2<1)
 case true=>
  have tt:offNo e0 a2 a3=true:=B177;exact M43
 cases t2:decide (65536<a2)
 case true=>
  have tt:offNo e0 a2 a3=true:=B178;exact M43
 cases t3:decide (a3<1)
 case true=>
  have tt:offNo e0 a2 a3=true:=B179;exact M43
 cases t4:decide (702<a3)
 case true=>
  have tt:offNo e0 a2 a3=true:=B180;exact M43
 have tt:offNo e0 a2 a3=false:=B139
 open Va24 in exact Da9):=h
def X28.K4(h:jp:=by
 go_cut [9,10] (fun s9 s10 wx=>s10=jI e0/\∃A,s9=PT A/\Below w.heap.size w wx/\wx.heap[w.heap.size]?=some (.cells #[jI t,jI l,jI b,jI r] 62 (0,0))/\wx.heap[w.heap.size+1]?=some (.cells #[jI 0,jI 0,jI 0,jI 0] 62 (0,0))/\wx.heap[A]?=some (.cells #[jI c0,jI c1,jI c2,jI c3] 62 (0,0))/\w.heap.size+1<A)
 case first=>
  exact M8
 case rest=>
 open V28 in exact D9):=h
def V9.J2(h:jp:=by
 have q1:=jQ (below_drewN (Below.refl u0.heap.size u0) nq) q1 B1;have q2:=jQ (below_drewN (Below.refl u0.heap.size u0) nq) q2 B1;have q3:=jQ (below_drewN (Below.refl u0.heap.size u0) nq) q3 B1
 open X28 in exact C4):=h
def Va37.Ja14(h:jp:=by
 have q1:=jQ hb n1 hg;have q2:=jQ hb n2 hg;have q3:=jQ hb n3 hg
 open V9 in exact D2):=h
theorem off_meet{w u2 w5:World}{A:Nat}{t l b r c0 c1 c2 c3 e0:Int}(hbz:Below w.heap.size w u2)(kk2:u2.heap[w.heap.size]?=some (.cells #[jI t,jI l,jI b,jI r] 62 (0,0)))(kz2:u2.heap[w.heap.size+1]?=some (.cells #[jI 0,jI 0,jI 0,jI 0] 62 (0,0)))(hs2:Below u2.heap.size u2 w5)(hA:u2.heap.size<=A)(kB:((((w5.setCell (jA A 0) (jI c0)).setCell (jA A 1) (jI c1)).setCell (jA A 2) (jI c2)).setCell (jA A 3) (jI c3)).heap[A]?=some (.cells #[jI c0,jI c1,jI c2,jI c3] 62 (0,0))):
 Value.int IntKind.i64 e0=jI e0/\∃A',PT A=PT A'/\Below w.heap.size w ((((w5.setCell (jA A 0) (jI c0)).setCell (jA A 1) (jI c1)).setCell (jA A 2) (jI c2)).setCell (jA A 3) (jI c3))/\((((w5.setCell (jA A 0) (jI c0)).setCell (jA A 1) (jI c1)).setCell (jA A 2) (jI c2)).setCell (jA A 3) (jI c3)).heap[w.heap.size]?=some (.cells #[jI t,jI l,jI b,jI r] 62 (0,0))/\
  ((((w5.setCell (jA A 0) (jI c0)).setCell (jA A 1) (jI c1)).setCell (jA A 2) (jI c2)).setCell (jA A 3) (jI c3)).heap[w.heap.size+1]?=some (.cells #[jI 0,jI 0,jI 0,jI 0] 62 (0,0))/\((((w5.setCell (jA A 0) (jI c0)).setCell (jA A 1) (jI c1)).setCell (jA A 2) (jI c2)).setCell (jA A 3) (jI c3)).heap[A']?=some (.cells #[jI c0,jI c1,jI c2,jI c3] 62 (0,0))/\w.heap.size+1<A':=
 have hW:Below u2.heap.size u2 _:=((((hs2.setCell (p:=(jA A 0)) hA (jI c0)).setCell (p:=(jA A 1)) hA (jI c1)).setCell (p:=(jA A 2)) hA (jI c2)).setCell (p:=(jA A 3)) hA (jI c3))
 ⟨rfl,_,rfl,jN hbz hW,(hW.block w.heap.size (by have:=hbz.size;have:=(jg kz2);omega)).trans kk2,(hW.block (w.heap.size+1) (jg kz2)).trans kz2,kB,jL (jg kz2) hA⟩
theorem offset_2(t l b r a0 a1 d1 hh d2 vv:Int)(g cap:Nat)(w:World)(hg:g<w.heap.size)(n0:w.cell? (jA g 0)=some (jI a0))(n1:w.cell? (jA g 1)=some (jI a1))(w1:IntKind.i64.wrap (b-t)=d1)(w2:IntKind.i64.wrap (d1+1)=hh)(w3:IntKind.i64.wrap (r-l)=d2)(w4:IntKind.i64.wrap (d2+1)=vv)(c0 c1 c2 c3 e0:Int)(hc:e0=0->0<=c0/\c0<=1000000/\0<=c1/\c1<=1000000)(HO:Hid (∀u,Ret 176 #[SP t l,SP t l] u (AR t l t l)))(HMv:Hid (∀u,Ret 177 #[AR t l t l,jI a0,jI a1] u (.tuple #[AR c0 c1 c2 c3,jI e0]))):
 Ret 141 #[AR t l b r,jP g 0 2 cap] w (.tuple #[cond (offNo e0 hh vv) (AR t l b r) (AR c0 c1 (c0+hh-1) (c1+vv-1)),.bool (!offNo e0 hh vv)]):=by
 open Va38 in exact Da14
theorem offset_3(t l b r a0 a1 a2 d1 hh d2 vv:Int)(g cap:Nat)(w:World)(hg:g<w.heap.size)(n0:w.cell? (jA g 0)=some (jI a0))(n1:w.cell? (jA g 1)=some (jI a1))(n2:w.cell? (jA g 2)=some (jI a2))(w1:IntKind.i64.wrap (b-t)=d1)(w2:IntKind.i64.wrap (d1+1)=hh)(w3:IntKind.i64.wrap (r-l)=d2)(w4:IntKind.i64.wrap (d2+1)=vv)(c0 c1 c2 c3 e0:Int)(hc:e0=0->0<=c0/\c0<=1000000/\0<=c1/\c1<=1000000)(HO:Hid (∀u,Ret 176 #[SP t l,SP t l] u (AR t l t l)))(HMv:Hid (∀u,Ret 177 #[AR t l t l,jI a0,jI a1] u (.tuple #[AR c0 c1 c2 c3,jI e0]))):
 Ret 141 #[AR t l b r,jP g 0 3 cap] w (.tuple #[cond (offNo e0 a2 vv) (AR t l b r) (AR c0 c1 (c0+a2-1) (c1+vv-1)),.bool (!offNo e0 a2 vv)]):=by
 open Va36 in exact Da14
theorem offset_4(t l b r a0 a1 a2 a3 d1 hh d2 vv:Int)(g cap:Nat)(w:World)(hg:g<w.heap.size)(n0:w.cell? (jA g 0)=some (jI a0))(n1:w.cell? (jA g 1)=some (jI a1))(n2:w.cell? (jA g 2)=some (jI a2))(n3:w.cell? (jA g 3)=some (jI a3))(w1:IntKind.i64.wrap (b-t)=d1)(w2:IntKind.i64.wrap (d1+1)=hh)(w3:IntKind.i64.wrap (r-l)=d2)(w4:IntKind.i64.wrap (d2+1)=vv)(c0 c1 c2 c3 e0:Int)(hc:e0=0->0<=c0/\c0<=1000000/\0<=c1/\c1<=1000000)(HO:Hid (∀u,Ret 176 #[SP t l,SP t l] u (AR t l t l)))(HMv:Hid (∀u,Ret 177 #[AR t l t l,jI a0,jI a1] u (.tuple #[AR c0 c1 c2 c3,jI e0]))):
 Ret 141 #[AR t l b r,jP g 0 4 cap] w (.tuple #[cond (offNo e0 a2 a3) (AR t l b r) (AR c0 c1 (c0+a2-1) (c1+a3-1)),.bool (!offNo e0 a2 a3)]):=by
 open Va37 in exact Da14
