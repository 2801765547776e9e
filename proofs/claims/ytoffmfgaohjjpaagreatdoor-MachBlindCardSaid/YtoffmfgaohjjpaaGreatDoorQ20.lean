import Derived.Test.YtoffmfgaohjjpaaGreatDoorQ07
set_option linter.unusedVariables false
set_option linter.unusedSectionVars false
set_option linter.unusedSimpArgs false
open Go.Proofs.Tryz
set_option maxHeartbeats 8000000
variable{jp:Sort _}
set_option maxRecDepth 100000
namespace Go.Proofs.YtoffmfgaohjjpaaGreatDoor
section
section
section
section
open Go.RowKit
def Cal.arg(l:List Val.V):Nat->Val.V:=fun k=>l.getD k Cal.zero
def Cal.argC(l:List Val.V):List Value:=l.flatMap fun v=> [jI v.k,jI v.n,jS v.t]
theorem zqf:∀(l:List Val.V) (k:Nat),k<l.length->(Cal.argC l)[k*3]?=some (jI (Cal.arg l k).k)/\(Cal.argC l)[k*3+1]?=some (jI (Cal.arg l k).n)/\(Cal.argC l)[k*3+2]?=some (jS (Cal.arg l k).t)
 |[],k,h=>by simp at h
 |v::l,0,_=> ⟨rfl,rfl,rfl⟩
 |v::l,k+1,h=>by
  have ih:=zqf l k B38;have e:∀j,(Cal.argC (v::l))[j+3]?=(Cal.argC l)[j]?:=fun j=>rfl;have a:Cal.arg (v::l) (k+1)=Cal.arg l k:=rfl;rw[show (k+1)*3=k*3+3 by omega,a];refine ⟨(e _).trans ih.1,?_,?_⟩
  .rw[show k*3+3+1=k*3+1+3 by omega];exact (e _).trans ih.2.1
  .rw[show k*3+3+2=k*3+2+3 by omega];exact (e _).trans ih.2.2
theorem arg_cells(w:World)(l:List Val.V)(T:TypeId):HCellP (w.alloc (.cells (Cal.argC l).toArray T (0,0))) (some (jA w.heap.size 0)) l.length (Cal.arg l):=by
 intro k hk;obtain ⟨h0,h1,h2⟩:=zqf l k hk;have hx:=heap_alloc_new w (.cells (Cal.argC l).toArray T (0,0));refine ⟨w.heap.size,0,rfl,by simp,?_,?_,?_⟩ <;> (rw[Nat.zero_add])
 .rw[Lib.cell_of_heap hx];simpa using h0
 .rw[Lib.cell_of_heap hx];simpa using h1
 .rw[Lib.cell_of_heap hx];simpa using h2
theorem HCellP.below{w w':World}{a:Option Addr}{n:Nat}{v:Nat->Val.V}(h:HCellP w a n v){k:Nat}(hk:k=w.heap.size)(hb:Below k w w'):HCellP w' a n v:=by
 subst hk;intro j hj;obtain ⟨b,o,rfl,hl,c0,c1,c2⟩:=h j hj;exact ⟨b,o,rfl,jL hl hb.size,jQ hb c0 hl,jQ hb c1 hl,jQ hb c2 hl⟩
namespace Cal
def Fine(v:Val.V):Prop:=Val.mayB v=true/\(v.k==0)=false
def Bp106(h:jp:=by exact zfj _ B3 B3):=h
theorem zbv(n:Int):Fine (num n):=⟨(by decide +kernel:Val.isE ⟨#[]⟩=true),rfl⟩
theorem zd6(s:ByteArray)(h:s.size<=32767):Fine (txt s):=⟨by show (true&&decide (s.size<=32767))=true;rw[decide_eq_true h];rfl,rfl⟩
theorem fine_tru(b:Bool):Fine (tru b):=by cases b <;> exact ⟨by decide +kernel,rfl⟩
theorem zfj(e:Int)(h1:1<=e)(h2:e<=6):Fine (bad e):=⟨by show (decide (1<=e)&&decide (e<=6)&&Val.isE ⟨#[]⟩)=true;rw[decide_eq_true h1,decide_eq_true h2];decide +kernel,rfl⟩
theorem zby{b:Bool}{x y:Val.V}(h1:Fine x)(h2:Fine y):Fine (cond b x y):=by cases b <;> assumption
theorem zws(n x:Int):Fine (told n x):=zby (zbv _) (zby Bp106 Bp106)
theorem zju(s:ByteArray)(x:Int):Fine (spelt s x):=by
 unfold spelt;cases h:(x==0&&decide (s.size<=32767)) with
 |true=>
  rw[Bool.and_eq_true,decide_eq_true_eq] at h;exact zd6 s h.2
 |false=>exact zfj 4 B3 B3
theorem zwt(n:Int)(b:Bool):Fine (fits n b):=zby (zbv _) Bp106
def InOK(I:In):Prop:=(∀t∈I.ts,t.size<=32767)/\Val.mayB I.v=true
theorem zn4{v:Val.V}(h:Val.mayB v=true):Val.good v=v:=by unfold Val.good;rw[h];rfl
theorem isE_size{t:ByteArray}(h:Val.isE t=true):t.size=0:=by
 exact M164
theorem asText_size{v:Val.V}(h:Val.mayB v=true)(hv:VB v):(Val.asText v).1.size<=32767:=by
 unfold Val.asText;rw[zn4 h];unfold Val.textG;rcases Val.may_cases h with ⟨k,n,t⟩|⟨k,t⟩|⟨k,n,t⟩|⟨k,n,t⟩|⟨k,n,_,t⟩
 .rw[k];show v.t.size<=32767;rw[isE_size t];omega
 .rw[k];show (⟨(Lib.itoa v.n).toArray⟩:ByteArray).size<=32767;have:=Dec.itoa_len v.n hv.1 hv.2;exact M207
 .rw[k];show (Val.word v.n).size<=32767;rcases n with n|n <;> rw[n] <;> decide
 .rw[k];exact t
 .rw[k];show (⟨#[]⟩:ByteArray).size<=32767;decide
theorem zjr{v:Val.V}{I:In}(h:Val.mayB v=true)(hv:VB v)(c:UInt8)(hI:InOK I):InOK (zf8 c v I).2:=by
 unfold zf8;cases c.toNat==110
 .cases c.toNat==116
  .cases c.toNat==98
   .exact ⟨hI.1,h⟩
   .exact hI
  .refine ⟨fun t ht=> ?_,hI.2⟩;rcases List.mem_append.1 ht with ht|ht
   .exact hI.1 t ht
   .rw[List.mem_singleton.1 ht];exact asText_size h hv
 .exact hI
theorem zv7(s:ByteArray)(v:Nat->Val.V):∀n,(∀k,k<n->Val.mayB (v k)=true/\VB (v k))->InOK (inAt s v n)
 |0,_=> ⟨fun t h=>(by cases h),(by decide +kernel:Val.mayB ⟨0,0,⟨#[]⟩⟩=true)⟩
 |n+1,h=>zjr (h n B1).1 (h n B1).2 _ (zv7 s v n fun k hk=>h k B1)
theorem zti{I:In}(h:InOK I)(i:Nat):(tA I i).size<=32767:=by
 unfold tA;rw[List.getD_eq_getElem?_getD];cases e:I.ts[i]? with
 |none=>decide
 |some t=>exact h.1 t (List.mem_of_getElem? e)
theorem zqo(s:ByteArray):(zqp s).size<=s.size:=by
 have:(zqp s).size=(Tr.trimL s.data.toList).length:=rfl;rw[this,Lib.size_eq];exact Tr.trim_length _
theorem zss(f:Nat){I:In}(h:InOK I):Fine (work f I):=by
 have b2:=zfj 2 B3 B3;have b4:=zfj 4 B3 B3;have z0:=zti h 0;have z1:∀g,(eachS g (tA I 0)).size<=32767:=fun g=>by rw[zr9];exact z0
 have z2:(zje (tA I 0)).size<=32767:=by rw[zm2];exact z0
 have z3:(zqp (tA I 0)).size<=32767:=jR (zqo _) z0;have hv:Fine (cond (I.v.k==3) I.v (txt cE)):=by
  cases e:I.v.k==3
  .exact zd6 _ B3
  .exact ⟨h.2,by
    have:I.v.k=3:=by simpa using e
    show (I.v.k==0)=false;rw[this];rfl⟩
 unfold work;split
 all_goals with_reducible first
  |exact zbv _
  |exact zws _ _
  |exact zju _ _
  |exact fine_tru _
  |exact zby (zwt _ _) (zbv _)
  |exact zby b2 (zbv _)
  |exact zby (zbv _) b4
  |exact zby (zbv _) (zbv _)
  |exact zfj 6 B3 B3
  |exact zd6 _ z0
  |exact zd6 _ (z1 _)
  |exact zd6 _ z2
  |exact zd6 _ z3
  |exact hv
  |(unfold pos;exact zby b2 (zbv _))
  |(unfold replV;split <;> first|exact b4|exact zju _ _)
  |(split <;> first|exact b2|exact zbv _)
end Cal
end
open Go.RowKit Go.MapKept
open Go.ChangeMaps (setBlock)
namespace Mb
def goodTab:List (Int×Nat):=[(2,43),(3,45),(4,47),(5,48),(6,49),(12,52),(14,53),(15,54),(16,52),(17,52),(18,56),(19,58),(20,59),(7,84),(8,52),(9,87),(10,52),(11,52),(13,52)]
def stepTab:List (Int×Nat):=[(6,51),(18,57),(19,57),(20,60),(7,85),(8,86),(9,88),(10,89),(11,90),(13,91)]
def takesTab:List (Int×ByteArray×List Int):=[(2,⟨#[]⟩,[86]),(3,⟨#[]⟩,[65]),(4,⟨#[86]⟩,[86]),(5,⟨#[86,86]⟩,[86]),(12,⟨#[86]⟩,[]),(14,⟨#[]⟩,[86]),(15,⟨#[65]⟩,[86]),(16,⟨#[65]⟩,[86]),(17,⟨#[86]⟩,[65])]
def CellsKept(w w':World):Prop:=w.heap.size<=w'.heap.size/\∀(g:Nat) (cs:Array Value) (T:TypeId) (fr:Nat×Nat),w.heap[g]?=some (.cells cs T fr)->w'.heap[g]?=some (.cells cs T fr)
theorem CellsKept.below{w w':World}(h:Below w.heap.size w w'):CellsKept w w':=⟨h.size,fun g cs T fr hg=>(h.block g (jg hg)).trans hg⟩
theorem CellsKept.map{w w':World}{r:Nat}{es:Array MapEntry}{c:Nat}(h:w.grownBy w' (some r))(hm:w.heap[r]?=some (.map es c)):CellsKept w w':=
 ⟨h.size,fun g cs T fr hg=>(h.block g (jg hg) fun e=>by cases e;rw[hm] at hg;cases hg).trans hg⟩
theorem CellsKept.rd{w w':World}{lo:Nat}{v:Value}{s:List Int}(h:CellsKept w w')(hr:Rd lo w v s):Rd lo w' v s:=
 hr.kept h.1 fun g _ ht=>by obtain ⟨cur,fr,ht⟩:=ht;rw[h.2 _ _ _ _ ht,ht]
def TakesAt(w:World)(asked:ByteArray)(leaves:List Int)(b2 b3:Nat):Prop:=
 w.heap[b2]?=some (.cells #[jS asked] 9 (0,0))/\∃mv,w.heap[b3]?=some (.cells #[mv] 78 (0,0))/\Rd 0 w mv leaves
theorem TakesAt.kept{w w':World}{asked:ByteArray}{leaves:List Int}{b2 b3:Nat}(h:TakesAt w asked leaves b2 b3)(hk:CellsKept w w'):TakesAt w' asked leaves b2 b3:=by
 obtain ⟨h1,mv,h2,h3⟩:=h;exact ⟨hk.2 _ _ _ _ h1,mv,hk.2 _ _ _ _ h2,hk.rd h3⟩
def IsRow(w:World)(b1:Nat)(k:Int)(v:Value):Prop:=∃nm gf sf,v= .agg #[jS nm,jI (Ma.uses k),gf,sf]/\
 ((k=1/\gf= .func (.func 39) #[] #[PT b1])\/∃id,(k,id)∈goodTab/\gf= .func (.func id) #[] #[])/\
 ((k=1/\sf= .func (.func 41) #[] #[PT b1])\/(∃id,(k,id)∈stepTab/\sf= .func (.func id) #[] #[])\/
  ∃asked leaves b2 b3,(k,asked,leaves)∈takesTab/\sf= .func (.func 80) #[] #[PT b2,PT b3]/\TakesAt w asked leaves b2 b3)
theorem IsRow.kept{w w':World}{b1:Nat}{k:Int}{v:Value}(h:IsRow w b1 k v)(hk:CellsKept w w'):IsRow w' b1 k v:=by
 obtain ⟨nm,gf,sf,e,h1,h2⟩:=h;refine ⟨nm,gf,sf,e,h1,?_⟩;rcases h2 with h2|h2|⟨asked,leaves,b2,b3,q1,q2,q3⟩
 .exact .inl h2
 .exact .inr (.inl h2)
 .exact .inr (.inr ⟨asked,leaves,b2,b3,q1,q2,q3.kept hk⟩)
theorem IsRow.plain{w:World}{b1:Nat}(k u:Int)(nm:ByteArray)(gi si:Nat)(hu:Ma.uses k=u)(hg:(k,gi)∈goodTab)(hs:(k,si)∈stepTab):IsRow w b1 k (.agg #[jS nm,jI u,.func (.func gi) #[] #[],.func (.func si) #[] #[]]):=
 ⟨nm,_,_,by rw[hu],.inr ⟨gi,hg,rfl⟩,.inr (.inl ⟨si,hs,rfl⟩)⟩
theorem IsRow.takes{w:World}{b1:Nat}(k u:Int)(nm:ByteArray)(gi b2 b3:Nat)(asked:ByteArray)(leaves:List Int)(hu:Ma.uses k=u)(hg:(k,gi)∈goodTab)(hs:(k,asked,leaves)∈takesTab)(ht:TakesAt w asked leaves b2 b3):IsRow w b1 k (.agg #[jS nm,jI u,.func (.func gi) #[] #[],.func (.func 80) #[] #[PT b2,PT b3]]):=
 ⟨nm,_,_,by rw[hu],.inr ⟨gi,hg,rfl⟩,.inr (.inr ⟨asked,leaves,b2,b3,hs,rfl,ht⟩)⟩
theorem IsRow.const{w:World}{b1:Nat}(nm:ByteArray):IsRow w b1 1 (.agg #[jS nm,jI 1,.func (.func 39) #[] #[PT b1],.func (.func 41) #[] #[PT b1]]):=⟨nm,_,_,rfl,.inl ⟨rfl,rfl⟩,.inl ⟨rfl,rfl⟩⟩
def RTab(w:World)(r b1:Nat)(ks:List Int):Prop:=∃L,tab w r L/\L.map (·.1)=ks/\∀p∈L,IsRow w b1 p.1 p.2
theorem RTab.below{w w':World}{r b1:Nat}{ks:List Int}(h:RTab w r b1 ks)(hb:Below w.heap.size w w'):RTab w' r b1 ks:=by
 obtain ⟨L,h1,h2,h3⟩:=h;refine ⟨L,?_,h2,fun p hp=>(h3 p hp).kept (.below hb)⟩;unfold tab at *;exact (hb.block r (jg h1)).trans h1
theorem RTab.update(w:World)(r b1:Nat)(ks:List Int)(k:Int)(v:Value)(hT:RTab w r b1 ks)(hne:k∉ks)(hv:IsRow w b1 k v):
 ∃w',(Instr.mapUpdate 66 (.map (some r)) (jI k) v).run prog w= .ok () w'/\RTab w' r b1 (ks++ [k])/\w.grownBy w' (some r)/\CellsKept w w':=by
 obtain ⟨L,h1,h2,h3⟩:=hT;obtain ⟨w',hrun,r1,r2⟩:=zjg (P:=prog) h1 underlying66 underlying3 k v Bp105;have hk:CellsKept w w':= .map r2 h1;refine ⟨w',hrun,⟨_,r1,by simp[h2],fun p hp=> ?_⟩,r2,hk⟩;rcases List.mem_append.1 hp with hp|hp
 .exact (h3 p hp).kept hk
 .obtain rfl:=List.mem_singleton.1 hp;exact hv.kept hk
theorem takes_mk(asked:ByteArray)(mv:Value)(leaves:List Int)(w:World)(hm:Rd 0 w mv leaves):Calls prog 44 #[jS asked,mv] w fun e w'=>∃b2 b3,e=jr (.func (.func 80) #[] #[PT b2,PT b3])/\TakesAt w' asked leaves b2 b3/\Below w.heap.size w w':=by
 obtain ⟨ma,mc,rfl⟩:=hm.any;go_enter func44,ntmps44;go_wp2;go_ret;have hb1:=below1 w (.cells #[jS asked] 9);have hb2:Below w.heap.size w ((w.alloc (.cells #[jS asked] 9)).alloc (.cells #[.slice ma leaves.length mc] 78)):=hb1.alloc hb1.size _;refine ⟨_,_,rfl,⟨(heap_alloc_old _ _ B7).trans Bp4,_,?_,hm.below hb2⟩,hb2⟩;have:=heap_alloc_new (w.alloc (.cells #[jS asked] 9)) (.cells #[.slice ma leaves.length mc] 78);simpa using this
theorem znv(r b1:Nat)(w0:World)(hT0:RTab w0 r b1 [1,2,3,4,5,6,12,14,15,16,17,18,19,20]):Calls prog 61 #[.map (some r)] w0 fun e w'=>e=jr jT/\RTab w' r b1 [1,2,3,4,5,6,12,14,15,16,17,18,19,20,7,8,9,10,11,13]/\w0.grownBy w' (some r)/\CellsKept w0 w':=by
 have G0:=World.grownBy.refl w0 (some r);have K0:CellsKept w0 w0:=⟨jE,fun _ _ _ _ h=>h⟩;go_enter func61,ntmps61;go_wp2_with fail;obtain ⟨w1,hr,hT1,hg,hk⟩:=RTab.update w0 r b1 [1,2,3,4,5,6,12,14,15,16,17,18,19,20] 7 (.agg #[jS ⟨#[101,114,114]⟩,jI 2,.func (.func 84) #[] #[],.func (.func 85) #[] #[]]) hT0 B3 (.plain _ _ _ _ _ B3 B3 B3);simp only[List.cons_append,List.nil_append] at hT1;rw[hr];have G1:=G0.next hg;have K1:CellsKept w0 w1:=⟨jR K0.1 hk.1,fun g cs T fr h=>hk.2 _ _ _ _ (K0.2 _ _ _ _ h)⟩;clear hr hg hk hT0 G0 K0;go_wp2_with fail;obtain ⟨w2,hr,hT2,hg,hk⟩:=RTab.update w1 r b1 [1,2,3,4,5,6,12,14,15,16,17,18,19,20,7] 8 (.agg #[jS ⟨#[105,102]⟩,jI 2,.func (.func 52) #[] #[],.func (.func 86) #[] #[]]) hT1 B3 (.plain _ _ _ _ _ B3 B3 B3);simp only[List.cons_append,List.nil_append] at hT2;rw[hr];have G2:=G1.next hg;have K2:CellsKept w0 w2:=⟨jR K1.1 hk.1,fun g cs T fr h=>hk.2 _ _ _ _ (K1.2 _ _ _ _ h)⟩;clear hr hg hk hT1 G1 K1;go_wp2_with fail;obtain ⟨w3,hr,hT3,hg,hk⟩:=RTab.update w2 r b1 [1,2,3,4,5,6,12,14,15,16,17,18,19,20,7,8] 9 (.agg #[jS ⟨#[111,107]⟩,jI 2,.func (.func 87) #[] #[],.func (.func 88) #[] #[]]) hT2 B3 (.plain _ _ _ _ _ B3 B3 B3);simp only[List.cons_append,List.nil_append] at hT3;rw[hr];have G3:=G2.next hg;have K3:CellsKept w0 w3:=⟨jR K2.1 hk.1,fun g cs T fr h=>hk.2 _ _ _ _ (K2.2 _ _ _ _ h)⟩;clear hr hg hk hT2 G2 K2;go_wp2_with fail;obtain ⟨w4,hr,hT4,hg,hk⟩:=RTab.update w3 r b1 [1,2,3,4,5,6,12,14,15,16,17,18,19,20,7,8,9] 10 (.agg #[jS ⟨#[99,104,111,111,115,101]⟩,jI 1,.func (.func 52) #[] #[],.func (.func 89) #[] #[]]) hT3 B3 (.plain _ _ _ _ _ B3 B3 B3);simp only[List.cons_append,List.nil_append] at hT4;rw[hr];have G4:=G3.next hg;have K4:CellsKept w0 w4:=⟨jR K3.1 hk.1,fun g cs T fr h=>hk.2 _ _ _ _ (K3.2 _ _ _ _ h)⟩;clear hr hg hk hT3 G3 K3;go_wp2_with fail;obtain ⟨w5,hr,hT5,hg,hk⟩:=RTab.update w4 r b1 [1,2,3,4,5,6,12,14,15,16,17,18,19,20,7,8,9,10] 11 (.agg #[jS ⟨#[109,97,116,99,104]⟩,jI 1,.func (.func 52) #[] #[],.func (.func 90) #[] #[]]) hT4 B3 (.plain _ _ _ _ _ B3 B3 B3);simp only[List.cons_append,List.nil_append] at hT5;rw[hr];have G5:=G4.next hg;have K5:CellsKept w0 w5:=⟨jR K4.1 hk.1,fun g cs T fr h=>hk.2 _ _ _ _ (K4.2 _ _ _ _ h)⟩;clear hr hg hk hT4 G4 K4;go_wp2_with fail;obtain ⟨w6,hr,hT6,hg,hk⟩:=RTab.update w5 r b1 [1,2,3,4,5,6,12,14,15,16,17,18,19,20,7,8,9,10,11] 13 (.agg #[jS ⟨#[106,117,109,112]⟩,jI 1,.func (.func 52) #[] #[],.func (.func 91) #[] #[]]) hT5 B3 (.plain _ _ _ _ _ B3 B3 B3);simp only[List.cons_append,List.nil_append] at hT6;rw[hr];have G6:=G5.next hg;have K6:CellsKept w0 w6:=⟨jR K5.1 hk.1,fun g cs T fr h=>hk.2 _ _ _ _ (K5.2 _ _ _ _ h)⟩;clear hr hg hk hT5 G5 K5;go_wp2_with fail;go_end0;exact ⟨rfl,hT6,G6,K6⟩
def zyd:List Int:=[1,2,3,4,5,6,12,14,15,16,17,18,19,20,7,8,9,10,11,13]
def RowsAt(w:World)(r b1:Nat)(cv:Value):Prop:=RTab w r b1 zyd/\w.heap[b1]?=some (.cells #[cv] 23 (0,0))
def B91(h:jp:=by simp[takesTab]):=h
theorem rows_any(ca:Option Addr)(cn cc:Nat)(w:World):Calls prog 24 #[.slice ca cn cc] w fun e w'=>∃r b1,e=jr (.map (some r))/\w.heap.size<=r/\w.heap.size<=b1/\RowsAt w' r b1 (.slice ca cn cc)/\Below w.heap.size w w':=by
 have hmm:=@run_makeMap prog;have HT:=jH takes_mk;have HJ:=jH znv;go_enter func24,ntmps24;go_wp2_with fail;have hb0:Below w.heap.size w ((w.alloc (.cells #[.slice ca cn cc] 23)).alloc (.map #[] 0)):=(below1 _ _).alloc B7 _;have hr0:((w.alloc (.cells #[.slice ca cn cc] 23)).alloc (.map #[] 0)).heap[w.heap.size+1]?=some (.map #[] 0):=by
  have:=heap_alloc_new (w.alloc (.cells #[.slice ca cn cc] 23)) (.map #[] 0);simpa using this
 have hx0:((w.alloc (.cells #[.slice ca cn cc] 23)).alloc (.map #[] 0)).heap[w.heap.size]?=some (.cells #[.slice ca cn cc] 23 (0,0)):=(heap_alloc_old _ _ B7).trans Bp4;generalize (w.alloc (.cells #[.slice ca cn cc] 23)).alloc (.map #[] 0)=w0 at *;have hle:w.heap.size<=w.heap.size+1:=B1;generalize w.heap.size+1=r at *;have hT0:RTab w0 r w.heap.size []:=⟨[],hr0,rfl,fun p hp=>by cases hp⟩;clear hr0;obtain ⟨w1,hr,hT1,hg,hk⟩:=RTab.update w0 r w.heap.size [] 1 (.agg #[jS ⟨#[99,111,110,115,116]⟩,jI 1,.func (.func 39) #[] #[PT w.heap.size],.func (.func 41) #[] #[PT w.heap.size]]) hT0 B3 (.const _);simp only[List.nil_append] at hT1;rw[hr];have hx1:=hk.2 _ _ _ _ hx0;have hb1:=hb0.grown hg hb0.size (fun j e=>by cases e;exact hle);clear hr hg hk hT0 hx0 hb0;go_wp2_with fail;refine (HT.out ⟨#[]⟩ _ [86] _ ((zbo w1 86).mono (Nat.zero_le _))).mono ?_;rintro e w2 ⟨b2,b3,rfl,hta,hb⟩;have hbb:Below w1.heap.size w1 w2:=(below1 w1 (Obj.cells #[.int .u8 86] TS)).trans (hb.mono B7);have hT2:=hT1.below hbb;have hx2:=(CellsKept.below hbb).2 _ _ _ _ hx1;have hb2:=jN hb1 hbb;clear hbb hT1 hx1 hb1;go_wp2_with fail;obtain ⟨w3,hr,hT3,hg,hk⟩:=RTab.update w2 r w.heap.size [1] 2 (.agg #[jS ⟨#[102,101,116,99,104]⟩,jI 2,.func (.func 43) #[] #[],.func (.func 80) #[] #[PT b2,PT b3]]) hT2 B3 (.takes _ _ _ _ _ _ _ _ B3 B3 B91 hta);simp only[List.cons_append,List.nil_append] at hT3;rw[hr];have hx3:=hk.2 _ _ _ _ hx2;have hb3:=hb2.grown hg hb2.size (fun j e=>by cases e;exact hle);clear hr hg hk hT2 hx2 hb2 hta;go_wp2_with fail;refine (HT.out ⟨#[]⟩ _ [65] _ ((zbo w3 65).mono (Nat.zero_le _))).mono ?_;rintro e w4 ⟨b2,b3,rfl,hta,hb⟩;have hbb:Below w3.heap.size w3 w4:=(below1 w3 (Obj.cells #[.int .u8 65] TS)).trans (hb.mono B7);have hT4:=hT3.below hbb;have hx4:=(CellsKept.below hbb).2 _ _ _ _ hx3;have hb4:=jN hb3 hbb;clear hbb hT3 hx3 hb3;go_wp2_with fail;obtain ⟨w5,hr,hT5,hg,hk⟩:=RTab.update w4 r w.heap.size [1,2] 3 (.agg #[jS ⟨#[97,114,101,97]⟩,jI 4,.func (.func 45) #[] #[],.func (.func 80) #[] #[PT b2,PT b3]]) hT4 B3 (.takes _ _ _ _ _ _ _ _ B3 B3 B91 hta);simp only[List.cons_append,List.nil_append] at hT5;rw[hr];have hx5:=hk.2 _ _ _ _ hx4;have hb5:=hb4.grown hg hb4.size (fun j e=>by cases e;exact hle);clear hr hg hk hT4 hx4 hb4 hta;go_wp2_with fail;refine (HT.out ⟨#[86]⟩ _ [86] _ ((zbo w5 86).mono (Nat.zero_le _))).mono ?_;rintro e w6 ⟨b2,b3,rfl,hta,hb⟩;have hbb:Below w5.heap.size w5 w6:=(below1 w5 (Obj.cells #[.int .u8 86] TS)).trans (hb.mono B7);have hT6:=hT5.below hbb;have hx6:=(CellsKept.below hbb).2 _ _ _ _ hx5;have hb6:=jN hb5 hbb;clear hbb hT5 hx5 hb5;go_wp2_with fail;obtain ⟨w7,hr,hT7,hg,hk⟩:=RTab.update w6 r w.heap.size [1,2,3] 4 (.agg #[jS ⟨#[117,110]⟩,jI 1,.func (.func 47) #[] #[],.func (.func 80) #[] #[PT b2,PT b3]]) hT6 B3 (.takes _ _ _ _ _ _ _ _ B3 B3 B91 hta);simp only[List.cons_append,List.nil_append] at hT7;rw[hr];have hx7:=hk.2 _ _ _ _ hx6;have hb7:=hb6.grown hg hb6.size (fun j e=>by cases e;exact hle);clear hr hg hk hT6 hx6 hb6 hta;go_wp2_with fail;refine (HT.out ⟨#[86,86]⟩ _ [86] _ ((zbo w7 86).mono (Nat.zero_le _))).mono ?_;rintro e w8 ⟨b2,b3,rfl,hta,hb⟩;have hbb:Below w7.heap.size w7 w8:=(below1 w7 (Obj.cells #[.int .u8 86] TS)).trans (hb.mono B7);have hT8:=hT7.below hbb;have hx8:=(CellsKept.below hbb).2 _ _ _ _ hx7;have hb8:=jN hb7 hbb;clear hbb hT7 hx7 hb7;go_wp2_with fail;obtain ⟨w9,hr,hT9,hg,hk⟩:=RTab.update w8 r w.heap.size [1,2,3,4] 5 (.agg #[jS ⟨#[98,105,110]⟩,jI 1,.func (.func 48) #[] #[],.func (.func 80) #[] #[PT b2,PT b3]]) hT8 B3 (.takes _ _ _ _ _ _ _ _ B3 B3 B91 hta);simp only[List.cons_append,List.nil_append] at hT9;rw[hr];have hx9:=hk.2 _ _ _ _ hx8;have hb9:=hb8.grown hg hb8.size (fun j e=>by cases e;exact hle);clear hr hg hk hT8 hx8 hb8 hta;go_wp2_with fail;obtain ⟨w10,hr,hT10,hg,hk⟩:=RTab.update w9 r w.heap.size [1,2,3,4,5] 6 (.agg #[jS ⟨#[99,97,108,108]⟩,jI 2,.func (.func 49) #[] #[],.func (.func 51) #[] #[]]) hT9 B3 (.plain _ _ _ _ _ B3 B3 B3);simp only[List.cons_append,List.nil_append] at hT10;rw[hr];have hx10:=hk.2 _ _ _ _ hx9;have hb10:=hb9.grown hg hb9.size (fun j e=>by cases e;exact hle);clear hr hg hk hT9 hx9 hb9;go_wp2_with fail;refine (HT.out ⟨#[86]⟩ _ [] _ (Rd.nil _ _)).mono ?_;rintro e w11 ⟨b2,b3,rfl,hta,hbb⟩;have hT11:=hT10.below hbb;have hx11:=(CellsKept.below hbb).2 _ _ _ _ hx10;have hb11:=jN hb10 hbb;clear hbb hT10 hx10 hb10;go_wp2_with fail;obtain ⟨w12,hr,hT12,hg,hk⟩:=RTab.update w11 r w.heap.size [1,2,3,4,5,6] 12 (.agg #[jS ⟨#[100,114,111,112]⟩,jI 0,.func (.func 52) #[] #[],.func (.func 80) #[] #[PT b2,PT b3]]) hT11 B3 (.takes _ _ _ _ _ _ _ _ B3 B3 B91 hta);simp only[List.cons_append,List.nil_append] at hT12;rw[hr];have hx12:=hk.2 _ _ _ _ hx11;have hb12:=hb11.grown hg hb11.size (fun j e=>by cases e;exact hle);clear hr hg hk hT11 hx11 hb11 hta;go_wp2_with fail;refine (HT.out ⟨#[]⟩ _ [86] _ ((zbo w12 86).mono (Nat.zero_le _))).mono ?_;rintro e w13 ⟨b2,b3,rfl,hta,hb⟩;have hbb:Below w12.heap.size w12 w13:=(below1 w12 (Obj.cells #[.int .u8 86] TS)).trans (hb.mono B7);have hT13:=hT12.below hbb;have hx13:=(CellsKept.below hbb).2 _ _ _ _ hx12;have hb13:=jN hb12 hbb;clear hbb hT12 hx12 hb12;go_wp2_with fail;obtain ⟨w14,hr,hT14,hg,hk⟩:=RTab.update w13 r w.heap.size [1,2,3,4,5,6,12] 14 (.agg #[jS ⟨#[104,101,114,101]⟩,jI 1,.func (.func 53) #[] #[],.func (.func 80) #[] #[PT b2,PT b3]]) hT13 B3 (.takes _ _ _ _ _ _ _ _ B3 B3 B91 hta);simp only[List.cons_append,List.nil_append] at hT14;rw[hr];have hx14:=hk.2 _ _ _ _ hx13;have hb14:=hb13.grown hg hb13.size (fun j e=>by cases e;exact hle);clear hr hg hk hT13 hx13 hb13 hta;go_wp2_with fail;refine (HT.out ⟨#[65]⟩ _ [86] _ ((zbo w14 86).mono (Nat.zero_le _))).mono ?_;rintro e w15 ⟨b2,b3,rfl,hta,hb⟩;have hbb:Below w14.heap.size w14 w15:=(below1 w14 (Obj.cells #[.int .u8 86] TS)).trans (hb.mono B7);have hT15:=hT14.below hbb;have hx15:=(CellsKept.below hbb).2 _ _ _ _ hx14;have hb15:=jN hb14 hbb;clear hbb hT14 hx14 hb14;go_wp2_with fail;obtain ⟨w16,hr,hT16,hg,hk⟩:=RTab.update w15 r w.heap.size [1,2,3,4,5,6,12,14] 15 (.agg #[jS ⟨#[112,108,97,99,101]⟩,jI 1,.func (.func 54) #[] #[],.func (.func 80) #[] #[PT b2,PT b3]]) hT15 B3 (.takes _ _ _ _ _ _ _ _ B3 B3 B91 hta);simp only[List.cons_append,List.nil_append] at hT16;rw[hr];have hx16:=hk.2 _ _ _ _ hx15;have hb16:=hb15.grown hg hb15.size (fun j e=>by cases e;exact hle);clear hr hg hk hT15 hx15 hb15 hta;go_wp2_with fail;refine (HT.out ⟨#[65]⟩ _ [86] _ ((zbo w16 86).mono (Nat.zero_le _))).mono ?_;rintro e w17 ⟨b2,b3,rfl,hta,hb⟩;have hbb:Below w16.heap.size w16 w17:=(below1 w16 (Obj.cells #[.int .u8 86] TS)).trans (hb.mono B7);have hT17:=hT16.below hbb;have hx17:=(CellsKept.below hbb).2 _ _ _ _ hx16;have hb17:=jN hb16 hbb;clear hbb hT16 hx16 hb16;go_wp2_with fail;obtain ⟨w18,hr,hT18,hg,hk⟩:=RTab.update w17 r w.heap.size [1,2,3,4,5,6,12,14,15] 16 (.agg #[jS ⟨#[111,110,101]⟩,jI 0,.func (.func 52) #[] #[],.func (.func 80) #[] #[PT b2,PT b3]]) hT17 B3 (.takes _ _ _ _ _ _ _ _ B3 B3 B91 hta);simp only[List.cons_append,List.nil_append] at hT18;rw[hr];have hx18:=hk.2 _ _ _ _ hx17;have hb18:=hb17.grown hg hb17.size (fun j e=>by cases e;exact hle);clear hr hg hk hT17 hx17 hb17 hta;go_wp2_with fail;refine (HT.out ⟨#[86]⟩ _ [65] _ ((zbo w18 65).mono (Nat.zero_le _))).mono ?_;rintro e w19 ⟨b2,b3,rfl,hta,hb⟩;have hbb:Below w18.heap.size w18 w19:=(below1 w18 (Obj.cells #[.int .u8 65] TS)).trans (hb.mono B7);have hT19:=hT18.below hbb;have hx19:=(CellsKept.below hbb).2 _ _ _ _ hx18;have hb19:=jN hb18 hbb;clear hbb hT18 hx18 hb18;go_wp2_with fail;obtain ⟨w20,hr,hT20,hg,hk⟩:=RTab.update w19 r w.heap.size [1,2,3,4,5,6,12,14,15,16] 17 (.agg #[jS ⟨#[105,110,100,105,114,101,99,116]⟩,jI 0,.func (.func 52) #[] #[],.func (.func 80) #[] #[PT b2,PT b3]]) hT19 B3 (.takes _ _ _ _ _ _ _ _ B3 B3 B91 hta);simp only[List.cons_append,List.nil_append] at hT20;rw[hr];have hx20:=hk.2 _ _ _ _ hx19;have hb20:=hb19.grown hg hb19.size (fun j e=>by cases e;exact hle);clear hr hg hk hT19 hx19 hb19 hta;go_wp2_with fail;obtain ⟨w21,hr,hT21,hg,hk⟩:=RTab.update w20 r w.heap.size [1,2,3,4,5,6,12,14,15,16,17] 18 (.agg #[jS ⟨#[111,102,102,115,101,116]⟩,jI 1,.func (.func 56) #[] #[],.func (.func 57) #[] #[]]) hT20 B3 (.plain _ _ _ _ _ B3 B3 B3);simp only[List.cons_append,List.nil_append] at hT21;rw[hr];have hx21:=hk.2 _ _ _ _ hx20;have hb21:=hb20.grown hg hb20.size (fun j e=>by cases e;exact hle);clear hr hg hk hT20 hx20 hb20;go_wp2_with fail;obtain ⟨w22,hr,hT22,hg,hk⟩:=RTab.update w21 r w.heap.size [1,2,3,4,5,6,12,14,15,16,17,18] 19 (.agg #[jS ⟨#[105,110,100,101,120]⟩,jI 1,.func (.func 58) #[] #[],.func (.func 57) #[] #[]]) hT21 B3 (.plain _ _ _ _ _ B3 B3 B3);simp only[List.cons_append,List.nil_append] at hT22;rw[hr];have hx22:=hk.2 _ _ _ _ hx21;have hb22:=hb21.grown hg hb21.size (fun j e=>by cases e;exact hle);clear hr hg hk hT21 hx21 hb21;go_wp2_with fail;obtain ⟨w23,hr,hT23,hg,hk⟩:=RTab.update w22 r w.heap.size [1,2,3,4,5,6,12,14,15,16,17,18,19] 20 (.agg #[jS ⟨#[119,97,108,107]⟩,jI 2,.func (.func 59) #[] #[],.func (.func 60) #[] #[]]) hT22 B3 (.plain _ _ _ _ _ B3 B3 B3);simp only[List.cons_append,List.nil_append] at hT23;rw[hr];have hx23:=hk.2 _ _ _ _ hx22;have hb23:=hb22.grown hg hb22.size (fun j e=>by cases e;exact hle);clear hr hg hk hT22 hx22 hb22;go_wp2_with fail;refine (HJ.out r w.heap.size w23 hT23).mono ?_;rintro e w9 ⟨rfl,hT9,hg,hk⟩;have hx9:=hk.2 _ _ _ _ hx23;have hb9:=hb23.grown hg hb23.size (fun j e=>by cases e;exact hle);clear hg hk hT23 hx23 hb23;go_wp2_with fail;go_ret;exact ⟨_,_,rfl,hle,jE,⟨hT9,hx9⟩,hb9⟩
end Mb
end
open Go.RowKit
namespace Ma
def le1(x y:Int):Prop:=x=69\/x=y
def leS:St->St->Prop
 |[],[]=>True
 |a::s,b::t=>le1 a b/\leS s t
 |_,_=>False
def B203(h:jp:=by simpa using hl):=h
theorem zhj:∀s:St,leS s s
 |[]=>trivial
 |a::s=> ⟨.inr rfl,zhj s⟩
theorem zvh{a b c:Int}(h:le1 a b)(k:le1 b c):le1 a c:=by
 rcases h with h|h
 .exact .inl h
 .subst h;exact k
theorem zfe:∀{s t u:St},leS s t->leS t u->leS s u
 |[],[],[],_,_=>trivial
 |a::s,b::t,c::u,h,k=> ⟨zvh h.1 k.1,zfe h.2 k.2⟩
 |[],b::t,_,h,_=>h.elim
 |a::s,[],_,h,_=>h.elim
 |[],[],c::u,_,k=>k.elim
 |a::s,b::t,[],_,k=>k.elim
theorem zpk{a b c:Int}(h:zep a b=some c):le1 a c/\le1 b c:=by
 unfold zep at h;cases ha:a==69
 .rw[ha] at h;cases hb:(b !=69&&b !=a)
  .rw[hb] at h;simp only[cond_false,Option.some.injEq] at h;subst h;refine ⟨.inr rfl,?_⟩;simp only[Bool.and_eq_false_iff,bne_eq_false_iff_eq] at hb;exact hb
  .rw[hb] at h;simp at h
 .rw[ha] at h;simp only[cond_true,Option.some.injEq] at h;subst h;exact ⟨.inl B197,.inr rfl⟩
theorem zpj:∀{s t u:St},s.length=t.length->meetG s t=some u->leS s u/\leS t u
 |[],[],u,_,h=>by simp only[meetG,Option.some.injEq] at h;subst h;exact ⟨trivial,trivial⟩
 |a::s,b::t,u,hl,h=>by
  unfold meetG at h;cases h1:zep a b with
  |none=>rw[h1] at h;simp at h
  |some c=>cases h2:meetG s t with
   |none=>rw[h1,h2] at h;simp at h
   |some v=>
    rw[h1,h2] at h;simp only[Option.some.injEq] at h;subst h;have:=zpj B203 h2;exact ⟨⟨(zpk h1).1,this.1⟩,(zpk h1).2,this.2⟩
 |[],b::t,_,hl,_=>by simp at hl
 |a::s,[],_,hl,_=>by simp at hl
theorem meet_le{s t u:St}(h:meet s t=some u):leS s u/\leS t u:=by
 unfold meet at h;cases hl:s.length==t.length
 .rw[hl] at h;simp at h
 .rw[hl] at h;exact zpj B203 h
def leK(K L:Kn):Prop:=L.length=K.length/\∀i s,K.getD i none=some s->∃t,L.getD i none=some t/\leS s t
theorem leK_refl(K:Kn):leK K K:=⟨rfl,fun i s h=> ⟨s,h,zhj s⟩⟩
theorem zvg{K L M:Kn}(h:leK K L)(k:leK L M):leK K M:=
 ⟨k.1.trans h.1,fun i s hs=>by
  obtain ⟨t,ht,h1⟩:=h.2 i s hs;obtain ⟨u,hu,h2⟩:=k.2 i t ht;exact ⟨u,hu,zfe h1 h2⟩⟩
theorem getD_set(K:Kn)(i j:Nat)(x:Option St):(K.set i x).getD j none=if i=j/\i<K.length then x else K.getD j none:=by
 simp only[List.getD_eq_getElem?_getD,List.getElem?_set]
 by_cases h:i=j
 .subst h
  by_cases h2:i<K.length
  .simp[h2]
  .simp[h2]
 .simp[h]
def short(K:Kn):Prop:=∀i s,K.getD i none=some s->s.length<=1024
def M13(h:jp:=by
 first|(obtain ⟨_,rfl⟩:=zan h)|(obtain ⟨_,rfl⟩:=za1 h)|(obtain rfl:=Option.some.inj h)
 intro e he;simp only[List.mem_cons,List.not_mem_nil,or_false,List.mem_map] at he;subst he;exact .inl rfl):=h
theorem lead_le{K L:Kn}{e:Int×St}(h:lead K e=some L)(hin:e.1.toNat<K.length)(hs:short K):
 leK K L/\short L/\(∃t,L.getD e.1.toNat none=some t/\leS e.2 t)/\∀j,j≠e.1.toNat->L.getD j none=K.getD j none:=by
 unfold lead at h;cases hm:zff (K.getD e.1.toNat none) e.2 with
 |none=>rw[hm] at h;simp at h
 |some s=>
  rw[hm] at h;cases hl:decide (1024<s.length) with
  |true=>simp only[hl,cond_true] at h;cases h
  |false=>
   simp only[hl,cond_false,Option.some.injEq] at h;subst h;have hl':s.length<=1024:=B203;have hes:leS e.2 s/\∀t,K.getD e.1.toNat none=some t->leS t s:=by
    cases hk:K.getD e.1.toNat none with
    |none=>
     rw[hk] at hm;simp only[zff,Option.some.injEq] at hm;subst hm;exact ⟨zhj _,fun t ht=>by cases ht⟩
    |some t=>
     rw[hk] at hm;exact ⟨(meet_le hm).2,fun t' ht=>by cases ht;exact (meet_le hm).1⟩
   refine ⟨⟨by simp,fun i u hu=> ?_⟩,fun i u hu=> ?_,⟨s,by rw[getD_set,if_pos ⟨rfl,hin⟩],hes.1⟩,fun j hj=>by rw[getD_set,if_neg (fun h=>hj h.1.symm)]⟩
   .by_cases hi:e.1.toNat=i
    .subst hi;exact ⟨s,by rw[getD_set,if_pos ⟨rfl,hin⟩],hes.2 u hu⟩
    .exact ⟨u,by rw[getD_set,if_neg (fun h=>hi h.1)];exact hu,zhj u⟩
   .rw[getD_set] at hu;split at hu
    .cases hu;exact hl'
    .exact hs i u hu
theorem zpq:∀{l:List (Int×St)} {K L:Kn},zdd K l=some L->(∀e∈l,e.1.toNat<K.length)->short K->
 leK K L/\short L/\(∀e∈l,∃t,L.getD e.1.toNat none=some t/\leS e.2 t)/\∀j,(∀e∈l,j≠e.1.toNat)->L.getD j none=K.getD j none
 |[],K,L,h,_,hs=>by
  simp only[zdd,Option.some.injEq] at h;subst h;exact ⟨leK_refl K,hs,by simp,fun _ _=>rfl⟩
 |e::r,K,L,h,hin,hs=>by
  unfold zdd at h;cases h1:lead K e with
  |none=>rw[h1] at h;simp at h
  |some K1=>
   rw[h1] at h;obtain ⟨a1,a2,a3,a4⟩:=lead_le h1 (hin e (.head _)) hs;obtain ⟨b1,b2,b3,b4⟩:=zpq h (fun e' he=>by rw[a1.1];exact hin e' (.tail _ he)) a2;refine ⟨zvg a1 b1,b2,fun e' he=> ?_,fun j hj=>(b4 j fun e' he=>hj e' (.tail _ he)).trans (a4 j (hj e (.head _)))⟩;rcases List.mem_cons.1 he with rfl|he
   .obtain ⟨t,ht,hl⟩:=a3;obtain ⟨u,hu,hl2⟩:=b1.2 _ _ ht;exact ⟨u,hu,zfe hl hl2⟩
   .exact b3 e' he
theorem zan{α:Type}{c:Bool}{a b:α}(h:cond c (some a) none=some b):c=true/\b=a:=by
 cases c
 .cases h
 .exact ⟨rfl,(Option.some.inj h).symm⟩
theorem za1{α:Type}{c:Bool}{a b:α}(h:cond c none (some a)=some b):c=false/\b=a:=by
 cases c
 .exact ⟨rfl,(Option.some.inj h).symm⟩
 .cases h
theorem step_exits{con:List Val.V}{x:Ins}{i:Int}{s:St}{l:List (Int×St)}(h:stepS con x i s=some l):∀e∈l,e.1=i+1\/e.1∈jumps x:=by
 unfold stepS zbg at h
 by_cases k1:x.op=1
 .rw[if_pos k1] at h;exact M13
 rw[if_neg k1] at h
 by_cases k2:x.op=2
 .rw[if_pos k2] at h;exact M13
 rw[if_neg k2] at h
 by_cases k3:x.op=3
 .rw[if_pos k3] at h;exact M13
 rw[if_neg k3] at h
 by_cases k4:x.op=4
 .rw[if_pos k4] at h;exact M13
 rw[if_neg k4] at h
 by_cases k5:x.op=5
 .rw[if_pos k5] at h;exact M13
 rw[if_neg k5] at h
 by_cases k6:x.op=6
 .rw[if_pos k6] at h;exact M13
 rw[if_neg k6] at h
 by_cases k7:x.op=7
 .rw[if_pos k7] at h
  first|(obtain ⟨_,rfl⟩:=zan h)|(obtain ⟨_,rfl⟩:=za1 h)|(obtain rfl:=Option.some.inj h)
  intro e he;simp only[List.mem_cons,List.not_mem_nil,or_false,List.mem_map] at he;rcases he with rfl|rfl
  .exact .inl rfl
  .exact .inr (by simp[jumps,k7])
 rw[if_neg k7] at h
 by_cases k8:x.op=8
 .rw[if_pos k8] at h
  first|(obtain ⟨_,rfl⟩:=zan h)|(obtain ⟨_,rfl⟩:=za1 h)|(obtain rfl:=Option.some.inj h)
  intro e he;simp only[List.mem_cons,List.not_mem_nil,or_false,List.mem_map] at he;rcases he with rfl|rfl|rfl
  .exact .inl rfl
  .exact .inr (by simp[jumps,k8])
  .exact .inr (by simp[jumps,k8])
 rw[if_neg k8] at h
 by_cases k9:x.op=9
 .rw[if_pos k9] at h
  first|(obtain ⟨_,rfl⟩:=zan h)|(obtain ⟨_,rfl⟩:=za1 h)|(obtain rfl:=Option.some.inj h)
  intro e he;simp only[List.mem_cons,List.not_mem_nil,or_false,List.mem_map] at he;rcases he with rfl|rfl
  .exact .inl rfl
  .exact .inr (by simp[jumps,k9])
 rw[if_neg k9] at h
 by_cases k10:x.op=10
 .rw[if_pos k10] at h
  first|(obtain ⟨_,rfl⟩:=zan h)|(obtain ⟨_,rfl⟩:=za1 h)|(obtain rfl:=Option.some.inj h)
  intro e he;simp only[List.mem_cons,List.not_mem_nil,or_false,List.mem_map] at he;rcases he with rfl|⟨tg,ht,rfl⟩
  .exact .inr (by simp[jumps,k10])
  .exact .inr (by simp[jumps,k10,ht])
 rw[if_neg k10] at h
 by_cases k11:x.op=11
 .rw[if_pos k11] at h
  first|(obtain ⟨_,rfl⟩:=zan h)|(obtain ⟨_,rfl⟩:=za1 h)|(obtain rfl:=Option.some.inj h)
  intro e he;simp only[List.mem_cons,List.not_mem_nil,or_false,List.mem_map] at he;rcases he with rfl|rfl
  .exact .inl rfl
  .exact .inr (by simp[jumps,k11])
 rw[if_neg k11] at h
 by_cases k12:x.op=12
 .rw[if_pos k12] at h;exact M13
 rw[if_neg k12] at h
 by_cases k13:x.op=13
 .rw[if_pos k13] at h
  first|(obtain ⟨_,rfl⟩:=zan h)|(obtain ⟨_,rfl⟩:=za1 h)|(obtain rfl:=Option.some.inj h)
  intro e he;simp only[List.mem_cons,List.not_mem_nil,or_false,List.mem_map] at he;subst he;exact .inr (by simp[jumps,k13])
 rw[if_neg k13] at h
 by_cases k14:x.op=14
 .rw[if_pos k14] at h;exact M13
 rw[if_neg k14] at h
 by_cases k15:x.op=15
 .rw[if_pos k15] at h;exact M13
 rw[if_neg k15] at h
 by_cases k16:x.op=16
 .rw[if_pos k16] at h;exact M13
 rw[if_neg k16] at h
 by_cases k17:x.op=17
 .rw[if_pos k17] at h;exact M13
 rw[if_neg k17] at h
 by_cases k18:x.op=18\/x.op=19
 .rw[if_pos k18] at h;exact M13
 rw[if_neg k18] at h;obtain ⟨_,rfl⟩:=za1 h;intro e he;simp only[List.mem_cons,List.not_mem_nil,or_false] at he;subst he;exact .inl rfl
theorem zm8{con:List Val.V}{x:Ins}{i n:Nat}{s:St}{l:List (Int×St)}(h:stepS con x i s=some l)(hf:zb2 con.length x i n=true)(hi:i<n):∀e∈l,(i:Int)<e.1/\e.1<=n:=by
 have hj:∀tg∈jumps x,(i:Int)<tg/\tg<=n:=by
  intro tg htg;unfold zb2 at hf;cases hu:zll x
  all_goals rw[hu] at hf
  .simp only[cond_false] at hf;simp only[Bool.and_eq_true,List.all_eq_true] at hf;have:=hf.1 tg htg;simp only[Bool.not_eq_true',Bool.or_eq_false_iff,decide_eq_false_iff_not] at this;omega
  .cases hf
 intro e he;rcases step_exits h e he with h1|h1
 .omega
 .exact hj _ h1
structure Typed(p:Code)(T:Nat->St):Prop where
 start:T 0=[]
 step:∀(i:Nat) (x:Ins),p.ins[i]?=some x->∃l,stepS p.con x i (T i)=some l/\∀e∈l,(i:Int)<e.1/\e.1<=p.ins.length/\leS e.2 (T e.1.toNat)
 fin:∃y,T p.ins.length=[y]/\fits y 86=true
 len:∀i,(T i).length<=1024
 good:∀(i:Nat) (x:Ins),p.ins[i]?=some x->zb2 p.con.length x i p.ins.length=true
 con:∀v∈p.con,Val.mayB v=true
 n0:0<p.ins.length
 n1:p.ins.length<=8192
 c1:p.con.length<=1024
theorem zin{ncon n:Int}:∀{l:List Ins} {i:Int},zbc ncon n l i=true->∀(j:Nat) x,l[j]?=some x->zb2 ncon x (i+j) n=true
 |[],i,_,j,x,h=>by simp at h
 |y::r,i,h,0,x,hx=>by
  simp only[zbc,Bool.and_eq_true] at h;simp only[List.getElem?_cons_zero,Option.some.injEq] at hx;subst hx;simpa using h.1
 |y::r,i,h,j+1,x,hx=>by
  simp only[zbc,Bool.and_eq_true] at h;have:=zin h.2 j x (by simpa using hx);rw[show i+1+(j:Int)=i+((j+1:Nat):Int) by omega] at this;exact this
theorem zwo{p:Code}(hg:∀(i:Nat) (x:Ins),p.ins[i]?=some x->zb2 p.con.length x i p.ins.length=true):∀(k:Nat) (K:Kn),flow p k=some K->k<=p.ins.length->
 K.length=p.ins.length+1/\short K/\K.getD 0 none=some []/\∀i<k,∃s l x,K.getD i none=some s/\p.ins[i]?=some x/\stepS p.con x i s=some l/\∀e∈l,∃t,K.getD e.1.toNat none=some t/\leS e.2 t
 |0,K,h,_=>by
  simp only[flow,Option.some.injEq] at h;subst h;refine ⟨by simp,fun i s hs=> ?_,by simp,fun i hi=>by omega⟩;cases i with
  |zero=>
   simp at hs;subst hs;simp
  |succ i=>
   simp only[List.getD_cons_succ] at hs;rw[List.getD_eq_getElem?_getD,List.getElem?_replicate] at hs;split at hs <;> simp at hs
 |k+1,L,h,hk=>by
  unfold flow at h;cases hK:flow p k with
  |none=>rw[hK] at h;simp at h
  |some K=>
   rw[hK] at h;obtain ⟨a1,a2,a3,a4⟩:=zwo hg k K hK B1;simp only[zoi] at h;cases hs:K.getD k none with
   |none=>rw[hs] at h;simp at h
   |some s=>
    cases hx:p.ins[k]? with
    |none=>rw[hs,hx] at h;simp at h
    |some x=>
     rw[hs,hx] at h;simp only at h;cases hl:stepS p.con x k s with
     |none=>rw[hl] at h;simp at h
     |some l=>
      rw[hl] at h;simp only at h;have hto:=zm8 hl (hg k x hx) B1;obtain ⟨b1,b2,b3,b4⟩:=zpq h (fun e he=>by have:=hto e he;rw[a1];omega) a2;have hsame:∀j,j<=k->L.getD j none=K.getD j none:=fun j hj=>b4 j fun e he=>by have:=hto e he;omega
      refine ⟨b1.1.trans a1,b2,(hsame 0 B1).trans a3,fun i hi=> ?_⟩
      by_cases hik:i<k
      .obtain ⟨s',l',x',c1,c2,c3,c4⟩:=a4 i hik;refine ⟨s',l',x',(hsame i B1).trans c1,c2,c3,fun e he=> ?_⟩;obtain ⟨t,ht,hle⟩:=c4 e he;obtain ⟨u,hu,hle2⟩:=b1.2 _ _ ht;exact ⟨u,hu,zfe hle hle2⟩
      .obtain rfl:i=k:=by omega
       exact ⟨s,l,x,(hsame i B1).trans hs,hx,hl,b3⟩
theorem cond2{c:Bool}{e:Int}(h:cond c 23 e=0):c=false/\e=0:=by
 cases c
 .exact ⟨rfl,h⟩
 .cases h
theorem zdg{p:Code}(h:mayC p=0):∃T,Typed p T:=by
 unfold mayC at h;generalize hc1:(decide (p.ins.length=0)||decide (8192<p.ins.length)||decide (1024<p.con.length)||decide (8192<longT p.ins))=c1 at h;cases c1 with
 |true=>cases h
 |false=>
  simp only[cond_false] at h;obtain ⟨hcon,h⟩:=cond2 h;obtain ⟨hform,h⟩:=cond2 h;simp only[Bool.or_eq_false_iff,decide_eq_false_iff_not] at hc1;simp only[Bool.not_eq_false'] at hform;have hg:∀(i:Nat) (x:Ins),p.ins[i]?=some x->zb2 p.con.length x i p.ins.length=true:=fun i x hx=>by
   have:=zin hform i x hx;simpa using this
  cases hK:flow p p.ins.length with
  |none=>rw[hK] at h;simp at h
  |some K=>
   rw[hK] at h;simp only at h;obtain ⟨a1,a2,a3,a4⟩:=zwo hg _ K hK jE;cases hn:K.getD p.ins.length none with
   |none=>rw[hn] at h;simp at h
   |some s=>
    rw[hn] at h
    match s,hn,h with
    |[],_,h=>simp at h
    |_::_::_,_,h=>simp at h
    |[y],hn,h=>
     have hy:fits y 86=true:=by
      change cond (fits y 86) 0 23=(0:Int) at h;cases hy:fits y 86
      .rw[hy] at h;cases h
      .rfl
     refine ⟨fun i=>(K.getD i none).getD [],by rw[a3];rfl,fun i x hx=> ?_,⟨y,by rw[hn];rfl,hy⟩,fun i=> ?_,hg,fun v hv=> ?_,by omega,by omega,B1⟩
     .obtain ⟨hi,_⟩:=List.getElem?_eq_some_iff.1 hx;obtain ⟨s,l,x',c1,c2,c3,c4⟩:=a4 i hi;rw[hx] at c2;cases c2;refine ⟨l,by rw[c1];exact c3,fun e he=> ?_⟩;have:=zm8 c3 (hg i x hx) hi e he;obtain ⟨t,ht,hle⟩:=c4 e he;exact ⟨this.1,this.2,by rw[ht];exact hle⟩
     .cases hk:K.getD i none with
      |none=>simp
      |some s=>exact a2 i s hk
     .have:=List.any_eq_false.1 hcon v hv;simp only[Bool.or_eq_true,not_or,Bool.not_eq_true',Bool.not_eq_false] at this;simpa using this.1
def Fit(n:Int):Prop:=-9223372036854775808<=n/\n<=9223372036854775807
structure okV(v:Val.V):Prop where
 may:Val.mayB v=true
 fit:Fit v.n
structure okG(x:Arg):Prop where
 area:x.isA=true->(sizeA x.a).2=0
 val:okV x.v
theorem zvv{t:ByteArray}(h:Val.isE t=true):t.size=0:=by
 exact M164
theorem zii:Val.isE ⟨#[]⟩=true:=by
 unfold Val.isE;rw[ByteArray.toList_eq];rfl
theorem fit0:Fit 0:=by unfold Fit;omega
theorem zay{n:Int}(h1:-100000<=n)(h2:n<=10000000):Fit n:=by unfold Fit;omega
theorem zpm{v:Val.V}(h:Val.mayB v=true):v.t.size<=32767:=by
 rcases Val.may_cases h with ⟨_,_,t⟩|⟨_,t⟩|⟨_,_,t⟩|⟨_,_,t⟩|⟨_,_,_,t⟩
 all_goals first|omega|(have:=zvv t;omega)
theorem okV.vb{v:Val.V}(h:okV v):VB v:=⟨h.fit.1,h.fit.2,by have:=zpm h.may;omega⟩
theorem okV.good{v:Val.V}(h:okV v):Val.good v=v:=by unfold Val.good;rw[h.may];rfl
theorem za9{n:Int}(h:Fit n):okV (Cal.num n):=⟨zii,h⟩
theorem zat{e:Int}(h1:1<=e)(h2:e<=6):okV (Cal.bad e):=by
 refine ⟨?_,zay (by show _<=e;omega) (by show e<=_;omega)⟩;show (decide (1<=e)&&decide (e<=6)&&Val.isE ⟨#[]⟩)=true;rw[decide_eq_true h1,decide_eq_true h2,zii];rfl
theorem zd2:okV Cal.zero:=⟨zii,fit0⟩
theorem zc4(b:Bool):okV (Cal.tru b):=by
 cases b
 .exact ⟨zii,fit0⟩
 .exact ⟨zii,zay B3 B3⟩
theorem zur{s:ByteArray}(h:s.size<=32767):okV (Cal.txt s):=by
 refine ⟨?_,fit0⟩;show (true&&decide (s.size<=32767))=true;rw[decide_eq_true h];rfl
section
variable{v:Val.V}(h:okV v)
include v h
theorem okV.err(h4:(v.k==4)=true):1<=v.n/\v.n<=6:=by
 have hk:v.k=4:=B83;rcases Val.may_cases h.may with ⟨k,_⟩|⟨k,_⟩|⟨k,_⟩|⟨k,_⟩|⟨k,a,b,_⟩
 all_goals first|exact ⟨a,b⟩|(rw[hk] at k;omega)
theorem okV.number:Fit (Val.number v).1/\((Val.number v).2=0\/1<=(Val.number v).2/\(Val.number v).2<=6):=by
 unfold Val.number;rw[h.good];unfold Val.numG;cases h3:v.k==3
 .cases h4:v.k==4
  .exact ⟨h.fit,.inl rfl⟩
  .exact ⟨fit0,.inr (h.err h4)⟩
 .cases hr:(Dec.readS v.t.data.toList).2==0
  .exact ⟨fit0,.inr (by show 1<=(4:Int)/\(4:Int)<=6;omega)⟩
  .exact ⟨zt3 _,.inl rfl⟩
theorem okV.truth:(Val.truth v).2=0\/1<=(Val.truth v).2/\(Val.truth v).2<=6:=by
 unfold Val.truth;rw[h.good];unfold Val.zs4;cases h4:v.k==4
 .cases h3:v.k==3
  .exact .inl rfl
  .cases Val.isT v.t
   .cases Val.isF v.t
    .exact .inr (by show 1<=(4:Int)/\(4:Int)<=6;omega)
    .exact .inl rfl
   .exact .inl rfl
 .exact .inr (h.err h4)
theorem okV.asText:(Val.asText v).1.size<=32767/\((Val.asText v).2=0\/1<=(Val.asText v).2/\(Val.asText v).2<=6):=by
 unfold Val.asText;rw[h.good];unfold Val.textG;cases h1:v.k==1
 .cases h2:v.k==2
  .cases h4:v.k==4
   .exact ⟨zpm h.may,.inl rfl⟩
   .exact ⟨by show (⟨#[]⟩:ByteArray).size<=32767;decide,.inr (h.err h4)⟩
  .refine ⟨?_,.inl rfl⟩;show (Val.word v.n).size<=32767;unfold Val.word;cases v.n==1 <;> decide
 .refine ⟨?_,.inl rfl⟩;show (⟨(Lib.itoa v.n).toArray⟩:ByteArray).size<=32767;have:=Dec.itoa_len v.n h.fit.1 h.fit.2;exact M207
end
theorem zba{a:Ar}(h:(sizeA a).2=0):mayA a=true/\places a<=4096/\(sizeA a).1=places a:=by
 unfold sizeA at h ⊢;cases hm:mayA a
 .rw[hm] at h;simp at h
 .cases hp:decide (places a<=4096)
  .rw[hm,hp] at h;simp at h
  .exact ⟨rfl,of_decide_eq_true hp,rfl⟩
theorem zed{a:Ar}(h:mayA a=true):0<=a.t/\a.t<=a.b/\a.b<65536/\0<=a.l/\a.l<=a.r/\a.r<702:=by
 unfold mayA mayS at h;simp only[Bool.and_eq_true,decide_eq_true_eq] at h;omega
theorem mayA_of{a:Ar}(h:0<=a.t/\a.t<=a.b/\a.b<65536/\0<=a.l/\a.l<=a.r/\a.r<702):mayA a=true:=by
 unfold mayA mayS;simp only[Bool.and_eq_true,decide_eq_true_eq];omega
theorem zdl{s:Sp}(h:0<=s.r/\s.r<65536/\0<=s.c/\s.c<702):mayS s=true:=by
 unfold mayS;simp only[Bool.and_eq_true,decide_eq_true_eq];omega
def inA(a:Ar)(s:Sp):Prop:=a.t<=s.r/\s.r<=a.b/\a.l<=s.c/\s.c<=a.r
def B65(h:jp:=by simp only[cond_false];omega):=h
def B146(h:jp:=by cases c <;> assumption):=h
def B183(h:jp:=by simp only;omega):=h
theorem zjn{a:Ar}(h:mayA a=true):0<places a:=by
 have:=zed h;exact Int.mul_pos B1 B1
theorem zh2{a:Ar}{n:Nat}(h:mayA a=true)(hn:(n:Int)<places a):inA a (zb1 a n):=by
 have hb:=zed h;have hw:0<a.r-a.l+1:=B1;have h1:(n:Int)/(a.r-a.l+1)<a.b-a.t+1:=Int.ediv_lt_of_lt_mul hw hn;have h2:0<=(n:Int)/(a.r-a.l+1):=Int.ediv_nonneg B1 B1;have h3:=Int.emod_nonneg (n:Int) (show a.r-a.l+1≠0 by omega);have h4:=Int.emod_lt_of_pos (n:Int) hw;unfold inA zb1;simp only;omega
theorem inA_may{a:Ar}{s:Sp}(h:mayA a=true)(hs:inA a s):mayS s=true:=by
 have:=zed h;obtain ⟨h1,h2,h3,h4⟩:=hs;exact zdl B1
theorem sub_ok{a b:Ar}(ha:(sizeA a).2=0)(h:a.t<=b.t/\b.t<=b.b/\b.b<=a.b/\a.l<=b.l/\b.l<=b.r/\b.r<=a.r):(sizeA b).2=0:=by
 obtain ⟨h1,h2,_⟩:=zba ha;have hb:=zed h1;have hp:places b<=places a:=by
  unfold places;exact Int.mul_le_mul B1 B1 B1 B1
 unfold sizeA;rw[mayA_of (a:=b) B1,decide_eq_true (show places b<=4096 by omega)];rfl
theorem wrap_fit(n:Int):Fit (IntKind.i64.wrap n):=by
 unfold Fit;exact M139
theorem zk3(n:Int):Fit (Ref.fitV n):=by
 unfold Ref.fitV
 by_cases h:PowG.Fits n
 .rw[if_pos h];exact h
 .rw[if_neg h];exact fit0
namespace FZ
structure Shape(x:FZ):Prop where
 area:70<=x.f->x.f<=75->∃it,x.items=[it]/\it.isA=true
 look:x.f=71\/x.f=72->(x.arg 1).isA=true/\1<=x.k/\
  (x.f=71->x.k<=(x.arg 1).a.r-(x.arg 1).a.l+1/\∀it∈x.items,it.a={(x.arg 1).a with r:=(x.arg 1).a.l})/\
  (x.f=72->x.k<=(x.arg 1).a.b-(x.arg 1).a.t+1/\∀it∈x.items,it.a={(x.arg 1).a with b:=(x.arg 1).a.t})
 cond:x.f=73\/x.f=74->x.items=[x.arg 0]/\(x.a.length=3->alike (x.arg 0) (x.arg 2)=true)
 prod:x.f=75->x.items=[x.arg 0]/\alike (x.arg 0) (x.arg 1)=true
structure Body(x:FZ):Prop where
 args:∀a∈x.a,okG a
 items:∀a∈x.items,okG a
 all:Fit x.all
 n:0<=x.n/\x.n<=4096*x.i+x.pos
 p:x.pos<=4096
 sz:x.items.length<=1048576
 k:Fit x.k
 l:∀y∈x.l,Fit y
 b:x.b.length<=32767
 sep:x.sep.length<=32767
 shape:Shape x
structure Inv(x:FZ):Prop where
 fin:x.over=true->x.wants=false/\okV x.fin
 body:x.over=false->Body x
 want:x.over=false->x.wants=true->mayS x.next=true/\(x.pend=none->∃it,x.items[x.i]?=some it/\it.isA=true/\(x.pos:Int)<places it.a/\x.next=zb1 it.a x.pos)
 pend:x.over=false->∀v,x.pend=some v->x.wants=true/\okV v/\(∃it,x.items[x.i]?=some it/\it.isA=true)/\(x.f=71\/x.f=72\/x.f=73\/x.f=75)
 pos:x.over=false->∀it,x.items[x.i]?=some it->(x.pos:Int)<=cond it.isA (places it.a) 0
 i:x.i<=x.items.length
structure Goes(x:FZ):Prop where
 body:Body x
 over:x.over=false
 wants:x.wants=false
 pend:x.pend=none
 pos:∀it,x.items[x.i]?=some it->(x.pos:Int)<=cond it.isA (places it.a) 0
 i:x.i<=x.items.length
def B147(h:jp:=by rw[e1,ho] at e;cases e):=h
def Bp13(h:jp:=by exact ⟨h.body.shape.area,h.body.shape.look,h.body.shape.cond,h.body.shape.prod⟩):=h
def _root_.B103(h:jp:=by simp only[cond_true];omega):=h
theorem Goes.inv{x:FZ}(h:Goes x):Inv x:=
 ⟨fun e=>(by rw[h.over] at e;cases e),fun _=>h.body,fun _ e=>(by rw[h.wants] at e;cases e),fun _ v e=>(by rw[h.pend] at e;cases e),fun _=>h.pos,h.i⟩
theorem zfa{v:Val.V}(h:okV v):okG (vArg v):=⟨nofun,h⟩
theorem zpd{a:Ar}(h:(sizeA a).2=0):okG (aArg a):=⟨fun _=>h,zd2⟩
theorem zc5{x:FZ}(h:∀a∈x.a,okG a)(i:Nat):okG (x.arg i):=by
 unfold arg;rw[List.getD_eq_getElem?_getD];cases hi:x.a[i]? with
 |none=>exact zfa zd2
 |some a=>exact h a (List.mem_of_getElem? hi)
theorem zpv{x:FZ}{v:Val.V}(hi:x.i<=x.items.length)(ho:x.over=false)(hv:okV v):Inv (x.ends v):=by
 unfold ends;rw[ho];exact ⟨fun _=> ⟨rfl,hv⟩,nofun,nofun,nofun,nofun,hi⟩
theorem zpt{x y:FZ}(h:Inv x)(ho:x.over=true)(e1:y.over=x.over)(e2:y.wants=x.wants)(e3:y.fin=x.fin)(e4:y.i<=y.items.length):Inv y:=by
 obtain ⟨a,b⟩:=h.fin ho;exact ⟨fun _=> ⟨e2.trans a,by rw[e3];exact b⟩,fun e=>B147,fun e=>B147,fun e=>B147,fun e=>B147,e4⟩
theorem zax{x:FZ}{v:Val.V}:(x.ends v).over=true:=by
 unfold ends;cases h:x.over
 .rfl
 .exact h
theorem i64_eq{n:Int}(h:Fit n):i64 n=n:=by
 obtain ⟨h1,h2⟩:=h;unfold i64;exact M139
section
variable{x:FZ}(h:Goes x)
include x h
theorem Goes.n1(hn:x.n+1<=4096*x.i+x.pos):i64 (x.n+1)=x.n+1:=by
 have h1:=h.body.n;have h2:=h.body.p;have h3:=h.body.sz;have h4:=h.i;exact i64_eq ⟨by omega,B1⟩
theorem zma(hn:x.n+1<=4096*x.i+x.pos):Goes {x with n:=i64 (x.n+1)}:=by
 rw[h.n1 hn];have h1:=h.body.n;exact ⟨⟨h.body.args,h.body.items,h.body.all,⟨by show 0<=x.n+1;omega,hn⟩,h.body.p,h.body.sz,h.body.k,h.body.l,h.body.b,h.body.sep,Bp13⟩,h.over,h.wants,h.pend,h.pos,h.i⟩
theorem zp0(o:Bool):Goes {x with odd:=o}:=
 ⟨⟨h.body.args,h.body.items,h.body.all,h.body.n,h.body.p,h.body.sz,h.body.k,h.body.l,h.body.b,h.body.sep,Bp13⟩,h.over,h.wants,h.pend,h.pos,h.i⟩
theorem zp1{n:Int}(hn:Fit n):Goes {x with all:=n}:=
 ⟨⟨h.body.args,h.body.items,hn,h.body.n,h.body.p,h.body.sz,h.body.k,h.body.l,h.body.b,h.body.sep,Bp13⟩,h.over,h.wants,h.pend,h.pos,h.i⟩
theorem goes_l{n:Int}(hn:Fit n):Goes {x with l:=x.l++ [n]}:=
 ⟨⟨h.body.args,h.body.items,h.body.all,h.body.n,h.body.p,h.body.sz,h.body.k,fun y hy=>(by
  rcases List.mem_append.1 hy with hy|hy
  .exact h.body.l y hy
  .rw[List.mem_singleton.1 hy];exact hn),h.body.b,h.body.sep,Bp13⟩,h.over,h.wants,h.pend,h.pos,h.i⟩
theorem goes_b{b:List UInt8}(hb:b.length<=32767):Goes {x with b:=b}:=
 ⟨⟨h.body.args,h.body.items,h.body.all,h.body.n,h.body.p,h.body.sz,h.body.k,h.body.l,hb,h.body.sep,Bp13⟩,h.over,h.wants,h.pend,h.pos,h.i⟩
theorem Goes.ends{v:Val.V}(hv:okV v):Inv (x.ends v):=zpv h.i h.over hv
theorem Goes.fails{e:Int}(h1:1<=e)(h2:e<=6):Inv (x.fails e):=h.ends (zat h1 h2)
theorem Goes.sum(n:Int):Inv (x.sum n):=by
 unfold FZ.sum;cases Ref.fitB (x.all+n)
 .exact zpt (h.fails (e:=2) B3 B3) zax rfl rfl rfl (h.fails (e:=2) B3 B3).i
 .exact (zp1 h (zk3 _)).inv
theorem Goes.prod(n:Int):Inv (x.prod n):=by
 unfold FZ.prod;cases Ref.fitB (x.all*n)
 .exact zpt (h.fails (e:=2) B3 B3) zax rfl rfl rfl (h.fails (e:=2) B3 B3).i
 .exact (zp1 h (zk3 _)).inv
section
variable(hN:x.n+1<=4096*x.i+x.pos)
include hN
theorem Goes.add{n:Int}(hn:Fit n):Inv (x.add n):=by
 unfold FZ.add;split
 .exact (zma h hN).sum n
 .split
  .exact h.prod n
  .exact (goes_l h hn).inv
theorem Goes.gather{v:Val.V}(hv:okV v)(cell:Bool):Inv (x.gather v cell):=by
 unfold FZ.gather;have hn:=hv.number;cases cell
 .cases h2:(Val.number v).2==0
  .have:(Val.number v).2≠0:=by simpa using h2
   exact h.fails B1 B1
  .exact h.add hN hn.1
 .cases v.k==4
  .cases v.k==1
   .exact h.inv
   .exact h.add hN hv.fit
  .exact h.ends hv
theorem Goes.count(v:Val.V)(cell:Bool):Inv (x.count v cell):=by
 unfold FZ.count;generalize (cond (x.f==57) (v.k !=0)<|cond (x.f==58) (v.k==0)<|cond cell (v.k==1) ((Val.number v).2==0))=c;cases c
 .exact h.inv
 .exact (zma h hN).inv
theorem Goes.truths1(is:Bool):Inv (x.truths1 is):=by
 unfold FZ.truths1;have h1:=zp0 (zma h hN) (x.odd !=is);simp only;generalize (x.f==65&& !is||x.f==66&&is)=c;cases c
 .exact h1.inv
 .exact h1.ends (zc4 is)
theorem Goes.truths{v:Val.V}(hv:okV v)(cell:Bool):Inv (x.truths v cell):=by
 unfold FZ.truths;have hn:=hv.truth;cases cell
 .cases h2:(Val.truth v).2==0
  .have:(Val.truth v).2≠0:=by simpa using h2
   exact h.fails B1 B1
  .exact h.truths1 hN _
 .cases v.k==4
  .generalize (v.k !=2&&v.k !=1)=c;cases c
   .exact h.truths1 hN _
   .exact h.inv
  .exact h.ends hv
end
theorem Goes.texts{v:Val.V}(hv:okV v)(cell:Bool):Inv (x.texts v cell):=by
 unfold FZ.texts;have hn:=hv.asText;generalize (x.f==69&&cell&&v.k==0)=c;cases c
 .cases h2:(Val.asText v).2==0
  .have:(Val.asText v).2≠0:=by simpa using h2
   exact h.fails B1 B1
  .simp only[cond_true,cond_false];generalize x.b++(cond x.odd x.sep [])++(Val.asText v).1.data.toList=b;cases hb:decide (32767<b.length)
   .exact (goes_b (zp0 h true) (b:=b) (by have:=of_decide_eq_false hb;omega)).inv
   .have:(x.i<=x.items.length):=h.i;exact zpv (x:={x with odd:=true,b:=b}) this h.over (zat B3 B3)
 .exact h.inv
theorem Goes.want{s:Sp}{v:Val.V}(hs:mayS s=true)(hv:okV v)(hf:x.f=71\/x.f=72\/x.f=73\/x.f=75)(hit:∃it,x.items[x.i]?=some it/\it.isA=true):Inv (x.want s v):=
 ⟨fun e=>(by rw[show (x.want s v).over=x.over from rfl,h.over] at e;cases e),
  fun _=> ⟨h.body.args,h.body.items,h.body.all,h.body.n,h.body.p,h.body.sz,h.body.k,h.body.l,h.body.b,h.body.sep,Bp13⟩,
  fun _ _=> ⟨hs,nofun⟩,fun _ u e=>(by cases e;exact ⟨rfl,hv,hit,hf⟩),fun _=>h.pos,h.i⟩
theorem Goes.addIf{w:Val.V}(hw:okV w):Inv (x.addIf w):=by
 unfold FZ.addIf;cases w.k==4
 .cases w.k==1
  .exact h.inv
  .exact h.sum _
 .exact h.ends hw
end
theorem alike_ok{x y:Arg}(h:alike x y=true):x.isA=true/\y.isA=true/\x.a.b-x.a.t=y.a.b-y.a.t/\x.a.r-x.a.l=y.a.r-y.a.l:=by
 unfold alike at h;simp only[Bool.and_eq_true,beq_iff_eq] at h;exact ⟨h.1.1.1,h.1.1.2,h.1.2,h.2⟩
theorem zly{a b:Ar}{s:Sp}(ha:inA a s)(hb:(sizeA b).2=0)(h1:a.b-a.t=b.b-b.t)(h2:a.r-a.l=b.r-b.l):mayS ⟨b.t+s.r-a.t,b.l+s.c-a.l⟩=true:=by
 have:=zed (zba hb).1;obtain ⟨i1,i2,i3,i4⟩:=ha;exact zdl B183
section
variable{x:FZ}(h:Goes x)
include x h
theorem Goes.ifs(hN:x.n+1<=4096*x.i+x.pos){v:Val.V}(hv:okV v)(hf:x.f=73\/x.f=74)(hh:inA (x.arg 0).a x.here)(hit:∃it,x.items[x.i]?=some it/\it.isA=true):Inv (x.ifs v):=by
 unfold FZ.ifs;have h1:=zma h hN;cases equal (x.arg 1).v v
 .exact h.inv
 .cases h74:x.f==74
  .have h73:x.f=73:=by have:x.f≠74:=(by simpa using h74);omega
   cases h3:x.a.length==3
   .exact h1.addIf hv
   .have hal:=alike_ok ((h.body.shape.cond hf).2 B72);exact h1.want (zly hh ((zc5 h.body.args 2).area hal.2.1) hal.2.2.1 hal.2.2.2) hv (.inr (.inr (.inl h73))) hit
  .exact h1.inv
theorem Goes.lookup{v:Val.V}(hv:okV v)(hf:x.f=71\/x.f=72)(hh:∃it∈x.items,it.isA=true/\inA it.a x.here)(hit:∃it,x.items[x.i]?=some it/\it.isA=true):Inv (x.lookup v):=by
 unfold FZ.lookup;obtain ⟨it,hi,hia,hin⟩:=hh;obtain ⟨l1,l2,l3,l4⟩:=h.body.shape.look hf;have hsz:=(zc5 h.body.args 1).area l1;have hb:=zed (zba hsz).1;cases equal (x.arg 0).v v
 .exact h.inv
 .refine h.want ?_ hv B1 hit;obtain ⟨i1,i2,i3,i4⟩:=hin;cases h72:x.f==72
  .have h71:x.f=71:=by have:x.f≠72:=(by simpa using h72);omega
   obtain ⟨k1,k2⟩:=l3 h71;rw[k2 it hi] at i1 i2 i3 i4;simp only at i1 i2 i3 i4;exact zdl B65
  .have h72':x.f=72:=by simpa using h72
   obtain ⟨k1,k2⟩:=l4 h72';rw[k2 it hi] at i1 i2 i3 i4;simp only at i1 i2 i3 i4;exact zdl B103
theorem Goes.product{v:Val.V}(hv:okV v)(hf:x.f=75)(hh:inA (x.arg 0).a x.here)(hit:∃it,x.items[x.i]?=some it/\it.isA=true):Inv (x.product v):=by
 unfold FZ.product;cases v.k==4
 .have hal:=alike_ok (h.body.shape.prod hf).2;exact h.want (zly hh ((zc5 h.body.args 1).area hal.2.1) hal.2.2.1 hal.2.2.2) hv (.inr (.inr (.inr hf))) hit
 .exact h.ends hv
theorem Goes.take(hN:x.n+1<=4096*x.i+x.pos){v:Val.V}(hv:okV v)(cell:Bool)(hc:70<=x.f->x.f<=75->∃it,x.items[x.i]?=some it/\it.isA=true/\inA it.a x.here):Inv (x.take v cell):=by
 unfold FZ.take;split
 .exact h.gather hN hv cell
 .split
  .exact h.count hN v cell
  .split
   .exact h.truths hN hv cell
   .split
    .exact h.texts hv cell
    .split
     .have h1:=zma h hN;simp only;cases equal (x.arg 0).v v
      .exact h1.inv
      .exact h1.ends (za9 (wrap_fit (x.n+1)))
     .split
      .rename_i hf
       obtain ⟨it,hi,hia,hin⟩:=hc B1 B1;exact h.lookup hv hf ⟨it,List.mem_of_getElem? hi,hia,hin⟩ ⟨it,hi,hia⟩
      .split
       .rename_i hf
        obtain ⟨it,hi,hia,hin⟩:=hc B1 B1;have hm:=List.mem_of_getElem? hi;rw[(h.body.shape.cond hf).1,List.mem_singleton] at hm;exact h.ifs hN hv hf (by rw[<-hm];exact hin) ⟨it,hi,hia⟩
       .split
        .rename_i hf
         obtain ⟨it,hi,hia,hin⟩:=hc B1 B1;have hm:=List.mem_of_getElem? hi;rw[(h.body.shape.prod hf).1,List.mem_singleton] at hm;exact h.product hv hf (by rw[<-hm];exact hin) ⟨it,hi,hia⟩
        .cases v.k !=0
         .exact h.inv
         .exact h.ends hv
theorem Goes.after{v w:Val.V}(hw:okV w):Inv (x.after v w):=by
 unfold FZ.after;split
 .exact h.ends hw
 .split
  .exact h.addIf hw
  .cases w.k==4
   .generalize (v.k !=1||w.k !=1)=c;cases c
    .cases Ref.fitB (v.n*w.n)
     .exact h.fails B3 B3
     .exact h.sum _
    .exact h.inv
   .exact h.ends hw
end
end FZ
namespace FZ
structure Same(x y:FZ):Prop where
 f:y.f=x.f
 a:y.a=x.a
 items:y.items=x.items
 i:y.i=x.i
 pos:y.pos=x.pos
 here:y.here=x.here
def Bp56(h:jp:=by exact zjv x _):=h
theorem Same.refl(x:FZ):Same x x:=⟨rfl,rfl,rfl,rfl,rfl,rfl⟩
theorem Same.trans{x y z:FZ}(h:Same x y)(k:Same y z):Same x z:=⟨k.f.trans h.f,k.a.trans h.a,k.items.trans h.items,k.i.trans h.i,k.pos.trans h.pos,k.here.trans h.here⟩
theorem zaj{x y z:FZ}{c:Bool}(h:Same x y)(k:Same x z):Same x (cond c y z):=B146
theorem ends_same(x:FZ)(v:Val.V):Same x (x.ends v):=zaj (Same.refl x) ⟨rfl,rfl,rfl,rfl,rfl,rfl⟩
theorem zjv(x:FZ)(e:Int):Same x (x.fails e):=ends_same x _
theorem ztw{x y:FZ}(h:Same x y)(n:Int):Same x {y with all:=n}:=⟨h.f,h.a,h.items,h.i,h.pos,h.here⟩
section
variable(x:FZ)
include x
theorem zka(n:Int):Same x (x.sum n):=ztw (zaj (Same.refl x) Bp56) _
theorem zt9(n:Int):Same x (x.prod n):=ztw (zaj (Same.refl x) Bp56) _
theorem zqj(n:Int):Same x (x.add n):=by
 unfold FZ.add;split
 .exact Same.trans (y:={x with n:=i64 (x.n+1)}) ⟨rfl,rfl,rfl,rfl,rfl,rfl⟩ (zka _ _)
 .split
  .exact zt9 x n
  .exact ⟨rfl,rfl,rfl,rfl,rfl,rfl⟩
theorem zn7(v:Val.V)(cell:Bool):Same x (x.gather v cell):=
 zaj (zaj (ends_same x v) (zaj (zqj x _) (Same.refl x))) (zaj (zqj x _) Bp56)
theorem zgh(b:Bool):Same x (x.truths1 b):=
 zaj (Same.trans (y:={x with n:=i64 (x.n+1),odd:=x.odd !=b}) ⟨rfl,rfl,rfl,rfl,rfl,rfl⟩ (ends_same _ _)) ⟨rfl,rfl,rfl,rfl,rfl,rfl⟩
theorem zqs(v:Val.V)(cell:Bool):Same x (x.texts v cell):=by
 unfold FZ.texts;simp only;generalize x.b++(cond x.odd x.sep [])++(Val.asText v).1.data.toList=b;exact zaj (Same.refl x) (zaj (zaj (Same.trans (y:={x with odd:=true,b:=b}) ⟨rfl,rfl,rfl,rfl,rfl,rfl⟩ (zjv _ _)) ⟨rfl,rfl,rfl,rfl,rfl,rfl⟩) Bp56)
theorem zjz(w:Val.V):Same x (x.addIf w):=zaj (ends_same x w) (zaj (zka x _) (Same.refl x))
theorem zht(s:Sp)(v:Val.V):Same x (x.want s v):=⟨rfl,rfl,rfl,rfl,rfl,rfl⟩
theorem zq3(n:Int):Same x {x with n:=n}:=⟨rfl,rfl,rfl,rfl,rfl,rfl⟩
theorem zh0(v:Val.V)(cell:Bool):Same x (x.take v cell):=by
 unfold FZ.take;split
 .exact zn7 x v cell
 .split
  .exact zaj (zq3 x _) (Same.refl x)
  .split
   .exact zaj (zaj (ends_same x v) (zaj (Same.refl x) (zgh x _))) (zaj (zgh x _) Bp56)
   .split
    .exact zqs x v cell
    .split
     .exact zaj ((zq3 x _).trans (ends_same _ _)) (zq3 x _)
     .split
      .exact zaj (zht x _ _) (Same.refl x)
      .split
       .exact zaj (zaj (zq3 x _) (zaj ((zq3 x _).trans (zht _ _ _)) ((zq3 x _).trans (zjz _ _)))) (Same.refl x)
       .split
        .exact zaj (ends_same x v) (zht x _ _)
        .exact zaj (ends_same x v) (Same.refl x)
theorem zsp(v w:Val.V):Same x (x.after v w):=by
 unfold FZ.after;split
 .exact ends_same x w
 .split
  .exact zjz x w
  .exact zaj (ends_same x w) (zaj (Same.refl x) (zaj (zka x _) Bp56))
end
def zfq(sort:List Int->List Int):Prop:=∀l,(∀y∈l,Fit y)->∀y∈sort l,Fit y
def M161(h:jp:=by
 obtain ⟨it',hi',ha'⟩:=hg.body.shape.area h70 h75;have:=List.mem_of_getElem? hit;rw[hi',List.mem_singleton] at this;rw[this,ha'] at ha;cases ha):=h
def Bp41(h:jp:=by exact ⟨hB.shape.area,hB.shape.look,hB.shape.cond,hB.shape.prod⟩):=h
def M181(h:jp:=by
 have hit':x.items[x.i]?=some it':=hit';rw[hit] at hit';cases hit';rw[hia];show ((x.pos+1:Nat):Int)<=places it.a;omega):=h
theorem zd5{l:List Int}(h:∀y∈l,Fit y)(i:Nat):Fit (l.getD i 0):=by
 rw[List.getD_eq_getElem?_getD];cases hi:l[i]? with
 |none=>exact fit0
 |some a=>exact h a (List.mem_of_getElem? hi)
theorem zln(a:Int):2*a.tdiv 2+a.tmod 2=a/\(0<=a->0<=a.tmod 2)/\(a<=0->a.tmod 2<=0)/\a.tmod 2<2/\-2<a.tmod 2:=by
 refine ⟨Int.mul_tdiv_add_tmod a 2,fun h=>Int.tmod_nonneg 2 h,fun h=> ?_,Int.tmod_lt_of_pos a B3,?_⟩
 .have:=Int.tmod_nonneg 2 (show 0<=-a by omega);rw[Int.neg_tmod] at this;omega
 .have:=Int.tmod_lt_of_pos (-a) (show (0:Int)<2 by decide);rw[Int.neg_tmod] at this;omega
theorem sized_ok{f k:Int}{l:List Int}(h:∀y∈l,Fit y):okV (zbh f k l):=by
 unfold zbh;simp only;generalize ((f==59||f==60)&&(l.length:Int)==0)=c1;cases c1
 .generalize (f !=59&&f !=60&&((l.length:Int)==0||decide (k<1)||decide ((l.length:Int)<k)))=c2;cases c2
  .cases (f==59||f==64)
   .cases (f==60||f==63)
    .cases l.length%2==1
     .have ha:=zd5 h (l.length/2-1);have hb:=zd5 h (l.length/2);generalize l.getD (l.length/2-1) 0=a at *;generalize l.getD (l.length/2) 0=b at *;obtain ⟨a1,a2⟩:=ha;obtain ⟨b1,b2⟩:=hb;obtain ⟨p1,p2,p3,p4,p5⟩:=zln a;obtain ⟨q1,q2,q3,q4,q5⟩:=zln b;cases hc:(decide (a<0) !=decide (b<0))
      .refine za9 ?_;obtain ⟨r1,r2,r3,r4,r5⟩:=zln (a.tmod 2+b.tmod 2);constructor <;> omega
      .refine za9 ?_;obtain ⟨r1,r2,r3,r4,r5⟩:=zln (a+b);have:(a<0/\¬b<0)\/(¬a<0/\b<0):=by
        by_cases x:a<0 <;> by_cases y:b<0 <;> simp[x,y] at hc ⊢
       constructor <;> omega
     .exact za9 (zd5 h _)
    .exact za9 (zd5 h _)
   .exact za9 (zd5 h _)
  .exact zat B3 B3
 .exact za9 fit0
theorem zo1{a n:Int}(h:Fit a)(hn:0<=n):Fit (a.tdiv n):=by
 have h1:=Int.natAbs_tdiv_le_natAbs a n;obtain ⟨h2,h3⟩:=h;unfold Fit
 by_cases ha:0<=a
 .have:=Int.tdiv_nonneg ha hn;omega
 .have:(-a).tdiv n=-(a.tdiv n):=Int.neg_tdiv ..;have h4:=Int.tdiv_nonneg (show 0<=-a by omega) hn;omega
theorem Body.finish{x:FZ}(h:Body x)(hi:x.i<=x.items.length){sort:List Int->List Int}(hs:zfq sort):okV (x.finish sort):=by
 have h1:=h.n;have h2:=h.p;have h3:=h.sz;have hn:Fit x.n:=⟨by omega,B1⟩;unfold FZ.finish;split
 .exact za9 h.all
 .split
  .cases x.n==0
   .exact za9 (zo1 h.all h1.1)
   .exact zat B3 B3
  .split
   .exact za9 hn
   .split
    .exact sized_ok (hs _ h.l)
    .split
     .cases x.n==0
      .cases x.f==67
       .exact zc4 _
       .exact zc4 _
      .exact zat B3 B3
     .split
      .refine zur ?_;have e:(⟨x.b.toArray⟩:ByteArray).size=x.b.length:=rfl;rw[e];exact h.b
      .exact zat B3 B3
theorem zij{x:FZ}(h:Goes x)(hi:x.i<x.items.length)(k:Nat)(hk:k=0\/k=x.pos/\x.pos=0):Goes {x with i:=x.i+1,pos:=k}:=by
 have hk:k=0:=B1;subst hk;have h1:=h.body.n;have h2:=h.body.p;refine ⟨⟨h.body.args,h.body.items,h.body.all,⟨h1.1,?_⟩,by show 0<=4096;omega,h.body.sz,h.body.k,h.body.l,h.body.b,h.body.sep,Bp13⟩,h.over,h.wants,h.pend,fun it hit=> ?_,hi⟩
 .show x.n<=4096*((x.i+1:Nat):Int)+((0:Nat):Int);omega
 .cases ha:it.isA
  .exact Int.le_refl 0
  .have:=zjn (zba ((h.body.items it (List.mem_of_getElem? hit)).area ha)).1;show ((0:Nat):Int)<=places it.a;omega
theorem Inv.goes{x:FZ}(h:Inv x)(hs:x.stop=false)(hp:x.pend=none):Goes x:=by
 unfold FZ.stop at hs;rw[Bool.or_eq_false_iff] at hs;exact ⟨h.body hs.1,hs.1,hs.2,hp,h.pos hs.1,h.i⟩
theorem Inv.pend0{x:FZ}(h:Inv x)(hs:x.stop=false):x.pend=none:=by
 unfold FZ.stop at hs;rw[Bool.or_eq_false_iff] at hs;cases hp:x.pend with
 |none=>rfl
 |some v=>have:=(h.pend hs.1 v hp).1;rw[hs.2] at this;cases this
theorem zhq{sort:List Int->List Int}(hS:zfq sort){x:FZ}(h:Inv x):Inv (adv1 sort x):=by
 unfold FZ.adv1;cases hs:x.stop
 .have hg:=h.goes hs (h.pend0 hs);simp only[cond_false];split
  .exact hg.ends (hg.body.finish hg.i hS)
  .rename_i it hit
   have hlt:x.i<x.items.length:=(jl hit);have hpos:=hg.pos it hit;cases ha:it.isA
   .rw[ha] at hpos;have hp0:x.pos=0:=by simp only[cond_false] at hpos;omega
    have hg2:Goes {x with i:=x.i+1}:=by
     have:=zij hg hlt x.pos (.inr ⟨rfl,hp0⟩);exact this
    have h1:=hg.body.n;refine hg2.take ?_ (hg.body.items it (List.mem_of_getElem? hit)).val false fun h70 h75=> ?_
    .show x.n+1<=4096*((x.i+1:Nat):Int)+(x.pos:Int);omega
    .exact M161
   .rw[ha] at hpos;have hsz:=zba ((hg.body.items it (List.mem_of_getElem? hit)).area ha);simp only[cond_true];rw[hsz.2.2];cases hq:places it.a==(x.pos:Int)
    .have hne:places it.a≠(x.pos:Int):=by simpa using hq
     have hlt2:(x.pos:Int)<places it.a:=by simp only[cond_true] at hpos;omega
     simp only[cond_false];refine ⟨fun e=> ?_,fun _=> ⟨hg.body.args,hg.body.items,hg.body.all,hg.body.n,hg.body.p,hg.body.sz,hg.body.k,hg.body.l,hg.body.b,hg.body.sep,⟨hg.body.shape.area,hg.body.shape.look,hg.body.shape.cond,hg.body.shape.prod⟩⟩,
      fun _ _=> ⟨inA_may hsz.1 (zh2 hsz.1 hlt2),fun _=> ⟨it,hit,ha,hlt2,rfl⟩⟩,fun _ v e=> ?_,fun _=>hg.pos,hg.i⟩
     .rw[show ({x with next:=zb1 it.a x.pos,wants:=true}:FZ).over=x.over from rfl,hg.over] at e;cases e
     .rw[show ({x with next:=zb1 it.a x.pos,wants:=true}:FZ).pend=x.pend from rfl,hg.pend] at e;cases e
    .simp only[cond_true];exact (zij hg hlt 0 (.inl rfl)).inv
 .exact h
theorem zsq{sort:List Int->List Int}{x:FZ}:(adv1 sort x).items=x.items/\((adv1 sort x).stop=false->x.i+1<=(adv1 sort x).i):=by
 unfold FZ.adv1;cases hs:x.stop
 .simp only[cond_false];split
  .refine ⟨(ends_same x _).items,fun e=> ?_⟩;unfold FZ.stop at e;rw[zax] at e;cases e
  .rename_i it hit
   cases ha:it.isA
   .have:=zh0 {x with i:=x.i+1} it.v false;refine ⟨this.items,fun _=> ?_⟩;show x.i+1<=(FZ.take {x with i:=x.i+1} it.v false).i;rw[this.i];exact jE
   .simp only[cond_true];cases (sizeA it.a).1==(x.pos:Int)
    .refine ⟨rfl,fun e=> ?_⟩;unfold FZ.stop at e;rw[Bool.or_eq_false_iff] at e;cases e.2
    .exact ⟨rfl,fun _=>jE⟩
 .exact ⟨rfl,fun e=>by simp only[cond_true] at e;rw[hs] at e;cases e⟩
theorem zqh{sort:List Int->List Int}(hS:zfq sort):∀(k:Nat) {x:FZ},Inv x->Inv (advN sort k x)
 |0,_,h=>h
 |k+1,_,h=>zqh hS k (zhq hS h)
theorem zix{sort:List Int->List Int}:∀(k:Nat) {x:FZ},x.stop=true->advN sort k x=x
 |0,_,_=>rfl
 |k+1,x,h=>by
  have:adv1 sort x=x:=by unfold FZ.adv1;rw[h];rfl
  unfold advN;rw[this];exact zix k h
theorem zjy{sort:List Int->List Int}(hS:zfq sort):∀(k:Nat) {x:FZ},Inv x->x.items.length<k+x.i->(advN sort k x).stop=true
 |0,x,h,hk=>by have:=h.i;omega
 |k+1,x,h,hk=>by
  unfold advN;have hi:=zhq hS h;cases hs:(adv1 sort x).stop
  .have:=zsq (sort:=sort) (x:=x);exact zjy hS k hi (by rw[this.1];have:=this.2 hs;omega)
  .rw[zix k hs];exact hs
section
variable{sort:List Int->List Int}
include sort
theorem ziv(hS:zfq sort){x:FZ}(h:Inv x):Inv (advance sort x)/\(advance sort x).stop=true:=
 ⟨zqh hS _ h,zjy hS _ h B1⟩
theorem zmv:∀(k:Nat) {x y:FZ},advN sort k x=y->y.stop=true->k<=x.items.length+1->advance sort x=y:=by
 intro k x y h hy hk;unfold FZ.advance;have:∀(a b:Nat) (x:FZ),advN sort (a+b) x=advN sort b (advN sort a x):=by
  intro a
  induction a with
  |zero=>intro b x;rw[Nat.zero_add];rfl
  |succ a ih=>intro b x;rw[show a+1+b=(a+b)+1 by omega];exact ih b _
 rw[show x.items.length+1=k+(x.items.length+1-k) by omega,this,h];exact zix _ hy
theorem zp2(hS:zfq sort){x:FZ}(h:Inv x)(ho:x.over=false)(hw:x.wants=true){w:Val.V}(hv:okV w):
 Inv (give sort x w)/\(give sort x w).stop=true:=by
 unfold FZ.give;refine ziv hS ?_;have hB:=h.body ho;cases hp:x.pend with
 |some v=>
  exact Goes.after (x:={x with wants:=false,pend:=none}) ⟨⟨hB.args,hB.items,hB.all,hB.n,hB.p,hB.sz,hB.k,hB.l,hB.b,hB.sep,Bp41⟩,ho,rfl,rfl,h.pos ho,h.i⟩ hv
 |none=>
  obtain ⟨_,hw2⟩:=h.want ho hw;obtain ⟨it,hit,hia,hlt,hnx⟩:=hw2 hp;have hsz:=zba ((hB.items it (List.mem_of_getElem? hit)).area hia);have hn:=hB.n;refine Goes.take (x:={x with wants:=false,here:=x.next,pos:=x.pos+1,pend:=none}) ⟨⟨hB.args,hB.items,hB.all,⟨hn.1,?_⟩,?_,hB.sz,hB.k,hB.l,hB.b,hB.sep,Bp41⟩,ho,rfl,rfl,fun it' hit'=> ?_,h.i⟩ ?_ hv true fun _ _=> ⟨it,hit,hia,?_⟩
  .show x.n<=4096*(x.i:Int)+((x.pos+1:Nat):Int);omega
  .show x.pos+1<=4096;have:=hsz.2.1;omega
  .exact M181
  .show x.n+1<=4096*(x.i:Int)+((x.pos+1:Nat):Int);omega
  .show inA it.a x.next;rw[hnx];exact zh2 hsz.1 hlt
end
theorem zxp:∀k:Fin 77,(infoV (k.val:Int)).2=0->(infoV (k.val:Int)).1.2.1=6->54<=k.val/\1<=(infoV (k.val:Int)).1.2.2.1/\(k.val=63\/k.val=64\/69<=k.val/\k.val<=75->2<=(infoV (k.val:Int)).1.2.2.1)/\(k.val=71\/k.val=72->3<=(infoV (k.val:Int)).1.2.2.1)/\(70<=k.val/\k.val<=75->0<=(infoV (k.val:Int)).1.2.2.2/\(infoV (k.val:Int)).1.2.2.2<=3)/\(k.val=63\/k.val=64\/k.val=70\/k.val=74\/k.val=75->(infoV (k.val:Int)).1.2.2.2=2)/\(k.val=71\/k.val=72->(infoV (k.val:Int)).1.2.2.2=3):=B49
structure Called(f:Int)(a:List Arg):Prop where
 lo:54<=f
 hi:f<=76
 one:1<=a.length
 two:f=63\/f=64\/69<=f/\f<=75->2<=a.length
 three:f=71\/f=72->a.length=3
 max3:70<=f/\f<=75->a.length<=3
 max2:f=63\/f=64\/f=70\/f=74\/f=75->a.length=2
 ok:badArg a=0
theorem called{f:Int}{a:List Arg}(h:zfm f a=0):Called f a:=by
 unfold FZ.zfm at h;split at h
 .cases h
 .rename_i h1
  split at h
  .cases h
  .rename_i h2
   have h3:(infoV f).2=0:=B1;have h4:(infoV f).1.2.1=6:=B1;obtain ⟨k,rfl⟩:=zfh h3;obtain ⟨c1,c2,c3,c4,c5,c6,c7⟩:=zxp k h3 h4;have hk:=k.isLt;refine ⟨by omega,by omega,by omega,fun h=> ?_,fun h=> ?_,fun h=> ?_,fun h=> ?_,h⟩
   .have:=c3 B1;omega
   .have:=c4 B1;have:=c7 B1;omega
   .have:=c5 B1;omega
   .have:=c3;have:=c6 B1;have:2<=(infoV (k.val:Int)).1.2.2.1\/k.val=74:=by
     by_cases h74:k.val=74
     .exact .inr h74
     .exact .inl (c3 B1)
    rcases this with h5|h5
    .omega
    .have:=c3 B1;omega
theorem zit:∀{a:List Arg},(∀x∈a,okG x)->badArg a=0
 |[],_=>rfl
 |x::r,h=>by
  have hx:=h x (.head _);have ih:=zit (a:=r) fun y hy=>h y (.tail _ hy);unfold FZ.badArg;cases hA:x.isA
  .rw[hx.val.may];exact ih
  .rw[hx.area hA];exact ih
def pre(f:Int)(a its:List Arg)(k all:Int)(sep:List UInt8):FZ:=⟨f,a,its,0,0,sp0,sp0,false,false,Cal.zero,0,all,[],k,false,[],sep,none⟩
theorem zcp{f:Int}{a its:List Arg}{k all:Int}{sep:List UInt8}(ha:∀x∈a,okG x)(hi:∀x∈its,okG x)(hsz:its.length<=1048576)(hk:Fit k)(hall:Fit all)(hsep:sep.length<=32767)(hS:Shape (pre f a its k all sep)):Goes (pre f a its k all sep):=
 ⟨⟨ha,hi,hall,⟨Int.le_refl 0,by show (0:Int)<=4096*((0:Nat):Int)+((0:Nat):Int);omega⟩,Nat.zero_le _,hsz,hk,fun y hy=>(nomatch hy),Nat.zero_le _,hsep,hS⟩,rfl,rfl,rfl,fun it hit=>(by
  cases hA:it.isA
  .exact Int.le_refl 0
  .have:=zjn (zba ((hi it (List.mem_of_getElem? hit)).area hA)).1;show ((0:Nat):Int)<=places it.a;omega),Nat.zero_le _⟩
def ended(f:Int)(a its:List Arg)(v:Val.V):FZ:=⟨f,a,its,0,0,sp0,sp0,false,true,v,0,0,[],1,false,[],[],none⟩
def _root_.B125(h:jp:=by rw[List.length_drop];omega):=h
def B162(h:jp:=by change f=71\/f=72 at e;omega):=h
def B163(h:jp:=by change f=73\/f=74 at e;omega):=h
def B201(h:jp:=by change f=75 at e;omega):=h
def Bp70(h:jp:=by exact zjk (by show f<70\/_;omega)):=h
def M135(h:jp:=by
 exact zbj (f:=f) (a:=a) (its:=[(blank f a).arg 1]) bad4):=h
def M140(h:jp:=by
 have hit:it∈[aArg (cond (f==72) {((blank f a).arg 1).a with b:=((blank f a).arg 1).a.t} {((blank f a).arg 1).a with r:=((blank f a).arg 1).a.l})]:=hit;rw[List.mem_singleton.1 hit,e2];rfl):=h
def M176(h:jp:=by
 exact zbj (f:=f) (a:=a) (its:=a.take 1) bad4):=h
theorem zbj{f:Int}{a its:List Arg}{v:Val.V}(hv:okV v):Inv (ended f a its v):=
 ⟨fun _=> ⟨rfl,hv⟩,nofun,nofun,nofun,nofun,Nat.zero_le _⟩
theorem zjk{x:FZ}(h:x.f<70\/75<x.f):Shape x:=⟨fun h1 h2=>by omega,fun h1=>by omega,fun h1=>by omega,fun h1=>by omega⟩
theorem zid{a:List Arg}{x:Arg}(h:x∈a.take 1):x∈a:=List.mem_of_mem_take h
theorem take1{a:List Arg}(h:1<=a.length)(x:FZ)(hx:x.a=a):a.take 1=[x.arg 0]:=by
 unfold arg;rw[hx];cases a with
 |nil=>simp at h
 |cons y r=>rfl
theorem fitk{n:Int}(h1:1<=n)(h2:n<=100000):Fit n:=zay B1 B1
theorem begin_inv{f:Int}{a:List Arg}(h:Called f a)(ha:∀x∈a,okG x)(hsz:a.length<=1048576):Inv (begin f a):=by
 have hg:∀i,okG ((blank f a).arg i):=fun i=>zc5 (x:=blank f a) ha i;have bad4:okV (Cal.bad 4):=zat B3 B3;have f1:Fit 1:=fitk B3 B3;unfold FZ.begin;simp only
 by_cases h55:f=55
 .rw[if_pos h55];exact (zcp (f:=f) (k:=1) (all:=1) (sep:=[]) ha ha hsz f1 f1 B3 Bp70).inv
 rw[if_neg h55]
 by_cases h63:f=63\/f=64
 .rw[if_pos h63];have hn:=(hg 1).val.number;cases hA:((blank f a).arg 1).isA
  .cases hc:(Val.number ((blank f a).arg 1).v).2==0
   .have:(Val.number ((blank f a).arg 1).v).2≠0:=by simpa using hc
    exact zbj (f:=f) (a:=a) (its:=a.take 1) (zat B1 B1)
   .exact (zcp (f:=f) (all:=0) (sep:=[]) ha (fun x hx=>ha x (zid hx)) B126 hn.1 fit0 B3 Bp70).inv
  .exact M176
 rw[if_neg h63]
 by_cases h69:f=69
 .rw[if_pos h69];have hn:=(hg 0).val.asText;cases hA:((blank f a).arg 0).isA
  .cases hc:(Val.asText ((blank f a).arg 0).v).2==0
   .have:(Val.asText ((blank f a).arg 0).v).2≠0:=by simpa using hc
    exact zbj (f:=f) (a:=a) (its:=a.drop 1) (zat B1 B1)
   .refine (zcp (f:=f) (k:=1) (all:=0) ha (fun x hx=>ha x (List.mem_of_mem_drop hx)) B125 f1 fit0 ?_ Bp70).inv;have:=hn.1;rw[Lib.size_eq] at this;exact this
  .exact zbj (f:=f) (a:=a) (its:=a.drop 1) bad4
 rw[if_neg h69];have hlook:∀p q,okG p->okG q->Inv ((blank f a).looks p q)\/True:=fun _ _ _ _=> .inr trivial
 by_cases h70:f=70
 .rw[if_pos h70];unfold FZ.looks;cases hA:((blank f a).arg 0).isA
  .cases h4:((blank f a).arg 0).v.k==4
   .cases hB:((blank f a).arg 1).isA
    .exact M135
    .exact (zcp (f:=f) (k:=1) (all:=0) (sep:=[]) (its:=[(blank f a).arg 1]) ha (fun x hx=>by rw[List.mem_singleton.1 hx];exact hg 1) B7 f1 fit0 B3
      ⟨fun _ _=> ⟨_,rfl,hB⟩,fun e=>B162,fun e=>B163,fun e=>B201⟩).inv
   .exact zbj (f:=f) (a:=a) (its:=[(blank f a).arg 1]) (hg 0).val
  .exact M135
 rw[if_neg h70]
 by_cases h71:f=71\/f=72
 .rw[if_pos h71];unfold FZ.looks;have hn:=(hg 2).val.number;cases hA:((blank f a).arg 0).isA
  .cases h4:((blank f a).arg 0).v.k==4
   .cases hB:((blank f a).arg 1).isA
    .exact M135
    .cases hC:((blank f a).arg 2).isA
     .cases hc:(Val.number ((blank f a).arg 2).v).2 !=0
      .cases hr:(decide ((Val.number ((blank f a).arg 2).v).1<1)||decide (cond (f==72) (((blank f a).arg 1).a.b-((blank f a).arg 1).a.t+1) (((blank f a).arg 1).a.r-((blank f a).arg 1).a.l+1)<(Val.number ((blank f a).arg 2).v).1))
       .have hsz:=(hg 1).area hB;have hb:=zed (zba hsz).1;rw[Bool.or_eq_false_iff] at hr;have r1:=of_decide_eq_false hr.1;have r2:=of_decide_eq_false hr.2;have hG:=(zcp (f:=f) (a:=a) (k:=(Val.number ((blank f a).arg 2).v).1) (all:=0) (sep:=[]) (its:=[aArg (cond (f==72) {((blank f a).arg 1).a with b:=((blank f a).arg 1).a.t} {((blank f a).arg 1).a with r:=((blank f a).arg 1).a.l})]) ha (fun x hx=>by
         rw[List.mem_singleton.1 hx];refine zpd (sub_ok hsz ?_);cases f==72
         .show _/\_;simp only[cond_false];omega
         .show _/\_;simp only[cond_true];omega) B7 hn.1 fit0 B3
         ⟨fun _ _=> ⟨_,rfl,rfl⟩,fun e=> ⟨hB,by show 1<=(Val.number ((blank f a).arg 2).v).1;omega,fun e=> ?_,fun e=> ?_⟩,fun e=>B163,fun e=>B201⟩).inv
        .exact hG
        .change f=71 at e;have e2:(f==72)=false:=B39;rw[e2] at r2;refine ⟨by change (Val.number ((blank f a).arg 2).v).1<=((blank f a).arg 1).a.r-((blank f a).arg 1).a.l+1;simp only[cond_false] at r2;omega,fun it hit=> ?_⟩;exact M140
        .change f=72 at e;have e2:(f==72)=true:=by rw[beq_iff_eq];exact e
         rw[e2] at r2;refine ⟨by change (Val.number ((blank f a).arg 2).v).1<=((blank f a).arg 1).a.b-((blank f a).arg 1).a.t+1;simp only[cond_true] at r2;omega,fun it hit=> ?_⟩;exact M140
       .exact zbj (f:=f) (a:=a) (its:=[(blank f a).arg 1]) (zat B3 B3)
      .have:(Val.number ((blank f a).arg 2).v).2≠0:=by simpa using hc
       exact zbj (f:=f) (a:=a) (its:=[(blank f a).arg 1]) (zat B1 B1)
     .exact M135
   .exact zbj (f:=f) (a:=a) (its:=[(blank f a).arg 1]) (hg 0).val
  .exact M135
 rw[if_neg h71];have ht1:a.take 1=[(blank f a).arg 0]:=take1 h.one _ rfl
 by_cases h73:f=73\/f=74
 .rw[if_pos h73];cases hA:(!((blank f a).arg 0).isA||((blank f a).arg 1).isA)
  .rw[Bool.or_eq_false_iff] at hA;have hA0:((blank f a).arg 0).isA=true:=by simpa using hA.1
   cases h4:((blank f a).arg 1).v.k==4
   .cases h3:(a.length==3&& !alike ((blank f a).arg 0) ((blank f a).arg 2))
    .refine (zcp (f:=f) (k:=1) (all:=0) (sep:=[]) ha (fun x hx=>ha x (zid hx)) B126 f1 fit0 B3
      ⟨fun _ _=> ⟨_,ht1,hA0⟩,fun e=>B162,fun _=> ⟨ht1,fun h3'=> ?_⟩,fun e=>B201⟩).inv
     change a.length=3 at h3';rw[h3'] at h3;have:alike ((blank f a).arg 0) ((blank f a).arg 2)=true:=B72;exact this
    .exact M176
   .exact zbj (f:=f) (a:=a) (its:=a.take 1) (hg 1).val
  .exact M176
 rw[if_neg h73]
 by_cases h75:f=75
 .rw[if_pos h75];cases hal:alike ((blank f a).arg 0) ((blank f a).arg 1)
  .exact M176
  .exact (zcp (f:=f) (k:=1) (all:=0) (sep:=[]) ha (fun x hx=>ha x (zid hx)) B126 f1 fit0 B3
    ⟨fun _ _=> ⟨_,ht1,(alike_ok hal).1⟩,fun e=>B162,fun e=>B163,fun _=> ⟨ht1,hal⟩⟩).inv
 rw[if_neg h75];exact (zcp (f:=f) (k:=1) (all:=0) (sep:=[]) ha ha hsz f1 fit0 B3 (zjk (by show f<70\/75<f;omega))).inv
theorem zlp{sort:List Int->List Int}(hS:zfq sort){f:Int}{a:List Arg}(h:Called f a)(ha:∀x∈a,okG x)(hsz:a.length<=1048576):Inv (start sort f a)/\(start sort f a).stop=true:=
 ziv hS (begin_inv h ha hsz)
end FZ
structure item(a:Arg)(x:Int):Prop where
 ok:okG a
 err:x=69->isErr a=true
 area:x=65->a.isA=true\/isErr a=true
 val:x≠69->x≠65->a.isA=false
def stk:List Arg->St->Prop
 |[],[]=>True
 |a::l,x::s=>item a x/\stk l s
 |_,_=>False
theorem zl5{a:Arg}(h:isErr a=true):a.isA=false/\(a.v.k==4)=true:=by
 unfold isErr at h;simp only[Bool.and_eq_true,Bool.not_eq_true'] at h;exact h
theorem item_le{a:Arg}{x y:Int}(h:item a x)(k:le1 x y):item a y:=by
 rcases k with k|k
 .have:=h.err k;exact ⟨h.ok,fun _=>this,fun _=> .inr this,fun _ _=>(zl5 this).1⟩
 .subst k;exact h
theorem zfg{v:Val.V}(h:okV v):item (vArg v) 86:=⟨FZ.zfa h,fun e=>absurd e B3,fun e=>absurd e B3,fun _ _=>rfl⟩
theorem zvu{a:Ar}(h:(sizeA a).2=0):item (aArg a) 65:=⟨FZ.zpd h,fun e=>absurd e B3,fun _=> .inl rfl,fun _ e=>absurd rfl e⟩
theorem zjq{a:Arg}(h:okG a)(he:isErr a=true)(x:Int):item a x:=⟨h,fun _=>he,fun _=> .inr he,fun _ _=>(zl5 he).1⟩
theorem zb6{e:Int}(h1:1<=e)(h2:e<=6)(x:Int):item (MS.zaz e) x:=zjq (FZ.zfa (zat h1 h2)) rfl x
theorem zb0:∀{l:List Arg} {s:St},stk l s->l.length=s.length
 |[],[],_=>rfl
 |a::l,x::s,h=>by simp[zb0 h.2]
 |[],x::s,h=>h.elim
 |a::l,[],h=>h.elim
theorem zji:∀{l:List Arg} {s t:St},stk l s->leS s t->stk l t
 |[],[],[],_,_=>trivial
 |a::l,x::s,y::t,h,k=> ⟨item_le h.1 k.1,zji h.2 k.2⟩
 |[],x::s,_,h,_=>h.elim
 |a::l,[],_,h,_=>h.elim
 |[],[],y::t,_,k=>k.elim
 |a::l,x::s,[],_,k=>k.elim
theorem zbr:∀{l m:List Arg} {s t:St},stk l s->stk m t->stk (l++m) (s++t)
 |[],m,[],t,_,k=>k
 |a::l,m,x::s,t,h,k=> ⟨h.1,zbr h.2 k⟩
 |[],_,x::s,_,h,_=>h.elim
 |a::l,_,[],_,h,_=>h.elim
theorem zdy:∀(n:Nat) {l:List Arg} {s:St},stk l s->stk (l.take n) (s.take n)
 |0,l,s,_=>by simp only[List.take_zero];exact trivial
 |n+1,[],[],_=>trivial
 |n+1,a::l,x::s,h=> ⟨h.1,zdy n h.2⟩
 |n+1,[],x::s,h=>h.elim
 |n+1,a::l,[],h=>h.elim
theorem zo3:∀(n:Nat) {l:List Arg} {s:St},stk l s->stk (l.drop n) (s.drop n)
 |0,l,s,h=>h
 |n+1,[],[],_=>trivial
 |n+1,a::l,x::s,h=>zo3 n h.2
 |n+1,[],x::s,h=>h.elim
 |n+1,a::l,[],h=>h.elim
theorem zeb:∀{l:List Arg} {s:St},stk l s->∀a∈l,okG a
 |[],[],_,a,h=>by cases h
 |b::l,x::s,h,a,ha=>by
  rcases List.mem_cons.1 ha with rfl|ha
  .exact h.1.ok
  .exact zeb h.2 a ha
 |[],x::s,h,_,_=>h.elim
 |b::l,[],h,_,_=>h.elim
theorem fit_le{x y:Int}(h:fits x y=true):le1 x y:=by
 unfold fits at h;simp only[Bool.or_eq_true,beq_iff_eq] at h;exact h.symm
theorem zmh:∀{s t:St},s.length=t.length->zcq s t=true->leS s t
 |[],[],_,_=>trivial
 |x::s,y::t,hl,h=>by
  simp only[zcq,Bool.and_eq_true] at h;exact ⟨fit_le h.1,zmh B203 h.2⟩
 |[],y::t,hl,_=>by simp at hl
 |x::s,[],hl,_=>by simp at hl
theorem zb7{l:List Arg}{s asked:St}(h:stk l s)(he:za3 s asked=true):
 asked.length<=l.length/\stk (l.take (l.length-asked.length)) (s.take (s.length-asked.length))/\stk (l.drop (l.length-asked.length)) asked:=by
 unfold za3 at he;cases hc:decide (s.length<asked.length)
 .rw[hc] at he;have hle:=of_decide_eq_false hc;have hl:=zb0 h;rw[hl];exact ⟨by omega,zdy _ h,zji (zo3 _ h) (zmh B125 he)⟩
 .rw[hc] at he;cases he
theorem stk1{l:List Arg}{x:Int}(h:stk l [x]):∃a,l=[a]/\item a x:=by
 match l,h with
 |[a],h=>exact ⟨a,rfl,h.1⟩
namespace MS
theorem top_eq{m:MS}{a:Arg}(h:m.last 1=[a]):m.top=a:=by
 unfold MS.last at h;unfold MS.top;rw[List.getLastD_eq_getLast?,<-List.take_append_drop (m.st.length-1) m.st,h];simp
theorem top1{m:MS}{s:St}{x:Int}(h:stk m.st s)(he:za3 s [x]=true):m.last 1=[m.top]/\item m.top x/\stk (m.cut 1).st (s.take (s.length-1))/\1<=m.st.length:=by
 obtain ⟨h1,h2,h3⟩:=zb7 h he;obtain ⟨a,ha,hi⟩:=stk1 h3;have:=top_eq (m:=m) ha;rw[this];exact ⟨ha,hi,h2,h1⟩
structure Ctx(sort:List Int->List Int)(read:List UInt8->Ar×Int):Prop where
 sort:FZ.zfq sort
 read:∀s,(read s).2=0->(sizeA (read s).1).2=0
 un:∀op v,okV v->okV (Cal.un op v)
 bin:∀op v u,okV v->okV u->okV (Cal.bin op v u)
 call:∀f n v,(∀k,k<n->okV (v k))->okV (Cal.callM f n v).1
structure Go(p:Code)(T:Nat->St)(m:MS):Prop where
 over:m.over=false
 wants:m.wants=false
 great:m.great=false
 walk:m.walk=none
 ip:m.ip<=p.ins.length
 st:stk m.st (T m.ip)
 n:m.n<=65536
structure Pend(p:Code)(T:Nat->St)(m:MS):Prop where
 ip:m.ip<p.ins.length
 st:∃s,stk m.st s/\leS (s++ [86]) (T (m.ip+1))
 walk:∀w,m.walk=some w->FZ.Inv w/\∃x,p.ins[m.ip]?=some x/\x.op=20
structure Inv(p:Code)(T:Nat->St)(m:MS):Prop where
 ip:m.ip<=p.ins.length
 n:m.n<=65536
 h:m.st.length<=1024
 over:m.over=true->m.wants=false/\(m.great=false->m.ip=p.ins.length/\stk m.st (T m.ip))
 great:m.great=true->m.over=true
 wants:m.over=false->m.wants=true->Pend p T m/\mayS m.want=true/\m.n<65536/\∀w,m.walk=some w->w.over=false/\w.wants=true/\w.next=m.want
 goes:m.over=false->m.wants=false->Go p T m\/Pend p T m/\∃w,m.walk=some w/\w.stop=true
end MS
def B44(h:jp:=by simp[stepS,h]):=h
section
variable{con:List Val.V}{x:Ins}{i:Int}{s:St}
include con x i s
theorem znb(h:x.op=1):stepS con x i s=some [(i+1,withS s 0 [cond ((con.getD x.a.toNat Cal.zero).k==4) 69 86])]:=B44
theorem zna(h:x.op=2):stepS con x i s=zbg [] [86] i s:=B44
theorem zm9(h:x.op=3):stepS con x i s=zbg [] [65] i s:=B44
theorem zki(h:x.op=4):stepS con x i s=zbg [86] [86] i s:=B44
theorem zkh(h:x.op=5):stepS con x i s=zbg [86,86] [86] i s:=B44
theorem zkg(h:x.op=6):stepS con x i s=cond (za3 s (many x.b.toNat)) (some [(i+1,withS s x.b.toNat [86])]) none:=B44
theorem zkf(h:x.op=7):stepS con x i s=cond (decide (s.length<1)||decide ((s.length:Int)-1<x.b)) none (some [(i+1,s),(x.a,withS s (x.b+1).toNat [69])]):=B44
theorem zke(h:x.op=8):stepS con x i s=cond (za3 s [86]) (some [(i+1,withS s 1 []),(x.a,withS s 1 []),(x.b,withS s 1 [69])]) none:=B44
theorem zkd(h:x.op=9):stepS con x i s=cond (za3 s [86]) (some [(i+1,withS s 1 []),(x.a,withS s 1 [86])]) none:=B44
theorem zhb(h:x.op=10):stepS con x i s=cond (za3 s [86]) (some ((x.a,withS s 1 [69])::x.T.map fun tg=>(tg,withS s 1 []))) none:=B44
theorem zha(h:x.op=11):stepS con x i s=cond (za3 s [86,86]) (some [(i+1,withS s 2 []),(x.a,withS s 1 [])]) none:=B44
theorem zg9(h:x.op=12):stepS con x i s=zbg [86] [] i s:=B44
theorem zkk(h:x.op=13):stepS con x i s=some [(x.a,s)]:=B44
theorem zkj(h:x.op=14):stepS con x i s=zbg [] [86] i s:=B44
theorem zg8(h:x.op=15):stepS con x i s=zbg [65] [86] i s:=B44
theorem zg7(h:x.op=16):stepS con x i s=zbg [65] [86] i s:=B44
theorem zg6(h:x.op=17):stepS con x i s=zbg [86] [65] i s:=B44
theorem zg5(h:x.op=18):stepS con x i s=cond (za3 s (65::many x.a.toNat)) (some [(i+1,withS s (x.a+1).toNat [65])]) none:=B44
theorem zg4(h:x.op=19):stepS con x i s=cond (za3 s (65::many x.a.toNat)) (some [(i+1,withS s (x.a+1).toNat [65])]) none:=B44
theorem zg3(h:x.op=20):stepS con x i s=cond (decide ((s.length:Int)<x.b)) none (some [(i+1,withS s x.b.toNat [86])]):=B44
end
theorem zap{asked leaves s:List Int}{i:Int}{l:List (Int×St)}(h:zbg asked leaves i s=some l):za3 s asked=true/\l=[(i+1,withS s asked.length leaves)]:=zan h
theorem zes{ncon:Int}{x:Ins}{i n:Int}(h:zb2 ncon x i n=true):1<=x.op/\x.op<=20/\goodI ncon x=true:=by
 unfold zb2 at h;cases hu:zll x
 .rw[hu] at h;simp only[cond_false,Bool.and_eq_true] at h;unfold zll at hu;simp only[Bool.or_eq_false_iff] at hu;have hw:=hu.1.1.1.1.1;unfold within at hw;simp only[Bool.not_eq_false',Bool.and_eq_true,decide_eq_true_eq] at hw;exact ⟨hw.1,hw.2,h.2⟩
 .rw[hu] at h;cases h
structure Way(p:Code)(T:Nat->St)(i:Nat)(e:Int×St):Prop where
 lo:(i:Int)<e.1
 hi:e.1<=p.ins.length
 le:leS e.2 (T e.1.toNat)
namespace MS
variable {p:Code} {T:Nat->St}
theorem zee(hT:Typed p T){m:MS}(h:Go p T m):Inv p T m:=
 ⟨h.ip,h.n,by rw[zb0 h.st];exact hT.len _,fun e=>(by rw[h.over] at e;cases e),fun e=>(by rw[h.great] at e;cases e),fun _ e=>(by rw[h.wants] at e;cases e),fun _ _=> .inl h⟩
structure Keeps(m q:MS):Prop where
 over:q.over=m.over
 wants:q.wants=m.wants
 great:q.great=m.great
 walk:q.walk=m.walk
 n:q.n=m.n
def B98(h:jp:=by simp only[cond_false,cond_true];omega):=h
def B73(h:jp:=by simp[MS.plain,hop]):=h
def B111(h:jp:=by simp[MS.jump,hop]):=h
def M187(h:jp:=by
 exact ⟨⟨rfl,rfl,rfl,rfl,rfl⟩,_,.head _,hi.symm,zir h⟩):=h
theorem Keeps.refl(m:MS):Keeps m m:=⟨rfl,rfl,rfl,rfl,rfl⟩
theorem withS0(s more:St):withS s 0 more=s++more:=by simp[withS]
theorem zk1{l:List Arg}(h:∀a∈l,okG a)(k:Nat):okG (l.getD k (vArg Cal.zero)):=by
 rw[List.getD_eq_getElem?_getD];cases hi:l[k]? with
 |none=>exact FZ.zfa zd2
 |some a=>exact h a (List.mem_of_getElem? hi)
theorem zs5{m:MS}(h:1<=m.st.length):m.top∈m.st/\m.last 1=[m.top]:=by
 unfold MS.top MS.last;rcases List.eq_nil_or_concat m.st with e|⟨l,a,e⟩
 .rw[e] at h;simp at h
 .rw[e,List.concat_eq_append,List.getLastD_eq_getLast?];simp
theorem cut_last(m:MS)(k:Nat):m.st=(m.cut k).st++m.last k:=(List.take_append_drop _ _).symm
theorem zdr{m:MS}{s more:St}{a:Arg}{x:Int}{k:Nat}(h:stk m.st s)(ha:item a x):stk ((m.cut k).lay a).st (withS s k [x]):=by
 show stk (m.st.take (m.st.length-k)++ [a]) (s.take (s.length-k)++ [x]);rw[<-zb0 h];exact zbr (zdy _ h) ⟨ha,trivial⟩
theorem zir{m:MS}{s:St}{k:Nat}(h:stk m.st s):stk (m.cut k).st (withS s k []):=by
 show stk (m.st.take (m.st.length-k)) (s.take (s.length-k)++ []);rw[<-zb0 h,List.append_nil];exact zdy _ h
theorem lays{m:MS}{s:St}{a:Arg}{x:Int}(h:stk m.st s)(ha:item a x):stk (m.lay a).st (withS s 0 [x]):=by
 rw[withS0];exact zbr h ⟨ha,trivial⟩
theorem stays{m:MS}{s:St}{x:Int}(h:stk m.st s)(h1:1<=m.st.length)(ha:item m.top x):stk m.st (withS s 1 [x]):=by
 rw[cut_last m 1,(zs5 h1).2];show stk (m.st.take (m.st.length-1)++ [m.top]) (s.take (s.length-1)++ [x]);rw[<-zb0 h];exact zbr (zdy _ h) ⟨ha,trivial⟩
theorem zc7{a:Arg}{x:Int}(h:item a x):okV a.v:=h.ok.val
theorem zwp{a:Ar}(h:(sizeA a).2=0)(f:Int):Fit (placeN f a):=by
 have hb:=zed (zba h).1;unfold placeN;cases f==47
 .cases f==48
  .cases f==49
   .exact zay B65 B65
   .exact zay B98 B98
  .exact zay B98 B98
 .exact zay B103 B103
theorem zpe:∀{l:List Arg},(∀a∈l,okG a)->(nums l).2=0\/1<=(nums l).2/\(nums l).2<=6
 |[],_=> .inl rfl
 |x::r,h=>by
  unfold MS.nums;have hn:=(h x (.head _)).val.number.2;cases hc:(Val.number x.v).2==0
  .have:(Val.number x.v).2≠0:=by simpa using hc
   exact .inr B65
  .exact zpe fun a ha=>h a (.tail _ ha)
theorem zu1{x:Ins}{l:List Arg}{k:Nat}(h:stk l (65::many k)):item (zdk x l) 65:=by
 have hok:=zeb h;unfold MS.zdk;cases hf:l.find? isErr with
 |some e=>exact zjq (hok e (List.mem_of_find?_eq_some hf)) (List.find?_some hf) 65
 |none=>
  simp only;have hn:=zpe (l:=l.drop 1) fun a ha=>hok a (List.mem_of_mem_drop ha);cases hc:(nums (l.drop 1)).2 !=0
  .simp only[cond_false];split
   .exact zb6 B3 B3 _
   .rename_i a ha
    cases hs:(sizeA a).2==0
    .exact zb6 B3 B3 _
    .exact zvu (by simpa using hs)
  .have:(nums (l.drop 1)).2≠0:=by simpa using hc
   exact zb6 B1 B1 _
theorem znz{sort:List Int->List Int}{read:List UInt8->Ar×Int}(hC:Ctx sort read){v:Val.V}(hv:okV v):item (za5 read v) 65:=by
 unfold MS.za5;simp only;have hn:=hv.asText.2;cases hc:(Val.asText v).2 !=0
 .cases hr:(read (Val.asText v).1.data.toList).2 !=0
  .exact zvu (hC.read _ (by simpa using hr))
  .exact zb6 B3 B3 _
 .have:(Val.asText v).2≠0:=by simpa using hc
  exact zb6 B1 B1 _
theorem zhi(k:Nat):(many k).length=k:=List.length_replicate
theorem plain_ok{sort:List Int->List Int}{read:List UInt8->Ar×Int}(hC:Ctx sort read){m:MS}{s:St}{x:Ins}{at_:Sp}{ncon:Int}{con:List Val.V}{l:List (Int×St)}(h:stk m.st s)(hat:mayS at_=true)(hg:goodI ncon x=true)(hop:x.op=3\/x.op=4\/x.op=5\/x.op=6\/x.op=12\/x.op=14\/x.op=15\/x.op=17\/x.op=18\/x.op=19)(i:Int)(hl:stepS con x i s=some l):
 Keeps m (m.plain read at_ x)/\∃t,(i+1,t)∈l/\stk (m.plain read at_ x).st t:=by
 rcases hop with hop|hop|hop|hop|hop|hop|hop|hop|hop|hop
 .rw[zm9 hop] at hl;obtain ⟨he,rfl⟩:=zap hl;have e:m.plain read at_ x=m.lay (aArg ⟨x.a,x.b,x.c,x.d⟩):=B73;have hz:(sizeA ⟨x.a,x.b,x.c,x.d⟩).2=0:=by simpa[goodI,hop] using hg
  rw[e];exact ⟨⟨rfl,rfl,rfl,rfl,rfl⟩,_,.head _,lays h (zvu hz)⟩
 .rw[zki hop] at hl;obtain ⟨he,rfl⟩:=zap hl;have e:m.plain read at_ x=(m.cut 1).lay (vArg (Cal.un x.a m.top.v)):=B73;rw[e];obtain ⟨_,t2,_,_⟩:=top1 h he;exact ⟨⟨rfl,rfl,rfl,rfl,rfl⟩,_,.head _,zdr (more:=[]) h (zfg (hC.un _ _ (zc7 t2)))⟩
 .rw[zkh hop] at hl;obtain ⟨he,rfl⟩:=zap hl;have e:m.plain read at_ x=(m.cut 2).lay (vArg (Cal.bin x.a ((m.last 2).getD 0 (vArg Cal.zero)).v ((m.last 2).getD 1 (vArg Cal.zero)).v)):=B73;rw[e];obtain ⟨_,_,t3⟩:=zb7 h he;have hk:=zeb (l:=m.last 2) t3;exact ⟨⟨rfl,rfl,rfl,rfl,rfl⟩,_,.head _,zdr (more:=[]) h (zfg (hC.bin _ _ _ (zk1 hk 0).val (zk1 hk 1).val))⟩
 .rw[zkg hop] at hl;obtain ⟨he,rfl⟩:=zan hl;have e:m.plain read at_ x=(m.cut x.b.toNat).lay (vArg (Cal.callM x.a x.b.toNat (fun k=>((m.last x.b.toNat).getD k (vArg Cal.zero)).v)).1):=B73;rw[e];obtain ⟨_,_,t3⟩:=zb7 h he;rw[zhi] at t3;have hk:=zeb (l:=m.last x.b.toNat) t3;exact ⟨⟨rfl,rfl,rfl,rfl,rfl⟩,_,.head _,zdr (more:=[]) h (zfg (hC.call _ _ _ fun k _=>(zk1 hk k).val))⟩
 .rw[zg9 hop] at hl;obtain ⟨he,rfl⟩:=zap hl;have e:m.plain read at_ x=m.cut 1:=B73;rw[e];exact ⟨⟨rfl,rfl,rfl,rfl,rfl⟩,_,.head _,zir h⟩
 .rw[zkj hop] at hl;obtain ⟨he,rfl⟩:=zap hl;have e:m.plain read at_ x=m.lay (vArg (Cal.num (cond (x.a==47) (at_.r+1) (at_.c+1)))):=B73;rw[e];have hb:0<=at_.r/\at_.r<65536/\0<=at_.c/\at_.c<702:=by
   unfold mayS at hat;simp only[Bool.and_eq_true,decide_eq_true_eq] at hat;omega
  refine ⟨⟨rfl,rfl,rfl,rfl,rfl⟩,_,.head _,lays h (zfg (za9 ?_))⟩;cases x.a==47
  .exact zay B65 B65
  .exact zay B103 B103
 .rw[zg8 hop] at hl;obtain ⟨he,rfl⟩:=zap hl;have e:m.plain read at_ x=cond (isErr m.top) m ((m.cut 1).lay (vArg (Cal.num (placeN x.a m.top.a)))):=B73;rw[e];obtain ⟨_,t2,_,t4⟩:=top1 h he;cases hE:isErr m.top
  .have hA:m.top.isA=true:=by
    rcases t2.area rfl with h1|h1
    .exact h1
    .rw[hE] at h1;cases h1
   exact ⟨⟨rfl,rfl,rfl,rfl,rfl⟩,_,.head _,zdr (more:=[]) h (zfg (za9 (zwp (t2.ok.area hA) _)))⟩
  .exact ⟨Keeps.refl m,_,.head _,stays h t4 (zjq t2.ok hE 86)⟩
 .rw[zg6 hop] at hl;obtain ⟨he,rfl⟩:=zap hl;have e:m.plain read at_ x=(m.cut 1).lay (za5 read m.top.v):=B73;rw[e];obtain ⟨_,t2,_,_⟩:=top1 h he;exact ⟨⟨rfl,rfl,rfl,rfl,rfl⟩,_,.head _,zdr (more:=[]) h (znz hC (zc7 t2))⟩
 all_goals
  first|rw[zg5 hop] at hl|rw[zg4 hop] at hl
  obtain ⟨he,rfl⟩:=zan hl;have e:m.plain read at_ x=(m.cut (x.a+1).toNat).lay (zdk x (m.last (x.a+1).toNat)):=B73;have ha:1<=x.a:=by
   simp[goodI,hop,within] at hg;omega
  rw[e];obtain ⟨_,_,t3⟩:=zb7 h he;rw[show (65::many x.a.toNat).length=(x.a+1).toNat by rw[List.length_cons,zhi];omega] at t3;exact ⟨⟨rfl,rfl,rfl,rfl,rfl⟩,_,.head _,zdr (more:=[]) h (zu1 t3)⟩
theorem jump_ok{m:MS}{s:St}{x:Ins}{con:List Val.V}{l:List (Int×St)}{ncon:Int}(h:stk m.st s)(hop:7<=x.op/\x.op<=11\/x.op=13)(hg:goodI ncon x=true)(i:Nat)(hl:stepS con x i s=some l):
 Keeps m (m.jump x (i+1)).1/\∃e∈l,(m.jump x (i+1)).2=e.1.toNat/\stk (m.jump x (i+1)).1.st e.2:=by
 have hi:((i:Int)+1).toNat=i+1:=B1;obtain hop|hop|hop|hop|hop|hop:x.op=7\/x.op=8\/x.op=9\/x.op=10\/x.op=11\/x.op=13:=B1
 .rw[zkf hop] at hl;obtain ⟨he,rfl⟩:=za1 hl;have e:m.jump x (i+1)=cond (isErr m.top) ((m.cut (x.b+1).toNat).lay m.top,x.a.toNat) (m,i+1):=B111;rw[e];rw[Bool.or_eq_false_iff] at he;have hlen:1<=m.st.length:=by have:=of_decide_eq_false he.1;rw[zb0 h];omega
  cases hE:isErr m.top
  .exact ⟨Keeps.refl m,_,.head _,hi.symm,h⟩
  .exact ⟨⟨rfl,rfl,rfl,rfl,rfl⟩,_,.tail _ (.head _),rfl,zdr (more:=[]) h (zjq (zeb h _ (zs5 hlen).1) hE 69)⟩
 .rw[zke hop] at hl;obtain ⟨he,rfl⟩:=zan hl;have e:m.jump x (i+1)=cond ((Val.truth m.top.v).2 !=0) ((m.cut 1).lay (zaz (Val.truth m.top.v).2),x.b.toNat) (cond (Val.truth m.top.v).1 (m.cut 1,i+1) (m.cut 1,x.a.toNat)):=B111;rw[e];obtain ⟨_,t2,_,_⟩:=top1 h he;have hn:=(zc7 t2).truth;cases hc:(Val.truth m.top.v).2 !=0
  .cases (Val.truth m.top.v).1
   .exact ⟨⟨rfl,rfl,rfl,rfl,rfl⟩,_,.tail _ (.head _),rfl,zir h⟩
   .exact M187
  .have:(Val.truth m.top.v).2≠0:=by simpa using hc
   exact ⟨⟨rfl,rfl,rfl,rfl,rfl⟩,_,.tail _ (.tail _ (.head _)),rfl,zdr (more:=[]) h (zb6 B1 B1 _)⟩
 .rw[zkd hop] at hl;obtain ⟨he,rfl⟩:=zan hl;have e:m.jump x (i+1)=cond (m.top.v.k !=4||x.b==6&&m.top.v.n !=6) (m,x.a.toNat) (m.cut 1,i+1):=B111;rw[e];obtain ⟨_,t2,_,t4⟩:=top1 h he;cases (m.top.v.k !=4||x.b==6&&m.top.v.n !=6)
  .exact M187
  .exact ⟨Keeps.refl m,_,.tail _ (.head _),rfl,stays h t4 t2⟩
 .rw[zhb hop] at hl;obtain ⟨he,rfl⟩:=zan hl;have e:m.jump x (i+1)=cond ((Val.number m.top.v).2 !=0) ((m.cut 1).lay (zaz (Val.number m.top.v).2),x.a.toNat) (cond (decide ((Val.number m.top.v).1<1)||decide ((x.T.length:Int)<(Val.number m.top.v).1)) ((m.cut 1).lay (zaz 4),x.a.toNat) (m.cut 1,(x.T.getD ((Val.number m.top.v).1-1).toNat 0).toNat)):=B111;rw[e];obtain ⟨_,t2,_,_⟩:=top1 h he;have hn:=(zc7 t2).number.2;cases hc:(Val.number m.top.v).2 !=0
  .cases hr:(decide ((Val.number m.top.v).1<1)||decide ((x.T.length:Int)<(Val.number m.top.v).1))
   .rw[Bool.or_eq_false_iff] at hr;have r1:=of_decide_eq_false hr.1;have r2:=of_decide_eq_false hr.2;have hlt:((Val.number m.top.v).1-1).toNat<x.T.length:=B1;refine ⟨⟨rfl,rfl,rfl,rfl,rfl⟩,_,.tail _ (List.mem_map_of_mem (a:=x.T.getD ((Val.number m.top.v).1-1).toNat 0) ?_),rfl,zir h⟩;rw[List.getD_eq_getElem?_getD,List.getElem?_eq_getElem hlt];exact List.getElem_mem hlt
   .exact ⟨⟨rfl,rfl,rfl,rfl,rfl⟩,_,.head _,rfl,zdr (more:=[]) h (zb6 B3 B3 _)⟩
  .have:(Val.number m.top.v).2≠0:=by simpa using hc
   exact ⟨⟨rfl,rfl,rfl,rfl,rfl⟩,_,.head _,rfl,zdr (more:=[]) h (zb6 B1 B1 _)⟩
 .rw[zha hop] at hl;obtain ⟨he,rfl⟩:=zan hl;have e:m.jump x (i+1)=cond (Val.cmpG (Val.good (m.cut 1).top.v) (Val.good m.top.v) !=0) (m.cut 1,x.a.toNat) (m.cut 2,i+1):=B111;rw[e];cases (Val.cmpG (Val.good (m.cut 1).top.v) (Val.good m.top.v) !=0)
  .exact M187
  .exact ⟨⟨rfl,rfl,rfl,rfl,rfl⟩,_,.tail _ (.head _),rfl,zir h⟩
 .rw[zkk hop] at hl;obtain rfl:=Option.some.inj hl;have e:m.jump x (i+1)=(m,x.a.toNat):=B111;rw[e];exact ⟨Keeps.refl m,_,.head _,rfl,h⟩
end MS
end Ma
end
open Go.RowKit Go.MapKept
namespace Mb
def InsIs(w:World)(g o:Nat)(x:Ma.Ins):Prop:=∃T,InsAt w g o x.op x.a x.b x.c x.d T/\IRd w T x.T
theorem InsIs.below{w w':World}{g o:Nat}{x:Ma.Ins}(h:InsIs w g o x)(hb:Below w.heap.size w w'):InsIs w' g o x:=by
 obtain ⟨T,h1,h2⟩:=h;exact ⟨T,h1.below h1.lt hb,h2.below hb⟩
def FnIs(v:Value)(id:FuncId)(bs:Array Value):Prop:=v= .func (.func id) #[] bs/\∀args w,(callFunc id args).run prog w= .ok (.enter id args) w
def B55(h:jp:=by simp[Ma.goodI,hk]):=h
def B90(h:jp:=by simp[Ma.goodI,hk] <;> rfl):=h
def M63(h:jp:=by
 refine ⟨_,#[],⟨rfl,fun args w=>by kernel_rfl⟩,?_⟩;have e:Ma.goodI ncon x=(true):=B55;rw[e];exact zxk _ w):=h
def B51(h:jp:=by rw[Lib.cell_of_heap h2];rfl):=h
def B52(h:jp:=by rw[Lib.cell_of_heap h3];rfl):=h
def M128(h:jp:=by
 obtain ⟨n,hn⟩:=Int.eq_ofNat_of_zero_le (show 0<=x.a by omega);have e1:x.a.toNat=n:=B1;have e2:(x.a+1).toNat=n+1:=B1;rw[e1,e2];exact moved_ok lo g o x.op x.a x.b x.c x.d T s sv i w hx hi0 hi1 hs hsl hlo n hn B1):=h
def M191(h:jp:=by
 exact zc2 lo ⟨#[65]⟩ [86] s (PI g o) sv mv i b2 b3 w hi0 hi1 B3 (jg h2) B51 (jg h3) B52 hm B3 hs hsl hlo):=h
def M192(h:jp:=by
 exact zc2 lo ⟨#[]⟩ [86] s (PI g o) sv mv i b2 b3 w hi0 hi1 B3 (jg h2) B51 (jg h3) B52 hm B3 hs hsl hlo):=h
def B28(h:jp:=by rw[<-hBB];exact hx0.lt):=h
def B93(h:jp:=by rw[<-HBB.out];exact hb9.size):=h
def B94(h:jp:=by rw[<-HBB.out];exact hb4.size):=h
def B99(h:jp:=by rw[HK.out,HD.out,t1,t2];rfl):=h
def M2(h:jp:=by
 obtain ⟨m,hm,rfl,rfl,HK⟩:=hrel
 by_cases hlt2:m<jn
 .obtain ⟨tg,hy⟩:∃y,js[m]?=some y:=⟨_,List.getElem?_eq_getElem B68⟩;obtain ⟨gt,ot,tcap,e1,hgt,htc⟩:=HI.out.some B92;rw[HN.out] at e1;cases e1;have ck:=htc m tg hy;have HD:=jH (show ((js.drop m).all fun tg=> !(decide (tg<=i)||decide (en<tg)))=(!(decide (tg<=i)||decide (en<tg))&&(js.drop (m+1)).all fun tg=> !(decide (tg<=i)||decide (en<tg))) by
   obtain ⟨h1,rfl⟩:=List.getElem?_eq_some_iff.1 hy;rw[List.drop_eq_getElem_cons h1,List.all_cons])
  clear htc hy;cases t1:decide (tg<=i)
  .cases t2:decide (en<tg)
   .go_wp2_with fail;go_roundw
    case rel=>exact ⟨m+1,by omega,by go_num,by first|rfl|trivial,jH B99⟩
    case measure=>simp[intOf];omega
   .go_wp2_with fail;go_ret;rw[HBB.out];exact ⟨by rw[<-hz.out,HK.out,HD.out,t1,t2];rfl,hb4⟩
  .go_wp2_with fail;go_ret;rw[HBB.out];exact ⟨by rw[<-hz.out,HK.out,HD.out,t1];rfl,hb4⟩
 .obtain rfl:m=jn:=by omega
  obtain ⟨f0,f1,f2,f3⟩:=zch hB4;have hBl:B<wr.heap.size:=(jg hB4);have hz1:z=true:=by
   rw[<-hz.out,HK.out,List.drop_eq_nil_of_le B80];rfl
  subst hz1;go_wp2_with fail;refine jM (HG.out _ hb4) ?_;intro w5 hb5;go_wp2_with fail;go_ret;rw[HBB.out];exact ⟨rfl,hb4.trans (hb5.mono B94)⟩):=h
def M4(h:jp:=by
 obtain ⟨f0,f1,f2,f3⟩:=zch hB;have hBl:B<w2.heap.size:=(jg hB);clear c0 c1 c2 c3 c4 c5 hlk;obtain ⟨hlt,c0,c1,c2,c3,c4,c5⟩:=hx0.below B28 hb;have HBB:=jH hBB;clear hBB;go_quiet (fail);have hb9:=below_drewN hb nq;go_wp2_with fail;go_ret;rw[HBB.out];exact ⟨rfl,hb9⟩):=h
theorem good_any(w:World)(b1:Nat)(k:Int)(cv:Value)(ncon:Nat)(hcn:ncon<=1000000)(hcv:∃a c,cv= .slice a ncon c)(hb1:w.heap[b1]?=some (.cells #[cv] 23 (0,0)))(gf:Value)(h:(k=1/\gf= .func (.func 39) #[] #[PT b1])\/∃id,(k,id)∈goodTab/\gf= .func (.func id) #[] #[])(g o:Nat)(x:Ma.Ins)(hx:InsIs w g o x)(hk:x.op=k):∃id bs,FnIs gf id bs/\Ret id (#[PI g o]++bs) w (.bool (Ma.goodI ncon x)):=by
 obtain ⟨T,hx,-⟩:=hx;subst hk;rcases h with ⟨hk,rfl⟩|⟨id,hid,rfl⟩
 .obtain ⟨ca,cc,rfl⟩:=hcv;refine ⟨_,_,⟨rfl,fun args w=>by kernel_rfl⟩,?_⟩;have e:Ma.goodI ncon x=(decide (0<=x.a)&&decide (x.a<=(ncon:Int)-1)):=by unfold Ma.goodI;rw[if_pos hk];rfl
  rw[e];exact zr0 g o x.op x.a x.b x.c x.d T b1 ca ncon cc hcn w hx (jg hb1) (by rw[Lib.cell_of_heap hb1];rfl)
 .simp only[goodTab,List.mem_cons,Prod.mk.injEq,List.not_mem_nil,or_false] at hid;rcases hid with ⟨hk,rfl⟩|⟨hk,rfl⟩|⟨hk,rfl⟩|⟨hk,rfl⟩|⟨hk,rfl⟩|⟨hk,rfl⟩|⟨hk,rfl⟩|⟨hk,rfl⟩|⟨hk,rfl⟩|⟨hk,rfl⟩|⟨hk,rfl⟩|⟨hk,rfl⟩|⟨hk,rfl⟩|⟨hk,rfl⟩|⟨hk,rfl⟩|⟨hk,rfl⟩|⟨hk,rfl⟩|⟨hk,rfl⟩|⟨hk,rfl⟩
  .refine ⟨_,#[],⟨rfl,fun args w=>by kernel_rfl⟩,?_⟩;have e:Ma.goodI ncon x=(mayP x.a x.b):=B90;rw[e];exact zrz g o x.op x.a x.b x.c x.d T w hx
  .refine ⟨_,#[],⟨rfl,fun args w=>by kernel_rfl⟩,?_⟩;have e:Ma.goodI ncon x=((sizeAr x.a x.b x.c x.d).2==0):=B90;rw[e];exact zwe g o x.op x.a x.b x.c x.d T w hx
  .refine ⟨_,#[],⟨rfl,fun args w=>by kernel_rfl⟩,?_⟩;have e:Ma.goodI ncon x=(decide ((1:Int)<=x.a)&&decide (x.a<=3)):=B90;rw[e];exact good_un g o x.op x.a x.b x.c x.d T w hx
  .refine ⟨_,#[],⟨rfl,fun args w=>by kernel_rfl⟩,?_⟩;have e:Ma.goodI ncon x=(decide ((1:Int)<=x.a)&&decide (x.a<=12)):=B90;rw[e];exact good_bin g o x.op x.a x.b x.c x.d T w hx
  .refine ⟨_,#[],⟨rfl,fun args w=>by kernel_rfl⟩,?_⟩;have e:Ma.goodI ncon x=(Ma.funcOf x [1,2]):=B55;rw[e];exact zwd g o x.op x.a x.b x.c x.d T x rfl rfl w hx
  .exact M63
  .refine ⟨_,#[],⟨rfl,fun args w=>by kernel_rfl⟩,?_⟩;have e:Ma.goodI ncon x=(x.a==47||x.a==48):=B55;rw[e];exact zwb g o x.op x.a x.b x.c x.d T w hx
  .refine ⟨_,#[],⟨rfl,fun args w=>by kernel_rfl⟩,?_⟩;have e:Ma.goodI ncon x=((infoV x.a).1.2.1==4):=B55;rw[e];exact zrx g o x.op x.a x.b x.c x.d T w hx
  .exact M63
  .exact M63
  .refine ⟨_,#[],⟨rfl,fun args w=>by kernel_rfl⟩,?_⟩;have e:Ma.goodI ncon x=(decide ((2:Int)<=x.a)&&decide (x.a<=4)):=B90;rw[e];exact zn3 g o x.op x.a x.b x.c x.d T w hx
  .refine ⟨_,#[],⟨rfl,fun args w=>by kernel_rfl⟩,?_⟩;have e:Ma.goodI ncon x=(decide ((1:Int)<=x.a)&&decide (x.a<=2)):=B90;rw[e];exact zry g o x.op x.a x.b x.c x.d T w hx
  .refine ⟨_,#[],⟨rfl,fun args w=>by kernel_rfl⟩,?_⟩;have e:Ma.goodI ncon x=(Ma.funcOf x [6]):=B55;rw[e];exact zwa g o x.op x.a x.b x.c x.d T x rfl rfl w hx
  .refine ⟨_,#[],⟨rfl,fun args w=>by kernel_rfl⟩,?_⟩;have e:Ma.goodI ncon x=(decide (0<=x.b)):=B55;rw[e];exact good_err g o x.op x.a x.b x.c x.d T w hx
  .exact M63
  .refine ⟨_,#[],⟨rfl,fun args w=>by kernel_rfl⟩,?_⟩;have e:Ma.goodI ncon x=(x.b==0||x.b==6):=B55;rw[e];exact good_ok g o x.op x.a x.b x.c x.d T w hx
  .exact M63
  .exact M63
  .exact M63
theorem info_max:∀k:Fin 77,(infoV (k.val:Int)).2=0->((infoV (k.val:Int)).1.2.1=1\/(infoV (k.val:Int)).1.2.1=2)->0<=(infoV (k.val:Int)).1.2.2.1/\0<=(infoV (k.val:Int)).1.2.2.2/\(infoV (k.val:Int)).1.2.2.2<=1000:=B49
theorem info_min:∀k:Fin 77,(infoV (k.val:Int)).2=0->0<=(infoV (k.val:Int)).1.2.2.1:=B49
theorem zl6{a:Int}(h:(infoV a).2=0):∃k:Fin 77,a=(k.val:Int):=by
 unfold infoV at h;split at h
 .exact ⟨⟨a.toNat,B1⟩,by show a=(a.toNat:Int);omega⟩
 .cases h
theorem zwj{x:Ma.Ins}(h:Ma.funcOf x [1,2]=true):∃n:Nat,x.b=(n:Int)/\n<=1000:=by
 unfold Ma.funcOf at h;cases hc:((infoV x.a).2 !=0||decide (x.b<(infoV x.a).1.2.2.1)||(decide (0<=(infoV x.a).1.2.2.2)&&decide ((infoV x.a).1.2.2.2<x.b)))
 .rw[hc] at h;have hcls:(infoV x.a).1.2.1=1\/(infoV x.a).1.2.1=2:=B38;simp only[Bool.or_eq_false_iff,Bool.and_eq_false_iff,bne_eq_false_iff_eq,decide_eq_false_iff_not] at hc;obtain ⟨⟨h1,h2⟩,h3⟩:=hc;obtain ⟨k,hk⟩:=zl6 h1;rw[hk] at h1 h2 h3 hcls;obtain ⟨q1,q2,q3⟩:=info_max k h1 hcls;exact ⟨x.b.toNat,by omega,B1⟩
 .rw[hc] at h;cases h
theorem zwi{x:Ma.Ins}(h:Ma.funcOf x [6]=true):∃n:Nat,x.b=(n:Int):=by
 unfold Ma.funcOf at h;cases hc:((infoV x.a).2 !=0||decide (x.b<(infoV x.a).1.2.2.1)||(decide (0<=(infoV x.a).1.2.2.2)&&decide ((infoV x.a).1.2.2.2<x.b)))
 .simp only[Bool.or_eq_false_iff,Bool.and_eq_false_iff,bne_eq_false_iff_eq,decide_eq_false_iff_not] at hc;obtain ⟨⟨h1,h2⟩,h3⟩:=hc;obtain ⟨k,hk⟩:=zl6 h1;rw[hk] at h1 h2;have q1:=info_min k h1;exact ⟨x.b.toNat,B1⟩
 .rw[hc] at h;cases h
theorem zey{n lo hi:Int}(h:Ma.within n lo hi=true):lo<=n/\n<=hi:=by
 unfold Ma.within at h;simpa using h
theorem zo4(lo:Nat)(w:World)(b1:Nat)(k:Int)(cv:Value)(con:List Val.V)(hcv:ConRd w cv con)(hb1:w.heap[b1]?=some (.cells #[cv] 23 (0,0)))(sf:Value)(h:(k=1/\sf= .func (.func 41) #[] #[PT b1])\/(∃id,(k,id)∈stepTab/\sf= .func (.func id) #[] #[])\/∃asked leaves b2 b3,(k,asked,leaves)∈takesTab/\sf= .func (.func 80) #[] #[PT b2,PT b3]/\TakesAt w asked leaves b2 b3)(g o:Nat)(x:Ma.Ins)(hx:InsIs w g o x)(hk:x.op=k)(hgood:Ma.goodI con.length x=true)(htl:x.T.length<=1000000)(i:Int)(hi0:0<=i)(hi1:i<=1000000)(sv:Value)(s:List Int)(hs:Rd lo w sv s)(hsl:s.length<=1000000)(hlo:lo<=w.heap.size):
 ∃id bs,FnIs sf id bs/\Calls prog id (#[PI g o,jI i,sv]++bs) w (StepOut w lo (Ma.stepS con x i s)):=by
 obtain ⟨T,hx,hT⟩:=hx;subst hk;rcases h with ⟨hk,rfl⟩|⟨id,hid,rfl⟩|⟨asked,leaves,b2,b3,hid,rfl,h2,mv,h3,hm⟩
 .refine ⟨_,_,⟨rfl,fun args w=>by kernel_rfl⟩,?_⟩;have hg:=zey (show Ma.within x.a 0 (con.length-1)=true by simpa[Ma.goodI,hk] using hgood);obtain ⟨n,hn⟩:=Int.eq_ofNat_of_zero_le hg.1;have hlt:n<con.length:=B1;have hcn:con[n]?=some con[n]:=List.getElem?_eq_getElem hlt;rw[Ma.znb hk];have e:con.getD x.a.toNat Cal.zero=con[n]:=by rw[hn,Int.toNat_natCast,List.getD_eq_getElem?_getD,hcn];rfl
  rw[e];exact const_ok lo g o x.op x.a x.b x.c x.d T s sv i w hx hi0 hi1 hs hsl hlo b1 cv con n con[n] _ _ rfl (jg hb1) (by rw[Lib.cell_of_heap hb1];rfl) hcv hn hcn rfl
 .simp only[stepTab,List.mem_cons,Prod.mk.injEq,List.not_mem_nil,or_false] at hid;rcases hid with ⟨hk,rfl⟩|⟨hk,rfl⟩|⟨hk,rfl⟩|⟨hk,rfl⟩|⟨hk,rfl⟩|⟨hk,rfl⟩|⟨hk,rfl⟩|⟨hk,rfl⟩|⟨hk,rfl⟩|⟨hk,rfl⟩
  .refine ⟨_,#[],⟨rfl,fun args w=>by kernel_rfl⟩,?_⟩;rw[Ma.zkg hk];obtain ⟨n,hn,hnl⟩:=zwj (show Ma.funcOf x [1,2]=true by simpa[Ma.goodI,hk] using hgood);have e:x.b.toNat=n:=B1;rw[e];exact zxt lo g o x.op x.a x.b x.c x.d T s sv i w hx hi0 hi1 hs hsl hlo n hn hnl
  .refine ⟨_,#[],⟨rfl,fun args w=>by kernel_rfl⟩,?_⟩;rw[Ma.zg5 hk];have hg:=zey (show Ma.within x.a 2 4=true by simpa[Ma.goodI,hk] using hgood);exact M128
  .refine ⟨_,#[],⟨rfl,fun args w=>by kernel_rfl⟩,?_⟩;rw[Ma.zg4 hk];have hg:=zey (show Ma.within x.a 1 2=true by simpa[Ma.goodI,hk] using hgood);exact M128
  .refine ⟨_,#[],⟨rfl,fun args w=>by kernel_rfl⟩,?_⟩;rw[Ma.zg3 hk];obtain ⟨n,hn⟩:=zwi (show Ma.funcOf x [6]=true by simpa[Ma.goodI,hk] using hgood);have e:x.b.toNat=n:=B1;rw[e];cases hq:decide ((s.length:Int)<x.b)
   .have h9:=of_decide_eq_false hq;exact zsw lo g o x.op x.a x.b x.c x.d T s sv i w hx hi0 hi1 hs hsl hlo n hn hq (decide_eq_false B1) B1
   .exact zsx lo g o x.op x.a x.b x.c x.d T s sv i w hx hi0 hi1 hs hsl hlo hq
  .refine ⟨_,#[],⟨rfl,fun args w=>by kernel_rfl⟩,?_⟩;rw[Ma.zkf hk];obtain ⟨m,hm⟩:=Int.eq_ofNat_of_zero_le (show 0<=x.b by simpa[Ma.goodI,hk] using hgood);have e:(x.b+1).toNat=m+1:=B1;rw[e];cases q1:decide (s.length<1)
   .cases q2:decide ((s.length:Int)-1<x.b)
    .exact err_ok lo g o x.op x.a x.b x.c x.d T s sv i w hx hi0 hi1 hs hsl hlo m hm q1 q2
    .exact err_no lo g o x.op x.a x.b x.c x.d T s sv i w hx hi0 hi1 hs hsl hlo (.inr ⟨q1,q2⟩)
   .exact err_no lo g o x.op x.a x.b x.c x.d T s sv i w hx hi0 hi1 hs hsl hlo (.inl q1)
  .refine ⟨_,#[],⟨rfl,fun args w=>by kernel_rfl⟩,?_⟩;rw[Ma.zke hk];exact if_ok lo g o x.op x.a x.b x.c x.d T s sv i w hx hi0 hi1 hs hsl hlo
  .refine ⟨_,#[],⟨rfl,fun args w=>by kernel_rfl⟩,?_⟩;rw[Ma.zkd hk];exact ok_ok lo g o x.op x.a x.b x.c x.d T s sv i w hx hi0 hi1 hs hsl hlo
  .refine ⟨_,#[],⟨rfl,fun args w=>by kernel_rfl⟩,?_⟩;rw[Ma.zhb hk];exact zxq lo g o x.op x.a x.b x.c x.d T s sv i w hx hi0 hi1 hs hsl hlo x.T hT htl
  .refine ⟨_,#[],⟨rfl,fun args w=>by kernel_rfl⟩,?_⟩;rw[Ma.zha hk];exact match_ok lo g o x.op x.a x.b x.c x.d T s sv i w hx hi0 hi1 hs hsl hlo
  .refine ⟨_,#[],⟨rfl,fun args w=>by kernel_rfl⟩,?_⟩;rw[Ma.zkk hk];obtain ⟨sa,sc,rfl⟩:=hs.any;refine (zts g o x.op x.a x.b x.c x.d i T sa s.length sc w hx).mono ?_;rintro e w' ⟨v,rfl,⟨gg,cap,cur,rfl,h1,h2,h3⟩,hb⟩;refine ⟨hb,_,rfl,[(x.a,.slice sa s.length sc)],⟨gg,cap,cur,rfl,jR hlo h1,h2,h3⟩,rfl,fun j p q e1 e2=> ?_⟩
   match j,e1,e2 with
   |0,e1,e2=>cases e1;cases e2;exact ⟨rfl,hs.below hb⟩
 .simp only[takesTab,List.mem_cons,Prod.mk.injEq,List.not_mem_nil,or_false] at hid;rcases hid with ⟨hk,rfl,rfl⟩|⟨hk,rfl,rfl⟩|⟨hk,rfl,rfl⟩|⟨hk,rfl,rfl⟩|⟨hk,rfl,rfl⟩|⟨hk,rfl,rfl⟩|⟨hk,rfl,rfl⟩|⟨hk,rfl,rfl⟩|⟨hk,rfl,rfl⟩
  .refine ⟨_,_,⟨rfl,fun args w=>by kernel_rfl⟩,?_⟩;rw[Ma.zna hk];exact M192
  .refine ⟨_,_,⟨rfl,fun args w=>by kernel_rfl⟩,?_⟩;rw[Ma.zm9 hk];exact zc2 lo ⟨#[]⟩ [65] s (PI g o) sv mv i b2 b3 w hi0 hi1 B3 (jg h2) B51 (jg h3) B52 hm B3 hs hsl hlo
  .refine ⟨_,_,⟨rfl,fun args w=>by kernel_rfl⟩,?_⟩;rw[Ma.zki hk];exact zc2 lo ⟨#[86]⟩ [86] s (PI g o) sv mv i b2 b3 w hi0 hi1 B3 (jg h2) B51 (jg h3) B52 hm B3 hs hsl hlo
  .refine ⟨_,_,⟨rfl,fun args w=>by kernel_rfl⟩,?_⟩;rw[Ma.zkh hk];exact zc2 lo ⟨#[86,86]⟩ [86] s (PI g o) sv mv i b2 b3 w hi0 hi1 B3 (jg h2) B51 (jg h3) B52 hm B3 hs hsl hlo
  .refine ⟨_,_,⟨rfl,fun args w=>by kernel_rfl⟩,?_⟩;rw[Ma.zg9 hk];exact zc2 lo ⟨#[86]⟩ [] s (PI g o) sv mv i b2 b3 w hi0 hi1 B3 (jg h2) B51 (jg h3) B52 hm B3 hs hsl hlo
  .refine ⟨_,_,⟨rfl,fun args w=>by kernel_rfl⟩,?_⟩;rw[Ma.zkj hk];exact M192
  .refine ⟨_,_,⟨rfl,fun args w=>by kernel_rfl⟩,?_⟩;rw[Ma.zg8 hk];exact M191
  .refine ⟨_,_,⟨rfl,fun args w=>by kernel_rfl⟩,?_⟩;rw[Ma.zg7 hk];exact M191
  .refine ⟨_,_,⟨rfl,fun args w=>by kernel_rfl⟩,?_⟩;rw[Ma.zg6 hk];exact zc2 lo ⟨#[86]⟩ [65] s (PI g o) sv mv i b2 b3 w hi0 hi1 B3 (jg h2) B51 (jg h3) B52 hm B3 hs hsl hlo
section
variable{w:World}{r b1:Nat}{ks:List Int}(h:RTab w r b1 ks)(k:Int)
include w r b1 ks h k
theorem zh3(hk:k∈ks):∃x,IsRow w b1 k x/\(Instr.lookup 66 (.map (some r)) (jI k) true).run prog w= .ok (.tuple #[x,.bool true]) w/\(Instr.lookup 66 (.map (some r)) (jI k) false).run prog w= .ok x w:=by
 obtain ⟨L,h1,h2,h3⟩:=h;obtain ⟨x,L1,L2,e1,e2⟩:=zkl L k (by rw[h2];exact hk);obtain ⟨n,hn⟩:=znt L 0 0 k x ⟨L1,L2,e1,e2⟩;refine ⟨x,h3 (k,x) (by rw[e1];simp),?_,?_⟩
 all_goals
  unfold tab at h1;simp[Instr.lookup,run_underlying underlying66,MapKept.run_getObj_map h1,run_checkKey underlying3 (k:=jI k) rfl,run_findKey underlying3 hn,Result.andThen]
theorem ztx(hk:k∉ks):(Instr.lookup 66 (.map (some r)) (jI k) true).run prog w= .ok (.tuple #[.agg #[jS ⟨#[]⟩,jI 0,.nilFunc,.nilFunc],.bool false]) w:=by
 obtain ⟨L,h1,h2,h3⟩:=h;have hf:=zhh L 0 0 k (zlw h2 hk);have hz:∀w,(zeroValue 77).run prog w= .ok (.agg #[jS ⟨#[]⟩,jI 0,.nilFunc,.nilFunc]) w:=fun w=>by kernel_rfl
 unfold tab at h1;simp[Instr.lookup,run_underlying underlying66,MapKept.run_getObj_map h1,run_checkKey underlying3 (k:=jI k) rfl,run_findKey underlying3 hf,Result.andThen,hz]
end
theorem zch{w:World}{B:Nat}{nm:ByteArray}{u:Int}{gf sf:Value}(h:w.heap[B]?=some (.cells #[jS nm,jI u,gf,sf] 77 (0,0))):
 w.cell? (jA B 0)=some (jS nm)/\w.cell? (jA B 1)=some (jI u)/\w.cell? (jA B 2)=some gf/\w.cell? (jA B 3)=some sf:=by
 exact M200
end Mb
end
open Go.RowKit
namespace Ma
def letterB(b:UInt8):Bool:=(decide (65<=b.toNat)&&decide (b.toNat<=90))||(decide (97<=b.toNat)&&decide (b.toNat<=122))
def digitB(b:UInt8):Bool:=decide (48<=b.toNat)&&decide (b.toNat<=57)
def colGo:Int->List UInt8->Int×Bool
 |n,[]=>(n-1,true)
 |n,c::r=>cond (decide (702<n*26+((c.toNat:Int)-65)+1)) (0,false) (colGo (n*26+((c.toNat:Int)-65)+1) r)
structure Rf where
 row:Int
 col:Int
 pr:Bool
 pc:Bool
 n:Nat
 e:Int
def zgy(n:Nat)(e:Int):Rf:=⟨0,0,false,false,n,e⟩
def readRef(s:List UInt8):Rf:=
 let r1:=Lib.trimPrefix s [36]
 let word:=r1.takeWhile letterB
 let r2:=r1.drop word.length
 let r3:=Lib.trimPrefix r2 [36]
 let digits:=r3.takeWhile digitB
 cond (word.length==0||digits.length==0||(digits.getD 0 0).toNat==48) (zgy 0 20)
  (let bytes:=s.length-r3.length+digits.length
   let col:=colGo 0 (Lib.toUpperA word)
   match Lib.atoiAll digits with
   | .ok v=>cond (!col.2||decide (65536<v)) (zgy bytes 10) ⟨v-1,col.1,Lib.hasPrefix r2 [36],Lib.hasPrefix s [36],bytes,0⟩
   |_=>zgy bytes 10)
def zdm(a b:Rf):Ar×Int:=
 cond (a.e !=0||b.e !=0) (ar0,10)
  (let c:Ar:=⟨min a.row b.row,min a.col b.col,max a.row b.row,max a.col b.col⟩
   cond (decide (4096<(c.b-c.t+1)*(c.r-c.l+1))) (ar0,11) (c,0))
def readArea(s:List UInt8):Ar×Int:=
 let a:=readRef s
 cond (a.e==20) (ar0,20)<|
 match s.drop a.n with
 |[]=>zdm a a
 |c::r=>cond (c.toNat !=58) (ar0,20)<|cond ((readRef r).e==20||(readRef r).n !=r.length) (ar0,20) (zdm a (readRef r))
theorem zqc:∀(l:List UInt8) (n:Int),0<=n->n<=702->(∀c∈l,65<=c.toNat)->(l=[]->1<=n)->(colGo n l).2=true->0<=(colGo n l).1/\(colGo n l).1<702
 |[],n,h0,h1,_,he,_=>by have:=he rfl;unfold colGo;simp only;omega
 |c::r,n,h0,h1,hl,_,h=>by
  have hc:=hl c (.head _);unfold colGo at h ⊢;cases ht:decide (702<n*26+((c.toNat:Int)-65)+1)
  .rw[ht] at h;have ht:=of_decide_eq_false ht;exact zqc r _ B1 B1 (fun y hy=>hl y (.tail _ hy)) (fun _=>by omega) h
  .rw[ht] at h;cases h
theorem zoz(c:UInt8)(h:letterB c=true):65<=(Lib.upperB c).toNat/\(Lib.upperB c).toNat<128:=by
 have H:∀i:Fin 256,letterB (UInt8.ofNat i.val)=true->65<=(Lib.upperB (UInt8.ofNat i.val)).toNat/\(Lib.upperB (UInt8.ofNat i.val)).toNat<128:=B49;have:=H ⟨c.toNat,c.toNat_lt⟩;rw[UInt8.ofNat_toNat] at this;exact this h
theorem zbn(p:UInt8->Bool):∀(l:List UInt8),∀c∈l.takeWhile p,p c=true
 |[],c,h=>nomatch h
 |a::r,c,h=>by
  rw[List.takeWhile_cons] at h;split at h
  .rcases List.mem_cons.1 h with rfl|h
   .assumption
   .exact zbn p r c h
  .cases h
theorem zs3:∀(l:List UInt8) (acc v:Nat),Lib.parseUint10 acc l= .ok v->acc<=v
 |[],acc,v,h=>by unfold Lib.parseUint10 at h;injection h with h;omega
 |c::r,acc,v,h=>by
  unfold Lib.parseUint10 at h;split at h
  .split at h
   .cases h
   .split at h
    .cases h
    .have:=zs3 r _ v h;omega
  .cases h
theorem zev{l:List UInt8}(hd:∀c∈l,digitB c=true)(h0:l.length≠0):Lib.atoiAll l≠Lib.NumEnd.syntax/\(∀v,Lib.atoiAll l= .ok v->0<=v/\v<=9223372036854775807/\((l.getD 0 0).toNat≠48->1<=v)):=by
 cases l with
 |nil=>exact absurd rfl h0
 |cons c r=>
  have hc:=hd c (.head _);have hc:48<=c.toNat/\c.toNat<=57:=by unfold digitB at hc;simpa using hc
  have n1:¬(c.toNat=43\/c.toNat=45):=B1;have n2:¬(c.toNat=45):=B1;have hs:∀(l:List UInt8) (acc:Nat),(∀c∈l,digitB c=true)->Lib.parseUint10 acc l≠Lib.NumEnd.syntax:=by
   intro l
   induction l with
   |nil=>intro acc _ h;unfold Lib.parseUint10 at h;cases h
   |cons a r ih=>
    intro acc h;have ha:=h a (.head _);have ha:48<=a.toNat/\a.toNat<=57:=by unfold digitB at ha;simpa using ha
    unfold Lib.parseUint10;rw[if_pos ha];split
    .exact fun e=>nomatch e
    .split
     .exact fun e=>nomatch e
     .exact ih _ fun y hy=>h y (.tail _ hy)
  have hne:=hs (c::r) 0 hd;have n43:¬(c.toNat=43):=B1;have hpm:Lib.parseMag (c::r)=Lib.parseUint10 0 (c::r):=by unfold Lib.parseMag;rw[if_neg B7]
  have e:Lib.atoiAll (c::r)=(match Lib.parseUint10 0 (c::r) with
   |Lib.NumEnd.syntax=>Lib.NumEnd.syntax
   | .range=> .range
   | .ok u=>if 9223372036854775808<=u then .range else .ok (u:Int)):=by
   unfold Lib.atoiAll;simp only[n43,n2,or_self,if_false,hpm,not_false_eq_true,true_and,false_and];rfl
  rw[e];cases hp:Lib.parseUint10 0 (c::r) with
  |range=>exact ⟨nofun,fun v e=>(nomatch e)⟩
  |ok u=>
   simp only
   by_cases hu:9223372036854775808<=u
   .rw[if_pos hu];exact ⟨nofun,fun v e=>(nomatch e)⟩
   .rw[if_neg hu];refine ⟨nofun,fun v e=> ?_⟩
    injection e with e
    subst e;refine ⟨by omega,by omega,fun hne48=> ?_⟩;have hc48:c.toNat≠48:=hne48;unfold Lib.parseUint10 at hp;rw[if_pos hc] at hp;split at hp
    .cases hp
    .split at hp
     .cases hp
     .have:=zs3 r _ u hp;omega
  |_=>exact absurd hp hne
theorem zca{s:List UInt8}(h:(readRef s).e=0):mayS ⟨(readRef s).row,(readRef s).col⟩=true:=by
 unfold readRef at h ⊢;simp only at h ⊢;generalize Lib.trimPrefix s [36]=r1 at *;generalize hw:r1.takeWhile letterB=word at *;generalize Lib.trimPrefix (r1.drop word.length) [36]=r3 at *;generalize hd:r3.takeWhile digitB=digits at *;have hwa:∀c∈word,letterB c=true:=by rw[<-hw];exact zbn _ _
 have hda:∀c∈digits,digitB c=true:=by rw[<-hd];exact zbn _ _
 cases hc:(word.length==0||digits.length==0||(digits.getD 0 0).toNat==48)
 .rw[hc] at h;simp only[cond_false] at h ⊢;simp only[Bool.or_eq_false_iff,beq_eq_false_iff_ne] at hc;obtain ⟨⟨h1,h2⟩,h3⟩:=hc;have ha:=zev hda h2;cases he:Lib.atoiAll digits with
  |ok v=>
   rw[he] at h;have hv:=ha.2 v he;have hv1:=hv.2.2 h3;simp only at h ⊢;cases ht:(!(colGo 0 (Lib.toUpperA word)).2||decide (65536<v))
   .simp only[Bool.or_eq_false_iff,Bool.not_eq_false',decide_eq_false_iff_not] at ht;have:=zqc (Lib.toUpperA word) 0 B1 B1 (by
     intro c hc;unfold Lib.toUpperA at hc;obtain ⟨d,hd,rfl⟩:=List.mem_map.1 hc;exact (zoz d (hwa d hd)).1) (by
     intro e;unfold Lib.toUpperA at e;rw[List.map_eq_nil_iff] at e;rw[e] at h1;exact absurd rfl h1) ht.1
    exact zdl B65
   .rw[ht] at h;cases h
  |_=>rw[he] at h;cases h
 .rw[hc] at h;cases h
theorem zpr{a b:Rf}(ha:a.e=0->mayS ⟨a.row,a.col⟩=true)(hb:b.e=0->mayS ⟨b.row,b.col⟩=true)(h:(zdm a b).2=0):(sizeA (zdm a b).1).2=0:=by
 unfold zdm at h ⊢;cases hc:(a.e !=0||b.e !=0)
 .rw[hc] at h;simp only[cond_false] at h ⊢;simp only[Bool.or_eq_false_iff,bne_eq_false_iff_eq] at hc;have h1:=ha hc.1;have h2:=hb hc.2;simp only[mayS,Bool.and_eq_true,decide_eq_true_eq] at h1 h2;cases ht:decide (4096<(max a.row b.row-min a.row b.row+1)*(max a.col b.col-min a.col b.col+1))
  .have ht:=of_decide_eq_false ht;simp only[cond_false];have hm:mayA ⟨min a.row b.row,min a.col b.col,max a.row b.row,max a.col b.col⟩=true:=by
    unfold mayA;rw[zdl B183,zdl B183];simp only[Bool.true_and,Bool.and_eq_true,decide_eq_true_eq];omega
   unfold sizeA;rw[hm];have:decide (places ⟨min a.row b.row,min a.col b.col,max a.row b.row,max a.col b.col⟩<=4096)=true:=decide_eq_true (Int.not_lt.1 ht);rw[this];rfl
  .rw[ht] at h;cases h
 .rw[hc] at h;cases h
theorem znj(s:List UInt8)(h:(readArea s).2=0):(sizeA (readArea s).1).2=0:=by
 unfold readArea at h ⊢;simp only at h ⊢;cases h1:((readRef s).e==20)
 .rw[h1] at h;simp only[cond_false] at h ⊢;cases hs:s.drop (readRef s).n with
  |nil=>rw[hs] at h;exact zpr zca zca h
  |cons c r=>
   rw[hs] at h;simp only at h ⊢;cases h2:(c.toNat !=58)
   .rw[h2] at h;cases h3:((readRef r).e==20||(readRef r).n !=r.length)
    .rw[h3] at h;exact zpr zca zca h
    .rw[h3] at h;cases h
   .rw[h2] at h;cases h
 .rw[h1] at h;cases h
open Cal
def Bp68(h:jp:=by exact zpc (zcz _)):=h
theorem zcz(n:Int):Fit (Ref.fitV n):=by
 unfold Ref.fitV
 by_cases h:PowG.Fits n
 .rw[if_pos h];exact h
 .rw[if_neg h];exact fit0
theorem zbf{c:Bool}{a b:Val.V}(h:okV a)(k:okV b):okV (cond c a b):=B146
theorem zco{n x:Int}(h:Fit n):okV (told n x):=zbf (za9 h) (zbf (zat B3 B3) (zat B3 B3))
theorem zpc{n:Int}{b:Bool}(h:Fit n):okV (Cal.fits n b):=zbf (za9 h) (zat B3 B3)
theorem zbx(s:ByteArray)(x:Int):okV (spelt s x):=by
 unfold spelt;cases h:(x==0&&decide (s.size<=32767))
 .exact zat B3 B3
 .simp only[Bool.and_eq_true,decide_eq_true_eq] at h;exact zur h.2
theorem modV_fit{x y:Int}(hx:Fit x)(hy:Fit y):Fit (Cal.modV x y).1:=by
 unfold Cal.modV
 by_cases h0:y=0
 .rw[if_pos h0];exact fit0
 .rw[if_neg h0];have h1:(x.tmod y).natAbs<y.natAbs:=by
   rw[Int.natAbs_tmod];exact Nat.mod_lt _ B1
  obtain ⟨y1,y2⟩:=hy;show Fit (Div.modV x y);unfold Div.modV;split
  .rename_i h2
   have h3:(x.tmod y<0/\¬y<0)\/(¬x.tmod y<0/\y<0):=by
    by_cases a:x.tmod y<0 <;> by_cases b:y<0 <;> simp[a,b] at h2 ⊢
   constructor <;> omega
  .constructor <;> omega
theorem zkp(x y:Int):Fit (Cal.quoV x y).1:=by
 unfold Cal.quoV;split
 .exact fit0
 .exact zcz _
theorem zo7(x y:Int):Fit (Cal.powV x y).1:=by
 unfold Cal.powV;split
 .exact fit0
 .exact zcz _
theorem lcmV_fit(x y:Int):Fit (Cal.lcmV x y).1:=by
 unfold Cal.lcmV;split
 .exact fit0
 .exact zcz _
theorem okV_un(op:Int){v:Val.V}(h:okV v):okV (Cal.un op v):=by
 unfold Cal.un;have hn:=h.number;split
 .exact zat B3 B3
 .cases hc:(Val.number v).2 !=0
  .simp only[cond_false];exact zbf Bp68 (zbf (zco (zkp _ _)) (za9 hn.1))
  .have:(Val.number v).2≠0:=by simpa using hc
   exact zat B1 B1
theorem zut(op a b:Int):okV (Cal.arith op a b):=
 zbf (zco (zo7 _ _)) (zbf Bp68 (zbf (zco (zkp _ _)) (zbf Bp68 Bp68)))
theorem okV_bin(op:Int){v u:Val.V}(h:okV v)(k:okV u):okV (Cal.bin op v u):=by
 unfold Cal.bin;split
 .exact zat B3 B3
 .rw[h.good,k.good];refine zbf h (zbf k ?_);unfold Cal.two;have hn:=h.number.2;have kn:=k.number.2;refine zbf (zbx _ _) (zbf (zc4 _) ?_);cases hc:(Val.number v).2 !=0
  .cases kc:(Val.number u).2 !=0
   .exact zut _ _ _
   .have:(Val.number u).2≠0:=by simpa using kc
    exact zat B1 B1
  .have:(Val.number v).2≠0:=by simpa using hc
   exact zat B1 B1
structure InF(I:Cal.In):Prop where
 ns:∀n∈I.ns,Fit n
 v:Fit I.v.n
 ok:InOK I
theorem zv6{v:Val.V}{I:Cal.In}{c:UInt8}(hv:okV v)(h:InF I):InF (zf8 c v I).2:=by
 refine ⟨?_,?_,zjr hv.may hv.vb c h.ok⟩
 all_goals
  unfold zf8;cases c.toNat==110
  .cases c.toNat==116
   .cases c.toNat==98
    .first|exact h.ns|exact hv.fit
    .first|exact h.ns|exact h.v
   .first|exact h.ns|exact h.v
  .first
    |exact h.v
    |(intro n hn
      rcases List.mem_append.1 hn with hn|hn
      .exact h.ns n hn
      .rw[List.mem_singleton.1 hn];exact hv.number.1)
theorem inF_at(s:ByteArray)(v:Nat->Val.V):∀n,(∀k,k<n->okV (v k))->InF (inAt s v n)
 |0,_=> ⟨fun _ h=>(nomatch h),fit0,zv7 s v 0 fun k hk=>by omega⟩
 |n+1,h=>zv6 (h n B1) (inF_at s v n fun k hk=>h k B1)
theorem code_err{s:ByteArray}{v:Nat->Val.V}{k:Nat}(h:okV (v k)):codeAt s v k=0\/1<=codeAt s v k/\codeAt s v k<=6:=by
 unfold codeAt zf8;cases (s.data.toList.getD k 0).toNat==110
 .cases (s.data.toList.getD k 0).toNat==116
  .cases (s.data.toList.getD k 0).toNat==98
   .exact .inl rfl
   .exact h.truth
  .exact h.asText.2
 .exact h.number.2
theorem nA_fit{I:Cal.In}(h:InF I)(i:Nat):Fit (nA I i):=by
 unfold nA;rw[List.getD_eq_getElem?_getD];cases hi:I.ns[i]? with
 |none=>exact fit0
 |some a=>exact h.ns a (List.mem_of_getElem? hi)
theorem zp9(what s:ByteArray):∀(n k:Nat),0<=(zgz what s k n).1/\(zgz what s k n).1<=(k:Int)+n+1
 |0,k=>by
  unfold zgz;cases Has what s k
  .exact ⟨Int.le_refl 0,by show (0:Int)<=_;omega⟩
  .exact ⟨by show (0:Int)<=(k:Int)+1;omega,by show (k:Int)+1<=_;omega⟩
 |n+1,k=>by
  unfold zgz;have ih:=zp9 what s n (k+1);cases Has what s k
  .simp only[cond_false];omega
  .exact ⟨by show (0:Int)<=(k:Int)+1;omega,by show (k:Int)+1<=_;omega⟩
theorem tA_le{I:Cal.In}(h:InF I)(i:Nat):(tA I i).size<=32767:=zti h.ok i
theorem zqd(s:ByteArray):Run.cnt s 0<=s.size:=Run.zbt s
theorem zhr(n:Int):Fit (IntKind.i64.wrap n):=by
 unfold Fit;exact M139
theorem zq4(s:ByteArray):(Utf8.decode s 0).1<=1114111:=by
 rw[Lib.decode_N];exact Lib.decodeN_rune_le _ _ _ _ _ (UInt8.toNat_lt _)
theorem work_fit(f:Nat){I:Cal.In}(h:InF I):Fit (work f I).n:=by
 have z0:=tA_le h 0;have z1:=tA_le h 1;have fn:=nA_fit h;have b2:=(zat (e:=2) B3 B3).fit;have b4:=(zat (e:=4) B3 B3).fit;have fc:∀{c:Bool} {a b:Val.V},Fit a.n->Fit b.n->Fit (cond c a b).n:=fun {c} _ _ h k=>by cases c <;> assumption
 have hcnt:=zqd (tA I 0);have hcnt1:=zqd (tA I 1);unfold work;split
 .exact fc (zpc (zcz _)).fit (fn 0)
 .show Fit (signV _);unfold signV;split
  .exact zay B3 B3
  .split
   .exact zay B3 B3
   .exact fit0
 .exact (zco (modV_fit (fn 0) (fn 1))).fit
 .exact (zco (zkp _ _)).fit
 .exact (zco (zo7 _ _)).fit
 .exact (zco (zcz _)).fit
 .exact (zco (lcmV_fit _ _)).fit
 .split
  .exact b2
  .have:=zqa (nA I 0).toNat B1;show Fit (fct _);constructor <;> omega
 .exact (zc4 _).fit
 .exact (zc4 _).fit
 .exact fc b2 (zhr _)
 .exact fc b2 (zhr _)
 .exact fc b2 (zhr _)
 .exact (zc4 _).fit
 .split
  .exact b2
  .have h0:=fn 0;have h1:=fn 1;have h2:=fn 2;show Fit (max _ (min _ _));unfold Fit at *;omega
 .show Fit (lenV _);unfold lenV;exact zay B1 B1
 .exact (zbx _ _).fit
 .exact (zbx _ _).fit
 .exact (zbx _ _).fit
 .exact fit0
 .exact fit0
 .exact fit0
 .exact fit0
 .refine fc ?_ b4;show Fit (findV _ _ _).1;unfold findV;split
  .exact fit0
  .rename_i hf
   have:=zp9 (tA I 0) (tA I 1) (Run.cnt (tA I 1) 0+1-(orA I).toNat) ((orA I).toNat-1);exact zay B1 B1
 .exact (zbx _ _).fit
 .unfold replV;split
  .exact b4
  .exact (zbx _ _).fit
 .exact (zbx _ _).fit
 .exact (zc4 _).fit
 .refine fc ?_ b4;show Fit (zg0 _).1;unfold zg0;split
  .have:=zq4 (tA I 0);exact zay (by show (_:Int)<=((Utf8.decode (tA I 0) 0).1:Nat);omega) (by show (((Utf8.decode (tA I 0) 0).1:Nat):Int)<=_;omega)
  .exact fit0
 .exact (zbx _ _).fit
 .exact fn 0
 .exact fit0
 .exact fc h.v fit0
 .exact fc h.v fit0
 .exact (zat (e:=6) B3 B3).fit
theorem zus(f:Int)(n:Nat)(v:Nat->Val.V)(h:∀k,k<n->okV (v k)):okV (Cal.callM f n v).1:=by
 unfold Cal.callM;split
 .exact zd2
 .split
  .cases Val.mayB (v 0)
   .exact zd2
   .exact zc4 _
  .have hI:=inF_at (how f.toNat) v n h;unfold zeu;rcases first_or (fun k=> !Val.mayB (v k)) n with ⟨k,hk,hm,e,_⟩|⟨e,_⟩
   .have:=(h k hk).may;rw[this] at hm;cases hm
   .rw[e];rcases first_or (fun k=>(v k).k==4) n with ⟨k,hk,_,e,_⟩|⟨e,_⟩
    .rw[e];exact h k hk
    .rw[e];rcases first_or (fun k=>codeAt (how f.toNat) v k !=0) n with ⟨k,hk,hm,e,_⟩|⟨e,_⟩
     .rw[e];have h1:codeAt (how f.toNat) v k≠0:=B200;have:=code_err (s:=how f.toNat) (h k hk);exact zat B1 B1
     .rw[e];exact ⟨(zss _ hI.ok).1,work_fit _ hI⟩
