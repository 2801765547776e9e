import Derived.Test.YtoffmfgaohjjpaaGreatDoorQ12
import Derived.Test.YtoffmfgaohjjpaaGreatDoorQ01
import Derived.Test.YtoffmfgaohjjpaaGreatDoorQ02
set_option linter.unusedVariables false
set_option linter.unusedSectionVars false
set_option linter.unusedSimpArgs false
open Go.Proofs.Tryz
set_option maxHeartbeats 8000000
variable{jp:Sort _}
set_option maxRecDepth 100000
namespace Go.Proofs.YtoffmfgaohjjpaaGreatDoor
open Go.RowKit
def X60.K11(h:jp:=by
 obtain ⟨x0,x1,x2⟩:=zaa hx;obtain ⟨y0,y1,y2⟩:=zaa hy;obtain ⟨f0,f1,f2⟩:=zab hy;clear hx hy hb1;go_wp2;refine jX (.agg #[jI k,jI n,jS t]) ?_ ⟨rfl,set3 hs B7⟩;simp[results,results125,go_sem,y0,y1,y2]):=h
def Va47.Ja18(h:jp:=by
 go_wp2;refine jX (.agg #[jI 4,jI 4,jS ⟨#[]⟩]) ?_ ⟨rfl,set3 hs B7⟩;simp[results,results125,go_sem,y0,y1,y2]):=h
def V34.J12(h:jp:=by
 refine jM (zar 4 _) ?_
 open Va47 in exact Da18):=h
theorem zis(v:Val.V)(w:World):Ret 125 #[vv v] w (vv (Val.good v)):=by
 have HM:=jH (fun w=>zbm v w);unfold Val.good;cases hm:Val.mayB v with
 |true=>
  rw[hm] at HM;clear hm;obtain ⟨k,n,t⟩:=v;show Ret 125 #[.agg #[jI k,jI n,jS t]] w (.agg #[jI k,jI n,jS t]);replace HM:Hid (∀w,Ret 11 #[.agg #[jI k,jI n,jS t]] w (.bool true)):=HM;go_enter func125,ntmps125
  open X60 in exact C11
 |false=>
  rw[hm] at HM;clear hm;obtain ⟨k,n,t⟩:=v;show Ret 125 #[.agg #[jI k,jI n,jS t]] w (.agg #[jI 4,jI 4,jS ⟨#[]⟩]);replace HM:Hid (∀w,Ret 11 #[.agg #[jI k,jI n,jS t]] w (.bool false)):=HM;go_enter func125,ntmps125
  open V34 in exact D12
namespace Cal
def un(op:Int)(v:Val.V):Val.V:=
 if op<1\/3<op then bad 4 else
 cond ((Val.number v).2 !=0) (bad (Val.number v).2)<|cond (op==1) (fits (Ref.fitV (0-(Val.number v).1)) (Ref.fitB (0-(Val.number v).1)))<|
 cond (op==3) (told (quoV (Val.number v).1 100).1 (quoV (Val.number v).1 100).2) (num (Val.number v).1)
def arith(op a b:Int):Val.V:=
 cond (op==1) (told (powV a b).1 (powV a b).2)<|cond (op==2) (fits (Ref.fitV (a*b)) (Ref.fitB (a*b)))<|cond (op==3) (told (quoV a b).1 (quoV a b).2)<|
 cond (op==4) (fits (Ref.fitV (a+b)) (Ref.fitB (a+b))) (fits (Ref.fitV (a-b)) (Ref.fitB (a-b)))
def two(op:Int)(x y:Val.V):Val.V:=
 cond (op==6) (spelt ((Val.asText x).1++(Val.asText y).1) 0)<|cond (decide (7<=op)) (tru (zne op (Val.cmpG (Val.good x) (Val.good y))))<|
 cond ((Val.number x).2 !=0) (bad (Val.number x).2)<|cond ((Val.number y).2 !=0) (bad (Val.number y).2) (arith op (Val.number x).1 (Val.number y).1)
def bin(op:Int)(x y:Val.V):Val.V:=
 if op<1\/12<op then bad 4 else cond ((Val.good x).k==4) (Val.good x)<|cond ((Val.good y).k==4) (Val.good y) (two op (Val.good x) (Val.good y))
end Cal
def B63(h:jp:=by simp[results,results70,go_sem,y0,y1,y2]):=h
def C30(h:jp:=by
 clear HG0 HN0;go_enter func70,ntmps70;go_wp2_with fail;refine jM (HG.out _) ?_;intro w1 hb1;obtain ⟨hb,hx,hy,hl⟩:=zhv hb1;clear hb1;go_wp2_with fail;refine jM (HN.out _ hb) ?_;intro w2 hb2;replace hb:=jN hb hb2;replace hx:=(hb2.block _ B1).trans hx;replace hy:=(hb2.block _ hl).trans hy;replace hl:=jL hl hb2.size;clear hb2;go_wp2_with fail;refine jM (HE.out _) ?_;intro w3 hb3;have hs:Below w.heap.size w w3:=jN hb hb3;have hz:=(hb3.block _ hl).trans hy;obtain ⟨y0,y1,y2⟩:=zaa hz;obtain ⟨g0,g1,g2⟩:=zab hz;clear hz;exact K30):=h
def X137.K30(h:jp:=by
 go_wp2;exact jX (.agg #[jI 4,jI c,jS ⟨#[]⟩]) B63 ⟨rfl,set3 hs B7⟩):=h
def M47(h:jp:=by
 have HG:=jH HG0;have HN:=jH HN0;have HE:=jH (fun w=>HF w);have HS:=jH HS0;clear HG0 HN0 HS0 HF;go_enter func70,ntmps70;go_wp2_with fail;refine jM (HG.out _) ?_;intro w1 hb1;obtain ⟨hb,hx,hy,hl⟩:=zhv hb1;clear hb1;go_wp2_with fail;refine jM (HN.out _ hb) ?_;intro w2 hb2;replace hb:=jN hb hb2;replace hx:=(hb2.block _ B1).trans hx;replace hy:=(hb2.block _ hl).trans hy;replace hl:=jL hl hb2.size;clear hb2;go_wp2_with fail;refine jM (HS.out _) ?_;intro w4 hb4;replace hb:=jN hb hb4;replace hx:=(hb4.block _ B1).trans hx;replace hy:=(hb4.block _ hl).trans hy;replace hl:=jL hl hb4.size;clear hb4;go_wp2_with fail;refine jM (HE.out _) ?_;intro w3 hb3;have hs:Below w.heap.size w w3:=jN hb hb3;have hz:=(hb3.block _ hl).trans hy;obtain ⟨y0,y1,y2⟩:=zaa hz;obtain ⟨g0,g1,g2⟩:=zab hz;clear hz;go_wp2;exact jX (.agg #[jI ck,jI cn,jS ct]) B63 ⟨rfl,set3 hs B7⟩):=h
def X138.K30(h:jp:=by
 go_wp2;exact jX (.agg #[jI 1,jI a,jS ⟨#[]⟩]) B63 ⟨rfl,set3 hs B7⟩):=h
def B205(h:jp:=by simpa using he):=h
def M195(h:jp:=by
 by_cases h1:op<1
 .exact .inl (decide_eq_true h1)
 .exact .inr ⟨decide_eq_false h1,decide_eq_true B1⟩):=h
theorem zwc(v:Val.V):Val.good (Val.good v)=Val.good v:=by
 have h:=Val.zpz v;generalize Val.good v=g at *;unfold Val.good;rw[h];rfl
theorem zno(v:Val.V):Val.number (Val.good v)=Val.number v:=by unfold Val.number;rw[zwc]
theorem zt3(l:List UInt8):I64 (Dec.readS l).1:=by
 by_cases h:Dec.isForm l=true
 .rw[Ref.read_near h];exact Cal.fitV_in _
 .rw[Ref.read_not B38];exact ⟨by decide,B3⟩
theorem zam{v:Val.V}(h:VB v):I64 (Val.number v).1:=by
 have hg:=h.good;unfold Val.number;generalize Val.good v=g at *;unfold Val.numG;have z:I64 0:=⟨by decide,B3⟩;cases g.k==3 with
 |true=>
  cases (Dec.readS g.t.data.toList).2==0 with
  |true=>exact zt3 _
  |false=>exact z
 |false=>
  cases g.k==4 with
  |true=>exact z
  |false=>exact ⟨hg.n0,hg.n1⟩
theorem zhv{w w1:World}{k n:Int}{t:ByteArray}{T:TypeId}(hb:Below ((w.alloc (.cells #[jI k,jI n,jS t] T)).alloc (.cells #[jI 0,jI 0,jS ⟨#[]⟩] T)).heap.size ((w.alloc (.cells #[jI k,jI n,jS t] T)).alloc (.cells #[jI 0,jI 0,jS ⟨#[]⟩] T)) w1):
 Below w.heap.size w w1/\w1.heap[w.heap.size]?=some (.cells #[jI k,jI n,jS t] T (0,0))/\w1.heap[w.heap.size+1]?=some (.cells #[jI 0,jI 0,jS ⟨#[]⟩] T (0,0))/\w.heap.size+1<w1.heap.size:=by
 refine ⟨((jB.alloc (Nat.le_refl w.heap.size) _).alloc B7 _).trans (hb.mono B14),?_,?_,?_⟩
 .exact (hb.block _ B14).trans ((heap_alloc_old _ _ B7).trans Bp4)
 .refine (hb.block _ B7).trans ?_;rw[show w.heap.size+1=(w.alloc (Obj.cells #[jI k,jI n,jS t] T)).heap.size by simp];exact heap_alloc_new _ _
 .have:=hb.size;simp at this;omega
theorem un_out(op k n:Int)(t:ByteArray)(w:World)(h:(decide (op<1)=true)\/(decide (op<1)=false/\decide (3<op)=true)):Ret 70 #[jI op,.agg #[jI k,jI n,jS t]] w (.agg #[jI 4,jI 4,jS ⟨#[]⟩]):=by
 have HE:=jH (fun w=>zar 4 w);rcases h with h1|⟨h1,h2⟩
 all_goals
  go_enter func70,ntmps70;go_wp2_with fail;refine jM (HE.out _) ?_;intro w3 hb3;obtain ⟨hs,hx,hy,hl⟩:=zhv hb3;obtain ⟨y0,y1,y2⟩:=zaa hy;obtain ⟨g0,g1,g2⟩:=zab hy;clear hy hx hl hb3;go_wp2;exact jX (.agg #[jI 4,jI 4,jS ⟨#[]⟩]) B63 ⟨rfl,set3 hs B7⟩
theorem un_err(op k n gk gn:Int)(t gt:ByteArray)(a c:Int)(w:World)(HG0:∀w,Ret 125 #[.agg #[jI k,jI n,jS t]] w (.agg #[jI gk,jI gn,jS gt]))(HN0:∀w',Below w.heap.size w w'->Calls prog 68 #[.agg #[jI gk,jI gn,jS gt]] w' fun e w''=>e=jr (.tuple #[jI a,jI c])/\Below w'.heap.size w' w'')(t1:decide (op<1)=false)(t2:decide (3<op)=false)(tc:(c !=0)=true):Ret 70 #[jI op,.agg #[jI k,jI n,jS t]] w (.agg #[jI 4,jI c,jS ⟨#[]⟩]):=by
 have HG:=jH HG0;have HN:=jH HN0;have HE:=jH (fun w=>zar c w)
 open X137 in exact C30
section
variable(k n gk gn:Int)(t gt:ByteArray)
include k n gk gn t gt
theorem un_1(a u:Int)(b:Bool)(ck cn:Int)(ct:ByteArray)(w:World)(HG0:∀w,Ret 125 #[.agg #[jI k,jI n,jS t]] w (.agg #[jI gk,jI gn,jS gt]))(HN0:∀w',Below w.heap.size w w'->Calls prog 68 #[.agg #[jI gk,jI gn,jS gt]] w' fun e w''=>e=jr (.tuple #[jI a,jI 0])/\Below w'.heap.size w' w'')(HS0:∀w,Ret 127 #[jI 0,jI a] w (.tuple #[jI u,.bool b]))(HF:∀w,Ret 126 #[jI u,.bool b] w (.agg #[jI ck,jI cn,jS ct])):Ret 70 #[jI 1,.agg #[jI k,jI n,jS t]] w (.agg #[jI ck,jI cn,jS ct]):=by
 exact M47
theorem un_3(a u z:Int)(ck cn:Int)(ct:ByteArray)(w:World)(HG0:∀w,Ret 125 #[.agg #[jI k,jI n,jS t]] w (.agg #[jI gk,jI gn,jS gt]))(HN0:∀w',Below w.heap.size w w'->Calls prog 68 #[.agg #[jI gk,jI gn,jS gt]] w' fun e w''=>e=jr (.tuple #[jI a,jI 0])/\Below w'.heap.size w' w'')(HS0:∀w,Ret 129 #[jI a,jI 100] w (.tuple #[jI u,jI z]))(HF:∀w,Ret 128 #[jI u,jI z] w (.agg #[jI ck,jI cn,jS ct])):Ret 70 #[jI 3,.agg #[jI k,jI n,jS t]] w (.agg #[jI ck,jI cn,jS ct]):=by
 exact M47
theorem un_2(a:Int)(w:World)(HG0:∀w,Ret 125 #[.agg #[jI k,jI n,jS t]] w (.agg #[jI gk,jI gn,jS gt]))(HN0:∀w',Below w.heap.size w w'->Calls prog 68 #[.agg #[jI gk,jI gn,jS gt]] w' fun e w''=>e=jr (.tuple #[jI a,jI 0])/\Below w'.heap.size w' w''):Ret 70 #[jI 2,.agg #[jI k,jI n,jS t]] w (.agg #[jI 1,jI a,jS ⟨#[]⟩]):=by
 have HG:=jH HG0;have HN:=jH HN0;have HE:=jH (fun w=>zda a w)
 open X138 in exact C30
end
theorem un_any(op:Int)(v:Val.V)(w:World)(hv:VB v)(hN:NumW w):Ret 70 #[jI op,vv v] w (vv (Cal.un op v)):=by
 have HG:=fun w=>zis v w;have HN:=fun (w':World) (h:Below w.heap.size w w')=>za8 (Val.good v) w' hv.good (hN.below h);rw[zno] at HN;have hi:=zam hv;unfold Cal.un
 by_cases h:op<1\/3<op
 .rw[if_pos h];refine un_out op _ _ _ w ?_;exact M195
 .rw[if_neg h];cases he:((Val.number v).2 !=0) with
  |true=>exact un_err op _ _ _ _ _ _ _ _ w HG HN (decide_eq_false B1) (decide_eq_false B1) he
  |false=>
   have he0:(Val.number v).2=0:=B205;rw[he0] at HN;generalize (Val.number v).1=a at *;obtain rfl|rfl|rfl:op=1\/op=2\/op=3:=B1
   .exact un_1 _ _ _ _ _ _ a _ _ _ _ _ w HG HN (csub 0 a ⟨by decide,B3⟩ hi) (fun w=>cfits_any _ _ w)
   .exact un_2 _ _ _ _ _ _ a w HG HN
   .exact un_3 _ _ _ _ _ _ a _ _ _ _ _ w HG HN (cquo a 100 hi ⟨by decide,B3⟩) (fun w=>zfk _ _ w)
namespace Cal
structure In where
 ns:List Int
 ts:List ByteArray
 b:Bool
 v:Val.V
def in0:In:=⟨[],[],false,⟨0,0,⟨#[]⟩⟩⟩
def zf8(c:UInt8)(v:Val.V)(I:In):Int×In:=
 cond (c.toNat==110) ((Val.number v).2,⟨I.ns++ [(Val.number v).1],I.ts,I.b,I.v⟩)<|cond (c.toNat==116) ((Val.asText v).2,⟨I.ns,I.ts++ [(Val.asText v).1],I.b,I.v⟩)<|
 cond (c.toNat==98) ((Val.truth v).2,⟨I.ns,I.ts,(Val.truth v).1,I.v⟩) (0,⟨I.ns,I.ts,I.b,v⟩)
def inAt(s:ByteArray)(v:Nat->Val.V):Nat->In
 |0=>in0
 |k+1=>(zf8 (s.data.toList.getD k 0) (v k) (inAt s v k)).2
def codeAt(s:ByteArray)(v:Nat->Val.V)(k:Nat):Int:=(zf8 (s.data.toList.getD k 0) (v k) (inAt s v k)).1
theorem zk0(s:ByteArray)(v:Nat->Val.V):∀k,(inAt s v k).ns.length<=k/\(inAt s v k).ts.length<=k
 |0=> ⟨jE,jE⟩
 |k+1=>by
  have ih:=zk0 s v k;show (zf8 (s.data.toList.getD k 0) (v k) (inAt s v k)).2.ns.length<=k+1/\(zf8 (s.data.toList.getD k 0) (v k) (inAt s v k)).2.ts.length<=k+1;unfold zf8;generalize inAt s v k=I at *;cases (s.data.toList.getD k 0).toNat==110 <;> cases (s.data.toList.getD k 0).toNat==116 <;> cases (s.data.toList.getD k 0).toNat==98 <;> simp <;> omega
end Cal
theorem zx1{k:Int}{s:ByteArray}{f g T:Nat}(h:(k,s,f,g,T)∈boxTab):T=158\/T=204\/T=211:=by
 simp[boxTab] at h;omega
theorem isRow.same{w w':World}{k:Int}{x:Value}(h:isRow w k x)(hs:∀(b:Nat) (c:Array Value) (T:Nat),(T=158\/T=204\/T=211)->w.heap[b]?=some (.cells c T (0,0))->w'.heap[b]?=w.heap[b]?):isRow w' k x:=by
 rcases h with ⟨s,f,h,rfl⟩|⟨s,f,g,T,b,h,hb,rfl⟩
 .exact .p k s f h
 .exact .b k s f g T b h ((hs b _ T (zx1 h) hb).trans hb)
structure L3(w wr:World)(f:Int)(s:ByteArray)(fn:Value)(B12 B13:Nat)(nsv tsv:Value)(I:Cal.In):Prop where
 b:Below w.heap.size w wr
 z:wr.heap[w.heap.size]?=some (.cells #[jI 0,jI 0,jS ⟨#[]⟩] 41 (0,0))
 x:wr.heap[B12]?=some (.cells #[jS s,fn] 165 (0,0))
 a:wr.heap[B13]?=some (.cells #[nsv,tsv,.bool I.b,jI I.v.k,jI I.v.n,jS I.v.t] 171 (0,0))
 r:isRow wr f (.agg #[jS s,fn])
 n:wr.ownsRow w.heap.size 2 1 nsv I.ns.length (I.ns.map (.int .i64))
 t:wr.ownsRow w.heap.size 9 1 tsv I.ts.length (I.ts.map .string)
 l2:w.heap.size<B12
 l3:w.heap.size<B13
section
variable {w wr w':World} {f:Int} {s:ByteArray} {fn:Value} {B12 B13:Nat} {nsv tsv:Value} {I:Cal.In}
def M169(h:jp:=by
 simp only[Option.some.injEq,Obj.cells.injEq] at hb;exact he hb.2.1.symm):=h
def B128(h:jp:=by have:=h.l3;show w.heap.size<=B13;omega):=h
def C46(h:jp:=by
 have h13:=kept h.a B3;have ne5:∀{b:Nat} {c:Array Value} {e:Nat},w5.heap[b]?=some (.cells c e (0,0))->e≠171->b≠B13:=fun {b c e} hb he eb=>by
  rw[eb,h13,h.a] at hb;exact M169
 exact K46):=h
def X175.K46(h:jp:=by
 have hb5:Below w.heap.size w w5:=(h.b.alloc h.b.size o).grown hgrow (by have:=h.b.size;simp;omega) (fun j hj=>((h.n.alloc o).lt j hj).1);refine ⟨h13,h.set (hb5.setCell (p:=(jA B13 0)) B128 _) (fun b hb13 e c he hb=>(set_other _ hb13).trans (kept hb (by rcases he with rfl|rfl|rfl|rfl|rfl <;> decide))) ?_ ?_ ?_⟩
 .exact heap_setCell_same w5 B13 0 _ 171 v' (h13.trans h.a)
 .have:=(za2 hown fun b c hb=>set_other v' (ne5 hb B3):(w5.setCell (jA B13 0) v').ownsRow _ _ _ _ _ _);simpa using this
 .exact za2 h.t fun b c hb=>(set_other _ (h.ne13 hb B3)).trans (kept hb B3)):=h
def X176.K46(h:jp:=by
 have hb5:Below w.heap.size w w5:=(h.b.alloc h.b.size o).grown hgrow (by have:=h.b.size;simp;omega) (fun j hj=>((h.t.alloc o).lt j hj).1);refine ⟨h13,h.set (hb5.setCell (p:=(jA B13 1)) B128 _) (fun b hb13 e c he hb=>(set_other _ hb13).trans (kept hb (by rcases he with rfl|rfl|rfl|rfl|rfl <;> decide))) ?_ ?_ ?_⟩
 .exact heap_setCell_same w5 B13 1 _ 171 v' (h13.trans h.a)
 .exact za2 h.n fun b c hb=>(set_other _ (h.ne13 hb B3)).trans (kept hb B3)
 .have:=(za2 hown fun b c hb=>set_other v' (ne5 hb B3):(w5.setCell (jA B13 1) v').ownsRow _ _ _ _ _ _);simpa using this):=h
def B165(h:jp:=by show w.heap.size<=B13;omega):=h
section
variable{base:Nat}{e:TypeId}{size:Nat}{v:Value}{n:Nat}{xs:List Value}(h:wr.ownsRow base e size v n xs)
include base e size v n xs h
theorem ze8(hb:Below wr.heap.size wr w'):w'.ownsRow base e size v n xs:=by
 obtain ⟨h1,h2⟩:=h;refine ⟨h1,?_⟩;rcases h2 with h2|⟨g,cap,cur,h3,h4,h5,h6⟩
 .exact .inl h2
 .exact .inr ⟨g,cap,cur,h3,h4,jk hb h5,h6⟩
theorem za2(hs:∀(b:Nat) (c:Array Value),wr.heap[b]?=some (.cells c e (0,0))->w'.heap[b]?=wr.heap[b]?):w'.ownsRow base e size v n xs:=by
 obtain ⟨h1,h2⟩:=h;refine ⟨h1,?_⟩;rcases h2 with h2|⟨g,cap,cur,h3,h4,h5,h6⟩
 .exact .inl h2
 .exact .inr ⟨g,cap,cur,h3,h4,(hs _ _ h5).trans h5,h6⟩
end
section
variable(h:L3 w wr f s fn B12 B13 nsv tsv I)
include h
theorem L3.call(hb:Below wr.heap.size wr w'):L3 w w' f s fn B12 B13 nsv tsv I:=by
 have lt:∀{i:Nat} {o:Obj},wr.heap[i]?=some o->w'.heap[i]?=some o:=fun h=>jk hb h;exact ⟨jN h.b hb,lt h.z,lt h.x,lt h.a,h.r.same fun b c T _ h2=>hb.block _ (jg h2),ze8 h.n hb,ze8 h.t hb,h.l2,h.l3⟩
theorem L3.alloc(o:Obj):L3 w (wr.alloc o) f s fn B12 B13 nsv tsv I:=h.call (jB.alloc jE o)
theorem L3.set{nsv' tsv':Value}{I':Cal.In}(hb:Below w.heap.size w w')(ho:∀(b:Nat),b≠B13->(∀(e:Nat) (c:Array Value),(e=41\/e=165\/e=158\/e=204\/e=211)->wr.heap[b]?=some (.cells c e (0,0))->w'.heap[b]?=wr.heap[b]?))(ha:w'.heap[B13]?=some (.cells #[nsv',tsv',.bool I'.b,jI I'.v.k,jI I'.v.n,jS I'.v.t] 171 (0,0)))(hn:w'.ownsRow w.heap.size 2 1 nsv' I'.ns.length (I'.ns.map (.int .i64)))(ht:w'.ownsRow w.heap.size 9 1 tsv' I'.ts.length (I'.ts.map .string)):
 L3 w w' f s fn B12 B13 nsv' tsv' I':=by
 have e12:B12≠B13:=fun e=>by have:=h.x;rw[e,h.a] at this;simp at this
 have e0:w.heap.size≠B13:=by have:=h.l3;omega
 refine ⟨hb,(ho _ e0 _ _ (.inl rfl) h.z).trans h.z,(ho _ e12 _ _ (.inr (.inl rfl)) h.x).trans h.x,ha,h.r.same fun b c T hT h2=>ho b (fun e=> ?_) T c (.inr (.inr hT)) h2,hn,ht,h.l2,h.l3⟩;rw[e,h.a] at h2;simp only[Option.some.injEq,Obj.cells.injEq] at h2;obtain ⟨_,rfl,_⟩:=h2;omega
end
theorem own_ne{base:Nat}{e T:TypeId}{size:Nat}{v:Value}{n:Nat}{xs:List Value}{B:Nat}{c:Array Value}(h:wr.ownsRow base e size v n xs)(hB:wr.heap[B]?=some (.cells c T (0,0)))(hT:T≠e):some B≠v.ownBlock:=by
 rcases h.2 with ⟨rfl,_⟩|⟨g,cap,cur,rfl,_,h5,_⟩
 .simp[Value.ownBlock]
 .intro e';simp only[Value.ownBlock,Option.some.injEq] at e';subst e';rw[hB] at h5;simp only[Option.some.injEq,Obj.cells.injEq] at h5;exact hT h5.2.1
theorem zh4{base:Nat}{e:TypeId}{size:Nat}{v:Value}{n:Nat}{xs:List Value}(h:wr.ownsRow base e size v (n+1) xs):∃g cap,v=jP g 0 (n+1) cap:=by
 rcases h.2 with ⟨_,h0⟩|⟨g,cap,cur,rfl,_⟩
 .omega
 .exact ⟨g,cap,rfl⟩
theorem set_other{W:World}{B b j:Nat}(x:Value)(h:b≠B):(W.setCell (jA B j) x).heap[b]?=W.heap[b]?:=heap_setCell_other _ _ _ _ B38
section
variable(h:L3 w wr f s fn B12 B13 nsv tsv I)
include h
theorem L3.ne13{b:Nat}{e:Nat}{c:Array Value}(hb:wr.heap[b]?=some (.cells c e (0,0)))(he:e≠171):b≠B13:=by
 intro eb;rw[eb,h.a] at hb;exact M169
theorem L3.push_n{w5:World}{v':Value}{o:Obj}(x:Int)(hgrow:(wr.alloc o).grownBy w5 nsv.ownBlock)(hown:w5.ownsRow w.heap.size 2 1 v' (I.ns.length+1) (I.ns.map (.int .i64)++ [jI x])):
 w5.heap[B13]?=wr.heap[B13]?/\L3 w (w5.setCell (jA B13 0) v') f s fn B12 B13 v' tsv ⟨I.ns++ [x],I.ts,I.b,I.v⟩:=by
 have kept:∀{b:Nat} {c:Array Value} {e:Nat},wr.heap[b]?=some (.cells c e (0,0))->e≠2->w5.heap[b]?=wr.heap[b]?:=fun {b c e} hb he=>by
  have hl:=(jg hb);exact (hgrow.block b B14 (own_ne h.n hb he)).trans (heap_alloc_old _ _ hl)
 open X175 in exact C46
theorem L3.push_t{w5:World}{v':Value}{o:Obj}(x:ByteArray)(hgrow:(wr.alloc o).grownBy w5 tsv.ownBlock)(hown:w5.ownsRow w.heap.size 9 1 v' (I.ts.length+1) (I.ts.map .string++ [jS x])):
 w5.heap[B13]?=wr.heap[B13]?/\L3 w (w5.setCell (jA B13 1) v') f s fn B12 B13 nsv v' ⟨I.ns,I.ts++ [x],I.b,I.v⟩:=by
 have kept:∀{b:Nat} {c:Array Value} {e:Nat},wr.heap[b]?=some (.cells c e (0,0))->e≠9->w5.heap[b]?=wr.heap[b]?:=fun {b c e} hb he=>by
  have hl:=(jg hb);exact (hgrow.block b B14 (own_ne h.t hb he)).trans (heap_alloc_old _ _ hl)
 open X176 in exact C46
theorem L3.boo(x:Bool):L3 w (wr.setCell (jA B13 2) (.bool x)) f s fn B12 B13 nsv tsv ⟨I.ns,I.ts,x,I.v⟩:=
 h.set (h.b.setCell (p:=(jA B13 2)) B128 _) (fun b hb _ _ _ _=>set_other _ hb) (heap_setCell_same wr B13 2 _ 171 _ h.a) (za2 h.n fun b c hb=>set_other _ (h.ne13 hb B3)) (za2 h.t fun b c hb=>set_other _ (h.ne13 hb B3))
theorem L3.val(x:Val.V):L3 w (((wr.setCell (jA B13 3) (jI x.k)).setCell (jA B13 4) (jI x.n)).setCell (jA B13 5) (jS x.t)) f s fn B12 B13 nsv tsv ⟨I.ns,I.ts,I.b,x⟩:=by
 have hl:=h.l3;have so:∀b,b≠B13->(((wr.setCell (jA B13 3) (jI x.k)).setCell (jA B13 4) (jI x.n)).setCell (jA B13 5) (jS x.t)).heap[b]?=wr.heap[b]?:=fun b hb=>(set_other _ hb).trans ((set_other _ hb).trans (set_other _ hb));have a1:=heap_setCell_same wr B13 3 _ 171 (jI x.k) h.a;have a2:=heap_setCell_same _ B13 4 _ 171 (jI x.n) a1;have a3:=heap_setCell_same _ B13 5 _ 171 (jS x.t) a2;exact h.set (((h.b.setCell (p:=(jA B13 3)) B165 _).setCell (p:=(jA B13 4)) B165 _).setCell (p:=(jA B13 5)) B165 _) (fun b hb _ _ _ _=>so b hb) a3 (za2 h.n fun b c hb=>so b (h.ne13 hb B3)) (za2 h.t fun b c hb=>so b (h.ne13 hb B3))
end
