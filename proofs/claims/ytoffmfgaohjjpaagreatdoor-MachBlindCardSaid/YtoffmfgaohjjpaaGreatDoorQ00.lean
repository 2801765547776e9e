import Derived.Test.YtoffmfgaohjjpaaGreatDoorProg
import Derived.Lib.RuneCountTail
import Derived.Lib.QuoteLoop
import Derived.Shelf.Strings.Trim
import Derived.Shelf.Small.Wraps
import Derived.Shelf.Strconv.Itoa4
import Derived.Shelf.Strconv.AtoiAll
import Derived.Shelf.Strconv.ParseIntPublic10
import Derived.Shelf.Strings.Shaped
import Derived.Shelf.Unicode.Latin
import Derived.Shelf.Strings.Runes
import Derived.Shelf.Strings.AsciiSet
import Derived.Shelf.Strings.Repeat
import Derived.Shelf.Strings.CaseAny
import Derived.WalkSpells
import Derived.WalkLawsBesides
import Derived.StillTailTactics
import Derived.Deep.RegionHeld3
set_option linter.unusedVariables false
set_option linter.unusedSectionVars false
set_option linter.unusedSimpArgs false
open Go.Proofs.Tryz
set_option maxHeartbeats 8000000
variable{jp:Sort _}
set_option maxRecDepth 100000
namespace Go.Proofs.YtoffmfgaohjjpaaGreatDoor
open Go.RowKit
def B7(h:jp:=by simp):=h
def M209(h:jp:=by
 rw[show w.heap.size+1=(w.alloc (.cells a t)).heap.size by simp];exact heap_alloc_new _ _):=h
def B14(h:jp:=by simp;omega):=h
theorem blk{w w':World}{i:Nat}{o:Obj}(hb:Below w.heap.size w w')(k:w.heap[i]?=some o):w'.heap[i]?=some o:=(hb.block _ (Array.getElem?_eq_some_iff.1 k).1).trans k
section
variable(w:World)(a:Array Value)(t:TypeId)
include w a t
theorem box1:Below w.heap.size w (w.alloc (.cells a t))/\(w.alloc (.cells a t)).heap[w.heap.size]?=some (.cells a t (0,0)):=
 ⟨(Below.refl _ _).alloc (Nat.le_refl _) _,heap_alloc_new _ _⟩
theorem box2(b:Array Value)(u:TypeId):Below w.heap.size w ((w.alloc (.cells a t)).alloc (.cells b u))/\
 ((w.alloc (.cells a t)).alloc (.cells b u)).heap[w.heap.size]?=some (.cells a t (0,0))/\((w.alloc (.cells a t)).alloc (.cells b u)).heap[(w.heap.size+1)]?=some (.cells b u (0,0)):=by
 obtain ⟨h1,h2⟩:=box1 w a t;refine ⟨h1.alloc h1.size _,(heap_alloc_old _ _ B7).trans h2,?_⟩;exact M209
theorem box3(b:Array Value)(u:TypeId)(c:Array Value)(v:TypeId):Below w.heap.size w (((w.alloc (.cells a t)).alloc (.cells b u)).alloc (.cells c v))/\
 (((w.alloc (.cells a t)).alloc (.cells b u)).alloc (.cells c v)).heap[w.heap.size]?=some (.cells a t (0,0))/\(((w.alloc (.cells a t)).alloc (.cells b u)).alloc (.cells c v)).heap[(w.heap.size+1)]?=some (.cells b u (0,0))/\
 (((w.alloc (.cells a t)).alloc (.cells b u)).alloc (.cells c v)).heap[(w.heap.size+1+1)]?=some (.cells c v (0,0)):=by
 obtain ⟨h1,h2,h3⟩:=box2 w a t b u;refine ⟨h1.alloc h1.size _,(heap_alloc_old _ _ B14).trans h2,(heap_alloc_old _ _ B7).trans h3,?_⟩;rw[show w.heap.size+1+1=((w.alloc (.cells a t)).alloc (.cells b u)).heap.size by simp];exact heap_alloc_new _ _
end
theorem set3{s B i j k:Nat}{a W:World}(hb:Below s a W)(h:s<=B){x y z:Value}:Below s a (((W.setCell ⟨B,i,none⟩ x).setCell ⟨B,j,none⟩ y).setCell ⟨B,k,none⟩ z):=
 ((hb.setCell (p:=⟨B,i,none⟩) h _).setCell (p:=⟨B,j,none⟩) h _).setCell (p:=⟨B,k,none⟩) h _
abbrev Ret(f:FuncId)(a:Array Value)(w:World)(v:Value):Prop:=Calls prog f a w fun e w'=>e= .returned v/\Below w.heap.size w w'
section
variable {P:Program} {f:FuncId} {a:Array Value} {s i j k:Nat} {w W:World} {v:Value} {x y z:Obj}
section
variable(H:Calls P f a W fun e w'=>e= .returned v/\Below W.heap.size W w')(hb:Below w.heap.size w W)
include H hb
theorem go0:
 Calls P f a W fun e w'=>e= .returned v/\Below w.heap.size w w':=H.mono fun e w' h=> ⟨h.1,hb.trans (h.2.mono hb.size)⟩
section
variable(k0:W.heap[i]?=some x)
include k0
theorem go1:
 Calls P f a W fun e w'=>e= .returned v/\Below w.heap.size w w'/\w'.heap[i]?=some x:=H.mono fun e w' h=> ⟨h.1,hb.trans (h.2.mono hb.size),blk h.2 k0⟩
theorem go2(k1:W.heap[j]?=some y):
 Calls P f a W fun e w'=>e= .returned v/\Below w.heap.size w w'/\w'.heap[i]?=some x/\w'.heap[j]?=some y:=H.mono fun e w' h=> ⟨h.1,hb.trans (h.2.mono hb.size),blk h.2 k0,blk h.2 k1⟩
theorem go3(k1:W.heap[j]?=some y)(k2:W.heap[k]?=some z):
 Calls P f a W fun e w'=>e= .returned v/\Below w.heap.size w w'/\w'.heap[i]?=some x/\w'.heap[j]?=some y/\w'.heap[k]?=some z:=H.mono fun e w' h=> ⟨h.1,hb.trans (h.2.mono hb.size),blk h.2 k0,blk h.2 k1,blk h.2 k2⟩
end
end
end
theorem ch{w:World}{b:Nat}{cs:Array Value}{T:TypeId}{fr:Nat×Nat}(hb:w.heap[b]?=some (.cells cs T fr))(j:Nat):w.cell? ⟨b,j,none⟩=cs[j]?:=Lib.cell_of_heap hb j
theorem jg{α:Type _}{a:Array α}{i:Nat}{x:α}(h:a[i]?=some x):i<a.size:=(Array.getElem?_eq_some_iff.1 h).1
theorem jl{α:Type _}{a:List α}{i:Nat}{x:α}(h:a[i]?=some x):i<a.length:=(List.getElem?_eq_some_iff.1 h).1
theorem jB{b:Nat}{w:World}:Below b w w:=Below.refl b w
theorem jE{n:Nat}:n<=n:=Nat.le_refl n
theorem jL{a b c:Nat}(h:a<b)(k:b<=c):a<c:=Nat.lt_of_lt_of_le h k
theorem jR{a b c:Nat}(h:a<=b)(k:b<=c):a<=c:=Nat.le_trans h k
theorem jH{p:Prop}(h:p):Hid p:=Lib.hid h
theorem jk{w w':World}{i:Nat}{o:Obj}(h:Below w.heap.size w w')(k:w.heap[i]?=some o):w'.heap[i]?=some o:=(h.block _ (jg k)).trans k
theorem jQ{b:Nat}{w w':World}{p:Addr}{v:Value}(h:Below b w w')(c:w.cell? p=some v)(l:p.block<b):w'.cell? p=some v:=(h.cell l).trans c
theorem jN{w u v:World}(a:Below w.heap.size w u)(c:Below u.heap.size u v):Below w.heap.size w v:=a.trans (c.mono a.size)
theorem jM{P:Program}{f:FuncId}{args:Array Value}{w:World}{v:Value}{Q:World->Prop}{R:Ending->World->Prop}(h:Calls P f args w fun e w'=>e= .returned v/\Q w')(k:∀w',Q w'->R (.returned v) w'):Calls P f args w R:=h.mono fun _ w' ⟨e,q⟩=>e▸k w' q
section
variable{P:Program}{fn:Func}{R:Ending->World->Prop}{a:Act}{w:World}(v:Value)(hr:(results fn a.tmps).run P w= .ok v w)(hR:R (.returned v) w)(hd:a.defers=[]:=by rfl)
include P fn R a w v hr hR hd
theorem jX:bodyPost P fn R .ret a w:=bodyPost_ret hr hd hR
theorem jY:bodyPost P fn R .normal a w:=bodyPost_end hr hd hR
end
abbrev jr(v:Value):Ending:= .returned v
abbrev jS(t:ByteArray):Value:= .string t
abbrev jT:Value:= .tuple #[]
abbrev jZ:Value:= .slice none 0 0
abbrev jP(g o n c:Nat):Value:= .slice (some ⟨g,o,none⟩) n c
abbrev jU(g o:Nat):Value:= .pointer (some ⟨g,o,none⟩)
abbrev jI(x:Int):Value:= .int .i64 x
abbrev jA(g o:Nat):Addr:=⟨g,o,none⟩
abbrev jW(w v:World):Prop:=Below w.heap.size w v
def B1(h:jp:=by omega):=h
def B3(h:jp:=by decide):=h
def B38(h:jp:=by simpa using h):=h
def B69(h:jp:=by simpa using hj):=h
def B70(h:jp:=by simpa using h2):=h
def B196(h:jp:=by rw[e]):=h
theorem Bp4{w:World}{o:Obj}:(w.alloc o).heap[w.heap.size]?=some o:=heap_alloc_new w o
end Go.Proofs.YtoffmfgaohjjpaaGreatDoor
namespace Go.Proofs.YtoffmfgaohjjpaaGreatDoor.Dec
open Go.Lib
def dig(c:UInt8):Bool:=decide (48<=c.toNat/\c.toNat<=57)
def dv(c:UInt8):Nat:=c.toNat-48
theorem dv_eq(c:UInt8):dv c=c.toNat-48:=rfl
attribute [irreducible] dv
def dval:Nat->List UInt8->Nat
 |acc,[]=>acc
 |acc,c::r=>dval (acc*10+dv c) r
theorem dval_nil(acc:Nat):dval acc []=acc:=rfl
theorem zmj(acc:Nat)(c:UInt8)(r:List UInt8):dval acc (c::r)=dval (acc*10+(c.toNat-48)) r:=by rw[dval,dv_eq]
theorem dig_iff{c:UInt8}:dig c=true↔48<=c.toNat/\c.toNat<=57:=by simp[dig]
theorem dval_ge(l:List UInt8)(acc:Nat):acc<=dval acc l:=by
 induction l generalizing acc with
 |nil=>exact jE
 |cons c r ih=>
  have:=ih (acc*10+(c.toNat-48));rw[zmj];omega
theorem parseM(l:List UInt8)(acc:Nat)(h:l.all dig=true)(ha:acc<=18446744073709551615):
 parseUintM 18446744073709551615 acc l=if dval acc l<=18446744073709551615 then .ok (dval acc l) else .range:=by
 induction l generalizing acc with
 |nil=>simp[parseUintM,dval_nil,ha]
 |cons c r ih=>
  simp only[List.all_cons,Bool.and_eq_true] at h;have hc:=dig_iff.1 h.1;have hge:=dval_ge r (acc*10+(c.toNat-48));rw[zmj];simp only[parseUintM];rw[if_pos hc]
  by_cases h1:1844674407370955162<=acc
  .rw[if_pos h1,if_neg B1]
  .rw[if_neg h1]
   by_cases h2:18446744073709551615<acc*10+(c.toNat-48)
   .rw[if_pos h2,if_neg B1]
   .rw[if_neg h2,ih _ h.2 B1]
theorem parseB(l:List UInt8)(hn:l≠[])(h:l.all dig=true):
 parseUintB 64 l=if dval 0 l<=18446744073709551615 then .ok (dval 0 l) else .range:=by
 have e:(2:Nat) ^ 64-1=18446744073709551615:=B3;unfold parseUintB;rw[if_neg hn,e,parseM l 0 h B1]
theorem zmk{u:Nat}(h:u<10):decDigits u=[UInt8.ofNat (48+u)]:=by rw[decDigits,dif_pos h]
theorem zxf{u:Nat}(h:¬u<10):decDigits u=decDigits (u/10)++ [UInt8.ofNat (48+u%10)]:=by rw[decDigits,dif_neg h]
theorem dec_ne(u:Nat):decDigits u≠[]:=by
 by_cases h:u<10
 .rw[zmk h];simp
 .rw[zxf h];simp
theorem zxe(u k:Nat)(hk:1<=k)(h:u<10 ^ k):(decDigits u).length<=k:=by
 induction k generalizing u with
 |zero=>omega
 |succ k ih=>
  by_cases h1:u<10
  .rw[zmk h1];simp
  .rw[zxf h1,List.length_append];have hk1:1<=k:=by
    rcases Nat.eq_zero_or_pos k with e|e
    .subst e;simp at h;omega
    .exact e
   have:=ih (u/10) hk1 (by rw[Nat.pow_succ] at h;omega);simp;omega
def form(d:List UInt8):Bool:=d.all dig&& !d.isEmpty&&(d.head? !=some 48||d==[48])
theorem toNat_inj{a b:UInt8}(h:a.toNat=b.toNat):a=b:=UInt8.toNat_inj.1 h
def body(l:List UInt8):List UInt8:=cond (l.head?==some 45) l.tail l
def isForm(l:List UInt8):Bool:=form (body l)&& !(l.head?==some 45&&body l==[48])
def readS(l:List UInt8):Int×Int:=
 if isForm l then (match parseIntB 64 l with| .ok v=>(v,0)|_=>(0,13)) else (0,12)
def _root_.B155(h:jp:=by simpa using hc):=h
theorem p63:(2:Nat) ^ (64-1)=9223372036854775808:=B3
section
variable(d:List UInt8)(hn:d≠[])(hd:d.all dig=true)
include d hn hd
theorem parseI_minus:
 parseIntB 64 (45::d)=if dval 0 d<=9223372036854775808 then .ok (-(dval 0 d:Int)) else .range:=by
 rw[parseIntB_minus,parseB d hn hd,p63]
 by_cases h:dval 0 d<=18446744073709551615
 .rw[if_pos h];simp only[signedC]
  by_cases h2:9223372036854775808<dval 0 d
  .rw[if_pos h2,if_neg B1]
  .rw[if_neg h2,if_pos B1]
 .rw[if_neg h,if_neg B1];rfl
theorem parseI_plain:
 parseIntB 64 d=if dval 0 d<9223372036854775808 then .ok (dval 0 d:Int) else .range:=by
 match d,hn with
 |c::r,hn=>
  have hc:dig c=true:=by simp only[List.all_cons,Bool.and_eq_true] at hd;exact hd.1
  have hc':=dig_iff.1 hc;rw[parseIntB_plain 64 c r B1 B1,parseB (c::r) hn hd,p63]
  by_cases h:dval 0 (c::r)<=18446744073709551615
  .rw[if_pos h];simp only[signlessC]
   by_cases h2:9223372036854775808<=dval 0 (c::r)
   .rw[if_pos h2,if_neg B1]
   .rw[if_neg h2,if_pos B1]
  .rw[if_neg h,if_neg B1];rfl
end
theorem form_parts{d:List UInt8}(h:form d=true):d.all dig=true/\d≠[]:=by
 unfold form at h;simp only[Bool.and_eq_true] at h;exact ⟨h.1.1,by intro e;subst e;simp at h⟩
theorem isForm_cases{l:List UInt8}(h:isForm l=true):
 (∃d,l=45::d/\form d=true/\d≠[48])\/(form l=true/\l.head?≠some 45):=by
 unfold isForm body at h
 match l with
 |[]=>simp[form] at h
 |c::r=>
  by_cases hc:c=45
  .subst hc;left;simp at h;exact ⟨r,rfl,h.1,h.2⟩
  .right;have hc2:(c==45)=false:=B155;simp[hc2] at h;exact ⟨h,B155⟩
theorem isForm_minus{d:List UInt8}(h:form d=true)(h2:d≠[48]):isForm (45::d)=true:=by
 unfold isForm body;simp[h,h2]
theorem parse_of_form{l:List UInt8}(h:isForm l=true):(∃v,parseIntB 64 l= .ok v)\/parseIntB 64 l= .range:=by
 rcases isForm_cases h with ⟨d,rfl,hd,_⟩|⟨hd,_⟩
 .obtain ⟨hdd,hdn⟩:=form_parts hd;rw[parseI_minus d hdn hdd];split
  .exact .inl ⟨_,rfl⟩
  .exact .inr rfl
 .obtain ⟨hdd,hdn⟩:=form_parts hd;rw[parseI_plain l hdn hdd];split
  .exact .inl ⟨_,rfl⟩
  .exact .inr rfl
theorem itoa_len(n:Int)(h0:-9223372036854775808<=n)(h1:n<=9223372036854775807):1<=(itoa n).length/\(itoa n).length<=20:=by
 have e19:(10:Nat) ^ 19=10000000000000000000:=B3;unfold itoa;split
 .have:=zxe n.natAbs 19 B1 B1;simp;omega
 .have:=zxe n.toNat 19 B1 B1;have:=dec_ne n.toNat;have:(decDigits n.toNat).length≠0:=by simpa using this
  omega
end Go.Proofs.YtoffmfgaohjjpaaGreatDoor.Dec
namespace Go.Proofs.YtoffmfgaohjjpaaGreatDoor.Val
open Go
structure V where
 k:Int
 n:Int
 t:ByteArray
def emp:ByteArray:=⟨#[]⟩
def sTrue:ByteArray:=⟨#[84,82,85,69]⟩
def sFalse:ByteArray:=⟨#[70,65,76,83,69]⟩
def isE(t:ByteArray):Bool:=t.toList.isEmpty
def mayB(v:V):Bool:=
 cond (v.k==0) (v.n==0&&isE v.t)<|cond (v.k==1) (isE v.t)<|cond (v.k==2) ((v.n==0||v.n==1)&&isE v.t)<|
 cond (v.k==3) (v.n==0&&decide (v.t.size<=32767))<|cond (v.k==4) (decide (1<=v.n)&&decide (v.n<=6)&&isE v.t) false
def err(e:Int):V:=⟨4,e,emp⟩
def good(v:V):V:=cond (mayB v) v (err 4)
def numG(g:V):Int×Int:=
 cond (g.k==3) (cond ((Dec.readS g.t.data.toList).2==0) ((Dec.readS g.t.data.toList).1,0) (0,4))<|cond (g.k==4) (0,g.n) (g.n,0)
def number(v:V):Int×Int:=numG (good v)
def word(n:Int):ByteArray:=cond (n==1) sTrue sFalse
def textG(g:V):ByteArray×Int:=
 cond (g.k==1) (⟨(Lib.itoa g.n).toArray⟩,0)<|cond (g.k==2) (word g.n,0)<|cond (g.k==4) (emp,g.n) (g.t,0)
def asText(v:V):ByteArray×Int:=textG (good v)
def isT(t:ByteArray):Bool:=t.toList==[84,82,85,69]
def isF(t:ByteArray):Bool:=t.toList==[70,65,76,83,69]
def zs4(g:V):Bool×Int:=
 cond (g.k==4) (false,g.n)<|cond (g.k==3) (cond (isT g.t) (true,0)<|cond (isF g.t) (false,0) (false,4)) (g.n !=0,0)
def truth(v:V):Bool×Int:=zs4 (good v)
def _root_.B49(h:jp:=by decide +kernel):=h
theorem may_cases{v:V}(h:mayB v=true):
 (v.k=0/\v.n=0/\isE v.t=true)\/(v.k=1/\isE v.t=true)\/(v.k=2/\(v.n=0\/v.n=1)/\isE v.t=true)\/(v.k=3/\v.n=0/\v.t.size<=32767)\/(v.k=4/\1<=v.n/\v.n<=6/\isE v.t=true):=by
 unfold mayB at h
 by_cases h0:v.k=0
 .rw[show (v.k==0)=true by simpa using h0] at h;simp at h;exact .inl ⟨h0,h⟩
 rw[show (v.k==0)=false by simpa using h0] at h
 by_cases h1:v.k=1
 .rw[show (v.k==1)=true by simpa using h1] at h;simp at h;exact .inr (.inl ⟨h1,h⟩)
 rw[show (v.k==1)=false by simpa using h1] at h
 by_cases h2:v.k=2
 .rw[show (v.k==2)=true by simpa using h2] at h;simp at h;exact .inr (.inr (.inl ⟨h2,h⟩))
 rw[show (v.k==2)=false by simpa using h2] at h
 by_cases h3:v.k=3
 .rw[show (v.k==3)=true by simpa using h3] at h;simp at h;exact .inr (.inr (.inr (.inl ⟨h3,h⟩)))
 rw[show (v.k==3)=false by simpa using h3] at h
 by_cases h4:v.k=4
 .rw[show (v.k==4)=true by simpa using h4] at h;simp at h;exact .inr (.inr (.inr (.inr ⟨h4,h.1.1,h.1.2,h.2⟩)))
 rw[show (v.k==4)=false by simpa using h4] at h;simp at h
theorem may_err4:mayB (err 4)=true:=B49
theorem zpz(v:V):mayB (good v)=true:=by
 unfold good;cases h:mayB v
 .exact may_err4
 .exact h
end Go.Proofs.YtoffmfgaohjjpaaGreatDoor.Val
namespace Go.Proofs.YtoffmfgaohjjpaaGreatDoor.PowG
def Fits(n:Int):Prop:=-9223372036854775808<=n/\n<=9223372036854775807
instance(n:Int):Decidable (Fits n):=by unfold Fits;infer_instance
theorem znp{n:Int}(h:¬Fits n):9223372036854775808<=n.natAbs:=by unfold Fits at h;omega
theorem zr4{n:Int}(h:n.natAbs<9223372036854775808):Fits n:=by unfold Fits;omega
theorem pow_over(x:Int)(k j:Nat)(hx:2<=x.natAbs)(h:¬Fits (x ^ k)):¬Fits (x ^ (k+j)):=by
 rcases Nat.eq_zero_or_pos j with e|e
 .subst e;exact h
 .have h1:=znp h;have h2:2<=(x ^ j).natAbs:=by
   rw[Int.natAbs_pow]
   calc 2<=x.natAbs:=hx
    _=x.natAbs ^ 1:=by rw[Nat.pow_one]
    _<=x.natAbs ^ j:=Nat.pow_le_pow_right B1 e
  intro hf;have h3:(x ^ (k+j)).natAbs=(x ^ k).natAbs*(x ^ j).natAbs:=by rw[Int.pow_add,Int.natAbs_mul]
  have h4:(x ^ k).natAbs*2<=(x ^ k).natAbs*(x ^ j).natAbs:=Nat.mul_le_mul_left _ h2;unfold Fits at hf;omega
theorem zua(x:Int)(k:Nat)(hx:x.natAbs<=1):Fits (x ^ k):=by
 apply zr4;rw[Int.natAbs_pow];have:x.natAbs ^ k<=1 ^ k:=Nat.pow_le_pow_left hx k;rw[Nat.one_pow] at this;omega
theorem pow_over'(x:Int)(k j:Nat)(h:¬Fits (x ^ k)):¬Fits (x ^ (k+j)):=by
 rcases Nat.lt_or_ge x.natAbs 2 with hx|hx
 .exact absurd (zua x k B1) h
 .exact pow_over x k j hx h
def powN(x:Int)(k:Nat):Int:=if Fits (x ^ k) then x ^ k else 0
def powE(x:Int)(k:Nat):Int:=if Fits (x ^ k) then 0 else 13
theorem negone_pow(k:Nat):(-1:Int) ^ k=1-2*((k:Int)%2):=by
 induction k with
 |zero=>rfl
 |succ k ih=>rw[Int.pow_succ,ih];omega
theorem one_pow(k:Nat):(1:Int) ^ k=1:=by
 induction k with
 |zero=>rfl
 |succ k ih=>rw[Int.pow_succ,ih];rfl
theorem zero_pow(k:Nat)(h:1<=k):(0:Int) ^ k=0:=by
 match k,h with
 |k+1,_=>rw[Int.pow_succ];simp
theorem gcd_step(a b:Nat):Nat.gcd a b=Nat.gcd b (a%b):=by rw[Nat.gcd_comm,Nat.gcd_rec,Nat.gcd_comm]
theorem gcd_le(a b M:Nat)(ha:a<=M)(hb:b<=M):Nat.gcd a b<=M:=by
 rcases Nat.eq_zero_or_pos a with h|h
 .subst h;rw[Nat.gcd_zero_left];exact hb
 .exact jR (Nat.gcd_le_left _ h) ha
end Go.Proofs.YtoffmfgaohjjpaaGreatDoor.PowG
namespace Go.Proofs.YtoffmfgaohjjpaaGreatDoor.Ref
open PowG
def val(neg:Bool)(m:Nat):Int:=cond neg (-(m:Int)) m
def fitV(v:Int):Int:=if Fits v then v else 0
def fitB(v:Int):Bool:=decide (Fits v)
def fitE(v:Int):Int:=if Fits v then 0 else 13
def W:Nat:=18446744073709551616
def M197(h:jp:=by
 obtain ⟨n,rfl|rfl⟩:=b.eq_nat_or_neg
 .simp[val];rfl
 .rw[Int.tmod_neg,Int.natAbs_neg];simp[val];rfl):=h
def _root_.B46(h:jp:=by unfold PowG.Fits;omega):=h
theorem val_zero(n:Bool):val n 0=0:=by cases n <;> rfl
theorem zs1(a b:Int):val (decide (a<0)) (a.natAbs%b.natAbs)=a.tmod b:=by
 obtain ⟨m,rfl|rfl⟩:=a.eq_nat_or_neg
 .have h1:¬((m:Int)<0):=by omega
  rw[decide_eq_false h1];exact M197
 .rw[Int.neg_tmod,Int.natAbs_neg];rcases Nat.eq_zero_or_pos m with rfl|h
  .simp[val_zero]
  .rw[decide_eq_true (show -(m:Int)<0 by omega)];exact M197
theorem zs6(a b:Int):(a.natAbs%b.natAbs=0)↔a.tmod b=0:=by
 rw[<-zs1 a b];unfold val;cases decide (a<0) <;> simp <;> omega
theorem tmod_neg(a b:Int)(h:a.tmod b≠0):decide (a.tmod b<0)=decide (a<0):=by
 have e:=zs1 a b;have h0:a.natAbs%b.natAbs≠0:=fun e2=>h ((zs6 a b).1 e2)
 by_cases h1:a<0
 .rw[decide_eq_true h1] at e ⊢;rw[<-e];simp[val];omega
 .rw[decide_eq_false h1] at e ⊢;rw[<-e];simp only[val,cond_false];exact decide_eq_false B1
theorem e19:(10:Nat) ^ 19=10000000000000000000:=B3
theorem read_near{l:List UInt8}(h:Dec.isForm l=true):Dec.readS l=(fitV (val (l.head?==some 45) (Dec.dval 0 (Dec.body l))),fitE (val (l.head?==some 45) (Dec.dval 0 (Dec.body l)))):=by
 unfold Dec.readS;rw[if_pos h];rcases Dec.isForm_cases h with ⟨d,rfl,hd,hne⟩|⟨hd,hh⟩
 .obtain ⟨hdd,hdn⟩:=Dec.form_parts hd;rw[Dec.parseI_minus d hdn hdd];have hb:Dec.body (45::d)=d:=by unfold Dec.body;simp
  rw[hb];simp only[List.head?_cons,beq_self_eq_true,val,cond_true];unfold fitV fitE
  by_cases hv:Dec.dval 0 d<=9223372036854775808
  .rw[if_pos hv,if_pos B46,if_pos B46]
  .rw[if_neg hv,if_neg B46,if_neg B46]
 .obtain ⟨hdd,hdn⟩:=Dec.form_parts hd;rw[Dec.parseI_plain l hdn hdd];have h45:(l.head?==some 45)=false:=by simpa using hh
  have hb:Dec.body l=l:=by unfold Dec.body;rw[h45];rfl
  rw[hb,h45];simp only[val,cond_false];unfold fitV fitE
  by_cases hv:Dec.dval 0 l<9223372036854775808
  .rw[if_pos hv,if_pos B46,if_pos B46]
  .rw[if_neg hv,if_neg B46,if_neg B46]
theorem read_not{l:List UInt8}(h:Dec.isForm l=false):Dec.readS l=(0,12):=by unfold Dec.readS;rw[h];rfl
end Go.Proofs.YtoffmfgaohjjpaaGreatDoor.Ref
namespace Go.Proofs.YtoffmfgaohjjpaaGreatDoor.Div
theorem parts(x y:Int)(_hy:y≠0):
 x.tdiv y*y=x-x.tmod y/\(0<=x->0<=x.tmod y)/\(x<=0->x.tmod y<=0)/\(0<y->x.tmod y<y/\-y<x.tmod y)/\(y<0->x.tmod y < -y/\y<x.tmod y):=by
 have e:y*x.tdiv y+x.tmod y=x:=Int.mul_tdiv_add_tmod x y;refine ⟨by rw[Int.mul_comm];omega,?_,?_,?_,?_⟩
 .intro h;exact Int.tmod_nonneg y h
 .intro h;have:0<=(-x).tmod y:=Int.tmod_nonneg y B1;rw[Int.neg_tmod] at this;omega
 .intro h;have h1:x.tmod y<y:=Int.tmod_lt_of_pos x h;have h2:(-x).tmod y<y:=Int.tmod_lt_of_pos (-x) h;rw[Int.neg_tmod] at h2;omega
 .intro h;have h1:x.tmod (-y) < -y:=Int.tmod_lt_of_pos x B1;have h2:(-x).tmod (-y) < -y:=Int.tmod_lt_of_pos (-x) B1;rw[Int.neg_tmod] at h2;rw[Int.tmod_neg] at h1 h2;omega
section
variable(x y:Int)(hy:y≠0)
include x y hy
theorem side:
 (0<x.tdiv y->(0<x/\0<y)\/(x<0/\y<0))/\(x.tdiv y<0->(0<x/\y<0)\/(x<0/\0<y)):=by
 obtain ⟨h1,h2,h3,h4,h5⟩:=parts x y hy;generalize x.tdiv y=q at *;generalize x.tmod y=r at *;constructor
 .intro hq;rcases Int.lt_or_gt_of_ne hy with h|h
  .have:q*y<=1*y:=Int.mul_le_mul_of_nonpos_right B1 B1;have:=h5 h;omega
  .have:1*y<=q*y:=Int.mul_le_mul_of_nonneg_right B1 B1;have:=h4 h;omega
 .intro hq;rcases Int.lt_or_gt_of_ne hy with h|h
  .have:(-1)*y<=q*y:=Int.mul_le_mul_of_nonpos_right B1 B1;have:=h5 h;omega
  .have:q*y<=(-1)*y:=Int.mul_le_mul_of_nonneg_right B1 B1;have:=h4 h;omega
theorem size:(0<=x->x.tdiv y<=x/\-x<=x.tdiv y)/\(x<=0->x<=x.tdiv y/\x.tdiv y<=-x):=by
 have key:∀a b:Int,0<=a->0<b->0<=a.tdiv b/\a.tdiv b<=a:=by
  intro a b ha hb;rw[Int.tdiv_eq_ediv_of_nonneg ha];exact ⟨Int.ediv_nonneg ha B1,Int.ediv_le_self _ ha⟩
 constructor
 .intro hx;rcases Int.lt_or_gt_of_ne hy with h|h
  .have:=key x (-y) hx B1;rw[Int.tdiv_neg] at this;omega
  .have:=key x y hx h;omega
 .intro hx;rcases Int.lt_or_gt_of_ne hy with h|h
  .have:=key (-x) (-y) B1 B1;rw[Int.tdiv_neg,Int.neg_tdiv] at this;omega
  .have:=key (-x) y B1 h;rw[Int.neg_tdiv] at this;omega
theorem fits64(h0:-9223372036854775808<=x)(h1:x<=9223372036854775807)(hn:x=-9223372036854775808->y≠-1):
 -9223372036854775808<=x.tdiv y/\x.tdiv y<=9223372036854775807:=by
 have hs:=size x y hy
 by_cases hx:x=-9223372036854775808
 .have hy1:=hn hx;obtain ⟨p1,p2,p3,p4,p5⟩:=parts x y hy;have hsd:=side x y hy;generalize x.tdiv y=q at *;generalize x.tmod y=r at *;refine ⟨by omega,?_⟩;rcases Int.lt_or_le 9223372036854775807 q with hq|hq
  .exfalso;rcases hsd.1 B1 with h|h
   .omega
   .have:q*y<=q*(-2):=Int.mul_le_mul_of_nonneg_left B1 B1;have:=p5 h.2;have:=p3 B1;omega
  .exact hq
 .omega
end
def modV(x y:Int):Int:=if x.tmod y≠0/\(decide (x.tmod y<0) !=decide (y<0))=true then x.tmod y+y else x.tmod y
theorem modV_range(x y:Int)(hy:y≠0):(0<y->0<=modV x y/\modV x y<y)/\(y<0->y<modV x y/\modV x y<=0):=by
 obtain ⟨p1,p2,p3,p4,p5⟩:=parts x y hy;unfold modV;generalize x.tmod y=r at *;constructor
 .intro h;have:=p4 h;split
  .rename_i hc
   have h2:decide (y<0)=false:=B14;rw[h2] at hc;simp at hc;omega
  .rename_i hc
   have h2:decide (y<0)=false:=B14;rw[h2] at hc;simp at hc
   by_cases hr:r=0
   .omega
   .have:=hc hr;omega
 .intro h;have:=p5 h;split
  .rename_i hc
   have h2:decide (y<0)=true:=B14;rw[h2] at hc;simp at hc;omega
  .rename_i hc
   have h2:decide (y<0)=true:=B14;rw[h2] at hc;simp at hc
   by_cases hr:r=0
   .omega
   .have:=hc hr;omega
end Go.Proofs.YtoffmfgaohjjpaaGreatDoor.Div
namespace Go.Proofs.YtoffmfgaohjjpaaGreatDoor.Run
open Go Go.Lib
def wd(s:ByteArray)(i:Nat):Nat:=(Utf8.decode s i).2
section
variable(s:ByteArray)
include s
theorem wd_eq(i:Nat):wd s i=(Utf8.decode s i).2:=rfl
theorem zhs(i:Nat):1<=wd s i:=width_pos s i
theorem zsu(p i:Nat):wd (s.extract p s.size) i=wd s (p+i):=by unfold wd;rw[tail_decode]
theorem ze5(p:Nat):(s.extract p s.size).size=s.size-p:=B7
theorem zql(i:Nat)(h:i<s.size):i+wd s i<=s.size:=by
 have h1:=width_le (s.extract i s.size) (by rw[ze5];omega);have h2:=zsu s i 0;rw[Nat.add_zero] at h2;unfold wd at h2 ⊢;rw[h2,ze5] at h1;omega
end
def adv(s:ByteArray):Nat->Nat->Nat
 |0,i=>i
 |n+1,i=>if i<s.size then adv s n (i+wd s i) else i
theorem zle(s:ByteArray)(i:Nat):adv s 0 i=i:=rfl
theorem zb9(s:ByteArray)(n i:Nat)(h:i<s.size):adv s (n+1) i=adv s n (i+wd s i):=by rw[adv,if_pos h]
theorem zdu(s:ByteArray)(n i:Nat)(h:¬i<s.size):adv s n i=i:=by
 cases n with
 |zero=>rfl
 |succ n=>rw[adv,if_neg h]
theorem zyf(s:ByteArray):∀n i,i<=adv s n i
 |0,i=>jE
 |n+1,i=>by
  by_cases h:i<s.size
  .rw[zb9 s n i h];have:=zyf s n (i+wd s i);omega
  .rw[zdu s _ i h];exact jE
theorem zeg(s:ByteArray):∀n i,i<=s.size->adv s n i<=s.size
 |0,i,h=>h
 |n+1,i,h=>by
  by_cases h1:i<s.size
  .rw[zb9 s n i h1];exact zeg s n _ (zql s i h1)
  .rw[zdu s _ i h1];exact h
theorem ziw(s:ByteArray):∀n m i,adv s (n+m) i=adv s m (adv s n i)
 |0,m,i=>by rw[Nat.zero_add];rfl
 |n+1,m,i=>by
  by_cases h:i<s.size
  .rw[Nat.succ_add,zb9 s (n+m) i h,zb9 s n i h,ziw s n m]
  .rw[zdu s _ i h,zdu s (n+1) i h,zdu s m i h]
theorem adv_next(s:ByteArray)(n i:Nat)(h:adv s n i<s.size):adv s (n+1) i=adv s n i+wd s (adv s n i):=by
 rw[ziw s n 1 i,zb9 s 0 _ h,zle]
theorem zqg(s:ByteArray)(p:Nat)(hp:p<=s.size):∀n i,p+adv (s.extract p s.size) n i=adv s n (p+i)
 |0,i=>rfl
 |n+1,i=>by
  have hs:=ze5 s p
  by_cases h:p+i<s.size
  .rw[zb9 _ n i B1,zb9 s n _ h,zqg s p hp n,zsu,Nat.add_assoc]
  .rw[zdu _ _ i B1,zdu s _ _ h]
def cntF(s:ByteArray):Nat->Nat->Nat
 |0,_=>0
 |f+1,i=>if i<s.size then cntF s f (i+wd s i)+1 else 0
def cnt(s:ByteArray)(i:Nat):Nat:=cntF s s.size i
theorem zmo(s:ByteArray):∀f i,s.size<=i+f->cntF s (f+1) i=cntF s f i
 |0,i,h=>by unfold cntF;rw[if_neg B1]
 |f+1,i,h=>by
  by_cases h1:i<s.size
  .have hw:=zhs s i;rw[cntF,if_pos h1,zmo s f _ B1]
   conv=>rhs;rw[cntF,if_pos h1]
  .rw[cntF,if_neg h1]
   conv=>rhs;rw[cntF,if_neg h1]
theorem zgd(s:ByteArray)(i:Nat)(h:¬i<s.size):cnt s i=0:=by
 unfold cnt;cases hs:s.size with
 |zero=>rfl
 |succ f=>rw[cntF,if_neg h]
theorem zhp(s:ByteArray)(i:Nat)(h:i<s.size):cnt s i=cnt s (i+wd s i)+1:=by
 have hw:=zhs s i;have e:cnt s i=cntF s (s.size+1) i:=(zmo s s.size i B1).symm;rw[e,cntF,if_pos h];rfl
theorem cnt_le(s:ByteArray):∀d i,s.size<=i+d->cnt s i<=s.size-i
 |0,i,h=>by rw[zgd s i B1];exact Nat.zero_le _
 |d+1,i,h=>by
  by_cases h1:i<s.size
  .have hw:=zhs s i;have:=cnt_le s d (i+wd s i) B1;rw[zhp s i h1];omega
  .rw[zgd s i h1];exact Nat.zero_le _
theorem zbt(s:ByteArray):cnt s 0<=s.size:=by have:=cnt_le s s.size 0 B1;omega
theorem zyg(s:ByteArray):∀d i,i<=s.size->s.size<=i+d->adv s (cnt s i) i=s.size
 |0,i,h,h2=>by rw[zgd s i B1,zle];omega
 |d+1,i,h,h2=>by
  by_cases h1:i<s.size
  .have hw:=zhs s i;rw[zhp s i h1,zb9 s _ i h1];exact zyg s d _ (zql s i h1) B1
  .rw[zgd s i h1,zle];omega
theorem zos(s:ByteArray):adv s (cnt s 0) 0=s.size:=zyg s s.size 0 B1 B1
end Go.Proofs.YtoffmfgaohjjpaaGreatDoor.Run
namespace Go.Proofs.YtoffmfgaohjjpaaGreatDoor.Tr
open Go Go.Lib
def sq:Bool->List UInt8->List UInt8
 |_,[]=> []
 |p,c::r=>cond (c==32&&p) (sq true r) (c::sq (c==32) r)
def trimL(l:List UInt8):List UInt8:=sq false (trimB l 32)
theorem ztt(p:Bool):sq p []=[]:=by cases p <;> rfl
theorem zef:∀(l:List UInt8),(l.dropWhile (·==32)).head?≠some 32
 |[]=>by simp
 |c::r=>by
  by_cases h:c=32
  .subst h;rw[List.dropWhile_cons_of_pos (by rfl)];exact zef r
  .rw[List.dropWhile_cons_of_neg B38];simpa using h
theorem zqq(l:List UInt8):(trimB l 32).head?≠some 32:=zef _
theorem ze6:∀(l:List UInt8) (p:Bool),(sq p l).length<=l.length
 |[],p=>by rw[ztt];exact jE
 |c::r,p=>by
  rw[sq];cases (c==32&&p)
  .have:=ze6 r (c==32);simp;exact this
  .have:=ze6 r true;simp;omega
theorem zdc(l:List UInt8):(l.dropWhile (·==32)).length<=l.length:=by
 have:=(List.dropWhile_sublist (p:=(·==(32:UInt8))) (l:=l)).length_le;exact this
theorem trimB_length(l:List UInt8):(trimB l 32).length<=l.length:=by
 unfold trimB trimRightB trimLeftB;have h1:=zdc ((l.reverse.dropWhile (·==32)).reverse);have h2:=zdc l.reverse;simp only[List.length_reverse] at h1 h2;omega
theorem trim_length(l:List UInt8):(trimL l).length<=l.length:=by
 have h1:=ze6 (trimB l 32) false;have h2:=trimB_length l;unfold trimL;omega
def zrq:Bool->List UInt8->Bool
 |p,[]=>p
 |_,c::r=>zrq (c==32) r
theorem zh1:∀(l:List UInt8) (p:Bool) (c:UInt8),sq p (l++ [c])=sq p l++cond (c==32&&zrq p l) [] [c]
 |[],p,c=>by
  rw[List.nil_append,ztt,zrq,sq];cases (c==32&&p) <;> simp[ztt]
 |d::r,p,c=>by
  rw[List.cons_append,sq,sq,zrq];cases hd:(d==32&&p)
  .simp only[cond_false,zh1 r (d==32) c,List.cons_append]
  .have h32:(d==32)=true:=by rw[Bool.and_eq_true] at hd;exact hd.1
   simp only[cond_true,zh1 r true c,h32]
theorem zga:∀(l:List UInt8) (p:Bool) (c:UInt8),zrq p (l++ [c])=(c==32)
 |[],_,_=>rfl
 |d::r,_,c=>by rw[List.cons_append,zrq,zga r (d==32) c]
def sqk(l:List UInt8)(k:Nat):List UInt8:=sq false (l.take k)
section
variable(l:List UInt8)
include l
theorem sqk_keep(k:Nat)(h:k<l.length)(hc:l[k]≠32):sqk l (k+1)=sqk l k++ [l[k]]:=by
 unfold sqk;rw[List.take_succ_eq_append_getElem h,zh1,show (l[k]==32)=false by simpa using hc];rfl
theorem sqk_first(k:Nat)(h:k+1<l.length)(hc:l[k]≠32):sqk l (k+1+1)=sqk l (k+1)++ [l[k+1]]:=by
 unfold sqk;rw[List.take_succ_eq_append_getElem h,zh1,List.take_succ_eq_append_getElem (show k<l.length by omega),zga,show (l[k]==32)=false by simpa using hc,Bool.and_false];rfl
theorem sqk_skip(k:Nat)(h:k+1<l.length)(hc:l[k]=32)(hd:l[k+1]=32):sqk l (k+1+1)=sqk l (k+1):=by
 unfold sqk;rw[List.take_succ_eq_append_getElem h,zh1,List.take_succ_eq_append_getElem (show k<l.length by omega),zga,hc,hd];simp
theorem sqk_end:sqk (trimB l 32) (trimB l 32).length=trimL l:=by unfold sqk trimL;rw[List.take_length]
theorem sqk_length(k:Nat):(sqk l k).length<=k:=by
 have:=ze6 (l.take k) false;have h2:=List.length_take_le k l;unfold sqk;omega
theorem trimB_first(h:0<(trimB l 32).length):(trimB l 32)[0]≠32:=by
 have:=zqq l;intro e;rw[List.head?_eq_getElem?,List.getElem?_eq_getElem h,e] at this;exact this rfl
end
end Go.Proofs.YtoffmfgaohjjpaaGreatDoor.Tr
namespace Go.Proofs.YtoffmfgaohjjpaaGreatDoor.Sw
open Go Go.Lib
section
variable (old wit:List UInt8)
def swF:Nat->List UInt8->List UInt8
 |0,_=> []
 |_+1,[]=> []
 |n+1,c::r=>if old.isPrefixOf (c::r) then wit++swF n ((c::r).drop old.length) else c::swF n r
def swp(l:List UInt8):List UInt8:=swF old wit l.length l
variable {old wit}
def B181(h:jp:=by simp only[List.length_drop,List.length_cons];omega):=h
theorem zj9(ho:old≠[]):∀(n:Nat) (l:List UInt8),l.length<=n->swF old wit (n+1) l=swF old wit n l
 |0,[],_=>rfl
 |0,_::_,h=>absurd h B7
 |n+1,[],_=>rfl
 |n+1,c::r,h=>by
  have hl:1<=old.length:=by cases old with
   |nil=>exact absurd rfl ho
   |cons _ _=>simp
  simp only[List.length_cons] at h;rw[swF,swF,zj9 ho n _ B181,zj9 ho n r B1]
theorem zjh(ho:old≠[])(l:List UInt8):∀k,swF old wit (l.length+k) l=swp old wit l
 |0=>rfl
 |k+1=>by rw[<-Nat.add_assoc,zj9 ho (l.length+k) l B1,zjh ho l k]
theorem swF_at(ho:old≠[])(l:List UInt8)(n:Nat)(h:l.length<=n):swF old wit n l=swp old wit l:=by
 obtain ⟨k,rfl⟩:∃k,n=l.length+k:=⟨n-l.length,B1⟩;exact zjh ho l k
theorem zo2(ho:old≠[])(c:UInt8)(r:List UInt8)(h:old.isPrefixOf (c::r)=false):swp old wit (c::r)=c::swp old wit r:=by
 show swF old wit (r.length+1) (c::r)=_;rw[swF,if_neg (by rw[h];exact Bool.false_ne_true)];rfl
theorem swp_hit(ho:old≠[])(l:List UInt8)(h:old.isPrefixOf l=true):swp old wit l=wit++swp old wit (l.drop old.length):=by
 cases l with
 |nil=>
  cases old with
  |nil=>exact absurd rfl ho
  |cons _ _=>simp at h
 |cons c r=>
  have hl:1<=old.length:=by cases old with
   |nil=>exact absurd rfl ho
   |cons _ _=>simp
  show swF old wit (r.length+1) (c::r)=_;rw[swF,if_pos h,swF_at ho _ _ B181]
theorem swp_index(ho:old≠[]):∀(l:List UInt8),(index l old=-1->swp old wit l=l)/\∀i:Nat,index l old=(i:Int)->swp old wit l=l.take i++(wit++swp old wit (l.drop (i+old.length)))
 |[]=>by
  have he:old.isEmpty=false:=by cases old with
   |nil=>exact absurd rfl ho
   |cons _ _=>rfl
  refine ⟨fun _=>rfl,fun i h=> ?_⟩;unfold index at h;rw[he] at h;exact absurd h B7
 |c::r=>by
  obtain ⟨h1,h2⟩:=swp_index ho r;unfold index;cases hp:old.isPrefixOf (c::r)
  .rw[if_neg Bool.false_ne_true]
   by_cases hn:index r old=-1
   .rw[if_pos (by simpa using hn)];refine ⟨fun _=>by rw[zo2 ho c r hp,h1 hn],fun i h=> ?_⟩;exact absurd h B7
   .rw[if_neg (by simpa using hn)];have hg:=index_ge r old;refine ⟨fun h=>by omega,fun i h=> ?_⟩;obtain ⟨j,rfl⟩:∃j,i=j+1:=⟨i-1,B1⟩;rw[zo2 ho c r hp,h2 j B1,show j+1+old.length=(j+old.length)+1 by omega];rfl
  .rw[if_pos rfl];refine ⟨fun h=>absurd h B3,fun i h=> ?_⟩;obtain rfl:i=0:=B1;rw[swp_hit ho _ hp];simp
end
end Go.Proofs.YtoffmfgaohjjpaaGreatDoor.Sw
namespace Go.Proofs.YtoffmfgaohjjpaaGreatDoor
namespace Ma
structure Sp where
 r:Int
 c:Int
structure Ar where
 t:Int
 l:Int
 b:Int
 r:Int
structure Arg where
 isA:Bool
 a:Ar
 v:Val.V
def sp0:Sp:=⟨0,0⟩
def ar0:Ar:=⟨0,0,0,0⟩
def vArg(v:Val.V):Arg:=⟨false,ar0,v⟩
def aArg(a:Ar):Arg:=⟨true,a,⟨0,0,⟨#[]⟩⟩⟩
def _root_.B13(h:jp:=by simp[IntKind.wrap,IntKind.bits,IntKind.signed];omega):=h
def _root_.B16(h:jp:=by unfold Addr.add;split <;> simp_all):=h
def _root_.B82(h:jp:=by simpa using h1):=h
def _root_.B87(h:jp:=by rw[IntKind.wrap_i64];omega):=h
def _root_.B124(h:jp:=by rw[hc];rfl):=h
def _root_.B198(h:jp:=by simpa using t0):=h
def _root_.M139(h:jp:=by
 simp only[IntKind.wrap,IntKind.bits,IntKind.signed];simp;split <;> omega):=h
end Ma
end Go.Proofs.YtoffmfgaohjjpaaGreatDoor
namespace Go.Proofs
open Go.Shelf
theorem jC{α:Type}{o:Option α}{a b:α}(h:o=some a)(k:a=b:=by kernel_rfl):o=some b:=h.trans (congrArg some k)
def Tryz.lays170_ren:Go.Shelf.Ren:=⟨fun|170=>269|n=>n,fun|70=>247|3=>3|0=>0|72=>249|37=>179|5=>5|n=>n,fun|n=>n⟩
theorem Tryz.lays170:Go.Proofs.Lays.n170 prog Tryz.lays170_ren:={
 mixed:=by kernel_rfl
 f170:=(jC func269)
 t0:=underlying0
 a0:=isAgg0
 z0:=sizeOf0
 v0:=zeroValue0
 t3:=underlying3
 a3:=isAgg3
 z3:=sizeOf3
 v3:=zeroValue3
 t37:=underlying179
 a37:=isAgg179
 z37:=sizeOf179
 v37:=zeroValue179
 t70:=underlying247
 a70:=isAgg247
 z70:=sizeOf247
 v70:=zeroValue247
 t72:=underlying249
 a72:=isAgg249
 z72:=sizeOf249
 v72:=zeroValue249}
open Go.RowKit in
theorem Tryz.Builder_Len(B b:Nat)(bs:List Value)(w:World)(h:Lib.IsBuilder 249 5 B b bs w):
 Calls prog 269 #[.pointer (some ⟨b,0,none⟩)] w fun e w'=>e= .returned (.int .i64 bs.length)/\w'=w:=Any.Builder_Len Tryz.lays170 B b bs w h
def Tryz.lays169_ren:Go.Shelf.Ren:=⟨fun|169=>264|n=>n,fun|70=>247|9=>9|0=>0|72=>249|37=>179|127=>281|3=>3|5=>5|n=>n,fun|n=>n⟩
theorem Tryz.lays169:Go.Proofs.Lays.n169 prog Tryz.lays169_ren:={
 mixed:=by kernel_rfl
 f169:=(jC func264)
 t0:=underlying0
 a0:=isAgg0
 z0:=sizeOf0
 v0:=zeroValue0
 t3:=underlying3
 a3:=isAgg3
 z3:=sizeOf3
 v3:=zeroValue3
 t9:=underlying9
 a9:=isAgg9
 z9:=sizeOf9
 v9:=zeroValue9
 t37:=underlying179
 a37:=isAgg179
 z37:=sizeOf179
 v37:=zeroValue179
 t70:=underlying247
 a70:=isAgg247
 z70:=sizeOf247
 v70:=zeroValue247
 t72:=underlying249
 a72:=isAgg249
 z72:=sizeOf249
 v72:=zeroValue249
 t127:=underlying281
 a127:=isAgg281
 z127:=sizeOf281
 v127:=zeroValue281}
theorem Tryz.Builder_Extra_169:Builder.Extra prog Tryz.lays169_ren:={
 sizeBuilder:=by kernel_rfl
 liesBuilder:=by kernel_rfl
 t5:=underlying5
 a5:=isAgg5
 z5:=sizeOf5
 v5:=zeroValue5
 infoByte:=by kernel_rfl
 cellsByte:=by kernel_rfl
 sizeByte:=by kernel_rfl
 neB5:=by decide}
open Go.RowKit in
theorem Tryz.Builder_String_any(B b:Nat)(l:List UInt8)(w:World)(h:Lib.IsBuilder 249 5 B b (Lib.byteCells l) w)(hBw:B<=w.heap.size):
 Calls prog 264 #[.pointer (some ⟨b,0,none⟩)] w fun e w'=>e= .returned (.string ⟨l.toArray⟩)/\Below B w w':=Any.Builder_String_any Tryz.lays169 Tryz.Builder_Extra_169 B b l w h hBw
def Tryz.lays158_ren:Go.Shelf.Ren:=⟨fun|158=>273|165=>301|166=>268|167=>263|169=>264|230=>302|203=>303|240=>296|241=>318|197=>297|118=>319|168=>320|270=>321|262=>322|276=>313|277=>331|260=>314|242=>332|313=>333|278=>337|274=>338|275=>339|n=>n,fun|9=>9|4=>4|3=>3|5=>5|72=>249|0=>0|76=>221|75=>184|107=>287|70=>247|20=>20|37=>179|127=>281|21=>21|105=>282|164=>298|162=>317|203=>315|119=>308|46=>199|139=>311|138=>310|51=>232|160=>321|208=>327|206=>325|80=>251|n=>n,fun|13=>6|3=>4|4=>5|n=>n⟩
theorem Tryz.lays158:Go.Proofs.Lays.n158 prog Tryz.lays158_ren:={
 mixed:=by kernel_rfl
 f118:=(jC func319)
 f158:=(jC func273)
 f165:=(jC func301)
 f166:=(jC func268)
 f167:=(jC func263)
 f168:=(jC func320)
 f169:=(jC func264)
 f197:=(jC func297)
 f203:=(jC func303)
 f230:=(jC func302)
 f240:=(jC func296)
 f241:=(jC func318)
 f242:=(jC func332)
 f260:=(jC func314)
 f262:=(jC func322)
 f270:=(jC func321)
 f274:=(jC func338)
 f275:=(jC func339)
 f276:=(jC func313)
 f277:=(jC func331)
 f278:=(jC func337)
 f313:=(jC func333)
 t0:=underlying0
 a0:=isAgg0
 z0:=sizeOf0
 v0:=zeroValue0
 t3:=underlying3
 a3:=isAgg3
 z3:=sizeOf3
 v3:=zeroValue3
 t4:=underlying4
 a4:=isAgg4
 z4:=sizeOf4
 v4:=zeroValue4
 t5:=underlying5
 a5:=isAgg5
 z5:=sizeOf5
 v5:=zeroValue5
 t9:=underlying9
 a9:=isAgg9
 z9:=sizeOf9
 v9:=zeroValue9
 t20:=underlying20
 a20:=isAgg20
 z20:=sizeOf20
 v20:=zeroValue20
 t21:=underlying21
 a21:=isAgg21
 z21:=sizeOf21
 v21:=zeroValue21
 t37:=underlying179
 a37:=isAgg179
 z37:=sizeOf179
 v37:=zeroValue179
 t46:=underlying199
 a46:=isAgg199
 z46:=sizeOf199
 v46:=zeroValue199
 t51:=underlying232
 a51:=isAgg232
 z51:=sizeOf232
 v51:=zeroValue232
 t70:=underlying247
 a70:=isAgg247
 z70:=sizeOf247
 v70:=zeroValue247
 t72:=underlying249
 a72:=isAgg249
 z72:=sizeOf249
 v72:=zeroValue249
 t75:=underlying184
 a75:=isAgg184
 z75:=sizeOf184
 v75:=zeroValue184
 t76:=underlying221
 a76:=isAgg221
 z76:=sizeOf221
 v76:=zeroValue221
 t105:=underlying282
 a105:=isAgg282
 z105:=sizeOf282
 v105:=zeroValue282
 t107:=underlying287
 a107:=isAgg287
 z107:=sizeOf287
 v107:=zeroValue287
 t119:=underlying308
 a119:=isAgg308
 z119:=sizeOf308
 t127:=underlying281
 a127:=isAgg281
 z127:=sizeOf281
 v127:=zeroValue281
 t138:=underlying310
 a138:=isAgg310
 z138:=sizeOf310
 v138:=zeroValue310
 t139:=underlying311
 a139:=isAgg311
 z139:=sizeOf311
 v139:=zeroValue311
 t160:=underlying321
 a160:=isAgg321
 z160:=sizeOf321
 v160:=zeroValue321
 t162:=underlying317
 a162:=isAgg317
 z162:=sizeOf317
 v162:=zeroValue317
 t164:=underlying298
 a164:=isAgg298
 z164:=sizeOf298
 v164:=zeroValue298
 t203:=underlying315
 a203:=isAgg315
 z203:=sizeOf315
 v203:=zeroValue315
 t206:=underlying325
 a206:=isAgg325
 z206:=sizeOf325
 v206:=zeroValue325
 t208:=underlying327
 a208:=isAgg327
 z208:=sizeOf327
 v208:=zeroValue327
 g3:=by kernel_rfl
 g4:=by kernel_rfl
 g13:=by kernel_rfl}
theorem Tryz.Builder_Extra_158:Builder.Extra prog Tryz.lays158_ren:={
 sizeBuilder:=by kernel_rfl
 liesBuilder:=by kernel_rfl
 t5:=underlying5
 a5:=isAgg5
 z5:=sizeOf5
 v5:=zeroValue5
 infoByte:=by kernel_rfl
 cellsByte:=by kernel_rfl
 sizeByte:=by kernel_rfl
 neB5:=by decide}
open Go.RowKit in
theorem Tryz.strings_ToUpper_ascii(s:ByteArray)(w:World)(hs:s.size<=140737488355328)(hascii:∀(j:Nat) (b:UInt8),s.data.toList[j]?=some b->b.toNat<128):
 Calls prog 273 #[.string s] w fun e w'=>e= .returned (.string ⟨(Lib.toUpperA s.data.toList).toArray⟩)/\Below w.heap.size w w':=Any.strings_ToUpper_ascii Tryz.lays158 Tryz.Builder_Extra_158 s w hs hascii
def Tryz.lays160_ren:Go.Shelf.Ren:=⟨fun|160=>262|232=>290|231=>289|227=>291|234=>293|233=>292|236=>295|235=>294|228=>310|271=>312|151=>311|197=>297|120=>326|152=>325|260=>314|137=>334|119=>271|224=>329|225=>328|217=>327|266=>335|n=>n,fun|9=>9|4=>4|3=>3|5=>5|117=>277|116=>276|0=>0|124=>280|21=>21|105=>282|46=>199|119=>308|139=>311|138=>310|n=>n,fun|3=>4|4=>5|n=>n⟩
theorem Tryz.lays160:Go.Proofs.Lays.n160 prog Tryz.lays160_ren:={
 mixed:=by kernel_rfl
 f119:=(jC func271)
 f120:=(jC func326)
 f137:=(jC func334)
 f151:=(jC func311)
 f152:=(jC func325)
 f160:=(jC func262)
 f197:=(jC func297)
 f217:=(jC func327)
 f224:=(jC func329)
 f225:=(jC func328)
 f227:=(jC func291)
 f228:=(jC func310)
 f231:=(jC func289)
 f232:=(jC func290)
 f233:=(jC func292)
 f234:=(jC func293)
 f235:=(jC func294)
 f236:=(jC func295)
 f260:=(jC func314)
 f266:=(jC func335)
 f271:=(jC func312)
 t0:=underlying0
 a0:=isAgg0
 z0:=sizeOf0
 v0:=zeroValue0
 t3:=underlying3
 a3:=isAgg3
 z3:=sizeOf3
 v3:=zeroValue3
 t4:=underlying4
 a4:=isAgg4
 z4:=sizeOf4
 v4:=zeroValue4
 t5:=underlying5
 a5:=isAgg5
 z5:=sizeOf5
 v5:=zeroValue5
 t9:=underlying9
 a9:=isAgg9
 z9:=sizeOf9
 v9:=zeroValue9
 t21:=underlying21
 a21:=isAgg21
 z21:=sizeOf21
 v21:=zeroValue21
 t46:=underlying199
 a46:=isAgg199
 z46:=sizeOf199
 v46:=zeroValue199
 t105:=underlying282
 a105:=isAgg282
 z105:=sizeOf282
 v105:=zeroValue282
 t116:=underlying276
 a116:=isAgg276
 z116:=sizeOf276
 t117:=underlying277
 a117:=isAgg277
 z117:=sizeOf277
 v117:=zeroValue277
 t119:=underlying308
 a119:=isAgg308
 z119:=sizeOf308
 t124:=underlying280
 a124:=isAgg280
 z124:=sizeOf280
 v124:=zeroValue280
 t138:=underlying310
 a138:=isAgg310
 z138:=sizeOf310
 v138:=zeroValue310
 t139:=underlying311
 a139:=isAgg311
 z139:=sizeOf311
 v139:=zeroValue311
 g3:=by kernel_rfl
 g4:=by kernel_rfl}
open Go.RowKit in
theorem Tryz.strings_Trim_one(s:ByteArray)(c:UInt8)(hc:c.toNat<128)(w:World)(hs:s.size<=9223372036854775807):
 Calls prog 262 #[.string s,.string ⟨#[c]⟩] w fun e w'=>e= .returned (.string ⟨(Lib.trimB s.data.toList c).toArray⟩)/\(w'=w\/w'=w.drew):=Any.strings_Trim_one Tryz.lays160 s c hc w hs
def Tryz.lays119_ren:Go.Shelf.Ren:=⟨fun|119=>271|n=>n,fun|21=>21|4=>4|n=>n,fun|n=>n⟩
theorem Tryz.lays119:Go.Proofs.Lays.n119 prog Tryz.lays119_ren:={
 mixed:=by kernel_rfl
 f119:=(jC func271)
 t4:=underlying4
 a4:=isAgg4
 z4:=sizeOf4
 v4:=zeroValue4
 t21:=underlying21
 a21:=isAgg21
 z21:=sizeOf21
 v21:=zeroValue21}
theorem Tryz.utf8_ValidRune(r:Int)(w:World):
 Calls prog 271 #[.int .i32 r] w fun e w'=>e= .returned (.bool (Lib.validRune r))/\w'=w:=Any.utf8_ValidRune Tryz.lays119 r w
def Tryz.lays106_ren:Go.Shelf.Ren:=⟨fun|106=>123|213=>171|265=>183|n=>n,fun|9=>9|3=>3|n=>n,fun|n=>n⟩
theorem Tryz.lays106:Go.Proofs.Lays.n106 prog Tryz.lays106_ren:={
 mixed:=by kernel_rfl
 f106:=(jC func123)
 f213:=(jC func171)
 f265:=(jC func183)
 t3:=underlying3
 a3:=isAgg3
 z3:=sizeOf3
 v3:=zeroValue3
 t9:=underlying9
 a9:=isAgg9
 z9:=sizeOf9
 v9:=zeroValue9}
open Go.RowKit in
theorem Tryz.strings_Compare(a b:ByteArray)(w:World):
 Calls prog 123 #[.string a,.string b] w fun e w'=>e= .returned (.int .i64 (Lib.compareBytes a.data.toList b.data.toList))/\w'=w:=Any.strings_Compare Tryz.lays106 a b w
def Tryz.lays103_ren:Go.Shelf.Ren:=⟨fun|103=>230|210=>272|206=>298|n=>n,fun|9=>9|4=>4|24=>215|3=>3|n=>n,fun|n=>n⟩
theorem Tryz.lays103:Go.Proofs.Lays.n103 prog Tryz.lays103_ren:={
 mixed:=by kernel_rfl
 f103:=(jC func230)
 f206:=(jC func298)
 f210:=(jC func272)
 t3:=underlying3
 a3:=isAgg3
 z3:=sizeOf3
 v3:=zeroValue3
 t4:=underlying4
 a4:=isAgg4
 z4:=sizeOf4
 v4:=zeroValue4
 t9:=underlying9
 a9:=isAgg9
 z9:=sizeOf9
 v9:=zeroValue9
 t24:=underlying215
 a24:=isAgg215
 z24:=sizeOf215
 v24:=zeroValue215}
open Go.RowKit in
theorem Tryz.strings_CutPrefix(s p:ByteArray)(w:World):
 Calls prog 230 #[.string s,.string p] w fun e w'=>e= .returned (.tuple #[.string ⟨(Lib.trimPrefix s.data.toList p.data.toList).toArray⟩,.bool (Lib.hasPrefix s.data.toList p.data.toList)])/\w'=w:=Any.strings_CutPrefix Tryz.lays103 s p w
def Tryz.laysM173_ren:Go.Shelf.Ren:=⟨fun|173=>180|246=>247|283=>280|284=>281|285=>282|286=>283|129=>246|317=>305|318=>306|319=>307|320=>308|337=>323|338=>324|n=>n,fun|2=>2|3=>3|9=>9|4=>4|171=>266|0=>0|53=>234|37=>179|5=>5|173=>268|212=>292|51=>232|20=>20|213=>293|46=>199|232=>318|233=>319|n=>n,fun|17=>3|18=>7|19=>8|n=>n⟩
theorem Tryz.laysM173:Go.Proofs.LaysM.n173 prog Tryz.laysM173_ren:={
 mixed:=by kernel_rfl
 f129:=(jC func246)
 f173:=(jC func180)
 f246:=(jC func247)
 f283:=(jC func280)
 f284:=(jC func281)
 f285:=(jC func282)
 f286:=(jC func283)
 f317:=(jC func305)
 f318:=(jC func306)
 f319:=(jC func307)
 f320:=(jC func308)
 f337:=(jC func323)
 f338:=(jC func324)
 t0:=underlying0
 a0:=isAgg0
 z0:=sizeOf0
 v0:=zeroValue0
 t2:=underlying2
 a2:=isAgg2
 z2:=sizeOf2
 v2:=zeroValue2
 t3:=underlying3
 a3:=isAgg3
 z3:=sizeOf3
 v3:=zeroValue3
 t4:=underlying4
 a4:=isAgg4
 z4:=sizeOf4
 v4:=zeroValue4
 t5:=underlying5
 a5:=isAgg5
 z5:=sizeOf5
 v5:=zeroValue5
 t9:=underlying9
 a9:=isAgg9
 z9:=sizeOf9
 v9:=zeroValue9
 t20:=underlying20
 a20:=isAgg20
 z20:=sizeOf20
 v20:=zeroValue20
 t37:=underlying179
 a37:=isAgg179
 z37:=sizeOf179
 v37:=zeroValue179
 t46:=underlying199
 a46:=isAgg199
 z46:=sizeOf199
 v46:=zeroValue199
 t51:=underlying232
 a51:=isAgg232
 z51:=sizeOf232
 v51:=zeroValue232
 t53:=underlying234
 a53:=isAgg234
 z53:=sizeOf234
 v53:=zeroValue234
 t171:=underlying266
 a171:=isAgg266
 z171:=sizeOf266
 v171:=zeroValue266
 t173:=underlying268
 a173:=isAgg268
 z173:=sizeOf268
 v173:=zeroValue268
 t212:=underlying292
 a212:=isAgg292
 z212:=sizeOf292
 v212:=zeroValue292
 t213:=underlying293
 a213:=isAgg293
 z213:=sizeOf293
 t232:=underlying318
 a232:=isAgg318
 z232:=sizeOf318
 v232:=zeroValue318
 t233:=underlying319
 a233:=isAgg319
 z233:=sizeOf319
 v233:=zeroValue319
 g17:=by kernel_rfl
 g18:=by kernel_rfl
 g19:=by kernel_rfl
 i0:=by kernel_rfl
 i2:=by kernel_rfl
 i3:=by kernel_rfl
 i4:=by kernel_rfl
 i5:=by kernel_rfl
 i9:=by kernel_rfl
 i20:=by kernel_rfl
 i37:=by kernel_rfl
 i46:=by kernel_rfl
 i51:=by kernel_rfl
 i53:=by kernel_rfl
 i171:=by kernel_rfl
 i173:=by kernel_rfl
 i212:=by kernel_rfl
 i232:=by kernel_rfl
 i233:=by kernel_rfl
 m17:=by kernel_rfl
 m18:=by kernel_rfl
 m19:=by kernel_rfl}
open Go.RowKit Go.Sort Go.Lib in
theorem Tryz.strconv_FormatInt_10(n:Int)(h0:-9223372036854775808<=n)(h1:n<=9223372036854775807)(w:World)(htab:Lib.TabIs prog w "internal/strconv.uint64pow10" .u64 Lib.pow10Tab):
 Calls prog 180 #[.int .i64 n,.int .i64 10] w fun e w'=>e= .returned (.string ⟨(Lib.itoa n).toArray⟩)/\∃k os,w'=grow (w.drewN k) os:=Any.strconv_FormatInt_10 Tryz.laysM173 n h0 h1 w htab
def Tryz.laysC172_ren:Go.Shelf.Ren:=⟨fun|172=>235|244=>274|245=>182|247=>181|279=>249|280=>250|281=>251|282=>252|287=>248|316=>286|171=>288|205=>287|321=>284|322=>285|243=>309|246=>247|283=>280|284=>281|285=>282|286=>283|129=>246|317=>305|318=>306|319=>307|320=>308|337=>323|338=>324|n=>n,fun|9=>9|3=>3|75=>184|76=>221|4=>4|5=>5|167=>235|37=>179|0=>0|85=>185|2=>2|168=>238|53=>234|175=>236|46=>199|210=>272|127=>281|145=>296|143=>294|21=>21|171=>266|173=>268|212=>292|51=>232|20=>20|213=>293|232=>318|233=>319|80=>251|n=>n,fun|15=>1|16=>2|17=>3|18=>7|19=>8|n=>n⟩
theorem Tryz.laysC172:Go.Proofs.LaysC.n172 prog Tryz.laysC172_ren:={
 mixed:=by kernel_rfl
 f129:=(jC func246)
 f171:=(jC func288)
 f172:=(jC func235)
 f205:=(jC func287)
 f243:=(jC func309)
 f244:=(jC func274)
 f245:=(jC func182)
 f246:=(jC func247)
 f247:=(jC func181)
 f279:=(jC func249)
 f280:=(jC func250)
 f281:=(jC func251)
 f282:=(jC func252)
 f283:=(jC func280)
 f284:=(jC func281)
 f285:=(jC func282)
 f286:=(jC func283)
 f287:=(jC func248)
 f316:=(jC func286)
 f317:=(jC func305)
 f318:=(jC func306)
 f319:=(jC func307)
 f320:=(jC func308)
 f321:=(jC func284)
 f322:=(jC func285)
 f337:=(jC func323)
 f338:=(jC func324)
 t0:=underlying0
 a0:=isAgg0
 z0:=sizeOf0
 v0:=zeroValue0
 t2:=underlying2
 a2:=isAgg2
 z2:=sizeOf2
 v2:=zeroValue2
 t3:=underlying3
 a3:=isAgg3
 z3:=sizeOf3
 v3:=zeroValue3
 t4:=underlying4
 a4:=isAgg4
 z4:=sizeOf4
 v4:=zeroValue4
 t5:=underlying5
 a5:=isAgg5
 z5:=sizeOf5
 v5:=zeroValue5
 t9:=underlying9
 a9:=isAgg9
 z9:=sizeOf9
 v9:=zeroValue9
 t20:=underlying20
 a20:=isAgg20
 z20:=sizeOf20
 v20:=zeroValue20
 t21:=underlying21
 a21:=isAgg21
 z21:=sizeOf21
 v21:=zeroValue21
 t37:=underlying179
 a37:=isAgg179
 z37:=sizeOf179
 v37:=zeroValue179
 t46:=underlying199
 a46:=isAgg199
 z46:=sizeOf199
 v46:=zeroValue199
 t51:=underlying232
 a51:=isAgg232
 z51:=sizeOf232
 v51:=zeroValue232
 t53:=underlying234
 a53:=isAgg234
 z53:=sizeOf234
 v53:=zeroValue234
 t75:=underlying184
 a75:=isAgg184
 z75:=sizeOf184
 v75:=zeroValue184
 t76:=underlying221
 a76:=isAgg221
 z76:=sizeOf221
 v76:=zeroValue221
 t85:=underlying185
 a85:=isAgg185
 z85:=sizeOf185
 v85:=zeroValue185
 t127:=underlying281
 a127:=isAgg281
 z127:=sizeOf281
 v127:=zeroValue281
 t143:=underlying294
 a143:=isAgg294
 z143:=sizeOf294
 v143:=zeroValue294
 t145:=underlying296
 a145:=isAgg296
 z145:=sizeOf296
 v145:=zeroValue296
 t167:=underlying235
 a167:=isAgg235
 z167:=sizeOf235
 v167:=zeroValue235
 t168:=underlying238
 a168:=isAgg238
 z168:=sizeOf238
 v168:=zeroValue238
 t171:=underlying266
 a171:=isAgg266
 z171:=sizeOf266
 v171:=zeroValue266
 t173:=underlying268
 a173:=isAgg268
 z173:=sizeOf268
 v173:=zeroValue268
 t175:=underlying236
 a175:=isAgg236
 z175:=sizeOf236
 v175:=zeroValue236
 t210:=underlying272
 a210:=isAgg272
 z210:=sizeOf272
 v210:=zeroValue272
 t212:=underlying292
 a212:=isAgg292
 z212:=sizeOf292
 v212:=zeroValue292
 t213:=underlying293
 a213:=isAgg293
 z213:=sizeOf293
 t232:=underlying318
 a232:=isAgg318
 z232:=sizeOf318
 v232:=zeroValue318
 t233:=underlying319
 a233:=isAgg319
 z233:=sizeOf319
 v233:=zeroValue319
 g15:=by kernel_rfl
 g16:=by kernel_rfl
 g17:=by kernel_rfl
 g18:=by kernel_rfl
 g19:=by kernel_rfl
 t80:=underlying251
 a80:=isAgg251
 z80:=sizeOf251
 v80:=zeroValue251
 i0:=by kernel_rfl
 i2:=by kernel_rfl
 i3:=by kernel_rfl
 i4:=by kernel_rfl
 i5:=by kernel_rfl
 i9:=by kernel_rfl
 i20:=by kernel_rfl
 i21:=by kernel_rfl
 i37:=by kernel_rfl
 i46:=by kernel_rfl
 i51:=by kernel_rfl
 i53:=by kernel_rfl
 i75:=by kernel_rfl
 i76:=by kernel_rfl
 i80:=by kernel_rfl
 i85:=by kernel_rfl
 i127:=by kernel_rfl
 i143:=by kernel_rfl
 i145:=by kernel_rfl
 i167:=by kernel_rfl
 i168:=by kernel_rfl
 i171:=by kernel_rfl
 i173:=by kernel_rfl
 i175:=by kernel_rfl
 i210:=by kernel_rfl
 i212:=by kernel_rfl
 i232:=by kernel_rfl
 i233:=by kernel_rfl
 m15:=by kernel_rfl
 m16:=by kernel_rfl
 m17:=by kernel_rfl
 m18:=by kernel_rfl
 m19:=by kernel_rfl
 c0:=by kernel_rfl
 c2:=by kernel_rfl
 c3:=by kernel_rfl
 c4:=by kernel_rfl
 c5:=by kernel_rfl
 c9:=by kernel_rfl
 c20:=by kernel_rfl
 c21:=by kernel_rfl
 c37:=by kernel_rfl
 c46:=by kernel_rfl
 c51:=by kernel_rfl
 c53:=by kernel_rfl
 c75:=by kernel_rfl
 c76:=by kernel_rfl
 c80:=by kernel_rfl
 c85:=by kernel_rfl
 c127:=by kernel_rfl
 c143:=by kernel_rfl
 c145:=by kernel_rfl
 c167:=by kernel_rfl
 c168:=by kernel_rfl
 c171:=by kernel_rfl
 c173:=by kernel_rfl
 c175:=by kernel_rfl
 c210:=by kernel_rfl
 c212:=by kernel_rfl
 c213:=by kernel_rfl
 c232:=by kernel_rfl
 c233:=by kernel_rfl}
open Go.RowKit in
theorem Tryz.strconv_Atoi_ok(s:ByteArray)(hmax:s.size<=9223372036854775806)(v:Int)(h:Lib.atoiAll s.data.toList= .ok v)(w:World):
 Calls prog 235 #[.string s] w fun e w'=>e= .returned (.tuple #[.int .i64 v,.nilIface])/\(w'=w\/∃t,w'=Lib.bytesWorld w 5 t):=Any.strconv_Atoi_ok Tryz.laysC172 s hmax v h w
open Go.RowKit in
theorem Tryz.strconv_Atoi_range(s:ByteArray)(hlim:s.size<=281474976710656)(h:Lib.atoiAll s.data.toList= .range)(ev:Value)(w:World)(hv:w.cell? ⟨2,0,none⟩=some ev)(hev:ev= .nilIface\/∃te pe,ev= .iface te pe):
 Calls prog 235 #[.string s] w fun e w'=>∃N,e= .returned (.tuple #[.int .i64 (Lib.atoiSat s.data.toList),.iface 238 (.pointer (some ⟨N,0,none⟩))])/\w.heap.size<=N/\w'.heap[N]?=some (.cells #[.string ⟨#[65,116,111,105]⟩,.string s,ev] 272 (0,0))/\Below w.heap.size w w':=Any.strconv_Atoi_range Tryz.laysC172 s hlim h ev w hv hev
def Tryz.laysC174_ren:Go.Shelf.Ren:=⟨fun|174=>168|247=>181|245=>182|287=>248|279=>249|280=>250|281=>251|282=>252|321=>284|322=>285|316=>286|171=>288|205=>287|243=>309|246=>247|283=>280|284=>281|285=>282|286=>283|129=>246|317=>305|318=>306|319=>307|320=>308|337=>323|338=>324|n=>n,fun|9=>9|3=>3|2=>2|75=>184|85=>185|4=>4|167=>235|5=>5|53=>234|175=>236|46=>199|168=>238|37=>179|0=>0|210=>272|21=>21|127=>281|145=>296|143=>294|171=>266|173=>268|212=>292|51=>232|20=>20|213=>293|232=>318|233=>319|80=>251|n=>n,fun|15=>1|16=>2|17=>3|18=>7|19=>8|n=>n⟩
theorem Tryz.laysC174:Go.Proofs.LaysC.n174 prog Tryz.laysC174_ren:={
 mixed:=by kernel_rfl
 f129:=(jC func246)
 f171:=(jC func288)
 f174:=(jC func168)
 f205:=(jC func287)
 f243:=(jC func309)
 f245:=(jC func182)
 f246:=(jC func247)
 f247:=(jC func181)
 f279:=(jC func249)
 f280:=(jC func250)
 f281:=(jC func251)
 f282:=(jC func252)
 f283:=(jC func280)
 f284:=(jC func281)
 f285:=(jC func282)
 f286:=(jC func283)
 f287:=(jC func248)
 f316:=(jC func286)
 f317:=(jC func305)
 f318:=(jC func306)
 f319:=(jC func307)
 f320:=(jC func308)
 f321:=(jC func284)
 f322:=(jC func285)
 f337:=(jC func323)
 f338:=(jC func324)
 t0:=underlying0
 a0:=isAgg0
 z0:=sizeOf0
 v0:=zeroValue0
 t2:=underlying2
 a2:=isAgg2
 z2:=sizeOf2
 v2:=zeroValue2
 t3:=underlying3
 a3:=isAgg3
 z3:=sizeOf3
 v3:=zeroValue3
 t4:=underlying4
 a4:=isAgg4
 z4:=sizeOf4
 v4:=zeroValue4
 t5:=underlying5
 a5:=isAgg5
 z5:=sizeOf5
 v5:=zeroValue5
 t9:=underlying9
 a9:=isAgg9
 z9:=sizeOf9
 v9:=zeroValue9
 t20:=underlying20
 a20:=isAgg20
 z20:=sizeOf20
 v20:=zeroValue20
 t21:=underlying21
 a21:=isAgg21
 z21:=sizeOf21
 v21:=zeroValue21
 t37:=underlying179
 a37:=isAgg179
 z37:=sizeOf179
 v37:=zeroValue179
 t46:=underlying199
 a46:=isAgg199
 z46:=sizeOf199
 v46:=zeroValue199
 t51:=underlying232
 a51:=isAgg232
 z51:=sizeOf232
 v51:=zeroValue232
 t53:=underlying234
 a53:=isAgg234
 z53:=sizeOf234
 v53:=zeroValue234
 t75:=underlying184
 a75:=isAgg184
 z75:=sizeOf184
 v75:=zeroValue184
 t85:=underlying185
 a85:=isAgg185
 z85:=sizeOf185
 v85:=zeroValue185
 t127:=underlying281
 a127:=isAgg281
 z127:=sizeOf281
 v127:=zeroValue281
 t143:=underlying294
 a143:=isAgg294
 z143:=sizeOf294
 v143:=zeroValue294
 t145:=underlying296
 a145:=isAgg296
 z145:=sizeOf296
 v145:=zeroValue296
 t167:=underlying235
 a167:=isAgg235
 z167:=sizeOf235
 v167:=zeroValue235
 t168:=underlying238
 a168:=isAgg238
 z168:=sizeOf238
 v168:=zeroValue238
 t171:=underlying266
 a171:=isAgg266
 z171:=sizeOf266
 v171:=zeroValue266
 t173:=underlying268
 a173:=isAgg268
 z173:=sizeOf268
 v173:=zeroValue268
 t175:=underlying236
 a175:=isAgg236
 z175:=sizeOf236
 v175:=zeroValue236
 t210:=underlying272
 a210:=isAgg272
 z210:=sizeOf272
 v210:=zeroValue272
 t212:=underlying292
 a212:=isAgg292
 z212:=sizeOf292
 v212:=zeroValue292
 t213:=underlying293
 a213:=isAgg293
 z213:=sizeOf293
 t232:=underlying318
 a232:=isAgg318
 z232:=sizeOf318
 v232:=zeroValue318
 t233:=underlying319
 a233:=isAgg319
 z233:=sizeOf319
 v233:=zeroValue319
 g15:=by kernel_rfl
 g16:=by kernel_rfl
 g17:=by kernel_rfl
 g18:=by kernel_rfl
 g19:=by kernel_rfl
 t80:=underlying251
 a80:=isAgg251
 z80:=sizeOf251
 v80:=zeroValue251
 i0:=by kernel_rfl
 i2:=by kernel_rfl
 i3:=by kernel_rfl
 i4:=by kernel_rfl
 i5:=by kernel_rfl
 i9:=by kernel_rfl
 i20:=by kernel_rfl
 i21:=by kernel_rfl
 i37:=by kernel_rfl
 i46:=by kernel_rfl
 i51:=by kernel_rfl
 i53:=by kernel_rfl
 i75:=by kernel_rfl
 i80:=by kernel_rfl
 i85:=by kernel_rfl
 i127:=by kernel_rfl
 i143:=by kernel_rfl
 i145:=by kernel_rfl
 i167:=by kernel_rfl
 i168:=by kernel_rfl
 i171:=by kernel_rfl
 i173:=by kernel_rfl
 i175:=by kernel_rfl
 i210:=by kernel_rfl
 i212:=by kernel_rfl
 i232:=by kernel_rfl
 i233:=by kernel_rfl
 m15:=by kernel_rfl
 m16:=by kernel_rfl
 m17:=by kernel_rfl
 m18:=by kernel_rfl
 m19:=by kernel_rfl
 c0:=by kernel_rfl
 c2:=by kernel_rfl
 c3:=by kernel_rfl
 c4:=by kernel_rfl
 c5:=by kernel_rfl
 c9:=by kernel_rfl
 c20:=by kernel_rfl
 c21:=by kernel_rfl
 c37:=by kernel_rfl
 c46:=by kernel_rfl
 c51:=by kernel_rfl
 c53:=by kernel_rfl
 c75:=by kernel_rfl
 c80:=by kernel_rfl
 c85:=by kernel_rfl
 c127:=by kernel_rfl
 c143:=by kernel_rfl
 c145:=by kernel_rfl
 c167:=by kernel_rfl
 c168:=by kernel_rfl
 c171:=by kernel_rfl
 c173:=by kernel_rfl
 c175:=by kernel_rfl
 c210:=by kernel_rfl
 c212:=by kernel_rfl
 c213:=by kernel_rfl
 c232:=by kernel_rfl
 c233:=by kernel_rfl}
open Go.RowKit in
theorem Tryz.strconv_ParseInt_10_at64_ok(s:ByteArray)(hmax:s.size<=9223372036854775806)(v:Int)(h:Lib.parseIntB 64 s.data.toList= .ok v)(w:World):
 Calls prog 168 #[.string s,.int .i64 10,.int .i64 64] w fun e w'=>e= .returned (.tuple #[.int .i64 v,.nilIface])/\(w'=w\/∃t,w'=Lib.bytesWorld w 5 t):=Any.strconv_ParseInt_10_at64_ok Tryz.laysC174 s hmax v h w
open Go.RowKit in
theorem Tryz.strconv_ParseInt_10_at64_range(s:ByteArray)(hlim:s.size<=281474976710656)(h:Lib.parseIntB 64 s.data.toList= .range)(ev:Value)(w:World)(hv:w.cell? ⟨2,0,none⟩=some ev)(hev:ev= .nilIface\/∃te pe,ev= .iface te pe):
 Calls prog 168 #[.string s,.int .i64 10,.int .i64 64] w fun e w'=>∃N,e= .returned (.tuple #[.int .i64 (Lib.intSat 64 s.data.toList),.iface 238 (.pointer (some ⟨N,0,none⟩))])/\w.heap.size<=N/\w'.heap[N]?=some (.cells #[.string ⟨#[80,97,114,115,101,73,110,116]⟩,.string s,ev] 272 (0,0))/\Below w.heap.size w w':=Any.strconv_ParseInt_10_at64_range Tryz.laysC174 s hlim h ev w hv hev
def Tryz.lays145_ren:Go.Shelf.Ren:=⟨fun|145=>267|220=>299|219=>315|217=>327|225=>328|224=>329|267=>330|266=>335|314=>336|n=>n,fun|9=>9|4=>4|59=>254|3=>3|5=>5|46=>199|146=>300|51=>232|n=>n,fun|1=>0|n=>n⟩
theorem Tryz.lays145:Go.Proofs.Lays.n145 prog Tryz.lays145_ren:={
 mixed:=by kernel_rfl
 f145:=(jC func267)
 f217:=(jC func327)
 f219:=(jC func315)
 f220:=(jC func299)
 f224:=(jC func329)
 f225:=(jC func328)
 f266:=(jC func335)
 f267:=(jC func330)
 f314:=(jC func336)
 t3:=underlying3
 a3:=isAgg3
 z3:=sizeOf3
 v3:=zeroValue3
 t4:=underlying4
 a4:=isAgg4
 z4:=sizeOf4
 v4:=zeroValue4
 t5:=underlying5
 a5:=isAgg5
 z5:=sizeOf5
 v5:=zeroValue5
 t9:=underlying9
 a9:=isAgg9
 z9:=sizeOf9
 v9:=zeroValue9
 t46:=underlying199
 a46:=isAgg199
 z46:=sizeOf199
 v46:=zeroValue199
 t51:=underlying232
 a51:=isAgg232
 z51:=sizeOf232
 v51:=zeroValue232
 t59:=underlying254
 a59:=isAgg254
 z59:=sizeOf254
 v59:=zeroValue254
 t146:=underlying300
 a146:=isAgg300
 z146:=sizeOf300
 v146:=zeroValue300
 g1:=by kernel_rfl}
open Go.RowKit Go.Lib in
theorem Tryz.strings_Cut(s sep:ByteArray)(m:Int)(w:World)(hs:s.size<4294967281)(hm:w.cell? ⟨0,0,none⟩=some (.int .i64 m)):
 Calls prog 267 #[.string s,.string sep] w fun e w'=>e= .returned (.tuple #[.string ⟨(Lib.cut s.data.toList sep.data.toList).1.toArray⟩,.string ⟨(Lib.cut s.data.toList sep.data.toList).2.1.toArray⟩,.bool (Lib.cut s.data.toList sep.data.toList).2.2])/\∃n,w'=w.drewN n:=Any.strings_Cut Tryz.lays145 s sep m w hs hm
def Tryz.laysM145_ren:Go.Shelf.Ren:=⟨fun|145=>267|220=>299|219=>315|217=>327|225=>328|224=>329|267=>330|266=>335|314=>336|n=>n,fun|9=>9|4=>4|59=>254|3=>3|5=>5|46=>199|146=>300|51=>232|n=>n,fun|1=>0|n=>n⟩
theorem Tryz.laysM145:Go.Proofs.LaysM.n145 prog Tryz.laysM145_ren:={
 mixed:=by kernel_rfl
 f145:=(jC func267)
 f217:=(jC func327)
 f219:=(jC func315)
 f220:=(jC func299)
 f224:=(jC func329)
 f225:=(jC func328)
 f266:=(jC func335)
 f267:=(jC func330)
 f314:=(jC func336)
 t3:=underlying3
 a3:=isAgg3
 z3:=sizeOf3
 v3:=zeroValue3
 t4:=underlying4
 a4:=isAgg4
 z4:=sizeOf4
 v4:=zeroValue4
 t5:=underlying5
 a5:=isAgg5
 z5:=sizeOf5
 v5:=zeroValue5
 t9:=underlying9
 a9:=isAgg9
 z9:=sizeOf9
 v9:=zeroValue9
 t46:=underlying199
 a46:=isAgg199
 z46:=sizeOf199
 v46:=zeroValue199
 t51:=underlying232
 a51:=isAgg232
 z51:=sizeOf232
 v51:=zeroValue232
 t59:=underlying254
 a59:=isAgg254
 z59:=sizeOf254
 v59:=zeroValue254
 t146:=underlying300
 a146:=isAgg300
 z146:=sizeOf300
 v146:=zeroValue300
 g1:=by kernel_rfl
 i3:=by kernel_rfl
 i4:=by kernel_rfl
 i5:=by kernel_rfl
 i9:=by kernel_rfl
 i46:=by kernel_rfl
 i51:=by kernel_rfl
 i59:=by kernel_rfl
 i146:=by kernel_rfl
 m1:=by kernel_rfl
 s1_3:=fun w h=>Go.Proofs.cell_of_shapedOpen_int (zero:=#[.int .i64 0]) (t:=3) h (of_decide_eq_true (by kernel_rfl)) (by kernel_rfl) rfl (by kernel_rfl) (by kernel_rfl) underlying3}
def Tryz.lays99_ren:Go.Shelf.Ren:=⟨fun|99=>266|206=>298|n=>n,fun|9=>9|4=>4|3=>3|n=>n,fun|n=>n⟩
theorem Tryz.lays99:Go.Proofs.Lays.n99 prog Tryz.lays99_ren:={
 mixed:=by kernel_rfl
 f99:=(jC func266)
 f206:=(jC func298)
 t3:=underlying3
 a3:=isAgg3
 z3:=sizeOf3
 v3:=zeroValue3
 t4:=underlying4
 a4:=isAgg4
 z4:=sizeOf4
 v4:=zeroValue4
 t9:=underlying9
 a9:=isAgg9
 z9:=sizeOf9
 v9:=zeroValue9}
open Go.RowKit Go.Lib in
theorem Tryz.strings_HasPrefix(s p:ByteArray)(w:World):
 Calls prog 266 #[.string s,.string p] w fun e w'=>e= .returned (.bool (Lib.hasPrefix s.data.toList p.data.toList))/\w'=w:=Any.strings_HasPrefix Tryz.lays99 s p w
def Tryz.lays105_ren:Go.Shelf.Ren:=⟨fun|105=>270|212=>300|99=>266|165=>301|166=>268|170=>269|169=>264|263=>316|264=>317|206=>298|240=>296|241=>318|276=>313|277=>331|n=>n,fun|9=>9|3=>3|4=>4|20=>20|0=>0|46=>199|109=>284|5=>5|72=>249|76=>221|51=>232|146=>300|53=>234|148=>302|70=>247|37=>179|75=>184|127=>281|164=>298|80=>251|n=>n,fun|n=>n⟩
theorem Tryz.lays105:Go.Proofs.Lays.n105 prog Tryz.lays105_ren:={
 mixed:=by kernel_rfl
 f99:=(jC func266)
 f105:=(jC func270)
 f165:=(jC func301)
 f166:=(jC func268)
 f169:=(jC func264)
 f170:=(jC func269)
 f206:=(jC func298)
 f212:=(jC func300)
 f240:=(jC func296)
 f241:=(jC func318)
 f263:=(jC func316)
 f264:=(jC func317)
 f276:=(jC func313)
 f277:=(jC func331)
 t0:=underlying0
 a0:=isAgg0
 z0:=sizeOf0
 v0:=zeroValue0
 t3:=underlying3
 a3:=isAgg3
 z3:=sizeOf3
 v3:=zeroValue3
 t4:=underlying4
 a4:=isAgg4
 z4:=sizeOf4
 v4:=zeroValue4
 t5:=underlying5
 a5:=isAgg5
 z5:=sizeOf5
 v5:=zeroValue5
 t9:=underlying9
 a9:=isAgg9
 z9:=sizeOf9
 v9:=zeroValue9
 t20:=underlying20
 a20:=isAgg20
 z20:=sizeOf20
 v20:=zeroValue20
 t37:=underlying179
 a37:=isAgg179
 z37:=sizeOf179
 v37:=zeroValue179
 t46:=underlying199
 a46:=isAgg199
 z46:=sizeOf199
 v46:=zeroValue199
 t51:=underlying232
 a51:=isAgg232
 z51:=sizeOf232
 v51:=zeroValue232
 t53:=underlying234
 a53:=isAgg234
 z53:=sizeOf234
 v53:=zeroValue234
 t70:=underlying247
 a70:=isAgg247
 z70:=sizeOf247
 v70:=zeroValue247
 t72:=underlying249
 a72:=isAgg249
 z72:=sizeOf249
 v72:=zeroValue249
 t75:=underlying184
 a75:=isAgg184
 z75:=sizeOf184
 v75:=zeroValue184
 t76:=underlying221
 a76:=isAgg221
 z76:=sizeOf221
 v76:=zeroValue221
 t109:=underlying284
 a109:=isAgg284
 z109:=sizeOf284
 v109:=zeroValue284
 t127:=underlying281
 a127:=isAgg281
 z127:=sizeOf281
 v127:=zeroValue281
 t146:=underlying300
 a146:=isAgg300
 z146:=sizeOf300
 v146:=zeroValue300
 t148:=underlying302
 a148:=isAgg302
 z148:=sizeOf302
 v148:=zeroValue302
 t164:=underlying298
 a164:=isAgg298
 z164:=sizeOf298
 v164:=zeroValue298}
theorem Tryz.Builder_Extra_105:Builder.Extra prog Tryz.lays105_ren:={
 sizeBuilder:=by kernel_rfl
 liesBuilder:=by kernel_rfl
 t5:=underlying5
 a5:=isAgg5
 z5:=sizeOf5
 v5:=zeroValue5
 infoByte:=by kernel_rfl
 cellsByte:=by kernel_rfl
 sizeByte:=by kernel_rfl
 neB5:=by decide}
open Go.RowKit Go.Lib in
theorem Tryz.strings_Repeat(s:ByteArray)(c:Nat)(w:World)(hc:c<=9223372036854775807)(hlen:s.size*c<=140737488355328):
 Calls prog 270 #[.string s,.int .i64 c] w fun e w'=>e= .returned (.string ⟨(Lib.repeatL s.data.toList c).toArray⟩)/\Below w.heap.size w w':=Any.strings_Repeat Tryz.lays105 Tryz.Builder_Extra_105 s c w hc hlen
def Tryz.lays197_ren:Go.Shelf.Ren:=⟨fun|197=>297|260=>314|n=>n,fun|9=>9|21=>21|3=>3|4=>4|5=>5|105=>282|119=>308|0=>0|46=>199|139=>311|138=>310|n=>n,fun|3=>4|4=>5|n=>n⟩
theorem Tryz.lays197:Go.Proofs.Lays.n197 prog Tryz.lays197_ren:={
 mixed:=by kernel_rfl
 f197:=(jC func297)
 f260:=(jC func314)
 t0:=underlying0
 a0:=isAgg0
 z0:=sizeOf0
 v0:=zeroValue0
 t3:=underlying3
 a3:=isAgg3
 z3:=sizeOf3
 v3:=zeroValue3
 t4:=underlying4
 a4:=isAgg4
 z4:=sizeOf4
 v4:=zeroValue4
 t5:=underlying5
 a5:=isAgg5
 z5:=sizeOf5
 v5:=zeroValue5
 t9:=underlying9
 a9:=isAgg9
 z9:=sizeOf9
 v9:=zeroValue9
 t21:=underlying21
 a21:=isAgg21
 z21:=sizeOf21
 v21:=zeroValue21
 t46:=underlying199
 a46:=isAgg199
 z46:=sizeOf199
 v46:=zeroValue199
 t105:=underlying282
 a105:=isAgg282
 z105:=sizeOf282
 v105:=zeroValue282
 t119:=underlying308
 a119:=isAgg308
 z119:=sizeOf308
 t138:=underlying310
 a138:=isAgg310
 z138:=sizeOf310
 v138:=zeroValue310
 t139:=underlying311
 a139:=isAgg311
 z139:=sizeOf311
 v139:=zeroValue311
 g3:=by kernel_rfl
 g4:=by kernel_rfl}
open Go.RowKit Go.Lib in
theorem Tryz.utf8_DecodeRuneInString(s:ByteArray)(w:World)(hT:Lib.Utf8Tabs 4 5 w):
 Calls prog 297 #[.string s] w fun e w'=>e= .returned (.tuple #[.int .i32 (Lib.decodeGo s).1,.int .i64 (Lib.decodeGo s).2])/\Below w.heap.size w w':=Any.utf8_DecodeRuneInString Tryz.lays197 s w hT
end Go.Proofs
namespace Go.Proofs.YtoffmfgaohjjpaaGreatDoor
section
open Go.Shelf
def wb_ren:Go.Shelf.Ren:=⟨fun|167=>263|240=>296|276=>313|n=>n,fun|70=>247|9=>9|0=>0|72=>249|37=>179|4=>4|5=>5|20=>20|75=>184|80=>251|164=>298|n=>n,fun|n=>n⟩
theorem wb_lays:Go.Proofs.Lays.n167 prog wb_ren:={
 mixed:=by kernel_rfl
 f167:=(jC func263)
 f240:=(jC func296)
 f276:=(jC func313)
 t0:=underlying0
 a0:=isAgg0
 z0:=sizeOf0
 v0:=zeroValue0
 t4:=underlying4
 a4:=isAgg4
 z4:=sizeOf4
 v4:=zeroValue4
 t5:=underlying5
 a5:=isAgg5
 z5:=sizeOf5
 v5:=zeroValue5
 t9:=underlying9
 a9:=isAgg9
 z9:=sizeOf9
 v9:=zeroValue9
 t20:=underlying20
 a20:=isAgg20
 z20:=sizeOf20
 v20:=zeroValue20
 t37:=underlying179
 a37:=isAgg179
 z37:=sizeOf179
 v37:=zeroValue179
 t70:=underlying247
 a70:=isAgg247
 z70:=sizeOf247
 v70:=zeroValue247
 t72:=underlying249
 a72:=isAgg249
 z72:=sizeOf249
 v72:=zeroValue249
 t75:=underlying184
 a75:=isAgg184
 z75:=sizeOf184
 v75:=zeroValue184
 t164:=underlying298
 a164:=isAgg298
 z164:=sizeOf298
 v164:=zeroValue298}
theorem wb_extra:Builder.Extra prog wb_ren:={
 sizeBuilder:=by kernel_rfl
 liesBuilder:=by kernel_rfl
 t5:=underlying5
 a5:=isAgg5
 z5:=sizeOf5
 v5:=zeroValue5
 infoByte:=by kernel_rfl
 cellsByte:=by kernel_rfl
 sizeByte:=by kernel_rfl
 neB5:=by decide}
open Go.RowKit in
theorem zex(B b:Nat)(bs:List Value)(c:Int)(w:World)(h:Lib.IsBuilder 249 5 B b bs w)(hlen:bs.length+1<=140737488355328)(hBw:B<=w.heap.size):
 Calls prog 263 #[.pointer (some ⟨b,0,none⟩),.int .u8 c] w fun e w'=>e= .returned .nilIface/\(Lib.BuilderAt 249 5 B b (.pointer (some ⟨b,0,none⟩)) (bs++ [.int .u8 c]) w'/\Below B w w'):=Any.Builder_WriteByte wb_lays wb_extra B b bs c w h hlen hBw
def ws_ren:Go.Shelf.Ren:=⟨fun|166=>268|240=>296|276=>313|n=>n,fun|70=>247|9=>9|3=>3|0=>0|72=>249|37=>179|4=>4|5=>5|20=>20|75=>184|80=>251|164=>298|n=>n,fun|n=>n⟩
theorem ws_lays:Go.Proofs.Lays.n166 prog ws_ren:={
 mixed:=by kernel_rfl
 f166:=(jC func268)
 f240:=(jC func296)
 f276:=(jC func313)
 t0:=underlying0
 a0:=isAgg0
 z0:=sizeOf0
 v0:=zeroValue0
 t3:=underlying3
 a3:=isAgg3
 z3:=sizeOf3
 v3:=zeroValue3
 t4:=underlying4
 a4:=isAgg4
 z4:=sizeOf4
 v4:=zeroValue4
 t9:=underlying9
 a9:=isAgg9
 z9:=sizeOf9
 v9:=zeroValue9
 t20:=underlying20
 a20:=isAgg20
 z20:=sizeOf20
 v20:=zeroValue20
 t37:=underlying179
 a37:=isAgg179
 z37:=sizeOf179
 v37:=zeroValue179
 t70:=underlying247
 a70:=isAgg247
 z70:=sizeOf247
 v70:=zeroValue247
 t72:=underlying249
 a72:=isAgg249
 z72:=sizeOf249
 v72:=zeroValue249
 t75:=underlying184
 a75:=isAgg184
 z75:=sizeOf184
 v75:=zeroValue184
 t164:=underlying298
 a164:=isAgg298
 z164:=sizeOf298
 v164:=zeroValue298}
theorem ws_extra:Builder.Extra prog ws_ren:={
 sizeBuilder:=by kernel_rfl
 liesBuilder:=by kernel_rfl
 t5:=underlying5
 a5:=isAgg5
 z5:=sizeOf5
 v5:=zeroValue5
 infoByte:=by kernel_rfl
 cellsByte:=by kernel_rfl
 sizeByte:=by kernel_rfl
 neB5:=by decide}
open Go.RowKit in
theorem zce(B b:Nat)(bs:List Value)(s:ByteArray)(w:World)(h:Lib.IsBuilder 249 5 B b bs w)(hlen:bs.length+s.size<=140737488355328)(hBw:B<=w.heap.size):
 Calls prog 268 #[.pointer (some ⟨b,0,none⟩),.string s] w fun e w'=>e= .returned (.tuple #[.int .i64 s.size,.nilIface])/\(Lib.BuilderAt 249 5 B b (.pointer (some ⟨b,0,none⟩)) (bs++Lib.strCells s) w'/\Below B w w'):=Any.Builder_WriteString ws_lays ws_extra B b bs s w h hlen hBw
end
open Go.RowKit
def M170(h:jp:=by
 go_enter func135,ntmps135;go_wp2;go_ret2;exact ⟨rfl,rfl⟩):=h
def B152(h:jp:=by rw[bne_iff_ne];omega):=h
def M171(h:jp:=by
 go_enter func127,ntmps127;go_wp2;go_ret2;exact ⟨rfl,rfl⟩):=h
def M101(h:jp:=by
 go_enter func100,ntmps100;go_wp2;go_ret2;exact ⟨rfl,rfl⟩):=h
def B72(h:jp:=by simpa using h3):=h
def B83(h:jp:=by simpa using h4):=h
def B197(h:jp:=by simpa using ha):=h
def M114(h:jp:=by
 go_enter func129,ntmps129;go_wp2;go_ret2;exact ⟨rfl,rfl⟩):=h
def M172(h:jp:=by
 go_enter func187,ntmps187;go_wp2;go_ret2;exact ⟨rfl,rfl⟩):=h
def Bp76(h:jp:=by rw[Int.tmod_eq_emod_of_nonneg B1];omega):=h
def M57(h:jp:=by
 go_wp2_with fail;refine (SA.out _).mono ?_;rintro e w' ⟨rfl,rfl⟩;go_wp2_with fail;refine (SB.out _).mono ?_;rintro e w' ⟨rfl,rfl⟩;go_wp2_with fail;refine (G.out _).mono ?_;rintro e w' ⟨rfl,n,rfl⟩;go_wp2;go_ret2;exact ⟨rfl,n,rfl⟩):=h
def M204(h:jp:=by
 rw[show (9223372036854775807:Int)/(y:Int)=((9223372036854775807/y:Nat):Int) from by simp];omega):=h
def N14(h:jp:=by
 have t4:(q:Int)*(y:Int)=(p:Int):=by rw[<-hlt];simp
 clear hx hy hg hq hlt ha0 hb0 ha1 ha2 hb1 hb2 hx0 hy0 hg0;go_enter func189,ntmps189;exact M57):=h
def C28(h:jp:=by
 have SA:=jH (fun w=>zd0 a x w ha1 ha2 hx);have SB:=jH (fun w=>zd0 b y w hb1 hb2 hy);have hxl:x<=9223372036854775808:=B1;have hyl:y<=9223372036854775808:=B1;have hy0:y≠0:=B1;have hx0:x≠0:=B1;have hg0:g≠0:=by
  intro e;rw[e] at hg;exact hx0 (Nat.gcd_eq_zero_iff.1 hg).1
 have G:=jH (fun w=>zn5 x y g w B1 B1 hg);have e1:(x:Int).tdiv (g:Int)=(q:Int):=by rw[Int.tdiv_eq_ediv_of_nonneg B1,<-hq];simp
 have t1:¬(g:Int)=0:=B1;have t2:¬(y:Int)=0:=B1;have h1:(a==0)=false:=by simpa using ha0
 have h2:(b==0)=false:=by simpa using hb0
 have hql:q<=9223372036854775808:=by have:=Nat.div_le_self x g;omega
 exact K28):=h
def X132.K28(h:jp:=by
 have t3:decide (9223372036854775807/(y:Int)<(q:Int))=false:=by
  have e:(9223372036854775807/y<q)↔9223372036854775807<q*y:=Nat.div_lt_iff_lt_mul B1;have e2:(9223372036854775807/(y:Int)<(q:Int))↔(9223372036854775807/y<q):=by
   exact M204
  simp only[e2,e,hlt,decide_eq_false_iff_not];omega
 exact N14):=h
def X133.K28(h:jp:=by
 have t3:decide (9223372036854775807/(y:Int)<(q:Int))=true:=by
  have e:(9223372036854775807/y<q)↔9223372036854775807<q*y:=Nat.div_lt_iff_lt_mul B1;have e2:(9223372036854775807/(y:Int)<(q:Int))↔(9223372036854775807/y<q):=by
   exact M204
  simp only[e2,e,hlt,decide_eq_true_eq];omega
 exact N14):=h
def M142(h:jp:=by
 go_enter func134,ntmps134;go_wp2;go_ret2;exact ⟨rfl,rfl⟩):=h
def B71(h:jp:=by simpa using h0):=h
section
variable(a b:Int)(w:World)
include a b w
theorem zyj(h1:-9223372036854775808<=a+b)(h2:a+b<=9223372036854775807):Calls prog 135 #[jI a,jI b] w fun e w'=>e=jr (.tuple #[jI (a+b),.bool true])/\w=w':=by
 exact M170
theorem add64_no(ha1:-9223372036854775808<=a)(ha2:a<=9223372036854775807)(hb1:-9223372036854775808<=b)(hb2:b<=9223372036854775807)(h:a+b < -9223372036854775808\/9223372036854775807<a+b):Calls prog 135 #[jI a,jI b] w fun e w'=>e=jr (.tuple #[jI 0,.bool false])/\w=w':=by
 obtain ⟨c,hc⟩:∃c,IntKind.i64.wrap (a+b)=c:=⟨_,rfl⟩;have hc':=hc;rw[IntKind.wrap_i64] at hc';rcases h with h|h
 .have t1:decide (a<c)=true:=by simp;omega
  have t2:decide (0<b)=false:=B14;have t3:(b !=0)=true:=B152;clear hc' h ha1 ha2 hb1 hb2;exact M170
 .have t1:decide (a<c)=false:=by simp;omega
  have t2:decide (0<b)=true:=B14;have t3:(b !=0)=true:=B152;clear hc' h ha1 ha2 hb1 hb2;exact M170
theorem ztr(h1:-9223372036854775808<=a-b)(h2:a-b<=9223372036854775807):Calls prog 127 #[jI a,jI b] w fun e w'=>e=jr (.tuple #[jI (a-b),.bool true])/\w=w':=by
 exact M171
theorem sub64_no(ha1:-9223372036854775808<=a)(ha2:a<=9223372036854775807)(hb1:-9223372036854775808<=b)(hb2:b<=9223372036854775807)(h:a-b < -9223372036854775808\/9223372036854775807<a-b):Calls prog 127 #[jI a,jI b] w fun e w'=>e=jr (.tuple #[jI 0,.bool false])/\w=w':=by
 obtain ⟨c,hc⟩:∃c,IntKind.i64.wrap (a-b)=c:=⟨_,rfl⟩;have hc':=hc;rw[IntKind.wrap_i64] at hc';rcases h with h|h
 .have t1:decide (c<a)=false:=by simp;omega
  have t2:decide (0<b)=true:=B14;have t3:(b !=0)=true:=B152;clear hc' h ha1 ha2 hb1 hb2;exact M171
 .have t1:decide (c<a)=true:=by simp;omega
  have t2:decide (0<b)=false:=B14;have t3:(b !=0)=true:=B152;clear hc' h ha1 ha2 hb1 hb2;exact M171
end
theorem mul_tell64(a b c:Int)(ha:a≠0)(ha1:-9223372036854775808<=a)(ha2:a<=9223372036854775807)(hb1:-9223372036854775808<=b)(hb2:b<=9223372036854775807)(hc:IntKind.i64.wrap (a*b)=c)(h:a*b < -9223372036854775808\/9223372036854775807<a*b):
 (IntKind.i64.wrap (c.tdiv a)≠b)\/(a=-1/\b<0/\c<0/\IntKind.i64.wrap (c.tdiv a)=b):=by
 rw[IntKind.wrap_i64] at hc
 by_cases h1:a=-1/\c=-9223372036854775808
 .obtain ⟨rfl,hc1⟩:=h1;have hb:b=-9223372036854775808:=B1;subst hb hc1;exact .inr ⟨rfl,by omega,by omega,B3⟩
 .left;have hf:=Div.fits64 c a ha B1 B1 (fun e e2=>h1 ⟨e2,e⟩);rw[IntKind.wrap_i64];intro e;have e2:c.tdiv a=b:=B1;have hp:=(Div.parts c a ha).1;rw[e2,Int.mul_comm] at hp;have h4:=(Div.parts c a ha).2.2.2.1;have h5:=(Div.parts c a ha).2.2.2.2;generalize a*b=p at *;generalize c.tmod a=r at *;rcases Int.lt_or_gt_of_ne ha with ha'|ha'
  .have:=h5 ha';omega
  .have:=h4 ha';omega
theorem zrk(a b c q:Int)(w:World)(hw:IntKind.i64.wrap (a*b)=c)(hq:IntKind.i64.wrap (c.tdiv a)=q)(t0:(a !=0)=true)(t1:¬a=0)(t2:(q !=b)=false)(h:(a== -1)=false\/decide (b<0)=false\/decide (c<0)=false):
 Calls prog 100 #[jI a,jI b] w fun e w'=>e=jr (.tuple #[jI c,.bool true])/\w=w':=by
 by_cases h1:(a== -1)=false
 .clear h;exact M101
 .have h2:(a== -1)=true:=by simpa using h1
  by_cases h3:decide (b<0)=false
  .clear h h1;exact M101
  .have h4:decide (b<0)=true:=by simpa using h3
   have h5:decide (c<0)=false:=by
    rcases h with h|h|h
    .exact absurd h h1
    .exact absurd h h3
    .exact h
   clear h h1 h3;exact M101
theorem zrj(b:Int)(w:World):Calls prog 100 #[jI 0,jI b] w fun e w'=>e=jr (.tuple #[jI 0,.bool true])/\w=w':=by
 exact M101
section
variable(a b c q:Int)(w:World)(hw:IntKind.i64.wrap (a*b)=c)(hq:IntKind.i64.wrap (c.tdiv a)=q)(t0:(a !=0)=true)(t1:¬a=0)
include a b c q w hw hq t0 t1
theorem zns(t2:(q !=b)=true):
 Calls prog 100 #[jI a,jI b] w fun e w'=>e=jr (.tuple #[jI 0,.bool false])/\w=w':=by
 exact M101
theorem znr(t2:(q !=b)=false)(h3:(a== -1)=true)(h4:decide (b<0)=true)(h5:decide (c<0)=true):
 Calls prog 100 #[jI a,jI b] w fun e w'=>e=jr (.tuple #[jI 0,.bool false])/\w=w':=by
 exact M101
end
theorem zlx(a b p:Int)(w:World)(hb1:-9223372036854775808<=b)(hb2:b<=9223372036854775807)(hp:a*b=p)(h1:-9223372036854775808<=p)(h2:p<=9223372036854775807):
 Calls prog 100 #[jI a,jI b] w fun e w'=>e=jr (.tuple #[jI p,.bool true])/\w=w':=by
 by_cases ha:a=0
 .subst ha;rw[Int.zero_mul] at hp;subst hp;exact zrj b w
 .have hq:p.tdiv a=b:=by rw[<-hp,Int.mul_tdiv_cancel_left b ha]
  refine zrk a b p b w (by rw[hp,IntKind.wrap_i64];omega) (by rw[hq,IntKind.wrap_i64];omega) B197 ha B7 ?_
  by_cases h3:a=-1
  .subst h3
   by_cases h4:b<0
   .exact .inr (.inr B14)
   .exact .inr (.inl B83)
  .exact .inl B72
theorem zph(a b:Int)(w:World)(ha1:-9223372036854775808<=a)(ha2:a<=9223372036854775807)(hb1:-9223372036854775808<=b)(hb2:b<=9223372036854775807)(h:a*b < -9223372036854775808\/9223372036854775807<a*b):
 Calls prog 100 #[jI a,jI b] w fun e w'=>e=jr (.tuple #[jI 0,.bool false])/\w=w':=by
 have ha:a≠0:=by
  rintro rfl;rw[Int.zero_mul] at h;omega
 rcases mul_tell64 a b _ ha ha1 ha2 hb1 hb2 rfl h with h1|⟨h1,h2,h3,h4⟩
 .exact zns a b _ _ w rfl rfl B197 ha B82
 .exact znr a b _ _ w rfl rfl B197 ha B83 B82 B70 B72
theorem quo_zero(a:Int)(w:World):Calls prog 129 #[jI a,jI 0] w fun e w'=>e=jr (.tuple #[jI 0,jI 14])/\w=w':=by
 exact M114
theorem quo_over(w:World):Calls prog 129 #[jI (-9223372036854775808),jI (-1)] w fun e w'=>e=jr (.tuple #[jI 0,jI 13])/\w=w':=by
 exact M114
theorem zt7(a b q:Int)(w:World)(t1:(b==0)=false)(t2:¬b=0)(t3:(b== -1)=false)(hq:IntKind.i64.wrap (a.tdiv b)=q):
 Calls prog 129 #[jI a,jI b] w fun e w'=>e=jr (.tuple #[jI q,jI 0])/\w=w':=by
 by_cases t4:(a== -9223372036854775808)=true
 .exact M114
 .have t5:(a== -9223372036854775808)=false:=by simpa using t4
  clear t4;exact M114
theorem zt6(a q:Int)(w:World)(t3:(a== -9223372036854775808)=false)(hq:IntKind.i64.wrap (-a)=q):
 Calls prog 129 #[jI a,jI (-1)] w fun e w'=>e=jr (.tuple #[jI q,jI 0])/\w=w':=by
 exact M114
theorem quo_ok(a b q:Int)(w:World)(hb:b≠0)(h:a=-9223372036854775808->b≠-1)(h1:-9223372036854775808<=a)(h2:a<=9223372036854775807)(hq:a.tdiv b=q):
 Calls prog 129 #[jI a,jI b] w fun e w'=>e=jr (.tuple #[jI q,jI 0])/\w=w':=by
 have hf:=Div.fits64 a b hb h1 h2 h;have hw:IntKind.i64.wrap (a.tdiv b)=q:=B87
 by_cases h3:b=-1
 .subst h3;exact zt6 a q w (by simpa using fun e=>h e rfl) (by simpa using hw)
 .exact zt7 a b q w (by simpa using hb) hb B72 hw
theorem mod_zero(a:Int)(w:World):Calls prog 187 #[jI a,jI 0] w fun e w'=>e=jr (.tuple #[jI 0,jI 14])/\w=w':=by
 exact M172
theorem mod_one(a:Int)(w:World):Calls prog 187 #[jI a,jI (-1)] w fun e w'=>e=jr (.tuple #[jI 0,jI 0])/\w=w':=by
 exact M172
theorem mod_walk(a b r m:Int)(u1 u2:Bool)(w:World)(t1:(b==0)=false)(t2:¬b=0)(t3:(b== -1)=false)(hr:a.tmod b=r)(hm:IntKind.i64.wrap (r+b)=m)(t4:decide (r<0)=u1)(t5:decide (b<0)=u2):
 Calls prog 187 #[jI a,jI b] w fun e w'=>e=jr (.tuple #[jI (if (r !=0&&(u1 !=u2))=true then m else r),jI 0])/\w=w':=by
 by_cases t6:(r !=0)=true
 .cases u1 <;> cases u2
  all_goals
   simp only[t6];go_enter func187,ntmps187;go_wp2;go_ret2;exact ⟨rfl,rfl⟩
 .have t7:(r !=0)=false:=by simpa using t6
  simp only[t7];clear t6;exact M172
theorem mod_ok(a b m:Int)(w:World)(hb:b≠0)(h1:-9223372036854775808<=b)(h2:b<=9223372036854775807)(hm:Div.modV a b=m):
 Calls prog 187 #[jI a,jI b] w fun e w'=>e=jr (.tuple #[jI m,jI 0])/\w=w':=by
 have hr:=Div.modV_range a b hb;rw[hm] at hr
 by_cases h3:b=-1
 .subst h3;obtain rfl:m=0:=B1;exact mod_one a w
 .refine (mod_walk a b _ _ _ _ w (by simpa using hb) hb B72 rfl rfl rfl rfl).mono ?_;rintro e w' ⟨rfl,rfl⟩;refine ⟨?_,rfl⟩;have:(if (a.tmod b !=0&&(decide (a.tmod b<0) !=decide (b<0)))=true then IntKind.i64.wrap (a.tmod b+b) else a.tmod b)=m:=by
   have hp:=Div.parts a b hb;unfold Div.modV at hm;rw[<-hm]
   by_cases hc:a.tmod b≠0/\(decide (a.tmod b<0) !=decide (b<0))=true
   .rw[if_pos hc,if_pos B155,IntKind.wrap_i64];rw[if_pos hc] at hm;omega
   .rw[if_neg hc,if_neg B155]
  rw[this]
section
variable(a:Int)(m:Nat)(w:World)
include a m w
theorem size_neg(h:a<0)(h1:-9223372036854775808<=a)(hm:a.natAbs=m):Calls prog 255 #[jI a] w fun e w'=>e=jr (.int .u64 (m:Int))/\w=w':=by
 have hw:IntKind.u64.wrap a=a+18446744073709551616:=B13;have hw2:IntKind.u64.wrap (-(IntKind.u64.wrap a))=(m:Int):=by
  rw[hw];simp[IntKind.wrap,IntKind.bits,IntKind.signed];omega
 clear hw;go_enter func255,ntmps255;go_wp2;go_ret;exact ⟨rfl,rfl⟩
theorem size_pos(h:0<=a)(h1:a<=9223372036854775807)(hm:a.natAbs=m):Calls prog 255 #[jI a] w fun e w'=>e=jr (.int .u64 (m:Int))/\w=w':=by
 obtain rfl:a=(m:Int):=B1;clear hm h;go_enter func255,ntmps255;go_wp2;go_ret;exact ⟨rfl,rfl⟩
theorem zd0(h1:-9223372036854775808<=a)(h2:a<=9223372036854775807)(hm:a.natAbs=m):Calls prog 255 #[jI a] w fun e w'=>e=jr (.int .u64 (m:Int))/\w=w':=by
 by_cases h:a<0
 .exact size_neg a m w h h1 hm
 .exact size_pos a m w B1 h2 hm
end
theorem zn5(a b g:Nat)(w:World)(ha:a<=18446744073709551615)(hb:b<=18446744073709551615)(hg:Nat.gcd a b=g):
 Calls prog 254 #[.int .u64 (a:Int),.int .u64 (b:Int)] w fun e w'=>e=jr (.int .u64 (g:Int))/\∃n,w'=w.drewN n:=by
 have HG:=jH hg;clear hg;go_enter func254,ntmps254;go_wp2;go_loopw [0,1] (fun u v wr=>∃x y n:Nat,u= .int .u64 (x:Int)/\v= .int .u64 (y:Int)/\x<=18446744073709551615/\y<=18446744073709551615/\Hid (Nat.gcd x y=g)/\wr=w.drewN n) (fun _ v _=>(intOf v).toNat)
 case atStart=>exact ⟨a,b,0,rfl,rfl,ha,hb,HG,rfl⟩
 case round=>
  obtain ⟨x,y,n,rfl,rfl,hx,hy,HG2,rfl⟩:=hrel
  by_cases h0:y=0
  .subst h0;go_wp2;go_ret;exact ⟨by rw[<-HG2.out];simp,n,rfl⟩
  .have t1:((y:Int) !=0)=true:=by rw[bne_iff_ne];omega
   have t2:¬(y:Int)=0:=B1;have hlt:x%y<y:=Nat.mod_lt _ B1;have hm:(x:Int).tmod (y:Int)=((x%y:Nat):Int):=Bp76;go_wp2;go_quiet (fail);go_wp2;go_roundw
   case rel=>exact ⟨y,x%y,_,rfl,rfl,hy,by omega,by rw[<-PowG.gcd_step];exact HG2,World.drewN_drewN _ _ _⟩
   case measure=>simp[intOf];omega
section
variable(a b:Int)(g:Nat)(w:World)(ha1:-9223372036854775808<=a)(ha2:a<=9223372036854775807)(hb1:-9223372036854775808<=b)(hb2:b<=9223372036854775807)(hg:Nat.gcd a.natAbs b.natAbs=g)
include a b g w ha1 ha2 hb1 hb2 hg
theorem Gcd_ok(h:g<=9223372036854775807):
 Calls prog 188 #[jI a,jI b] w fun e w'=>e=jr (.tuple #[jI (g:Int),jI 0])/\∃n,w'=w.drewN n:=by
 have HG:=jH hg;clear hg;obtain ⟨x,hx⟩:∃x,a.natAbs=x:=⟨_,rfl⟩;obtain ⟨y,hy⟩:∃y,b.natAbs=y:=⟨_,rfl⟩;have hx2:x<=9223372036854775808:=B1;have hy2:y<=9223372036854775808:=B1;have sa:=fun w=>zd0 a x w ha1 ha2 hx;have sb:=fun w=>zd0 b y w hb1 hb2 hy;have SA:=jH sa;have SB:=jH sb;have G:=jH (fun w=>zn5 x y g w B1 B1 (by rw[<-hx,<-hy];exact HG.out));clear hx hy sa sb HG;go_enter func188,ntmps188;exact M57
theorem Gcd_over(h:9223372036854775807<g):
 Calls prog 188 #[jI a,jI b] w fun e w'=>e=jr (.tuple #[jI 0,jI 13])/\∃n,w'=w.drewN n:=by
 obtain ⟨x,hx⟩:∃x,a.natAbs=x:=⟨_,rfl⟩;obtain ⟨y,hy⟩:∃y,b.natAbs=y:=⟨_,rfl⟩;have hgl:=PowG.gcd_le a.natAbs b.natAbs 9223372036854775808 B1 B1;have hg8:g=9223372036854775808:=B1;have SA:=jH (fun w=>zd0 a x w ha1 ha2 hx);have SB:=jH (fun w=>zd0 b y w hb1 hb2 hy);have G:=jH (fun w=>zn5 x y g w B1 B1 (by rw[<-hx,<-hy];exact hg));clear hx hy hg hgl hg8;go_enter func188,ntmps188;exact M57
end
theorem zmx(a:Int)(w:World):Calls prog 189 #[jI 0,jI a] w fun e w'=>e=jr (.tuple #[jI 0,jI 0])/\w=w':=by
 go_enter func189,ntmps189;go_wp2;go_ret2;exact ⟨rfl,rfl⟩
theorem zyk(a:Int)(w:World):Calls prog 189 #[jI a,jI 0] w fun e w'=>e=jr (.tuple #[jI 0,jI 0])/\w=w':=by
 by_cases h:a=0
 .subst h;exact zmx 0 w
 .have h1:(a==0)=false:=by simpa using h
  clear h;go_enter func189,ntmps189;go_wp2;go_ret2;exact ⟨rfl,rfl⟩
section
variable(a b:Int)(x y g q p:Nat)(w:World)(ha0:a≠0)(hb0:b≠0)(ha1:-9223372036854775808<=a)(ha2:a<=9223372036854775807)(hb1:-9223372036854775808<=b)(hb2:b<=9223372036854775807)(hx:a.natAbs=x)(hy:b.natAbs=y)(hg:Nat.gcd x y=g)(hq:x/g=q)(hlt:q*y=p)
include a b x y g q p w ha0 hb0 ha1 ha2 hb1 hb2 hx hy hg hq hlt
theorem Lcm_ok(hp:p<=9223372036854775807):
 Calls prog 189 #[jI a,jI b] w fun e w'=>e=jr (.tuple #[jI (p:Int),jI 0])/\∃n,w'=w.drewN n:=by
 open X132 in exact C28
theorem Lcm_over(hp:9223372036854775807<p):
 Calls prog 189 #[jI a,jI b] w fun e w'=>e=jr (.tuple #[jI 0,jI 13])/\∃n,w'=w.drewN n:=by
 open X133 in exact C28
end
theorem pow_neg(a b:Int)(w:World)(h:b<0):Calls prog 134 #[jI a,jI b] w fun e w'=>e=jr (.tuple #[jI 0,jI 13])/\w=w':=by
 exact M142
theorem pow_zero(b:Int)(w:World)(h:0<b):Calls prog 134 #[jI 0,jI b] w fun e w'=>e=jr (.tuple #[jI 0,jI 0])/\w=w':=by
 exact M142
theorem pow_one(b:Int)(w:World)(h:0<=b):Calls prog 134 #[jI 1,jI b] w fun e w'=>e=jr (.tuple #[jI 1,jI 0])/\w=w':=by
 exact M142
theorem pow_none(b r:Int)(w:World)(h:0<=b)(hb:bits .and .i64 b 1=r)(h0:0<=r)(h1:r<=1):Calls prog 134 #[jI (-1),jI b] w fun e w'=>e=jr (.tuple #[jI (1-2*r),jI 0])/\w=w':=by
 exact M142
theorem zbk{a:Int}{k:Nat}(h:PowG.Fits (a ^ k)):PowG.powN a k=a ^ k/\PowG.powE a k=0:=by
 unfold PowG.powN PowG.powE;rw[if_pos h,if_pos h];exact ⟨rfl,rfl⟩
theorem zhe{a:Int}{k:Nat}(h:¬PowG.Fits (a ^ k)):PowG.powN a k=0/\PowG.powE a k=13:=by
 unfold PowG.powN PowG.powE;rw[if_neg h,if_neg h];exact ⟨rfl,rfl⟩
theorem zra(w:World):Calls prog 134 #[jI 0,jI 0] w fun e w'=>e=jr (.tuple #[jI 1,jI 0])/\w=w':=by
 go_enter func134,ntmps134;go_wp2;refine wp_loop_rounds 1 ?_;rw[rounds_succ];go_wp2;go_ret2;exact ⟨rfl,rfl⟩
theorem zub(a x y:Int)(b:Nat)(w:World)(ha1:-9223372036854775808<=a)(ha2:a<=9223372036854775807)(hb2:b<=9223372036854775807)(h0:a≠0)(h1:a≠1)(h2:a≠-1)(hx:PowG.powN a b=x)(hy:PowG.powE a b=y):
 Calls prog 134 #[jI a,jI (b:Int)] w fun e w'=>e=jr (.tuple #[jI x,jI y])/\w=w':=by
 have t0:(a==0)=false:=B71;have t1:(a==1)=false:=B82;have t2:(a== -1)=false:=B70;have HX:=jH hx;have HY:=jH hy;clear h1 h2 h0 hx hy;go_enter func134,ntmps134;go_wp2;go_loop [1,6] (fun v u=>∃(k j:Nat) (p:Int),v=jI (j:Int)/\k+j<=b/\Hid (b=k+j)/\u=jI p/\-9223372036854775808<=p/\p<=9223372036854775807/\Hid (a ^ k=p)) (fun v _=>(intOf v).toNat)
 case atStart=>exact ⟨0,b,1,rfl,by omega,jH B1,rfl,by omega,by omega,jH B7⟩
 case round=>
  obtain ⟨k,j,p,rfl,hkj,HJ,rfl,hp1,hp2,HP⟩:=hrel
  by_cases hj:j=0
  .subst hj;have HE:Hid (x=p/\y=0):=by
    have e:b=k:=by have:=HJ.out;omega
    have hf:PowG.Fits (a ^ b):=by rw[e,HP.out];exact ⟨hp1,hp2⟩
    rw[<-HX.out,<-HY.out,(zbk hf).1,(zbk hf).2,e,HP.out];exact ⟨rfl,rfl⟩
   go_wp2;go_ret2;rw[HE.out.1,HE.out.2];exact ⟨rfl,rfl⟩
  .obtain ⟨i,hi⟩:∃i,j=i+1:=⟨j-1,B1⟩;subst hi
   by_cases hf:-9223372036854775808<=p*a/\p*a<=9223372036854775807
   .obtain ⟨q,hq⟩:∃q,p*a=q:=⟨_,rfl⟩;have M:=jH (fun w=>zlx p a q w ha1 ha2 hq B1 B1);have HQ:Hid (a ^ (k+1)=q/\-9223372036854775808<=q/\q<=9223372036854775807):=⟨by rw[Int.pow_succ,HP.out,hq],by omega,B1⟩;clear hf hq;go_wp2_with fail;refine (M.out _).mono ?_;rintro e w' ⟨rfl,rfl⟩;go_wp2;go_round
    case rel=>exact ⟨k+1,i,q,by go_num,by omega,jH (by have:=HJ.out;omega),rfl,HQ.out.2.1,HQ.out.2.2,jH HQ.out.1⟩
    case measure=>simp[intOf]
   .have M:=jH (fun w=>zph p a w hp1 hp2 ha1 ha2 B1);have HE:Hid (x=0/\y=13):=by
     have hn:¬PowG.Fits (a ^ (k+1)):=by rw[Int.pow_succ,HP.out];exact hf
     have hn2:=PowG.pow_over' a (k+1) i hn;have e:b=k+1+i:=by have:=HJ.out;omega
     rw[<-e] at hn2;rw[<-HX.out,<-HY.out,(zhe hn2).1,(zhe hn2).2];exact ⟨rfl,rfl⟩
    clear hf;go_wp2_with fail;refine (M.out _).mono ?_;rintro e w' ⟨rfl,rfl⟩;go_wp2;go_ret2;rw[HE.out.1,HE.out.2];exact ⟨rfl,rfl⟩
theorem and_one(b:Nat)(hb:b<=9223372036854775807):bits .and .i64 (b:Int) 1=((b%2:Nat):Int):=by
 show IntKind.i64.wrap ((BitVec.ofInt 64 (b:Int)&&&BitVec.ofInt 64 1).toNat:Int)=_;have e:(BitVec.ofInt 64 (b:Int)&&&BitVec.ofInt 64 1).toNat=b%2:=by
  rw[BitVec.toNat_and,BitVec.ofInt_natCast,BitVec.toNat_ofNat,Nat.mod_eq_of_lt B1];have:(BitVec.ofInt 64 1).toNat=1:=B3;rw[this,Nat.and_one_is_mod]
 rw[e,IntKind.wrap_i64];omega
theorem zuc(a x y:Int)(b:Nat)(w:World)(ha1:-9223372036854775808<=a)(ha2:a<=9223372036854775807)(hb2:b<=9223372036854775807)(hx:PowG.powN a b=x)(hy:PowG.powE a b=y):
 Calls prog 134 #[jI a,jI (b:Int)] w fun e w'=>e=jr (.tuple #[jI x,jI y])/\w=w':=by
 by_cases h0:a=0
 .subst h0
  by_cases hb:b=0
  .subst hb;have hf:PowG.Fits ((0:Int) ^ 0):=B3;rw[(zbk hf).1] at hx;rw[(zbk hf).2] at hy;subst hx hy;exact zra w
  .have e:(0:Int) ^ b=0:=PowG.zero_pow b B1;have hf:PowG.Fits ((0:Int) ^ b):=by rw[e];decide
   rw[(zbk hf).1,e] at hx;rw[(zbk hf).2] at hy;subst hx hy;exact pow_zero b w B1
 .by_cases h1:a=1
  .subst h1;have e:=PowG.one_pow b;have hf:PowG.Fits ((1:Int) ^ b):=by rw[e];decide
   rw[(zbk hf).1,e] at hx;rw[(zbk hf).2] at hy;subst hx hy;exact pow_one b w B1
  .by_cases h2:a=-1
   .subst h2;have e:=PowG.negone_pow b;have hf:PowG.Fits ((-1:Int) ^ b):=by rw[e];unfold PowG.Fits;omega
    rw[(zbk hf).1,e] at hx;rw[(zbk hf).2] at hy;subst hx hy;exact pow_none b _ w B1 (and_one b hb2) B1 B1
   .exact zub a x y b w ha1 ha2 hb2 h0 h1 h2 hx hy
theorem gTen:prog.globalNamed "internal/strconv.uint64pow10" =some 3:=by kernel_rfl
structure NumW(w:World):Prop where
 tab:Lib.TabIs prog w "internal/strconv.uint64pow10" .u64 Lib.pow10Tab
 rng:∃te pe,w.cell? (jA 2 0)=some (.iface te pe)
 low:3<w.heap.size
def M145(h:jp:=by
 go_enter func117,ntmps117;go_wp2;go_ret2;exact ⟨rfl,jB⟩):=h
def M17(h:jp:=by
 have t1:decide (((d[k]'hlt).toNat:Int)<48)=false:=by simp;omega
 have t2:decide ((57:Int)<((d[k]'hlt).toNat:Int))=false:=B14;have HD2:Hid (∀j (h:j<d.size),j<k+1->48<=(d[j]'h).toNat/\(d[j]'h).toNat<=57):=fun j h hj=>by
  by_cases e:j=k
  .subst e;exact hg
  .exact HD.out j h B1
 clear hg;go_wp2;go_round
 case rel=>exact ⟨k+1,by omega,by go_num,HD2⟩
 case measure=>simp[intOf];omega):=h
def M112(h:jp:=by
 have t3:(decide (((d[k]'hlt).toNat:Int)<48)=true)\/(decide (((d[k]'hlt).toNat:Int)<48)=false/\decide ((57:Int)<((d[k]'hlt).toNat:Int))=true):=by simp;omega
 clear hg;rcases t3 with t1|⟨t1,t2⟩
 all_goals
  go_wp2;go_ret2;exact ⟨rfl,jB⟩):=h
def M206(h:jp:=by
 obtain rfl:d.size=k:=by omega
 obtain ⟨j,hj,hn⟩:=HB.out;exact absurd (HD.out j hj hj) hn):=h
def N6(h:jp:=by
 have HB:=jH hb;clear hb;rcases h48 with h48|⟨h48,hs0⟩
 all_goals
  go_enter func117,ntmps117;go_wp2;go_loop [31] (fun i=>∃k:Nat,k<=d.size/\i=jI (k:Int)/\Hid (∀j (h:j<d.size),j<k->48<=(d[j]'h).toNat/\(d[j]'h).toNat<=57)) (fun i=>d.size-(intOf i).toNat)
  case atStart=>exact ⟨0,by omega,rfl,fun _ _ h=>absurd h B1⟩
  case round=>
   obtain ⟨k,hk,rfl,HD⟩:=hrel
   by_cases hlt:k<d.size
   .by_cases hg:48<=(d[k]'hlt).toNat/\(d[k]'hlt).toNat<=57
    .exact M17
    .exact M112
   .exact M206):=h
def M167(h:jp:=by
 obtain rfl:d.size=k:=by omega
 go_wp2_with fail;refine (HP.out w).mono ?_;rintro e w' ⟨rfl,hb⟩;go_wp2;go_ret2;exact ⟨rfl,hb⟩):=h
def N4(h:jp:=by
 have HA:=jH ha;have HP:=jH hp;clear ha hp;rcases h48 with h48|⟨h48,hs0⟩
 all_goals
  go_enter func117,ntmps117;go_wp2;go_loop [31] (fun i=>∃k:Nat,k<=d.size/\i=jI (k:Int)/\Hid (∀j (h:j<d.size),j<k->48<=(d[j]'h).toNat/\(d[j]'h).toNat<=57)) (fun i=>d.size-(intOf i).toNat)
  case atStart=>exact ⟨0,by omega,rfl,fun _ _ h=>absurd h B1⟩
  case round=>
   obtain ⟨k,hk,rfl,HD⟩:=hrel
   by_cases hlt:k<d.size
   .by_cases hg:48<=(d[k]'hlt).toNat/\(d[k]'hlt).toNat<=57
    .exact M17
    .exact absurd (HA.out k hlt) hg
   .exact M167):=h
def M165(h:jp:=by
 obtain rfl:d.size=k:=by omega
 go_wp2_with fail;refine (HP.out).mono ?_;rintro e w' ⟨x,t,N,rfl,hb⟩;go_wp2;go_ret2;exact ⟨rfl,hb⟩):=h
def N5(h:jp:=by
 have HA:=jH ha;have HP:=jH hp;clear ha hp;rcases h48 with h48|⟨h48,hs0⟩
 all_goals
  go_enter func117,ntmps117;go_wp2;go_loop [31] (fun i=>∃k:Nat,k<=d.size/\i=jI (k:Int)/\Hid (∀j (h:j<d.size),j<k->48<=(d[j]'h).toNat/\(d[j]'h).toNat<=57)) (fun i=>d.size-(intOf i).toNat)
  case atStart=>exact ⟨0,by omega,rfl,fun _ _ h=>absurd h B1⟩
  case round=>
   obtain ⟨k,hk,rfl,HD⟩:=hrel
   by_cases hlt:k<d.size
   .by_cases hg:48<=(d[k]'hlt).toNat/\(d[k]'hlt).toNat<=57
    .exact M17
    .exact absurd (HA.out k hlt) hg
   .exact M165):=h
def B185(h:jp:=by rw[hl];exact hv):=h
def M91(h:jp:=by
 unfold Dec.readS at h;rw[hf] at h;simp only[Bool.false_eq_true,if_false,Prod.mk.injEq] at h;exact ⟨h.1.symm,h.2.symm⟩):=h
theorem NumW.below{w w':World}(h:NumW w)(hb:Below w.heap.size w w'):NumW w':=by
 obtain ⟨ht,⟨te,pe,hc⟩,hl⟩:=h;have hl2:=World.block_lt_of_cell? w _ hc;exact ⟨var?_below hb gTen hl ht,⟨te,pe,(hb.cell hl2).trans hc⟩,jL hl hb.size⟩
theorem zoq(w:World)(k:Nat)(os:Array Obj):Below w.heap.size w (Sort.grow (w.drewN k) os):=
 ⟨rfl,rfl,rfl,by simp[Sort.grow,World.drewN],fun i hi=>by
  show (w.heap++os)[i]?=_;rw[Array.getElem?_append_left hi]⟩
theorem text_any(n:Int)(w:World)(h0:-9223372036854775808<=n)(h1:n<=9223372036854775807)(hN:NumW w):
 Ret 155 #[jI n] w (jS ⟨(Lib.itoa n).toArray⟩):=by
 have HF:=jH (Tryz.strconv_FormatInt_10 n h0 h1 w hN.tab);go_enter func155,ntmps155;go_wp2_with fail;refine HF.out.mono ?_;rintro e w' ⟨rfl,k,os,rfl⟩;have hb:=zoq w k os;generalize Sort.grow (w.drewN k) os=w1 at *;go_wp2;go_ret;exact ⟨rfl,hb⟩
theorem zp5(s:ByteArray)(k:Nat)(h:k<s.size):s.data.toList[k]' B38=s[k]:=rfl
theorem zq7(w:World)(s:ByteArray)(e0:s.toList=[]):Ret 117 #[jS s] w (.tuple #[jI 0,jI 12]):=by
 exact M145
section
variable(s d:ByteArray)(w:World)(e0:s.toList.isEmpty=false)(e1:¬s.toList=[])(hz:0<s.size)(h45:(((s[0]'hz).toNat:Int)==45)=true)(hd:s.extract 1 s.size=d)(hsz:s.size-1=d.size)
include s d w e0 e1 hz h45 hd hsz
theorem zng(f0:d.toList=[]):
 Ret 117 #[jS s] w (.tuple #[jI 0,jI 12]):=by
 exact M145
section
variable(f0:d.toList.isEmpty=false)(f1:¬d.toList=[])(hdz:0<d.size)
include f0 f1 hdz
theorem znh(h48:(((d[0]'hdz).toNat:Int)==48)=true)(hs0:(s.toList==[48])=false):
 Ret 117 #[jS s] w (.tuple #[jI 0,jI 12]):=by
 exact M145
section
variable(h48:(((d[0]'hdz).toNat:Int)==48)=false\/((((d[0]'hdz).toNat:Int)==48)=true/\(s.toList==[48])=true))
include h48
theorem zq6(hb:∃j,∃h:j<d.size,¬(48<=(d[j]'h).toNat/\(d[j]'h).toNat<=57))(hmax:d.size<=140737488351232):
 Ret 117 #[jS s] w (.tuple #[jI 0,jI 12]):=by
 exact N6
section
variable(ha:∀j (h:j<d.size),48<=(d[j]'h).toNat/\(d[j]'h).toNat<=57)(hmax:d.size<=140737488351232)
include ha hmax
theorem zt2(x:Int)(hp:∀w,Ret 168 #[jS s,jI 10,jI 64] w (.tuple #[jI x,.nilIface])):
 Ret 117 #[jS s] w (.tuple #[jI x,jI 0]):=by
 exact N4
theorem zls(hp:Calls prog 168 #[jS s,jI 10,jI 64] w fun e w'=>∃(x:Int) (t:TypeId) (N:Nat),e=jr (.tuple #[jI x,.iface t (jU N 0)])/\Below w.heap.size w w'):
 Ret 117 #[jS s] w (.tuple #[jI 0,jI 13]):=by
 exact N5
end
end
end
end
section
variable(d:ByteArray)(w:World)(e0:d.toList.isEmpty=false)(e1:¬d.toList=[])(hz:0<d.size)(h45:(((d[0]'hz).toNat:Int)==45)=false)
include d w e0 e1 hz h45
theorem znf(h48:(((d[0]'hz).toNat:Int)==48)=true)(hs0:(d.toList==[48])=false):
 Ret 117 #[jS d] w (.tuple #[jI 0,jI 12]):=by
 exact M145
section
variable(h48:(((d[0]'hz).toNat:Int)==48)=false\/((((d[0]'hz).toNat:Int)==48)=true/\(d.toList==[48])=true))
include h48
theorem zq5(hb:∃j,∃h:j<d.size,¬(48<=(d[j]'h).toNat/\(d[j]'h).toNat<=57))(hmax:d.size<=140737488351232):
 Ret 117 #[jS d] w (.tuple #[jI 0,jI 12]):=by
 exact N6
section
variable(ha:∀j (h:j<d.size),48<=(d[j]'h).toNat/\(d[j]'h).toNat<=57)(hmax:d.size<=140737488351232)
include ha hmax
theorem zt1(x:Int)(hp:∀w,Ret 168 #[jS d,jI 10,jI 64] w (.tuple #[jI x,.nilIface])):
 Ret 117 #[jS d] w (.tuple #[jI x,jI 0]):=by
 exact N4
theorem zlr(hp:Calls prog 168 #[jS d,jI 10,jI 64] w fun e w'=>∃(x:Int) (t:TypeId) (N:Nat),e=jr (.tuple #[jI x,.iface t (jU N 0)])/\Below w.heap.size w w'):
 Ret 117 #[jS d] w (.tuple #[jI 0,jI 13]):=by
 exact N5
end
end
end
theorem zld{d:ByteArray}(h:d.data.toList.all Dec.dig=true):∀j (h:j<d.size),48<=(d[j]'h).toNat/\(d[j]'h).toNat<=57:=by
 intro j hj;have hm:d[j]∈d.data.toList:=List.getElem_mem B69;exact Dec.dig_iff.1 (List.all_eq_true.1 h _ hm)
theorem zib{d:ByteArray}(h:d.data.toList.all Dec.dig=false):∃j,∃h:j<d.size,¬(48<=(d[j]'h).toNat/\(d[j]'h).toNat<=57):=by
 obtain ⟨c,hm,hc⟩:=List.all_eq_false.1 h;obtain ⟨j,hj,e⟩:=List.getElem_of_mem hm;refine ⟨j,by simpa using hj,fun hd=>hc ?_⟩;have e2:d[j]' B69=c:=e;rw[e2] at hd;exact Dec.dig_iff.2 hd
section
variable(s:ByteArray)(hs:s.size<=140737488351232)
include s hs
theorem zpa(v:Int)(h:Lib.parseIntB 64 s.data.toList= .ok v)(w:World):
 Ret 168 #[jS s,jI 10,jI 64] w (.tuple #[jI v,.nilIface]):=
 (Tryz.strconv_ParseInt_10_at64_ok s B1 v h w).mono fun e w' ⟨he,hw⟩=> ⟨he,by
  rcases hw with rfl|⟨t,rfl⟩
  .exact jB
  .exact Lib.bytesWorld_below _ _ _⟩
theorem zh8(h:Lib.parseIntB 64 s.data.toList= .range)(w:World)(hN:NumW w):
 Calls prog 168 #[jS s,jI 10,jI 64] w fun e w'=>∃(x:Int) (t:TypeId) (N:Nat),e=jr (.tuple #[jI x,.iface t (jU N 0)])/\Below w.heap.size w w':=by
 obtain ⟨te,pe,hc⟩:=hN.rng;exact (Tryz.strconv_ParseInt_10_at64_range s B1 h _ w hc (.inr ⟨te,pe,rfl⟩)).mono fun e w' ⟨N,he,_,_,hb⟩=> ⟨_,_,N,he,hb⟩
end
theorem read_any(s:ByteArray)(x y:Int)(w:World)(hs:s.size<=140737488351232)(hN:NumW w)(h:Dec.readS s.data.toList=(x,y)):
 Ret 117 #[jS s] w (.tuple #[jI x,jI y]):=by
 have hsz:=Lib.size_eq s;have htl:=Lib.toList_data s;rcases hl:s.data.toList with _|⟨c,r⟩
 .rw[hl] at h htl;obtain ⟨rfl,rfl⟩:x=0/\y=12:=by
   have:Dec.readS []=(0,12):=B3;rw[this] at h;simp only[Prod.mk.injEq] at h;exact ⟨h.1.symm,h.2.symm⟩
  exact zq7 w s htl
 .have e0:s.toList.isEmpty=false:=by rw[htl,hl];rfl
  have e1:¬s.toList=[]:=by rw[htl,hl];simp
  have hz:0<s.size:=by rw[hsz,hl];simp
  have hc:s[0]=c:=by
   have:=zp5 s 0 hz;rw[<-this];simp[hl]
  rw[hl] at h
  by_cases h45:c=45
  .subst h45;have t45:(((s[0]'hz).toNat:Int)==45)=true:=by rw[hc];decide
   obtain ⟨d,hd⟩:∃d,s.extract 1 s.size=d:=⟨_,rfl⟩;have hdl:d.data.toList=r:=by rw[<-hd,Lib.extract_to_end,hl];rfl
   have hdsz:s.size-1=d.size:=by rw[Lib.size_eq d,hdl,hsz,hl];simp
   have hdtl:=Lib.toList_data d;rw[hdl] at hdtl;rcases r with _|⟨b,r'⟩
   .obtain ⟨rfl,rfl⟩:x=0/\y=12:=by
     have:Dec.readS [45]=(0,12):=B3;rw[this] at h;simp only[Prod.mk.injEq] at h;exact ⟨h.1.symm,h.2.symm⟩
    exact zng s d w e0 e1 hz t45 hd hdsz hdtl
   .have f0:d.toList.isEmpty=false:=by rw[hdtl];rfl
    have f1:¬d.toList=[]:=by rw[hdtl];simp
    have hdz:0<d.size:=by rw[Lib.size_eq d,hdl];simp
    have hb:d[0]=b:=by
     have:=zp5 d 0 hdz;rw[<-this];simp[hdl]
    have hs48:(s.toList==[48])=false:=by rw[htl,hl];simp
    by_cases h48:b=48
    ·
      have t48:(((d[0]'hdz).toNat:Int)==48)=true:=by rw[hb,h48];decide
      obtain ⟨rfl,rfl⟩:x=0/\y=12:=by
       have hf:Dec.isForm (45::b::r')=false:=by
        subst h48;unfold Dec.isForm Dec.body Dec.form;simp
       exact M91
      exact znh s d w e0 e1 hz t45 hd hdsz f0 f1 hdz t48 hs48
    .have t48:(((d[0]'hdz).toNat:Int)==48)=false:=by
      rw[hb,beq_eq_false_iff_ne];intro e
      exact h48 (Dec.toNat_inj (by have:(48:UInt8).toNat=48:=rfl
                                   omega))
     by_cases hall:(b::r').all Dec.dig=true
     .have hf:Dec.isForm (45::b::r')=true:=Dec.isForm_minus (by unfold Dec.form;rw[hall];simp[h48]) (by simp[h48]);unfold Dec.readS at h;rw[if_pos hf] at h;rcases Dec.parse_of_form hf with ⟨v,hv⟩|hv
      .rw[hv] at h;simp only[Prod.mk.injEq] at h;obtain ⟨rfl,rfl⟩:=h;exact zt2 s d w e0 e1 hz t45 hd hdsz f0 f1 hdz (.inl t48) (zld (by rw[hdl];exact hall)) B1 v (fun w=>zpa s hs v B185 w)
      .rw[hv] at h;simp only[Prod.mk.injEq] at h;obtain ⟨rfl,rfl⟩:=h;exact zls s d w e0 e1 hz t45 hd hdsz f0 f1 hdz (.inl t48) (zld (by rw[hdl];exact hall)) B1 (zh8 s hs B185 w hN)
     .have hall':(b::r').all Dec.dig=false:=by simpa using hall
      obtain ⟨rfl,rfl⟩:x=0/\y=12:=by
       have hf:Dec.isForm (45::b::r')=false:=by
        unfold Dec.isForm Dec.body Dec.form;simp only[List.head?_cons,beq_self_eq_true,cond_true,List.tail_cons,hall',Bool.false_and]
       exact M91
      exact zq6 s d w e0 e1 hz t45 hd hdsz f0 f1 hdz (.inl t48) (zib (by rw[hdl];exact hall')) B1
  .have h45n:c.toNat≠45:=fun e=>h45 (Dec.toNat_inj (by have:(45:UInt8).toNat=45:=rfl
                                                       omega))
   have t45:(((s[0]'hz).toNat:Int)==45)=false:=by rw[hc,beq_eq_false_iff_ne];omega
   have hbody:Dec.body (c::r)=c::r:=by
    have:(c==45)=false:=by simpa using h45
    unfold Dec.body;simp[this]
   have hform:Dec.isForm (c::r)=Dec.form (c::r):=by
    have:(c==45)=false:=by simpa using h45
    unfold Dec.isForm;rw[hbody];simp[this]
   by_cases h48:c=48/\r≠[]
   .have t48:(((s[0]'hz).toNat:Int)==48)=true:=by rw[hc,h48.1];decide
    have hs48:(s.toList==[48])=false:=by rw[htl,hl];simp[h48.2]
    obtain ⟨rfl,rfl⟩:x=0/\y=12:=by
     have hf:Dec.isForm (c::r)=false:=by
      rw[hform,h48.1];unfold Dec.form;simp[h48.2]
     exact M91
    exact znf s w e0 e1 hz t45 t48 hs48
   .have t48:(((s[0]'hz).toNat:Int)==48)=false\/((((s[0]'hz).toNat:Int)==48)=true/\(s.toList==[48])=true):=by
     by_cases e:c=48
     .right;have hr:r=[]:=by
       by_cases e2:r=[]
       .exact e2
       .exact absurd ⟨e,e2⟩ h48
      exact ⟨by rw[hc,e];decide,by rw[htl,hl,e,hr];decide⟩
     .left;rw[hc,beq_eq_false_iff_ne];intro e2
      exact e (Dec.toNat_inj (by have:(48:UInt8).toNat=48:=rfl
                                 omega))
    by_cases hall:(c::r).all Dec.dig=true
    .have hf:Dec.isForm (c::r)=true:=by
      rw[hform];unfold Dec.form;rw[hall]
      by_cases e:c=48
      .have hr:r=[]:=by
        by_cases e2:r=[]
        .exact e2
        .exact absurd ⟨e,e2⟩ h48
       subst e hr;rfl
      .simp[e]
     unfold Dec.readS at h;rw[if_pos hf] at h;rcases Dec.parse_of_form hf with ⟨v,hv⟩|hv
     .rw[hv] at h;simp only[Prod.mk.injEq] at h;obtain ⟨rfl,rfl⟩:=h;exact zt1 s w e0 e1 hz t45 t48 (zld (by rw[hl];exact hall)) hs v (fun w=>zpa s hs v B185 w)
     .rw[hv] at h;simp only[Prod.mk.injEq] at h;obtain ⟨rfl,rfl⟩:=h;exact zlr s w e0 e1 hz t45 t48 (zld (by rw[hl];exact hall)) hs (zh8 s hs B185 w hN)
    .have hall':(c::r).all Dec.dig=false:=by simpa using hall
     obtain ⟨rfl,rfl⟩:x=0/\y=12:=by
      have hf:Dec.isForm (c::r)=false:=by
       rw[hform];unfold Dec.form;rw[hall'];rfl
      exact M91
     exact zq5 s w e0 e1 hz t45 t48 (zib (by rw[hl];exact hall')) hs
theorem zfi{v:Int}(h:PowG.Fits v):Ref.fitV v=v/\Ref.fitB v=true:=by unfold Ref.fitV Ref.fitB;rw[if_pos h,decide_eq_true h];exact ⟨rfl,rfl⟩
theorem zc9{v:Int}(h:¬PowG.Fits v):Ref.fitV v=0/\Ref.fitB v=false:=by unfold Ref.fitV Ref.fitB;rw[if_neg h,decide_eq_false h];exact ⟨rfl,rfl⟩
section
variable{w:World}{B T:Nat}{k n:Int}{t:ByteArray}(h:w.heap[B]?=some (.cells #[jI k,jI n,jS t] T (0,0)))
include w B T k n t h
theorem zaa:
 w.cell? (jA B 0)=some (jI k)/\w.cell? (jA B 1)=some (jI n)/\w.cell? (jA B 2)=some (jS t):=
 ⟨Lib.cell_of_heap h 0,Lib.cell_of_heap h 1,Lib.cell_of_heap h 2⟩
theorem zab:
 w.frozen? (jA B 0)=false/\w.frozen? (jA B 1)=false/\w.frozen? (jA B 2)=false:=
 ⟨Lib.frozen_of_heap h 0,Lib.frozen_of_heap h 1,Lib.frozen_of_heap h 2⟩
end
theorem zei{w:World}{B T:Nat}{k n k' n':Int}{t t':ByteArray}(h:w.heap[B]?=some (.cells #[jI k,jI n,jS t] T (0,0))):
 (((w.setCell (jA B 0) (jI k')).setCell (jA B 1) (jI n')).setCell (jA B 2) (jS t')).heap[B]?=some (.cells #[jI k',jI n',jS t'] T (0,0)):=by
 have h1:=heap_setCell_same w B 0 _ T (jI k') h;have h2:=heap_setCell_same _ B 1 _ T (jI n') h1;exact heap_setCell_same _ B 2 _ T (jS t') h2
theorem zbe{w w1:World}{o:Obj}(hb:Below (w.alloc o).heap.size (w.alloc o) w1):Below w.heap.size w w1:=(jB.alloc jE _).trans (hb.mono B7)
abbrev vv(v:Val.V):Value:= .agg #[jI v.k,jI v.n,jS v.t]
def M40(h:jp:=by
 go_enter func11,ntmps11;go_wp2;go_ret;exact ⟨rfl,jB.alloc jE _⟩):=h
def C11(h:jp:=by
 go_wp2_with fail;refine jM (HM.out _) ?_;intro w1 hb1;have hx:=(hb1.block w.heap.size B14).trans ((Below.heap_alloc _ _ w.heap.size B7).trans Bp4);have hy:w1.heap[w.heap.size+1]?=some (.cells #[jI 0,jI 0,jS ⟨#[]⟩] 41 (0,0)):=(hb1.block (w.heap.size+1) B7).trans (by
  rw[show w.heap.size+1=(w.alloc (Obj.cells #[jI k,jI n,jS t] 41)).heap.size by simp];exact heap_alloc_new _ _)
 have hs:Below w.heap.size w w1:=((jB.alloc (Nat.le_refl w.heap.size) _).alloc B7 _).trans (hb1.mono B14);exact K11):=h
def X61.K11(h:jp:=by
 obtain ⟨x0,x1,x2⟩:=zaa hx;obtain ⟨y0,y1,y2⟩:=zaa hy;obtain ⟨f0,f1,f2⟩:=zab hy;clear hx hy hb1;go_wp2;refine jX (.agg #[jI k,jI n,jS t]) ?_ ⟨rfl,set3 hs B7⟩;simp[results,results116,go_sem,y0,y1,y2]):=h
def D12(h:jp:=by
 go_wp2_with fail;refine jM (HM.out _) ?_;intro w1 hb1;have hx:=(hb1.block w.heap.size B14).trans ((Below.heap_alloc _ _ w.heap.size B7).trans Bp4);have hy:w1.heap[w.heap.size+1]?=some (.cells #[jI 0,jI 0,jS ⟨#[]⟩] 41 (0,0)):=(hb1.block (w.heap.size+1) B7).trans (by
  rw[show w.heap.size+1=(w.alloc (Obj.cells #[jI k,jI n,jS t] 41)).heap.size by simp];exact heap_alloc_new _ _)
 have hs:Below w.heap.size w w1:=((jB.alloc (Nat.le_refl w.heap.size) _).alloc B7 _).trans (hb1.mono B14);clear hx;have hl1:w.heap.size+1<w1.heap.size:=jL B7 hb1.size;clear hb1;go_wp2_with fail;exact J12):=h
def Da18(h:jp:=by
 intro w2 hb2;have hy2:=(hb2.block (w.heap.size+1) hl1).trans hy;obtain ⟨y0,y1,y2⟩:=zaa hy2;obtain ⟨f0,f1,f2⟩:=zab hy2;replace hs:=jN hs hb2;clear hy hb2 hy2;exact Ja18):=h
def Va46.Ja18(h:jp:=by
 go_wp2;refine jX (.agg #[jI 4,jI 4,jS ⟨#[]⟩]) ?_ ⟨rfl,set3 hs B7⟩;simp[results,results116,go_sem,y0,y1,y2]):=h
def V35.J12(h:jp:=by
 refine jM (zw3 4 _) ?_
 open Va46 in exact Da18):=h
section
variable(n:Int)(t:ByteArray)(w:World)
include n t w
theorem vmay_0n(h:(n==0)=false):Ret 11 #[.agg #[jI 0,jI n,jS t]] w (.bool false):=by
 exact M40
theorem vmay_0e(h:(n==0)=true)(e1:t.toList=[])(e2:t.toList.isEmpty=true):Ret 11 #[.agg #[jI 0,jI n,jS t]] w (.bool true):=by
 exact M40
theorem vmay_0f(h:(n==0)=true)(e1:¬t.toList=[])(e2:t.toList.isEmpty=false):Ret 11 #[.agg #[jI 0,jI n,jS t]] w (.bool false):=by
 exact M40
theorem vmay_1e(e1:t.toList=[])(e2:t.toList.isEmpty=true):Ret 11 #[.agg #[jI 1,jI n,jS t]] w (.bool true):=by
 exact M40
theorem vmay_1f(e1:¬t.toList=[])(e2:t.toList.isEmpty=false):Ret 11 #[.agg #[jI 1,jI n,jS t]] w (.bool false):=by
 exact M40
theorem vmay_2n(h:(n==0)=false)(h1:(n==1)=false):Ret 11 #[.agg #[jI 2,jI n,jS t]] w (.bool false):=by
 exact M40
theorem vmay_2ae(h:(n==0)=true)(e1:t.toList=[])(e2:t.toList.isEmpty=true):Ret 11 #[.agg #[jI 2,jI n,jS t]] w (.bool true):=by
 exact M40
theorem vmay_2be(h:(n==0)=false)(h1:(n==1)=true)(e1:t.toList=[])(e2:t.toList.isEmpty=true):Ret 11 #[.agg #[jI 2,jI n,jS t]] w (.bool true):=by
 exact M40
theorem vmay_2af(h:(n==0)=true)(e1:¬t.toList=[])(e2:t.toList.isEmpty=false):Ret 11 #[.agg #[jI 2,jI n,jS t]] w (.bool false):=by
 exact M40
theorem vmay_2bf(h:(n==0)=false)(h1:(n==1)=true)(e1:¬t.toList=[])(e2:t.toList.isEmpty=false):Ret 11 #[.agg #[jI 2,jI n,jS t]] w (.bool false):=by
 exact M40
theorem vmay_3n(h:(n==0)=false):Ret 11 #[.agg #[jI 3,jI n,jS t]] w (.bool false):=by
 exact M40
theorem vmay_3e(h:(n==0)=true)(e1:decide ((t.size:Int)<=32767)=true):Ret 11 #[.agg #[jI 3,jI n,jS t]] w (.bool true):=by
 exact M40
theorem vmay_3f(h:(n==0)=true)(e1:decide ((t.size:Int)<=32767)=false):Ret 11 #[.agg #[jI 3,jI n,jS t]] w (.bool false):=by
 exact M40
theorem vmay_4l(h:decide (1<=n)=false):Ret 11 #[.agg #[jI 4,jI n,jS t]] w (.bool false):=by
 exact M40
section
variable(h:decide (1<=n)=true)
include h
theorem vmay_4g(h1:decide (n<=6)=false):Ret 11 #[.agg #[jI 4,jI n,jS t]] w (.bool false):=by
 exact M40
theorem vmay_4e(h1:decide (n<=6)=true)(e1:t.toList=[])(e2:t.toList.isEmpty=true):Ret 11 #[.agg #[jI 4,jI n,jS t]] w (.bool true):=by
 exact M40
theorem vmay_4f(h1:decide (n<=6)=true)(e1:¬t.toList=[])(e2:t.toList.isEmpty=false):Ret 11 #[.agg #[jI 4,jI n,jS t]] w (.bool false):=by
 exact M40
end
end
theorem vmay_o(K:Int)(n:Int)(t:ByteArray)(w:World)(k0:(K==0)=false)(k1:(K==1)=false)(k2:(K==2)=false)(k3:(K==3)=false)(k4:(K==4)=false):Ret 11 #[.agg #[jI K,jI n,jS t]] w (.bool false):=by
 exact M40
theorem zbm(v:Val.V)(w:World):Ret 11 #[vv v] w (.bool (Val.mayB v)):=by
 obtain ⟨k,n,t⟩:=v;have E:(t.toList=[]/\t.toList.isEmpty=true)\/(¬t.toList=[]/\t.toList.isEmpty=false):=by
  cases h:t.toList <;> simp
 unfold Val.mayB Val.isE;show Calls prog 11 #[.agg #[jI k,jI n,jS t]] w _
 by_cases h0:k=0
 .subst h0
  by_cases hn:n=0
  .have t1:(n==0)=true:=by simpa using hn
   rcases E with ⟨e1,e2⟩|⟨e1,e2⟩
   .simpa[t1,e2] using vmay_0e n t w t1 e1 e2
   .simpa[t1,e2] using vmay_0f n t w t1 e1 e2
  .have t1:(n==0)=false:=by simpa using hn
   simpa[t1] using vmay_0n n t w t1
 by_cases h1:k=1
 .subst h1;rcases E with ⟨e1,e2⟩|⟨e1,e2⟩
  .simpa[e2] using vmay_1e n t w e1 e2
  .simpa[e2] using vmay_1f n t w e1 e2
 by_cases h2:k=2
 .subst h2
  by_cases hn:n=0
  .have t1:(n==0)=true:=by simpa using hn
   rcases E with ⟨e1,e2⟩|⟨e1,e2⟩
   .simpa[t1,e2] using vmay_2ae n t w t1 e1 e2
   .simpa[t1,e2] using vmay_2af n t w t1 e1 e2
  .have t1:(n==0)=false:=by simpa using hn
   by_cases hn1:n=1
   .have t2:(n==1)=true:=by simpa using hn1
    rcases E with ⟨e1,e2⟩|⟨e1,e2⟩
    .simpa[t1,t2,e2] using vmay_2be n t w t1 t2 e1 e2
    .simpa[t1,t2,e2] using vmay_2bf n t w t1 t2 e1 e2
   .have t2:(n==1)=false:=by simpa using hn1
    simpa[t1,t2] using vmay_2n n t w t1 t2
 by_cases h3:k=3
 .subst h3
  by_cases hn:n=0
  .have t1:(n==0)=true:=by simpa using hn
   by_cases ht:t.size<=32767
   .have t2:decide (t.size<=32767)=true:=decide_eq_true ht;simpa[t1,t2,ht] using vmay_3e n t w t1 (decide_eq_true B1)
   .have t2:decide (t.size<=32767)=false:=decide_eq_false ht;simpa[t1,t2,ht] using vmay_3f n t w t1 (decide_eq_false B1)
  .have t1:(n==0)=false:=by simpa using hn
   simpa[t1] using vmay_3n n t w t1
 by_cases h4:k=4
 .subst h4
  by_cases hn:1<=n
  .have t1:decide (1<=n)=true:=decide_eq_true hn
   by_cases hn6:n<=6
   .have t2:decide (n<=6)=true:=decide_eq_true hn6;rcases E with ⟨e1,e2⟩|⟨e1,e2⟩
    .simpa[t1,t2,e2,hn,hn6] using vmay_4e n t w t1 t2 e1 e2
    .simpa[t1,t2,e2,hn,hn6] using vmay_4f n t w t1 t2 e1 e2
   .have t2:decide (n<=6)=false:=decide_eq_false hn6;simpa[t1,t2,hn,hn6] using vmay_4g n t w t1 t2
  .have t1:decide (1<=n)=false:=decide_eq_false hn;simpa[t1,hn] using vmay_4l n t w t1
 have k0:(k==0)=false:=B71;have k1:(k==1)=false:=B82;have k2:(k==2)=false:=B70;have k3:(k==3)=false:=B72;have k4:(k==4)=false:=B83;simpa[k0,k1,k2,k3,k4] using vmay_o k n t w k0 k1 k2 k3 k4
theorem zw3(e:Int)(w:World):Calls prog 167 #[jI e] w fun e' w'=>e'= .returned (.agg #[jI 4,jI e,jS ⟨#[]⟩])/\Below w.heap.size w w':=by
 go_enter func167,ntmps167;go_wp2;exact jX (.agg #[jI 4,jI e,jS ⟨#[]⟩]) (by simp[results,results167,go_sem]) ⟨rfl,jB.alloc jE _⟩
theorem zde(v:Val.V)(w:World):Ret 116 #[vv v] w (vv (Val.good v)):=by
 have HM:=jH (fun w=>zbm v w);unfold Val.good;cases hm:Val.mayB v with
 |true=>
  rw[hm] at HM;clear hm;obtain ⟨k,n,t⟩:=v;show Ret 116 #[.agg #[jI k,jI n,jS t]] w (.agg #[jI k,jI n,jS t]);replace HM:Hid (∀w,Ret 11 #[.agg #[jI k,jI n,jS t]] w (.bool true)):=HM;go_enter func116,ntmps116
  open X61 in exact C11
 |false=>
  rw[hm] at HM;clear hm;obtain ⟨k,n,t⟩:=v;show Ret 116 #[.agg #[jI k,jI n,jS t]] w (.agg #[jI 4,jI 4,jS ⟨#[]⟩]);replace HM:Hid (∀w,Ret 11 #[.agg #[jI k,jI n,jS t]] w (.bool false)):=HM;go_enter func116,ntmps116
  open V35 in exact D12
theorem word_any(n:Int)(w:World):Calls prog 156 #[jI n] w fun e w'=>e=jr (jS (Val.word n))/\w=w':=by
 unfold Val.word;cases h:(n==1) with
 |true=>
  go_enter func156,ntmps156;go_wp2;go_ret;exact ⟨rfl,rfl⟩
 |false=>
  go_enter func156,ntmps156;go_wp2;go_ret;exact ⟨rfl,rfl⟩
theorem zms(B:Nat)(w:World)(n:Nat):Below B w (w.drewN n):=⟨rfl,rfl,rfl,jE,fun _ _=>rfl⟩
structure VB(v:Val.V):Prop where
 n0:-9223372036854775808<=v.n
 n1:v.n<=9223372036854775807
 sz:v.t.size<=140737488351232
def Bp98(h:jp:=by exact zms _ _ _):=h
def M25(h:jp:=by
 go_wp2_with fail;refine jM (HG.out _) ?_;intro w1 hb1;have hx:=(hb1.block w.heap.size B7).trans Bp4;have hs:Below w.heap.size w w1:=zbe hb1;clear hb1;have hx2:=fun k' n' t'=>zei (k':=k') (n':=n') (t':=t') hx;obtain ⟨f0,f1,f2⟩:=zab hx;obtain ⟨x0,x1,x2⟩:=zaa hx;have hs2:∀k' n' t',Below w.heap.size w (((w1.setCell (jA w.heap.size 0) (jI k')).setCell (jA w.heap.size 1) (jI n')).setCell (jA w.heap.size 2) (jS t')):=fun k' n' t'=>set3 hs B7;clear hx hs;go_wp2;have hx3:=hx2 4 gn gt;have hs3:=hs2 4 gn gt;clear hx2 hs2 f0 f1 f2 x0 x1 x2;generalize (((w1.setCell (jA w.heap.size 0) (jI 4)).setCell (jA w.heap.size 1) (jI gn)).setCell (jA w.heap.size 2) (jS gt))=w2 at hx3 hs3 ⊢;obtain ⟨y0,y1,y2⟩:=zaa hx3;clear hx3;go_quiet (fail);go_wp2;go_ret2;exact ⟨rfl,hs3.trans Bp98⟩):=h
def M10(h:jp:=by
 go_wp2_with fail;refine jM (HG.out _) ?_;intro w1 hb1;have hx:=(hb1.block w.heap.size B7).trans Bp4;have hs:Below w.heap.size w w1:=zbe hb1;clear hb1;have hx2:=fun k' n' t'=>zei (k':=k') (n':=n') (t':=t') hx;obtain ⟨f0,f1,f2⟩:=zab hx;obtain ⟨x0,x1,x2⟩:=zaa hx;have hs2:∀k' n' t',Below w.heap.size w (((w1.setCell (jA w.heap.size 0) (jI k')).setCell (jA w.heap.size 1) (jI n')).setCell (jA w.heap.size 2) (jS t')):=fun k' n' t'=>set3 hs B7;clear hx hs;go_wp2;go_ret2;exact ⟨rfl,hs2 _ _ _⟩):=h
def N13(h:jp:=by
 have HG:=jH HG0;clear HG0;go_enter func67,ntmps67;exact M10):=h
def Bp62(h:jp:=by exact hb2.mono (hs2 _ _ _).size):=h
def Bp72(h:jp:=by exact HC.out _ (hs2 _ _ _)):=h
def M34(h:jp:=by
 go_wp2_with fail;refine jM (HG.out _) ?_;intro w1 hb1;have hx:=(hb1.block w.heap.size B7).trans Bp4;have hs:Below w.heap.size w w1:=zbe hb1;clear hb1;have hx2:=fun k' n' t'=>zei (k':=k') (n':=n') (t':=t') hx;obtain ⟨f0,f1,f2⟩:=zab hx;obtain ⟨x0,x1,x2⟩:=zaa hx;have hs2:∀k' n' t',Below w.heap.size w (((w1.setCell (jA w.heap.size 0) (jI k')).setCell (jA w.heap.size 1) (jI n')).setCell (jA w.heap.size 2) (jS t')):=fun k' n' t'=>set3 hs B7;clear hx hs;have HC:=jH HR;clear HR;go_wp2_with fail;refine jM Bp72 ?_;intro w2 hb2;have hs3:=(hs2 _ _ _).trans Bp62;clear hb2 hs2 hx2;go_wp2;go_ret2;exact ⟨rfl,hs3⟩):=h
theorem VB.good{v:Val.V}(h:VB v):VB (Val.good v):=by
 unfold Val.good;cases Val.mayB v
 .exact (show VB (Val.err 4) from ⟨by decide,by decide,B3⟩)
 .exact h
section
variable(k n gn:Int)(t gt:ByteArray)(w:World)
include k n gn t gt w
theorem truth_e(HG0:∀w,Ret 116 #[.agg #[jI k,jI n,jS t]] w (.agg #[jI 4,jI gn,jS gt])):Ret 67 #[.agg #[jI k,jI n,jS t]] w (.tuple #[.bool false,jI gn]):=by
 have HG:=jH HG0;clear HG0;go_enter func67,ntmps67;exact M25
section
variable(HG0:∀w,Ret 116 #[.agg #[jI k,jI n,jS t]] w (.agg #[jI 3,jI gn,jS gt]))
include HG0
theorem truth_tT(tt:(gt.toList==[84,82,85,69])=true):Ret 67 #[.agg #[jI k,jI n,jS t]] w (.tuple #[.bool true,jI 0]):=by
 exact N13
section
variable(tt:(gt.toList==[84,82,85,69])=false)
include tt
theorem truth_tF(tf:(gt.toList==[70,65,76,83,69])=true):Ret 67 #[.agg #[jI k,jI n,jS t]] w (.tuple #[.bool false,jI 0]):=by
 exact N13
theorem truth_tN(tf:(gt.toList==[70,65,76,83,69])=false):Ret 67 #[.agg #[jI k,jI n,jS t]] w (.tuple #[.bool false,jI 4]):=by
 exact N13
end
end
end
theorem truth_o(gk:Int)(k n gn:Int)(t gt:ByteArray)(w:World)(HG0:∀w,Ret 116 #[.agg #[jI k,jI n,jS t]] w (.agg #[jI gk,jI gn,jS gt]))(g3:(gk==3)=false)(m3:(gk !=3)=true)(g4:(gk==4)=false)(m4:(gk !=4)=true):Ret 67 #[.agg #[jI k,jI n,jS t]] w (.tuple #[.bool (gn !=0),jI 0]):=by
 exact N13
theorem truth_any(v:Val.V)(w:World):Ret 67 #[vv v] w (.tuple #[.bool (Val.truth v).1,jI (Val.truth v).2]):=by
 have HG:=fun w=>zde v w;unfold Val.truth;generalize Val.good v=g at HG ⊢;obtain ⟨gk,gn,gt⟩:=g;obtain ⟨k,n,t⟩:=v;unfold Val.zs4 Val.isT Val.isF;simp only
 by_cases h4:gk=4
 .subst h4;exact truth_e k n gn t gt w HG
 rw[show (gk==4)=false by simpa using h4]
 by_cases h3:gk=3
 .subst h3;cases tt:(gt.toList==[84,82,85,69]) with
  |true=>exact truth_tT k n gn t gt w HG tt
  |false=>
   cases tf:(gt.toList==[70,65,76,83,69]) with
   |true=>exact truth_tF k n gn t gt w HG tt tf
   |false=>exact truth_tN k n gn t gt w HG tt tf
 rw[show (gk==3)=false by simpa using h3];exact truth_o gk k n gn t gt w HG B72 B72 B83 B83
section
variable(k n gn:Int)(t gt:ByteArray)(w:World)
include k n gn t gt w
theorem number_e(HG0:∀w,Ret 116 #[.agg #[jI k,jI n,jS t]] w (.agg #[jI 4,jI gn,jS gt])):Ret 68 #[.agg #[jI k,jI n,jS t]] w (.tuple #[jI 0,jI gn]):=by
 have HG:=jH HG0;clear HG0;go_enter func68,ntmps68;exact M25
section
variable(HG0:∀w,Ret 116 #[.agg #[jI k,jI n,jS t]] w (.agg #[jI 3,jI gn,jS gt]))(x y:Int)(HR:∀w',Below w.heap.size w w'->Calls prog 117 #[jS gt] w' fun e w''=>e=jr (.tuple #[jI x,jI y])/\Below w'.heap.size w' w'')
include HG0 x y HR
theorem zuw(ty:(y !=0)=true):Ret 68 #[.agg #[jI k,jI n,jS t]] w (.tuple #[jI 0,jI 4]):=by
 have HG:=jH HG0;clear HG0;go_enter func68,ntmps68;exact M34
theorem zuv(ty:(y !=0)=false):Ret 68 #[.agg #[jI k,jI n,jS t]] w (.tuple #[jI x,jI 0]):=by
 have HG:=jH HG0;clear HG0;go_enter func68,ntmps68;exact M34
end
end
theorem number_o(gk:Int)(k n gn:Int)(t gt:ByteArray)(w:World)(HG0:∀w,Ret 116 #[.agg #[jI k,jI n,jS t]] w (.agg #[jI gk,jI gn,jS gt]))(g3:(gk==3)=false)(m3:(gk !=3)=true)(g4:(gk==4)=false)(m4:(gk !=4)=true):Ret 68 #[.agg #[jI k,jI n,jS t]] w (.tuple #[jI gn,jI 0]):=by
 have HG:=jH HG0;clear HG0;go_enter func68,ntmps68;exact M10
theorem za8(v:Val.V)(w:World)(hv:VB v)(hN:NumW w):Ret 68 #[vv v] w (.tuple #[jI (Val.number v).1,jI (Val.number v).2]):=by
 have HG:=fun w=>zde v w;have HB:=hv.good;unfold Val.number;generalize Val.good v=g at HG HB ⊢;obtain ⟨gk,gn,gt⟩:=g;obtain ⟨k,n,t⟩:=v;unfold Val.numG;simp only
 by_cases h3:gk=3
 .subst h3;rcases hxy:Dec.readS gt.data.toList with ⟨x,y⟩;have HR:∀w',Below w.heap.size w w'->Calls prog 117 #[jS gt] w' fun e w''=>e=jr (.tuple #[jI x,jI y])/\Below w'.heap.size w' w'':=fun w' hb=>read_any gt x y w' HB.sz (hN.below hb) hxy
  by_cases h0:y=0
  .subst h0;exact zuv k n gn t gt w HG x 0 HR rfl
  .have ty:(y==0)=false:=by simpa using h0
   simp only[ty];exact zuw k n gn t gt w HG x y HR B71
 rw[show (gk==3)=false by simpa using h3]
 by_cases h4:gk=4
 .subst h4;exact number_e k n gn t gt w HG
 rw[show (gk==4)=false by simpa using h4];exact number_o gk k n gn t gt w HG B72 B72 B83 B83
section
variable(k n gn:Int)(t gt:ByteArray)(w:World)
include k n gn t gt w
theorem astext_e(HG0:∀w,Ret 116 #[.agg #[jI k,jI n,jS t]] w (.agg #[jI 4,jI gn,jS gt])):Ret 107 #[.agg #[jI k,jI n,jS t]] w (.tuple #[jS ⟨#[]⟩,jI gn]):=by
 have HG:=jH HG0;clear HG0;go_enter func107,ntmps107;exact M25
theorem astext_i(HG0:∀w,Ret 116 #[.agg #[jI k,jI n,jS t]] w (.agg #[jI 1,jI gn,jS gt]))(HR:∀w',Below w.heap.size w w'->Calls prog 155 #[jI gn] w' fun e w''=>e=jr (jS ⟨(Lib.itoa gn).toArray⟩)/\Below w'.heap.size w' w''):Ret 107 #[.agg #[jI k,jI n,jS t]] w (.tuple #[jS ⟨(Lib.itoa gn).toArray⟩,jI 0]):=by
 have HG:=jH HG0;clear HG0;go_enter func107,ntmps107;exact M34
theorem astext_b(HG0:∀w,Ret 116 #[.agg #[jI k,jI n,jS t]] w (.agg #[jI 2,jI gn,jS gt]))(HW:∀w',Below w.heap.size w w'->Calls prog 156 #[jI gn] w' fun e w''=>e=jr (jS (Val.word gn))/\Below w'.heap.size w' w''):Ret 107 #[.agg #[jI k,jI n,jS t]] w (.tuple #[jS (Val.word gn),jI 0]):=by
 have HG:=jH HG0;clear HG0;go_enter func107,ntmps107;go_wp2_with fail;refine jM (HG.out _) ?_;intro w1 hb1;have hx:=(hb1.block w.heap.size B7).trans Bp4;have hs:Below w.heap.size w w1:=zbe hb1;clear hb1;have hx2:=fun k' n' t'=>zei (k':=k') (n':=n') (t':=t') hx;obtain ⟨f0,f1,f2⟩:=zab hx;obtain ⟨x0,x1,x2⟩:=zaa hx;have hs2:∀k' n' t',Below w.heap.size w (((w1.setCell (jA w.heap.size 0) (jI k')).setCell (jA w.heap.size 1) (jI n')).setCell (jA w.heap.size 2) (jS t')):=fun k' n' t'=>set3 hs B7;clear hx hs;have HC:=jH HW;clear HW;go_wp2_with fail;refine jM Bp72 ?_;intro w2 hb2;have hs3:=(hs2 _ _ _).trans Bp62;clear hb2 hs2 hx2;go_wp2;go_ret2;exact ⟨rfl,hs3⟩
end
theorem astext_o(gk:Int)(k n gn:Int)(t gt:ByteArray)(w:World)(HG0:∀w,Ret 116 #[.agg #[jI k,jI n,jS t]] w (.agg #[jI gk,jI gn,jS gt]))(g1:(gk==1)=false)(m1:(gk !=1)=true)(g2:(gk==2)=false)(m2:(gk !=2)=true)(g4:(gk==4)=false)(m4:(gk !=4)=true):Ret 107 #[.agg #[jI k,jI n,jS t]] w (.tuple #[jS gt,jI 0]):=by
 have HG:=jH HG0;clear HG0;go_enter func107,ntmps107;exact M10
theorem zbu(v:Val.V)(w:World)(hv:VB v)(hN:NumW w):Ret 107 #[vv v] w (.tuple #[jS (Val.asText v).1,jI (Val.asText v).2]):=by
 have HG:=fun w=>zde v w;have HB:=hv.good;unfold Val.asText;generalize Val.good v=g at HG HB ⊢;obtain ⟨gk,gn,gt⟩:=g;obtain ⟨k,n,t⟩:=v;unfold Val.textG;simp only
 by_cases h1:gk=1
 .subst h1;exact astext_i k n gn t gt w HG (fun w' hb=>text_any gn w' HB.n0 HB.n1 (hN.below hb))
 rw[show (gk==1)=false by simpa using h1]
 by_cases h2:gk=2
 .subst h2;exact astext_b k n gn t gt w HG (fun w' _=>(word_any gn w').mono fun e w2 h=> ⟨h.1,h.2▸jB⟩)
 rw[show (gk==2)=false by simpa using h2]
 by_cases h4:gk=4
 .subst h4;exact astext_e k n gn t gt w HG
 rw[show (gk==4)=false by simpa using h4];exact astext_o gk k n gn t gt w HG B82 B82 B70 B70 B83 B83
def Val.asV(v b:Val.V):Val.V:=⟨cond (v.k==0&&b.k !=4) b.k v.k,v.n,v.t⟩
def Val.placeOf(k:Int):Int:=cond (k==1) 1<|cond (k==3) 2<|cond (k==2) 3<|cond (k==4) 4 0
def Val.cmpI(a b:Int):Int:=cond (decide (a<b)) (-1) (cond (decide (b<a)) 1 0)
def Val.orI(x y z:Int):Int:=cond (x !=0) x (cond (y !=0) y z)
def B135(h:jp:=by simp[results,results118,go_sem]):=h
def M119(h:jp:=by
 go_enter func121,ntmps121;go_wp2;go_ret;exact ⟨rfl,rfl⟩):=h
def M59(h:jp:=by
 go_wp2_with fail;refine jM (H1.out _) ?_;intro w1 rfl;go_wp2_with fail;refine jM (H2.out _) ?_;intro w1 rfl;go_wp2;go_ret;exact ⟨rfl,rfl⟩):=h
theorem as_z(bk n m:Int)(t s:ByteArray)(w:World)(h:(bk !=4)=true):Ret 118 #[.agg #[jI 0,jI n,jS t],.agg #[jI bk,jI m,jS s]] w (.agg #[jI bk,jI n,jS t]):=by
 go_enter func118,ntmps118;go_wp2;exact jX (.agg #[jI bk,jI n,jS t]) B135 ⟨rfl,((jB.alloc jE _).alloc B7 _).alloc B14 _⟩
theorem as_e(bk n m:Int)(t s:ByteArray)(w:World)(h:(bk !=4)=false):Ret 118 #[.agg #[jI 0,jI n,jS t],.agg #[jI bk,jI m,jS s]] w (.agg #[jI 0,jI n,jS t]):=by
 go_enter func118,ntmps118;go_wp2;exact jX (.agg #[jI 0,jI n,jS t]) B135 ⟨rfl,((jB.alloc jE _).alloc B7 _).alloc B14 _⟩
theorem as_o(k bk n m:Int)(t s:ByteArray)(w:World)(h:(k==0)=false):Ret 118 #[.agg #[jI k,jI n,jS t],.agg #[jI bk,jI m,jS s]] w (.agg #[jI k,jI n,jS t]):=by
 go_enter func118,ntmps118;go_wp2;exact jX (.agg #[jI k,jI n,jS t]) B135 ⟨rfl,((jB.alloc jE _).alloc B7 _).alloc B14 _⟩
theorem as_any(v b:Val.V)(w:World):Ret 118 #[vv v,vv b] w (vv (Val.asV v b)):=by
 obtain ⟨k,n,t⟩:=v;obtain ⟨bk,m,s⟩:=b;unfold Val.asV;show Ret 118 #[.agg #[jI k,jI n,jS t],.agg #[jI bk,jI m,jS s]] w (.agg #[jI (cond (k==0&&bk !=4) bk k),jI n,jS t])
 by_cases h:k=0
 .subst h;cases h4:(bk !=4) with
  |true=>exact as_z bk n m t s w h4
  |false=>exact as_e bk n m t s w h4
 .have h0:(k==0)=false:=by simpa using h
  rw[h0];exact as_o k bk n m t s w h0
theorem place_any(k:Int)(w:World):Calls prog 121 #[jI k] w fun e w'=>e=jr (jI (Val.placeOf k))/\w=w':=by
 unfold Val.placeOf;cases h1:(k==1) with
 |true=>
  exact M119
 |false=>
  cases h3:(k==3) with
  |true=>
   exact M119
  |false=>
   cases h2:(k==2) with
   |true=>
    exact M119
   |false=>
    cases h4:(k==4) with
    |true=>
     exact M119
    |false=>
     exact M119
theorem zl4(a:Int)(w:World):Calls prog 169 #[jI a] w fun e w'=>e=jr (.bool false)/\w=w':=by
 have h:(a !=a)=false:=B7;go_enter func169,ntmps169;go_wp2;go_ret;exact ⟨rfl,rfl⟩
theorem cmp_int(a b:Int)(w:World):Calls prog 120 #[jI a,jI b] w fun e w'=>e=jr (jI (Val.cmpI a b))/\w=w':=by
 have H1:=jH (fun w=>zl4 a w);have H2:=jH (fun w=>zl4 b w);unfold Val.cmpI;cases h1:decide (a<b) with
 |true=>
  go_enter func120,ntmps120;exact M59
 |false=>
  cases h2:decide (b<a) with
  |true=>
   go_enter func120,ntmps120;exact M59
  |false=>
   go_enter func120,ntmps120;exact M59
theorem zih(a:Int)(w:World):Calls prog 170 #[jI a] w fun e w'=>e=jr (.bool false)/\w=w':=by
 have h:(a !=a)=false:=B7;go_enter func170,ntmps170;go_wp2;go_ret;exact ⟨rfl,rfl⟩
theorem zxl(a b:Int)(w:World):Calls prog 122 #[jI a,jI b] w fun e w'=>e=jr (jI (Val.cmpI a b))/\w=w':=by
 have H1:=jH (fun w=>zih a w);have H2:=jH (fun w=>zih b w);unfold Val.cmpI;cases h1:decide (a<b) with
 |true=>
  go_enter func122,ntmps122;exact M59
 |false=>
  cases h2:decide (b<a) with
  |true=>
   go_enter func122,ntmps122;exact M59
  |false=>
   go_enter func122,ntmps122;exact M59
theorem or3_any(B:Nat)(x y z:Int)(w:World)(c0:w.cell? (jA B 0)=some (jI x))(c1:w.cell? (jA B 1)=some (jI y))(c2:w.cell? (jA B 2)=some (jI z)):
 Calls prog 119 #[jP B 0 3 3] w fun e w'=>e=jr (jI (Val.orI x y z))/\w=w':=by
 unfold Val.orI;go_enter func119,ntmps119;go_wp2;go_loop [8] (fun i=>∃j:Nat,i=jI (j:Int)/\(j=0\/(j=1/\x=0)\/(j=2/\x=0/\y=0)\/(j=3/\x=0/\y=0/\z=0))) (fun i=>3-(intOf i).toNat)
 case atStart=>exact ⟨0,rfl,.inl rfl⟩
 case round=>
  obtain ⟨j,rfl,hj⟩:=hrel;rcases hj with rfl|⟨rfl,rfl⟩|⟨rfl,rfl,rfl⟩|⟨rfl,rfl,rfl,rfl⟩
  .cases h:(x !=0) with
   |true=>
    go_wp2;go_ret;exact ⟨rfl,rfl⟩
   |false=>
    obtain rfl:x=0:=B38;go_wp2;go_round
    case rel=>exact ⟨1,rfl,.inr (.inl B7)⟩
    case measure=>simp[intOf]
  .cases h:(y !=0) with
   |true=>
    go_wp2;go_ret;exact ⟨rfl,rfl⟩
   |false=>
    obtain rfl:y=0:=B38;go_wp2;go_round
    case rel=>exact ⟨2,rfl,.inr (.inr (.inl B7))⟩
    case measure=>simp[intOf]
  .cases h:(z !=0) with
   |true=>
    go_wp2;go_ret;exact ⟨rfl,rfl⟩
   |false=>
    obtain rfl:z=0:=B38;go_wp2;go_round
    case rel=>exact ⟨3,rfl,.inr (.inr (.inr B7))⟩
    case measure=>simp[intOf]
  .go_wp2;go_ret;exact ⟨rfl,rfl⟩
