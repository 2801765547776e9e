import Derived.Test.YtoffmfgaohjjpaaGreatDoorQ20
set_option linter.unusedVariables false
set_option linter.unusedSectionVars false
set_option linter.unusedSimpArgs false
open Go.Proofs.Tryz
set_option maxHeartbeats 8000000
variable{jp:Sort _}
set_option maxRecDepth 100000
namespace Go.Proofs.YtoffmfgaohjjpaaGreatDoor
open Go.RowKit Go.MapKept
namespace Mb
def N2(h:jp:=by
 have hx0:=hx;obtain ⟨hlt,c0,c1,c2,c3,c4,c5⟩:=hx;go_enter func25,ntmps25;go_wp2_with fail;have hb:Below w.heap.size w (w.alloc (.cells #[jS nm,jI 1,.func (.func gi) #[] gb,.func (.func si) #[] sb] 77)):=below1 _ _;have hB:=heap_alloc_new w (.cells #[jS nm,jI 1,.func (.func gi) #[] gb,.func (.func si) #[] sb] 77);generalize hBB:w.heap.size=B at *;generalize w.alloc (.cells #[jS nm,jI 1,.func (.func gi) #[] gb,.func (.func si) #[] sb] 77)=w2 at *;exact M4):=h
section
variable(g o:Nat)(op a b c d:Int)(ta:Option Addr)(n tc r:Nat)(i en:Int)(nm:ByteArray)(gi si:FuncId)(gb sb:Array Value)(w:World)(hx:InsAt w g o op a b c d (.slice ta n tc))(hlk:(Instr.lookup 66 (.map (some r)) (jI op) true).run prog w= .ok (.tuple #[.agg #[jS nm,jI 1,.func (.func gi) #[] gb,.func (.func si) #[] sb],.bool true]) w)
include g o op a b c d ta n tc r i en nm gi si gb sb w hx hlk
theorem zim(z1:(b !=0)=true):Ret 25 #[.map (some r),PI g o,jI i,jI en] w (.bool false):=by
 exact N2
section
variable(z1:(b !=0)=false)
include z1
theorem zil(z2:(c !=0)=true):Ret 25 #[.map (some r),PI g o,jI i,jI en] w (.bool false):=by
 exact N2
section
variable(z2:(c !=0)=false)
include z2
theorem zik(z3:(d !=0)=true):Ret 25 #[.map (some r),PI g o,jI i,jI en] w (.bool false):=by
 exact N2
theorem zgp(z3:(d !=0)=false)(l1:decide ((0:Int)<(n:Int))=true)(l1':decide (0<n)=true)(l2:(op==10)=false):Ret 25 #[.map (some r),PI g o,jI i,jI en] w (.bool false):=by
 exact N2
theorem zgo(z3:(d !=0)=false)(l1:decide ((0:Int)<(n:Int))=false)(l1':decide (0<n)=false)(l2:(op==10)=true):Ret 25 #[.map (some r),PI g o,jI i,jI en] w (.bool false):=by
 exact N2
end
end
end
section
variable(g o:Nat)(op a b c d:Int)(ta:Option Addr)(n tc r:Nat)(i en:Int)(nm:ByteArray)(gi si:FuncId)(sb:Array Value)
include g o op a b c d ta n tc r i en nm gi si sb
theorem zgl(w:World)(hx:InsAt w g o op a b c d (.slice ta n tc))(hlk:(Instr.lookup 66 (.map (some r)) (jI op) true).run prog w= .ok (.tuple #[.agg #[jS nm,jI 1,.func (.func gi) #[] #[],.func (.func si) #[] sb],.bool true]) w)(z1:(b !=0)=false)(z2:(c !=0)=false)(z3:(d !=0)=false)(l:Bool)(l1:decide ((0:Int)<(n:Int))=l)(l1':decide (0<n)=l)(l2:(op==10)=l)(js:List Int)(hjl:js.length<=1000000)(q:Bool)(HJ:Hid (∀u,Below w.heap.size w u->Calls prog 62 #[PI g o] u fun e w'=>∃v,e=jr v/\IRd w' v js/\Below u.heap.size u w'))(hcf:∀args w,(callFunc gi args).run prog w= .ok (.enter gi args) w)(HG:Hid (∀u,Below w.heap.size w u->Ret gi #[PI g o] u (.bool q)))(z:Bool)(hz:Hid ((js.all fun tg=> !(decide (tg<=i)||decide (en<tg)))=z)):
 Ret 25 #[.map (some r),PI g o,jI i,jI en] w (.bool (z&&q)):=by
 have hrow:=jH hx.lt;cases l
 all_goals
  have hx0:=hx;obtain ⟨hlt,c0,c1,c2,c3,c4,c5⟩:=hx;go_enter func25,ntmps25;go_wp2_with fail;have hb:Below w.heap.size w (w.alloc (.cells #[jS nm,jI 1,.func (.func gi) #[] #[],.func (.func si) #[] sb] 77)):=below1 _ _;have hB:=heap_alloc_new w (.cells #[jS nm,jI 1,.func (.func gi) #[] #[],.func (.func si) #[] sb] 77);generalize hBB:w.heap.size=B at *;generalize w.alloc (.cells #[jS nm,jI 1,.func (.func gi) #[] #[],.func (.func si) #[] sb] 77)=w2 at *;obtain ⟨f0,f1,f2,f3⟩:=zch hB;have hBl:B<w2.heap.size:=(jg hB);clear c0 c1 c2 c3 c4 c5 hlk;obtain ⟨hlt,c0,c1,c2,c3,c4,c5⟩:=hx0.below B28 hb;have HBB:=jH hBB;clear hBB;go_quiet (fail);have hb9:=below_drewN hb nq;have hB9:=((below_drewN jB nq).block _ hBl).trans hB;clear c0 c1 c2 c3 c4 c5 f0 f1 f2 f3 hB hb hlt hBl l1 l1' l2;generalize w2.drewN nq=w3 at *;go_wp2_with fail;refine (HJ.out _ hb9).mono ?_;rintro e w4 ⟨v,rfl,hj,hbj⟩;have hB4:=jk hbj hB9;have hb4:=hb9.trans (hbj.mono B93);obtain ⟨ja,jc,rfl⟩:=hj.any;clear hb9 hbj hB9;generalize hjn:js.length=jn at *;have HN:=jH hjn;have HI:=jH hj;clear hjn hj;go_wp2_with fail;go_loopw [12,89] (fun _ k wr=>∃m:Nat,m<=jn/\k=jI (m:Int)/\wr=w4/\Hid ((js.all fun tg=> !(decide (tg<=i)||decide (en<tg)))=(js.drop m).all fun tg=> !(decide (tg<=i)||decide (en<tg)))) (fun _ k _=>jn-(intOf k).toNat)
  case atStart=>exact ⟨0,Nat.zero_le _,rfl,rfl,jH rfl⟩
  case round=>
   exact M2
theorem zgm(b1:Nat)(w:World)(hx:InsAt w g o op a b c d (.slice ta n tc))(hlk:(Instr.lookup 66 (.map (some r)) (jI op) true).run prog w= .ok (.tuple #[.agg #[jS nm,jI 1,.func (.func gi) #[] #[PT b1],.func (.func si) #[] sb],.bool true]) w)(z1:(b !=0)=false)(z2:(c !=0)=false)(z3:(d !=0)=false)(l:Bool)(l1:decide ((0:Int)<(n:Int))=l)(l1':decide (0<n)=l)(l2:(op==10)=l)(js:List Int)(hjl:js.length<=1000000)(q:Bool)(HJ:Hid (∀u,Below w.heap.size w u->Calls prog 62 #[PI g o] u fun e w'=>∃v,e=jr v/\IRd w' v js/\Below u.heap.size u w'))(hcf:∀args w,(callFunc gi args).run prog w= .ok (.enter gi args) w)(HG:Hid (∀u,Below w.heap.size w u->Ret gi #[PI g o,PT b1] u (.bool q)))(z:Bool)(hz:Hid ((js.all fun tg=> !(decide (tg<=i)||decide (en<tg)))=z)):
 Ret 25 #[.map (some r),PI g o,jI i,jI en] w (.bool (z&&q)):=by
 have hrow:=jH hx.lt;cases l
 all_goals
  have hx0:=hx;obtain ⟨hlt,c0,c1,c2,c3,c4,c5⟩:=hx;go_enter func25,ntmps25;go_wp2_with fail;have hb:Below w.heap.size w (w.alloc (.cells #[jS nm,jI 1,.func (.func gi) #[] #[PT b1],.func (.func si) #[] sb] 77)):=below1 _ _;have hB:=heap_alloc_new w (.cells #[jS nm,jI 1,.func (.func gi) #[] #[PT b1],.func (.func si) #[] sb] 77);generalize hBB:w.heap.size=B at *;generalize w.alloc (.cells #[jS nm,jI 1,.func (.func gi) #[] #[PT b1],.func (.func si) #[] sb] 77)=w2 at *;obtain ⟨f0,f1,f2,f3⟩:=zch hB;have hBl:B<w2.heap.size:=(jg hB);clear c0 c1 c2 c3 c4 c5 hlk;obtain ⟨hlt,c0,c1,c2,c3,c4,c5⟩:=hx0.below B28 hb;have HBB:=jH hBB;clear hBB;go_quiet (fail);have hb9:=below_drewN hb nq;have hB9:=((below_drewN jB nq).block _ hBl).trans hB;clear c0 c1 c2 c3 c4 c5 f0 f1 f2 f3 hB hb hlt hBl l1 l1' l2;generalize w2.drewN nq=w3 at *;go_wp2_with fail;refine (HJ.out _ hb9).mono ?_;rintro e w4 ⟨v,rfl,hj,hbj⟩;have hB4:=jk hbj hB9;have hb4:=hb9.trans (hbj.mono B93);obtain ⟨ja,jc,rfl⟩:=hj.any;clear hb9 hbj hB9;generalize hjn:js.length=jn at *;have HN:=jH hjn;have HI:=jH hj;clear hjn hj;go_wp2_with fail;go_loopw [12,89] (fun _ k wr=>∃m:Nat,m<=jn/\k=jI (m:Int)/\wr=w4/\Hid ((js.all fun tg=> !(decide (tg<=i)||decide (en<tg)))=(js.drop m).all fun tg=> !(decide (tg<=i)||decide (en<tg)))) (fun _ k _=>jn-(intOf k).toNat)
  case atStart=>exact ⟨0,Nat.zero_le _,rfl,rfl,jH rfl⟩
  case round=>
   exact M2
end
