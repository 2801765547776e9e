import Derived.Test.YtoffmfgaohjjpaaGreatDoorQ08
import Derived.Test.YtoffmfgaohjjpaaGreatDoorQ09
import Derived.Test.YtoffmfgaohjjpaaGreatDoorQ10
import Derived.Test.YtoffmfgaohjjpaaGreatDoorQ11
set_option linter.unusedVariables false
set_option linter.unusedSectionVars false
set_option linter.unusedSimpArgs false
open Go.Proofs.Tryz
set_option maxHeartbeats 8000000
variable{jp:Sort _}
set_option maxRecDepth 100000
namespace Go.Proofs.YtoffmfgaohjjpaaGreatDoor
open Go.RowKit Go.MapKept
namespace Mb
theorem zvl(g o:Nat)(x:Ma.Ins)(w:World)(h:InsIs w g o x)(htl:x.T.length<=100000):Calls prog 62 #[PI g o] w fun e w'=>∃v,e=jr v/\IRd w' v (Ma.jumps x)/\Below w.heap.size w w':=by
 obtain ⟨T,hx,hT⟩:=h;unfold Ma.jumps
 by_cases h1:x.op=7\/x.op=9\/x.op=11\/x.op=13
 .rw[if_pos h1];rcases h1 with h1|h1|h1|h1
  .rw[h1] at hx;exact jumps_7 g o x.a x.b x.c x.d T w hx
  .rw[h1] at hx;exact jumps_9 g o x.a x.b x.c x.d T w hx
  .rw[h1] at hx;exact jumps_11 g o x.a x.b x.c x.d T w hx
  .rw[h1] at hx;exact jumps_13 g o x.a x.b x.c x.d T w hx
 .rw[if_neg h1]
  by_cases h2:x.op=8
  .rw[if_pos h2];rw[h2] at hx;exact jumps_8 g o x.a x.b x.c x.d T w hx
  .rw[if_neg h2]
   by_cases h3:x.op=10
   .rw[if_pos h3];rw[h3] at hx;exact jumps_10 g o x.a x.b x.c x.d T x.T w hx hT htl
   .rw[if_neg h3];exact jumps_no g o x.op x.a x.b x.c x.d T w hx B1
theorem zvk(x:Ma.Ins)(h:x.T.length<=100000):(Ma.jumps x).length<=1000000:=by
 unfold Ma.jumps;split
 .simp
 .split
  .simp
  .split
   .simp;omega
   .simp
theorem zog(g o:Nat)(op a b c d:Int)(ta:Option Addr)(n tc r:Nat)(i en:Int)(w:World)(hx:InsAt w g o op a b c d (.slice ta n tc))(hlk:(Instr.lookup 66 (.map (some r)) (jI op) true).run prog w= .ok (.tuple #[.agg #[jS ⟨#[]⟩,jI 0,.nilFunc,.nilFunc],.bool false]) w):
 Ret 25 #[.map (some r),PI g o,jI i,jI en] w (.bool false):=by
 have hx0:=hx;obtain ⟨hlt,c0,c1,c2,c3,c4,c5⟩:=hx;go_enter func25,ntmps25;go_wp2_with fail;go_quiet (fail);have hb9:Below w.heap.size w ((w.alloc (.cells #[jS ⟨#[]⟩,jI 0,.nilFunc,.nilFunc] 77)).drewN nq):=below_drewN (below1 _ _) nq;go_wp2_with fail;go_ret;exact ⟨rfl,hb9⟩
theorem uses_in(k:Int):Ma.uses k=0\/Ma.uses k=1\/Ma.uses k=2\/Ma.uses k=4:=by
 unfold Ma.uses;split
 .omega
 .split
  .omega
  .split <;> omega
theorem good_fn{gf:Value}{b1:Nat}{k:Int}(h:(k=1/\gf= .func (.func 39) #[] #[PT b1])\/∃id,(k,id)∈goodTab/\gf= .func (.func id) #[] #[]):∃id,gf= .func (.func id) #[] #[]\/gf= .func (.func id) #[] #[PT b1]/\k=1:=by
 rcases h with ⟨hk,rfl⟩|⟨id,_,rfl⟩
 .exact ⟨_,.inr ⟨rfl,hk⟩⟩
 .exact ⟨id,.inl rfl⟩
theorem zvj{k:Int}(h:Ma.within k 1 20=true):k∈zyd:=by
 have:=zey h;have hh:k=1\/k=2\/k=3\/k=4\/k=5\/k=6\/k=7\/k=8\/k=9\/k=10\/k=11\/k=12\/k=13\/k=14\/k=15\/k=16\/k=17\/k=18\/k=19\/k=20:=B1;rcases hh with rfl|rfl|rfl|rfl|rfl|rfl|rfl|rfl|rfl|rfl|rfl|rfl|rfl|rfl|rfl|rfl|rfl|rfl|rfl|rfl <;> decide
theorem keys_not{k:Int}(h:Ma.within k 1 20=false):k∉zyd:=by
 intro hk;simp only[zyd,List.mem_cons,List.not_mem_nil,or_false] at hk;unfold Ma.within at h;simp at h;omega
theorem zr3(g o:Nat)(x:Ma.Ins)(r b1:Nat)(cv:Value)(ncon:Nat)(hcn:ncon<=1000000)(hcv:∃a c,cv= .slice a ncon c)(w:World)(hx:InsIs w g o x)(hR:RowsAt w r b1 cv)(htl:x.T.length<=100000)(i en:Int):
 Ret 25 #[.map (some r),PI g o,jI i,jI en] w (.bool (Ma.zb2 ncon x i en)):=by
 obtain ⟨hT,hbx⟩:=hR;have hx0:=hx;obtain ⟨T,hx,hTl⟩:=hx;obtain ⟨ta,tc,rfl⟩:=hTl.any;unfold Ma.zb2 Ma.zll;cases hw:Ma.within x.op 1 20
 .exact zog g o x.op x.a x.b x.c x.d ta _ tc r i en w hx (ztx hT x.op (keys_not hw))
 obtain ⟨rv,⟨nm,gf,sf,rfl,hgf,hsf⟩,hlk,-⟩:=zh3 hT x.op (zvj hw);obtain ⟨si,sb,rfl⟩:∃si sb,sf= .func (.func si) #[] sb:=by
  rcases hsf with ⟨_,rfl⟩|⟨id,_,rfl⟩|⟨_,_,_,_,_,rfl,_⟩ <;> exact ⟨_,_,rfl⟩
 have HJ:=jH fun (u:World) (hb:Below w.heap.size w u)=>zvl g o x u (hx0.below hb) htl;have hjl:=zvk x htl;have HG:∀gi gb,gf= .func (.func gi) #[] gb->(∀args w,(callFunc gi args).run prog w= .ok (.enter gi args) w)/\∀u,Below w.heap.size w u->Ret gi (#[PI g o]++gb) u (.bool (Ma.goodI ncon x)):=by
  intro gi gb e;have key:∀u,Below w.heap.size w u->∃id bs,FnIs gf id bs/\Ret id (#[PI g o]++bs) u (.bool (Ma.goodI ncon x)):=fun u hb=>
   good_any u b1 x.op cv ncon hcn hcv (jk hb hbx) gf hgf g o x (hx0.below hb) rfl
  refine ⟨?_,fun u hb=> ?_⟩
  .obtain ⟨id,bs,⟨e2,hcf⟩,_⟩:=key w jB;rw[e] at e2;cases e2;exact hcf
  .obtain ⟨id,bs,⟨e2,_⟩,hc⟩:=key u hb;rw[e] at e2;cases e2;exact hc
 obtain ⟨gi,hgi⟩:=good_fn hgf;generalize Ma.goodI ncon x=q at *;generalize Ma.jumps x=js at *;rcases uses_in x.op with hu|hu|hu|hu
 .rw[hu] at hlk ⊢;have hk1:x.op≠1:=fun e=>by rw[e] at hu;revert hu;decide
  rcases hgi with rfl|⟨rfl,hk⟩
  case inr=>exact absurd hk hk1
  obtain ⟨hcf,hG⟩:=HG gi #[] rfl;cases z0:(x.a !=0)
  case true=>simpa using zof g o x.op x.a x.b x.c x.d ta x.T.length tc r i en nm gi si #[] sb w hx hlk z0
  cases z1:(x.b !=0)
  case true=>simpa using zoe g o x.op x.a x.b x.c x.d ta x.T.length tc r i en nm gi si #[] sb w hx hlk z0 z1
  cases z2:(x.c !=0)
  case true=>simpa using zod g o x.op x.a x.b x.c x.d ta x.T.length tc r i en nm gi si #[] sb w hx hlk z0 z1 z2
  cases z3:(x.d !=0)
  case true=>simpa using zoc g o x.op x.a x.b x.c x.d ta x.T.length tc r i en nm gi si #[] sb w hx hlk z0 z1 z2 z3
  cases l1:decide (0<x.T.length)
  all_goals have l1':=l1
  all_goals rw[show decide (0<x.T.length)=decide ((0:Int)<(x.T.length:Int)) by simp] at l1'
  all_goals cases l2:(x.op==10)
  .simpa using zgn g o x.op x.a x.b x.c x.d ta x.T.length tc r i en nm gi si sb w hx hlk z0 z1 z2 z3 false l1' l1 l2 js hjl q HJ hcf (jH hG) _ (jH rfl)
  .simpa using zmf g o x.op x.a x.b x.c x.d ta x.T.length tc r i en nm gi si #[] sb w hx hlk z0 z1 z2 z3 l1' l1 l2
  .simpa using zmg g o x.op x.a x.b x.c x.d ta x.T.length tc r i en nm gi si #[] sb w hx hlk z0 z1 z2 z3 l1' l1 l2
  .simpa using zgn g o x.op x.a x.b x.c x.d ta x.T.length tc r i en nm gi si sb w hx hlk z0 z1 z2 z3 true l1' l1 l2 js hjl q HJ hcf (jH hG) _ (jH rfl)
 .rw[hu] at hlk ⊢;have hk1:True:=trivial;rcases hgi with rfl|⟨rfl,hk⟩
  .obtain ⟨hcf,hG⟩:=HG gi #[] rfl;cases z1:(x.b !=0)
   case true=>simpa using zim g o x.op x.a x.b x.c x.d ta x.T.length tc r i en nm gi si #[] sb w hx hlk z1
   cases z2:(x.c !=0)
   case true=>simpa using zil g o x.op x.a x.b x.c x.d ta x.T.length tc r i en nm gi si #[] sb w hx hlk z1 z2
   cases z3:(x.d !=0)
   case true=>simpa using zik g o x.op x.a x.b x.c x.d ta x.T.length tc r i en nm gi si #[] sb w hx hlk z1 z2 z3
   cases l1:decide (0<x.T.length)
   all_goals have l1':=l1
   all_goals rw[show decide (0<x.T.length)=decide ((0:Int)<(x.T.length:Int)) by simp] at l1'
   all_goals cases l2:(x.op==10)
   .simpa using zgl g o x.op x.a x.b x.c x.d ta x.T.length tc r i en nm gi si sb w hx hlk z1 z2 z3 false l1' l1 l2 js hjl q HJ hcf (jH hG) _ (jH rfl)
   .simpa using zgo g o x.op x.a x.b x.c x.d ta x.T.length tc r i en nm gi si #[] sb w hx hlk z1 z2 z3 l1' l1 l2
   .simpa using zgp g o x.op x.a x.b x.c x.d ta x.T.length tc r i en nm gi si #[] sb w hx hlk z1 z2 z3 l1' l1 l2
   .simpa using zgl g o x.op x.a x.b x.c x.d ta x.T.length tc r i en nm gi si sb w hx hlk z1 z2 z3 true l1' l1 l2 js hjl q HJ hcf (jH hG) _ (jH rfl)
  .obtain ⟨hcf,hG⟩:=HG gi #[PT b1] rfl;cases z1:(x.b !=0)
   case true=>simpa using zim g o x.op x.a x.b x.c x.d ta x.T.length tc r i en nm gi si #[PT b1] sb w hx hlk z1
   cases z2:(x.c !=0)
   case true=>simpa using zil g o x.op x.a x.b x.c x.d ta x.T.length tc r i en nm gi si #[PT b1] sb w hx hlk z1 z2
   cases z3:(x.d !=0)
   case true=>simpa using zik g o x.op x.a x.b x.c x.d ta x.T.length tc r i en nm gi si #[PT b1] sb w hx hlk z1 z2 z3
   cases l1:decide (0<x.T.length)
   all_goals have l1':=l1
   all_goals rw[show decide (0<x.T.length)=decide ((0:Int)<(x.T.length:Int)) by simp] at l1'
   all_goals cases l2:(x.op==10)
   .simpa using zgm g o x.op x.a x.b x.c x.d ta x.T.length tc r i en nm gi si sb b1 w hx hlk z1 z2 z3 false l1' l1 l2 js hjl q HJ hcf (jH hG) _ (jH rfl)
   .simpa using zgo g o x.op x.a x.b x.c x.d ta x.T.length tc r i en nm gi si #[PT b1] sb w hx hlk z1 z2 z3 l1' l1 l2
   .simpa using zgp g o x.op x.a x.b x.c x.d ta x.T.length tc r i en nm gi si #[PT b1] sb w hx hlk z1 z2 z3 l1' l1 l2
   .simpa using zgm g o x.op x.a x.b x.c x.d ta x.T.length tc r i en nm gi si sb b1 w hx hlk z1 z2 z3 true l1' l1 l2 js hjl q HJ hcf (jH hG) _ (jH rfl)
 .rw[hu] at hlk ⊢;have hk1:x.op≠1:=fun e=>by rw[e] at hu;revert hu;decide
  rcases hgi with rfl|⟨rfl,hk⟩
  case inr=>exact absurd hk hk1
  obtain ⟨hcf,hG⟩:=HG gi #[] rfl;cases z2:(x.c !=0)
  case true=>simpa using zob g o x.op x.a x.b x.c x.d ta x.T.length tc r i en nm gi si #[] sb w hx hlk z2
  cases z3:(x.d !=0)
  case true=>simpa using zoa g o x.op x.a x.b x.c x.d ta x.T.length tc r i en nm gi si #[] sb w hx hlk z2 z3
  cases l1:decide (0<x.T.length)
  all_goals have l1':=l1
  all_goals rw[show decide (0<x.T.length)=decide ((0:Int)<(x.T.length:Int)) by simp] at l1'
  all_goals cases l2:(x.op==10)
  .simpa using zgk g o x.op x.a x.b x.c x.d ta x.T.length tc r i en nm gi si sb w hx hlk z2 z3 false l1' l1 l2 js hjl q HJ hcf (jH hG) _ (jH rfl)
  .simpa using zmd g o x.op x.a x.b x.c x.d ta x.T.length tc r i en nm gi si #[] sb w hx hlk z2 z3 l1' l1 l2
  .simpa using zme g o x.op x.a x.b x.c x.d ta x.T.length tc r i en nm gi si #[] sb w hx hlk z2 z3 l1' l1 l2
  .simpa using zgk g o x.op x.a x.b x.c x.d ta x.T.length tc r i en nm gi si sb w hx hlk z2 z3 true l1' l1 l2 js hjl q HJ hcf (jH hG) _ (jH rfl)
 .rw[hu] at hlk ⊢;have hk1:x.op≠1:=fun e=>by rw[e] at hu;revert hu;decide
  rcases hgi with rfl|⟨rfl,hk⟩
  case inr=>exact absurd hk hk1
  obtain ⟨hcf,hG⟩:=HG gi #[] rfl;cases l1:decide (0<x.T.length)
  all_goals have l1':=l1
  all_goals rw[show decide (0<x.T.length)=decide ((0:Int)<(x.T.length:Int)) by simp] at l1'
  all_goals cases l2:(x.op==10)
  .simpa using zgj g o x.op x.a x.b x.c x.d ta x.T.length tc r i en nm gi si sb w hx hlk false l1' l1 l2 js hjl q HJ hcf (jH hG) _ (jH rfl)
  .simpa using zmb g o x.op x.a x.b x.c x.d ta x.T.length tc r i en nm gi si #[] sb w hx hlk l1' l1 l2
  .simpa using zmc g o x.op x.a x.b x.c x.d ta x.T.length tc r i en nm gi si #[] sb w hx hlk l1' l1 l2
  .simpa using zgj g o x.op x.a x.b x.c x.d ta x.T.length tc r i en nm gi si sb w hx hlk true l1' l1 l2 js hjl q HJ hcf (jH hG) _ (jH rfl)
def InsRow(w:World)(v:Value)(l:List Ma.Ins):Prop:=
 (v=jZ/\l=[])\/∃g cap,v=jP g 0 l.length cap/\l.length<=cap/\g<w.heap.size/\∀(j:Nat) (x:Ma.Ins),l[j]?=some x->InsIs w g (j*6) x
def M205(h:jp:=by
 rcases h with ⟨rfl,rfl⟩|⟨g,cap,h1,h2,h3,h4⟩
 .simp at hl
 .exact ⟨g,cap,h1,h3,h4⟩):=h
theorem InsRow.below{w w':World}{v:Value}{l:List Ma.Ins}(h:InsRow w v l)(hb:Below w.heap.size w w'):InsRow w' v l:=by
 rcases h with h|⟨g,cap,h1,h2,h3,h4⟩
 .exact .inl h
 .exact .inr ⟨g,cap,h1,h2,jL h3 hb.size,fun j x hx=>(h4 j x hx).below hb⟩
theorem InsRow.any{w:World}{v:Value}{l:List Ma.Ins}(h:InsRow w v l):∃a cap,v= .slice a l.length cap:=by
 exact M151
theorem InsRow.some{w:World}{v:Value}{l:List Ma.Ins}(h:InsRow w v l)(hl:0<l.length):∃g cap,v=jP g 0 l.length cap/\g<w.heap.size/\∀(j:Nat) (x:Ma.Ins),l[j]?=some x->InsIs w g (j*6) x:=by
 exact M205
theorem ConRd.any{w:World}{v:Value}{l:List Val.V}(h:ConRd w v l):∃a cap,v= .slice a l.length cap:=by
 exact M151
theorem ConRd.some{w:World}{v:Value}{l:List Val.V}(h:ConRd w v l)(hl:0<l.length):∃g cap,v=jP g 0 l.length cap/\g<w.heap.size/\∀(j:Nat) (x:Val.V),l[j]?=some x->w.cell? (jA g (j*3))=some (jI x.k)/\w.cell? (jA g (j*3+1))=some (jI x.n)/\w.cell? (jA g (j*3+2))=some (jS x.t):=by
 exact M205
section
variable(l:List Ma.Ins)(k:Nat)
include l k
theorem zf9(x:Ma.Ins)(h:l[k]?=some x):Ma.longT (l.take (k+1))=Ma.longT (l.take k)+x.T.length:=by
 unfold Ma.longT;rw[List.take_add_one,h];simp
theorem zpp:Ma.longT (l.take k)<=Ma.longT l:=by
 have e:Ma.longT l=Ma.longT (l.take k)+Ma.longT (l.drop k):=by
  unfold Ma.longT;rw[<-List.sum_append,<-List.map_append,List.take_append_drop]
 omega
theorem zfd(x:Ma.Ins)(h:l[k]?=some x):x.T.length<=Ma.longT l:=by
 have h1:=zf9 l k x h;have h2:=zpp l (k+1);omega
end
abbrev TST:TypeId:=79
abbrev TB:TypeId:=4
structure KA(w:World)(lo gk gl:Nat)(K:Ma.Kn)(i:Nat):Prop where
 kl:∃kc,w.heap[gk]?=some (.cells kc TST (0,0))/\kc.size=K.length/\∀(j:Nat) (o:Option Ma.St),i<=j->K[j]?=some o->∃v,kc[j]?=some v/\∀s,o=some s->Rd lo w v s/\s.length<=1024
 ll:∃lc,w.heap[gl]?=some (.cells lc TB (0,0))/\lc.size=K.length/\∀(j:Nat) (o:Option Ma.St),K[j]?=some o->lc[j]?=some (.bool o.isSome)
 gk:gk<lo
 gl:gl<lo
def B136(h:jp:=by show gl≠gk;exact fun e=>hne e.symm):=h
def M129(h:jp:=by
 rw[List.getElem?_set] at ho
 by_cases e:k=j
 .subst e;rw[if_pos rfl,if_pos hk] at ho;cases ho;simp[Array.getElem?_setIfInBounds,h5,hk]
 .rw[if_neg e] at ho;rw[Array.getElem?_setIfInBounds_ne e];exact h6 j o ho):=h
theorem KA.ne{w:World}{lo gk gl:Nat}{K:Ma.Kn}{i:Nat}(h:KA w lo gk gl K i):gk≠gl:=by
 rintro rfl;obtain ⟨kc,h1,_⟩:=h.kl;obtain ⟨lc,h2,_⟩:=h.ll;rw[h1] at h2;cases h2
theorem KA.below{w w':World}{lo gk gl:Nat}{K:Ma.Kn}{i:Nat}(h:KA w lo gk gl K i)(hb:Below w.heap.size w w'):KA w' lo gk gl K i:=by
 obtain ⟨⟨kc,h1,h2,h3⟩,⟨lc,h4,h5,h6⟩,h7,h8⟩:=h;refine ⟨⟨kc,jk hb h1,h2,fun j o hj ho=> ?_⟩,⟨lc,jk hb h4,h5,h6⟩,h7,h8⟩;obtain ⟨v,hv,hs⟩:=h3 j o hj ho;exact ⟨v,hv,fun s e=> ⟨(hs s e).1.below hb,(hs s e).2⟩⟩
section
variable{w:World}
include w
theorem KA.drew{lo gk gl:Nat}{K:Ma.Kn}{i:Nat}(h:KA w lo gk gl K i):KA w.drew lo gk gl K i:=h.below (jB.drew)
theorem zec{lo g k:Nat}{x v:Value}{s:List Int}(h:Rd lo w v s)(hg:g<lo):Rd lo (w.setCell (jA g k) x) v s:=
 h.kept B7 fun b hb ht=>heap_setCell_other w (jA g k) b x (by show b≠g;omega)
section
variable{lo gk gl:Nat}{K:Ma.Kn}{i k:Nat}{v:Value}{s:Ma.St}(h:KA w lo gk gl K i)(hk:k<K.length)(hv:Rd lo w v s)(hs:s.length<=1024)
include lo gk gl K i k v s h hk hv hs
theorem KA.setK:KA ((w.setCell (jA gk k) v).setCell (jA gl k) (.bool true)) lo gk gl (K.set k (some s)) i:=by
 have hne:=h.ne;obtain ⟨⟨kc,h1,h2,h3⟩,⟨lc,h4,h5,h6⟩,h7,h8⟩:=h;refine ⟨⟨kc.setIfInBounds k v,?_,by simp[h2],fun j o hj ho=> ?_⟩,⟨lc.setIfInBounds k (.bool true),?_,by simp[h5],fun j o ho=> ?_⟩,h7,h8⟩
 .exact (heap_setCell_other _ (jA gl k) gk _ (by show gk≠gl;exact hne)).trans (heap_setCell_same w gk k kc TST v h1)
 .rw[List.getElem?_set] at ho
  by_cases e:k=j
  .subst e;rw[if_pos rfl,if_pos hk] at ho;cases ho;refine ⟨v,by simp[Array.getElem?_setIfInBounds,h2,hk],fun s' e=> ?_⟩;cases e;exact ⟨zec (zec hv h7) h8,hs⟩
  .rw[if_neg e] at ho;obtain ⟨u,hu,hr⟩:=h3 j o hj ho;exact ⟨u,by rw[Array.getElem?_setIfInBounds_ne e];exact hu,fun s' e'=> ⟨zec (zec (hr s' e').1 h7) h8,(hr s' e').2⟩⟩
 .exact heap_setCell_same _ gl k lc TB _ ((heap_setCell_other w (jA gk k) gl v B136).trans h4)
 .exact M129
theorem KA.setK2:KA ((w.setCell (jA gl k) (.bool true)).setCell (jA gk k) v) lo gk gl (K.set k (some s)) i:=by
 have hne:=h.ne;obtain ⟨⟨kc,h1,h2,h3⟩,⟨lc,h4,h5,h6⟩,h7,h8⟩:=h;refine ⟨⟨kc.setIfInBounds k v,?_,by simp[h2],fun j o hj ho=> ?_⟩,⟨lc.setIfInBounds k (.bool true),?_,by simp[h5],fun j o ho=> ?_⟩,h7,h8⟩
 .exact heap_setCell_same _ gk k kc TST v ((heap_setCell_other w (jA gl k) gk _ (by show gk≠gl;exact hne)).trans h1)
 .rw[List.getElem?_set] at ho
  by_cases e:k=j
  .subst e;rw[if_pos rfl,if_pos hk] at ho;cases ho;refine ⟨v,by simp[Array.getElem?_setIfInBounds,h2,hk],fun s' e=> ?_⟩;cases e;exact ⟨zec (zec hv h8) h7,hs⟩
  .rw[if_neg e] at ho;obtain ⟨u,hu,hr⟩:=h3 j o hj ho;exact ⟨u,by rw[Array.getElem?_setIfInBounds_ne e];exact hu,fun s' e'=> ⟨zec (zec (hr s' e').1 h8) h7,(hr s' e').2⟩⟩
 .exact (heap_setCell_other _ (jA gk k) gl v B136).trans (heap_setCell_same w gl k lc TB _ h4)
 .exact M129
end
theorem KA.done{lo gk gl:Nat}{K:Ma.Kn}{i:Nat}{v:Value}(h:KA w lo gk gl K i):KA (w.setCell (jA gk i) v) lo gk gl K (i+1):=by
 have hne:=h.ne;obtain ⟨⟨kc,h1,h2,h3⟩,⟨lc,h4,h5,h6⟩,h7,h8⟩:=h;refine ⟨⟨kc.setIfInBounds i v,heap_setCell_same w gk i kc TST v h1,by simp[h2],fun j o hj ho=> ?_⟩,⟨lc,(heap_setCell_other w (jA gk i) gl v B136).trans h4,h5,h6⟩,h7,h8⟩;obtain ⟨u,hu,hr⟩:=h3 j o B1 ho;exact ⟨u,by rw[Array.getElem?_setIfInBounds_ne B1];exact hu,fun s' e'=> ⟨zec (hr s' e').1 h7,(hr s' e').2⟩⟩
theorem KA.first{lo gk gl n:Nat}{kc lc:Array Value}(h1:w.heap[gk]?=some (.cells kc TST (0,0)))(hk:kc=madeCells #[jZ] (n+1))(h2:w.heap[gl]?=some (.cells lc TB (0,0)))(hl:lc=(madeCells #[.bool false] (n+1)).setIfInBounds 0 (.bool true))(h3:gk<lo)(h4:gl<lo):
 KA w lo gk gl (some []::List.replicate n none) 0:=by
 subst hk hl;refine ⟨⟨_,h1,by simp[size_madeCells],fun j o _ ho=> ?_⟩,⟨_,h2,by simp[size_madeCells],fun j o ho=> ?_⟩,h3,h4⟩
 .have hj:j<n+1:=by have:=(jl ho);simpa using this
  have hc:(madeCells #[jZ] (n+1))[j]?=some jZ:=by
   rw[<-Array.getElem?_toList,toList_madeCells_one,List.getElem?_replicate,if_pos hj]
  refine ⟨_,hc,fun s e=> ?_⟩;subst e
  match j,ho with
  |0,ho=>cases ho;exact ⟨Rd.nil _ _,B7⟩
  |j+1,ho=>rw[List.getElem?_cons_succ,List.getElem?_replicate] at ho;split at ho <;> cases ho
 .have hj:j<n+1:=by have:=(jl ho);simpa using this
  match j,ho with
  |0,ho=>cases ho;simp[Array.getElem?_setIfInBounds,size_madeCells]
  |j+1,ho=>
   rw[List.getElem?_cons_succ,List.getElem?_replicate] at ho;rw[Array.getElem?_setIfInBounds_ne B1,<-Array.getElem?_toList,toList_madeCells_one,List.getElem?_replicate,if_pos hj];split at ho
   .cases ho;rfl
   .cases ho
end
theorem zdp(p:Ma.Code){k m:Nat}(h:Ma.flow p k=none)(hm:k<=m):Ma.flow p m=none:=by
 induction m with
 |zero=>
  have e:k=0:=B1;subst e;exact h
 |succ m ih=>
  by_cases e:k=m+1
  .subst e;exact h
  .unfold Ma.flow;rw[ih B1]
theorem zwn(p:Ma.Code){k:Nat}{K:Ma.Kn}(h:Ma.flow p k=some K):Ma.flow p (k+1)=Ma.zoi p K k:=by
 conv=>lhs;unfold Ma.flow
 rw[h]
def zw9(p:Ma.Code)(r:Option Ma.Kn):Int:=match r with
 |none=>23
 |some K=>match K.getD p.ins.length none with
  |some [x]=>cond (Ma.fits x 86) 0 23
  |_=>23
theorem zds{w:World}{B:Nat}{iv cv:Value}(h:w.heap[B]?=some (.cells #[iv,cv] 25 (0,0))):w.cell? (jA B 0)=some iv/\w.cell? (jA B 1)=some cv:=by
 refine ⟨?_,?_⟩ <;> (rw[Lib.cell_of_heap h];rfl)
theorem any_drop{α:Type}(l:List α)(k:Nat)(x:α)(h:l[k]?=some x)(f:α->Bool):(l.drop k).any f=(f x||(l.drop (k+1)).any f):=by
 obtain ⟨h1,rfl⟩:=List.getElem?_eq_some_iff.1 h;rw[List.drop_eq_getElem_cons h1,List.any_cons]
theorem zoh(nc en:Int)(l:List Ma.Ins)(k:Nat)(x:Ma.Ins)(h:l[k]?=some x):Ma.zbc nc en (l.drop k) k=(Ma.zb2 nc x k en&&Ma.zbc nc en (l.drop (k+1)) ((k+1:Nat):Int)):=by
 obtain ⟨h1,rfl⟩:=List.getElem?_eq_some_iff.1 h;rw[List.drop_eq_getElem_cons h1];rfl
def StepSpec(w:World)(b1:Nat)(k:Int)(sf:Value):Prop:=
 (k=1/\sf= .func (.func 41) #[] #[PT b1])\/(∃id,(k,id)∈stepTab/\sf= .func (.func id) #[] #[])\/∃asked leaves b2 b3,(k,asked,leaves)∈takesTab/\sf= .func (.func 80) #[] #[PT b2,PT b3]/\TakesAt w asked leaves b2 b3
section
variable{b1:Nat}{k:Int}(v:Value)(w w':World)(hb:Below w.heap.size w w')
include b1 k v w w' hb
theorem StepSpec.st(h:StepSpec w b1 k v):StepSpec w' b1 k v:=by
 rcases h with h|h|⟨asked,leaves,b2,b3,q1,q2,q3⟩
 .exact .inl h
 .exact .inr (.inl h)
 .exact .inr (.inr ⟨asked,leaves,b2,b3,q1,q2,q3.kept (.below hb)⟩)
theorem IsRow.st(h:IsRow w b1 k v):IsRow w' b1 k v:=h.kept (.below hb)
end
def IsT(lo:Nat)(l:List (Int×List Int))(v:Value)(w:World):Prop:=∃g c,v= .tuple #[jP g 0 l.length c,.bool true]/\ExR lo w (jP g 0 l.length c) l
def IsL(lo:Nat)(l:List (Int×List Int))(v:Value)(w:World):Prop:=∃g c,v=jP g 0 l.length c/\ExR lo w (jP g 0 l.length c) l
section
variable{lo:Nat}{l:List (Int×List Int)}
include lo l
section
variable(v:Value)(w w':World)(hb:Below w.heap.size w w')
include v w w' hb
theorem IsT.st(h:IsT lo l v w):IsT lo l v w':=by
 obtain ⟨g,c,e,h⟩:=h;exact ⟨g,c,e,h.below hb⟩
theorem IsL.st(h:IsL lo l v w):IsL lo l v w':=by
 obtain ⟨g,c,e,h⟩:=h;exact ⟨g,c,e,h.below hb⟩
end
section
variable{g c:Nat}{w:World}(h:ExR lo w (jP g 0 l.length c) l)
include g c w h
theorem mkT:IsT lo l (.tuple #[jP g 0 l.length c,.bool true]) w:=⟨g,c,rfl,h⟩
theorem mkL:IsL lo l (jP g 0 l.length c) w:=⟨g,c,rfl,h⟩
end
end
theorem ExR.shape{lo:Nat}{w:World}{v:Value}{l:List (Int×List Int)}(h:ExR lo w v l):∃g c,v=jP g 0 l.length c:=by
 obtain ⟨vs,⟨g,cap,cur,h1,_⟩,h5,_⟩:=h;exact ⟨g,cap,by rw[h1,h5]⟩
theorem ExR.set{lo:Nat}{w:World}{v x:Value}{l:List (Int×List Int)}{g k:Nat}(h:ExR lo w v l)(hg:g<lo):ExR lo (w.setCell (jA g k) x) v l:=by
 obtain ⟨vs,⟨g',cap,cur,h1,h2,h3,h4⟩,h5,h6⟩:=h;exact ⟨vs,⟨g',cap,cur,h1,h2,(heap_setCell_other w (jA g k) g' x (by show g'≠g;omega)).trans h3,h4⟩,h5,fun j p q e1 e2=> ⟨(h6 j p q e1 e2).1,zec (h6 j p q e1 e2).2 hg⟩⟩
theorem zw5:∀(vs:List (Int×Value)) (j:Nat) (p:Int×Value),vs[j]?=some p->(exC vs)[j*2]?=some (jI p.1)/\(exC vs)[j*2+1]?=some p.2
 |[],j,p,h=>by simp at h
 |q::vs,0,p,h=>by
  simp only[List.getElem?_cons_zero,Option.some.injEq] at h;subst h;exact ⟨rfl,rfl⟩
 |q::vs,j+1,p,h=>by
  have:=zw5 vs j p B38;have e:exC (q::vs)=jI q.1::q.2::exC vs:=rfl;rw[e,show (j+1)*2=j*2+1+1 by omega];exact this
theorem ExR.get{lo:Nat}{w:World}{g n c:Nat}{l:List (Int×List Int)}(h:ExR lo w (jP g 0 n c) l)(j:Nat)(q:Int×List Int)(hj:l[j]?=some q):
 ∃a c',w.cell? (jA g (j*2))=some (jI q.1)/\w.cell? (jA g (j*2+1))=some (.slice a q.2.length c')/\Rd lo w (.slice a q.2.length c') q.2/\g<w.heap.size:=by
 obtain ⟨vs,⟨g',cap,cur,h1,h2,h3,h4⟩,h5,h6⟩:=h;cases h1;have hjl:j<vs.length:=by rw[h5];exact (jl hj)
 have hv:vs[j]?=some vs[j]:=List.getElem?_eq_getElem hjl;obtain ⟨e1,hr⟩:=h6 j _ q hv hj;obtain ⟨a,c',e2⟩:=hr.any;obtain ⟨g1,g2⟩:=zw5 vs j _ hv;rw[e1] at g1;rw[e2] at g2 hr;rw[<-h4,List.getElem?_take] at g1 g2;rw[if_pos B1] at g1 g2;exact ⟨a,c',by rw[Lib.cell_of_heap h3,<-Array.getElem?_toList];exact g1,by rw[Lib.cell_of_heap h3,<-Array.getElem?_toList];exact g2,hr,(jg h3)⟩
theorem leads_at{K:Ma.Kn}{l:List (Int×Ma.St)}{q:Nat}{e:Int×Ma.St}(h:l[q]?=some e):Ma.zdd K (l.drop q)=(match Ma.lead K e with
 |none=>none
 |some L=>Ma.zdd L (l.drop (q+1))):=by
 obtain ⟨h1,rfl⟩:=List.getElem?_eq_some_iff.1 h;rw[List.drop_eq_getElem_cons h1];rfl
theorem zig{K:Ma.Kn}{t:Nat}{s:Ma.St}{o:Option Ma.St}(h:K[t]?=some o):Ma.lead K ((t:Int),s)=(match Ma.zff o s with
 |none=>none
 |some u=>cond (decide (1024<u.length)) none (some (K.set t (some u)))):=by
 unfold Ma.lead;simp only[Int.toNat_natCast];rw[List.getD_eq_getElem?_getD,h];rfl
def endO(o:Option Ma.St):Int:=match o with
 |some [x]=>cond (Ma.fits x 86) 0 23
 |_=>23
def B107(h:jp:=by rw[Lib.cell_of_heap hk1];exact hkv):=h
def B149(h:jp:=by rw[HLl.out];exact ht2):=h
def B191(h:jp:=by rw[<-Hn.out];exact hlt):=h
def Bp29(h:jp:=by exact below1 _ (Obj.cells #[jI (t:Int),.slice xa s1.length xc] TE)):=h
def Bp31(h:jp:=by exact Nat.le_of_lt hBl):=h
def M85(h:jp:=by
 go_wp2_with fail;go_region
 all_goals
  go_wp2_with fail;go_roundw
  case rel=>first
   |exact ⟨q+1,_,by omega,by go_num,rfl,hKAa.drew,jH (by simp[HLl.out]),HLN,hbka.drew,by simp;omega,hexa.below jB.drew⟩
   |exact ⟨q+1,_,by omega,by go_num,rfl,hKAb.drew,jH (by simp[HLl.out]),HLN,hbkb.drew,by simp;omega,hexb.below jB.drew⟩
  case measure=>simp[intOf];omega):=h
def M110(h:jp:=by
 intro f w2 hS hV K' hK;obtain ⟨⟨s1,s2⟩,⟨s3,s4⟩,s5,s6,s7,s8,s9⟩:=hS;have v0:=Drw.val (hV 0 rfl);have v4:=Drw.val (hV 4 rfl);obtain ⟨rv,hrv,-,hlk⟩:=zh3 s6.1 x.op hkin;clear hV;unfold Drw.Give;go_simp;exact hK.out _ _ hrv jB (Drw.no rfl)):=h
def M115(h:jp:=by
 rw[hf] at HFt;go_wp2_with fail;refine jM (HFt.out _) ?_;intro w5 hb5;have hb9:=hbw.trans (hb5.mono Bp31);go_wp2_with fail;go_ret;rw[HMY.out,HBB.out];exact ⟨by show _=Ending.returned (jI (cond (x==86||x==69) 0 23));rw[hf];rfl,hb9⟩):=h
def M146(h:jp:=by
 intro f w2 hS hV K' hK;obtain ⟨⟨s1,s2⟩,⟨s3,s4⟩,s5,s6,s7,s8,s9⟩:=hS;have v11:=Drw.val (hV 11 rfl);clear hV;unfold Drw.Give;go_simp;exact hK.out _ _ rfl jB (Drw.no rfl)):=h
def M147(h:jp:=by
 intro f w2 hS hV K' hK;obtain ⟨⟨s1,s2⟩,⟨s3,s4⟩,s5,s6,s7,s8,s9⟩:=hS;have v3:=Drw.val (hV 3 rfl);clear hV;unfold Drw.Give;go_simp;exact hK.out _ _ rfl jB (Drw.no rfl)):=h
def M150(h:jp:=by
 go_wp2_with fail;go_ret;rw[HMY.out,HBB.out];exact ⟨rfl,hb0⟩):=h
def M157(h:jp:=by
 intro f w2 hS hV K' hK;have v9:=Drw.val (hV 9 rfl);have v10:=Drw.val (hV 10 rfl);clear hV;unfold Drw.Give;go_simp;exact hK.out _ _ rfl jB (Drw.no rfl)):=h
def M159(h:jp:=by
 intro f w2 hS hV K' hK;obtain ⟨nm,gf,sf,v5,-,hsf⟩:=(hV 5 rfl:IsRow _ _ _ _);clear hV;unfold Drw.Give;go_simp;exact hK.out _ _ hsf jB (Drw.no rfl)):=h
def M177(h:jp:=by
 intro f w2 hS hV K' hK;have v14:=Drw.val (hV 14 rfl);clear hV;unfold Drw.Give;go_simp;exact hK.out _ _ rfl jB (Drw.no rfl)):=h
def M178(h:jp:=by
 intro f w2 hS hV K' hK;have v16:=Drw.val (hV 16 rfl);clear hV;unfold Drw.Give;go_simp;exact hK.out _ _ rfl jB (Drw.no rfl)):=h
def M180(h:jp:=by
 intro f w2 hS hV K' hK;have v2:=Drw.val (hV 2 rfl);clear hV;unfold Drw.Give;go_simp;exact hK.out _ _ rfl jB (Drw.no rfl)):=h
def M189(h:jp:=by
 go_wp2_with fail;go_ret;rw[HMY.out,HBB.out];exact ⟨rfl,hbw⟩):=h
theorem zw8{p:Ma.Code}{K:Ma.Kn}{n:Nat}{o:Option Ma.St}(hn:n=p.ins.length)(h:K[n]?=some o):zw9 p (some K)=endO o:=by
 subst hn;unfold zw9 endO;simp only[List.getD_eq_getElem?_getD,h];rfl
theorem four(o:Option Ma.St):o=none\/o=some []\/(∃x,o=some [x])\/∃x y r,o=some (x::y::r):=by
 match o with
 |none=>exact .inl rfl
 |some []=>exact .inr (.inl rfl)
 |some [x]=>exact .inr (.inr (.inl ⟨x,rfl⟩))
 |some (x::y::r)=>exact .inr (.inr (.inr ⟨x,y,r,rfl⟩))
theorem za0{c:Bool}{a l:List (Int×Ma.St)}{n:Nat}(h:cond c (some a) none=some l)(ha:a.length<=n):l.length<=n:=by
 obtain ⟨_,rfl⟩:=Ma.zan h;exact ha
theorem zmn{c:Bool}{a l:List (Int×Ma.St)}{n:Nat}(h:cond c none (some a)=some l)(ha:a.length<=n):l.length<=n:=by
 obtain ⟨_,rfl⟩:=Ma.za1 h;exact ha
theorem step_len{con:List Val.V}{x:Ma.Ins}{i:Int}{s:Ma.St}{l:List (Int×Ma.St)}(hop1:1<=x.op)(hop2:x.op<=20)(h:Ma.stepS con x i s=some l):l.length<=x.T.length+3:=by
 have hh:x.op=1\/x.op=2\/x.op=3\/x.op=4\/x.op=5\/x.op=6\/x.op=7\/x.op=8\/x.op=9\/x.op=10\/x.op=11\/x.op=12\/x.op=13\/x.op=14\/x.op=15\/x.op=16\/x.op=17\/x.op=18\/x.op=19\/x.op=20:=B1;rcases hh with hk|hk|hk|hk|hk|hk|hk|hk|hk|hk|hk|hk|hk|hk|hk|hk|hk|hk|hk|hk
 .rw[Ma.znb hk] at h;cases h;simp
 .rw[Ma.zna hk] at h;exact za0 h B7
 .rw[Ma.zm9 hk] at h;exact za0 h B7
 .rw[Ma.zki hk] at h;exact za0 h B7
 .rw[Ma.zkh hk] at h;exact za0 h B7
 .rw[Ma.zkg hk] at h;exact za0 h B7
 .rw[Ma.zkf hk] at h;exact zmn h B7
 .rw[Ma.zke hk] at h;exact za0 h B7
 .rw[Ma.zkd hk] at h;exact za0 h B7
 .rw[Ma.zhb hk] at h;exact za0 h B7
 .rw[Ma.zha hk] at h;exact za0 h B7
 .rw[Ma.zg9 hk] at h;exact za0 h B7
 .rw[Ma.zkk hk] at h;cases h;simp
 .rw[Ma.zkj hk] at h;exact za0 h B7
 .rw[Ma.zg8 hk] at h;exact za0 h B7
 .rw[Ma.zg7 hk] at h;exact za0 h B7
 .rw[Ma.zg6 hk] at h;exact za0 h B7
 .rw[Ma.zg5 hk] at h;exact za0 h B7
 .rw[Ma.zg4 hk] at h;exact za0 h B7
 .rw[Ma.zg3 hk] at h;exact zmn h B7
theorem flow1_no{p:Ma.Code}{K:Ma.Kn}{k:Nat}{o:Option Ma.St}(hK:K[k]?=some o)(h:o=none):Ma.zoi p K k=none:=by
 subst h;unfold Ma.zoi;rw[List.getD_eq_getElem?_getD,hK];rfl
theorem flow1_at{p:Ma.Code}{K:Ma.Kn}{k:Nat}{s:Ma.St}{x:Ma.Ins}(hK:K[k]?=some (some s))(hx:p.ins[k]?=some x):Ma.zoi p K k=(match Ma.stepS p.con x k s with
 |none=>none
 |some l=>Ma.zdd K l):=by
 unfold Ma.zoi;rw[List.getD_eq_getElem?_getD,hK,hx];rfl
theorem zpl(p:Ma.Code)(iv cv:Value)(w:World)(hI:InsRow w iv p.ins)(hC:ConRd w cv p.con)(b1:p.ins.length<=1000000)(b2:p.con.length<=1000000)(b3:Ma.longT p.ins<=1000000):
 Ret 17 #[.agg #[iv,cv]] w (jI (Ma.mayC p)):=by
 obtain ⟨ia,ic,rfl⟩:=hI.any;obtain ⟨ca,cc,rfl⟩:=hC.any;have hmay:Hid (Ma.mayC p=cond (decide (p.ins.length=0)||decide (8192<p.ins.length)||decide (1024<p.con.length)||decide (8192<Ma.longT p.ins)) 2 (cond (p.con.any fun v=> !Val.mayB v||v.k==0) 23 (cond (!Ma.zbc p.con.length p.ins.length p.ins 0) 23 (zw9 p (Ma.flow p p.ins.length))))):=jH rfl;generalize Ma.mayC p=res at *;have hm70:=run_make_row' (P:=prog) 70 TST jZ 24 underlying70 (by kernel_rfl) rfl .i64 .i64 (p.ins.length+1) B1 B1;have hm71:=run_make_row' (P:=prog) 71 TB (.bool false) 1 underlying71 (by kernel_rfl) rfl .i64 .i64 (p.ins.length+1) B1 B1;obtain ⟨n,hn⟩:∃n,n=p.ins.length:=⟨_,rfl⟩;obtain ⟨m,hmc⟩:∃m,m=p.con.length:=⟨_,rfl⟩;have HB3:=jH b3;have Hn:=jH hn;have Hm:=jH hmc;have HI:=jH hI;have HC:=jH hC;rw[<-hn] at b1 hm70 hm71 ⊢;rw[<-hmc] at b2 ⊢;clear hI hC b3 hn hmc;have e9:((n+1:Nat):Int)=(n:Int)+1:=B1;rw[e9] at hm70 hm71;have HM70:=jH hm70;have HM71:=jH hm71;clear e9 hm70 hm71;go_enter func17,ntmps17;go_wp2_with fail;have hb0:Below w.heap.size w (w.alloc (.cells #[.slice ia n ic,.slice ca m cc] 25)):=below1 _ _;have hB0:=heap_alloc_new w (.cells #[.slice ia n ic,.slice ca m cc] 25);generalize hBB:w.heap.size=B at *;have HBB:=jH hBB;clear hBB;generalize w.alloc (.cells #[.slice ia n ic,.slice ca m cc] 25)=w0 at *;obtain ⟨d0,d1⟩:=zds hB0;have hBl:B<w0.heap.size:=(jg hB0);go_wp2_with fail;go_loopw [3,4,22] (fun lg _ i wr=>∃k:Nat,k<=n/\i=jI (k:Int)/\lg=jI (Ma.longT (p.ins.take k):Int)/\w0=wr) (fun _ _ i _=>n-(intOf i).toNat)
 case atStart=>exact ⟨0,Nat.zero_le _,rfl,rfl,rfl⟩
 case round=>
 obtain ⟨k,hk,rfl,rfl,hw0⟩:=hrel;subst hw0
 by_cases hlt:k<n
 .obtain ⟨x,hx⟩:∃x,p.ins[k]?=some x:=⟨_,List.getElem?_eq_getElem B191⟩;obtain ⟨g,cap,e1,hg,hin⟩:=HI.out.some (by rw[<-Hn.out];omega);rw[<-Hn.out] at e1;cases e1;obtain ⟨T,hxi,hTl⟩:=(hin k x hx).below (by rw[HBB.out];exact hb0);obtain ⟨ta,tc,rfl⟩:=hTl.any;have HL:=jH (zf9 p.ins k x hx);have hl1:=zfd p.ins k x hx;have hl2:=zpp p.ins k;have hl3:Ma.longT (p.ins.take k)<=1000000:=by have:=HB3.out;omega
  have hl4:x.T.length<=1000000:=by have:=HB3.out;omega
  obtain ⟨hlt,c0,c1,c2,c3,c4,c5⟩:=hxi;clear hin hx c0 c1 c2 c3 c4 hl1 hl2;generalize Ma.longT (p.ins.take k)=lt at *;generalize x.T.length=xt at *;go_wp2_with fail;go_roundw
  case rel=>exact ⟨k+1,by omega,by go_num,by rw[HL.out];go_num,by first|rfl|trivial⟩
  case measure=>simp[intOf];omega
 have hkn:n=k:=B1;subst hkn;clear hk hlt;have hlall:p.ins.take n=p.ins:=List.take_of_length_le (by rw[<-Hn.out];exact jE);rw[hlall];have hl3:Ma.longT p.ins<=1000000:=HB3.out;have HMY:=jH hmay.out;rw[<-Hn.out,<-Hm.out] at HMY;clear hlall hmay;have HTl:Hid (Ma.longT p.ins<=8192->∀(k:Nat) (x:Ma.Ins),p.ins[k]?=some x->x.T.length<=100000):=jH fun h k x hx=>by have:=zfd p.ins k x hx;omega
 generalize Ma.longT p.ins=lt at *;cases t1:decide (n=0)
 case true=>
  have t1':((n:Int)==0)=true:=by have:=of_decide_eq_true t1;simp;omega
  have t1'':(n==0)=true:=by have:=of_decide_eq_true t1;simp;omega
  rw[t1] at HMY;exact M150
 have t1':((n:Int)==0)=false:=by have:=of_decide_eq_false t1;simp;omega
 have t1'':(n==0)=false:=by have:=of_decide_eq_false t1;simp;omega
 cases t2:decide (8192<n)
 case true=>
  have t2':decide ((8192:Int)<(n:Int))=true:=by have:=of_decide_eq_true t2;simp;omega
  rw[t1,t2] at HMY;exact M150
 have t2':decide ((8192:Int)<(n:Int))=false:=by have:=of_decide_eq_false t2;simp;omega
 cases t3:decide (1024<m)
 case true=>
  have t3':decide ((1024:Int)<(m:Int))=true:=by have:=of_decide_eq_true t3;simp;omega
  rw[t1,t2,t3] at HMY;exact M150
 have t3':decide ((1024:Int)<(m:Int))=false:=by have:=of_decide_eq_false t3;simp;omega
 cases t4:decide (8192<lt)
 case true=>
  have t4':decide ((8192:Int)<(lt:Int))=true:=by have:=of_decide_eq_true t4;simp;omega
  rw[t1,t2,t3,t4] at HMY;exact M150
 have t4':decide ((8192:Int)<(lt:Int))=false:=by have:=of_decide_eq_false t4;simp;omega
 rw[t1,t2,t3,t4] at HMY;have HTx:=jH (HTl.out (by have:=of_decide_eq_false t4;omega));clear HTl;have hk0:0<n:=by have:=of_decide_eq_false t1;omega
 go_wp2_with fail;have hBle:B<=w0.heap.size:=Nat.le_of_lt hBl;clear t1 t1' t1'' t2 t2' t3 t3' t4 t4' d0 d1;go_loopw [6,58] (fun _ i wr=>∃k:Nat,k<=m/\i=jI (k:Int)/\Below w0.heap.size w0 wr/\Hid ((p.con.any fun v=> !Val.mayB v||v.k==0)=((p.con.drop k).any fun v=> !Val.mayB v||v.k==0))) (fun _ i _=>m-(intOf i).toNat)
 case atStart=>exact ⟨0,Nat.zero_le _,rfl,jB,jH rfl⟩
 case round=>
 obtain ⟨k,hk,rfl,hb,HK⟩:=hrel
 by_cases hlt:k<m
 .obtain ⟨x,hx⟩:∃x,p.con[k]?=some x:=⟨_,List.getElem?_eq_getElem (by rw[<-Hm.out];exact hlt)⟩;obtain ⟨g,cap,e1,hg,hcl⟩:=HC.out.some (by rw[<-Hm.out];omega);rw[<-Hm.out] at e1;cases e1;obtain ⟨q0,q1,q2⟩:=hcl k x hx;have hgB:g<B:=by rw[<-HBB.out];exact hg
  have hbB:Below B w wr:=hb0.trans (hb.mono hBle);replace q0:=jQ hbB q0 hgB;replace q1:=jQ hbB q1 hgB;replace q2:=jQ hbB q2 hgB;have HD:=jH (any_drop p.con k x hx fun v=> !Val.mayB v||v.k==0);have HP:=jH (fun u=>zbm x u);obtain ⟨xk,xn,xt⟩:=x;simp only at q0 q1 q2;clear hcl hx hg;go_wp2_with fail;refine jM (HP.out _) ?_;intro w2 hb2;have hB2:=(hb2.block wr.heap.size B7).trans Bp4;have hbr2:Below w0.heap.size w0 w2:=(hb.alloc hb.size _).trans (hb2.mono (by have:=hb.size;simp;omega));obtain ⟨y0,y1,y2⟩:=zaa hB2;have hl2:wr.heap.size<w2.heap.size:=(jg hB2);have hb9:Below B w w2:=hb0.trans (hbr2.mono hBle);clear hb2 hB2 q0 q1 q2 hb hbB;cases t5:Val.mayB (⟨xk,xn,xt⟩:Val.V)
  .go_wp2_with fail;go_ret;rw[HMY.out,HK.out,HD.out,t5,HBB.out];exact ⟨rfl,hb9⟩
  .cases t6:(xk==0)
   .go_wp2_with fail;go_roundw
    case rel=>exact ⟨k+1,by omega,by go_num,hbr2,jH (by rw[HK.out,HD.out,t5];show (!true||xk==0||_)=_;rw[t6];rfl)⟩
    case measure=>simp[intOf];omega
   .go_wp2_with fail;go_ret;have HDe:((p.con.drop k).any fun v=> !Val.mayB v||v.k==0)=true:=by
     rw[HD.out];show ((!Val.mayB (⟨xk,xn,xt⟩:Val.V)||xk==0)||_)=true;rw[t5,t6];rfl
    rw[HMY.out,HK.out,HDe,HBB.out];exact ⟨rfl,hb9⟩
 have hkm:m=k:=B1;subst hkm;rw[HK.out,List.drop_eq_nil_of_le (by rw[<-Hm.out];exact jE)] at HMY;clear hk hlt HK;have HR:=jH fun u=>rows_any ca m cc u;have hBr:=(hb.block _ hBl).trans hB0;have hbw:=hb0.trans (hb.mono hBle);clear hb hB0 hb0 hBle hBl;obtain ⟨d0,d1⟩:=zds hBr;have hBl:B<wr.heap.size:=(jg hBr);go_wp2_with fail;refine (HR.out _).mono ?_;rintro e w3 ⟨r,b1',rfl,hr1,hr2,hrows,hb3⟩;have hB3:=(hb3.block _ hBl).trans hBr;have hb3w:=hbw.trans (hb3.mono Bp31);clear hb3 hbw hBr d0 d1 hBl hr1 hr2 HR;obtain ⟨d0,d1⟩:=zds hB3;have hBl:B<w3.heap.size:=(jg hB3);go_wp2_with fail;go_loopw [9,80] (fun _ i wr=>∃k:Nat,k<=n/\i=jI (k:Int)/\Below w3.heap.size w3 wr/\Hid (Ma.zbc (m:Int) (n:Int) p.ins 0=Ma.zbc (m:Int) (n:Int) (p.ins.drop k) (k:Int))) (fun _ i _=>n-(intOf i).toNat)
 case atStart=>exact ⟨0,Nat.zero_le _,rfl,jB,jH rfl⟩
 case round=>
 obtain ⟨k,hk,rfl,hb,HK⟩:=hrel
 by_cases hlt:k<n
 .obtain ⟨x,hx⟩:∃x,p.ins[k]?=some x:=⟨_,List.getElem?_eq_getElem B191⟩;obtain ⟨g,cap,e1,hg,hin⟩:=HI.out.some (by rw[<-Hn.out];omega);rw[<-Hn.out] at e1;cases e1;have hb4:Below B w wr:=hb3w.trans (hb.mono Bp31);have hx3:=(hin k x hx).below (by rw[HBB.out];exact hb4);have hxT:x.T.length<=100000:=HTx.out k x hx;have hrow:RowsAt wr r b1' (.slice ca m cc):=⟨hrows.1.below hb,jk hb hrows.2⟩;have HF:=jH (zr3 g (k*6) x r b1' (.slice ca m cc) m b2 ⟨_,_,rfl⟩ wr hx3 hrow hxT (k:Int) (n:Int));have HD:=jH (zoh (m:Int) (n:Int) p.ins k x hx);have d0':=jQ hb d0 hBl;have hgl:g<wr.heap.size:=jL hg hb4.size;clear hin hx hx3 hrow d0 d1;have hk6:k*6+6<=n*6:=B1;go_wp2_with fail;refine jM HF.out ?_;intro w4 hb5;have hb6:=jN hb hb5;have hb7:=hb3w.trans (hb6.mono Bp31);clear hb5 hb hb4 d0' hgl;cases t7:Ma.zb2 (m:Int) x (k:Int) (n:Int)
  .go_wp2_with fail;go_ret;rw[HMY.out,HK.out,HD.out,t7,HBB.out];exact ⟨rfl,hb7⟩
  .go_wp2_with fail;go_roundw
   case rel=>exact ⟨k+1,by omega,by go_num,hb6,jH (by rw[HK.out,HD.out,t7];rfl)⟩
   case measure=>simp[intOf];omega
 have hkn:n=k:=B1;subst hkn;have hfall:Hid (Ma.zbc (m:Int) (n:Int) p.ins 0=true):=jH (by rw[HK.out,List.drop_eq_nil_of_le (by rw[<-Hn.out];exact jE)];rfl);rw[hfall.out] at HMY;have hrow:RowsAt wr r b1' (.slice ca m cc):=⟨hrows.1.below hb,jk hb hrows.2⟩;have hBr:=(hb.block _ hBl).trans hB3;have hbw:=hb3w.trans (hb.mono Bp31);clear hk hlt HK hb hB3 hb3w hrows d0 d1 hBl;obtain ⟨d0,d1⟩:=zds hBr;have hBl:B<wr.heap.size:=(jg hBr);have hm70:=HM70.out;have hm71:=HM71.out;have hwn:IntKind.i64.wrap ((n:Int)+1)=(n:Int)+1:=zfr _ B1 B1;have hL:((wr.alloc (.cells (madeCells #[jZ] (n+1)) TST)).alloc (.cells (madeCells #[.bool false] (n+1)) TB)).heap[wr.heap.size+1]?=some (.cells (madeCells #[.bool false] (n+1)) TB (0,0)):=by
  have:=heap_alloc_new (wr.alloc (.cells (madeCells #[jZ] (n+1)) TST)) (.cells (madeCells #[.bool false] (n+1)) TB);simpa using this
 have hL0:((wr.alloc (.cells (madeCells #[jZ] (n+1)) TST)).alloc (.cells (madeCells #[.bool false] (n+1)) TB)).cell? (jA (wr.heap.size+1) 0)=some (.bool false):=by
  rw[Lib.cell_of_heap hL,<-Array.getElem?_toList,toList_madeCells_one,List.getElem?_replicate,if_pos B1]
 have hLf:=frozen_of_row _ (wr.heap.size+1) 0 _ _ hL;clear hL;go_wp2_with fail;have hA:((wr.alloc (.cells (madeCells #[jZ] (n+1)) TST)).alloc (.cells ((madeCells #[.bool false] (n+1)).setIfInBounds 0 (.bool true)) TB)).heap[wr.heap.size]?=some (.cells (madeCells #[jZ] (n+1)) TST (0,0)):=(heap_alloc_old _ _ B7).trans Bp4;have hL:((wr.alloc (.cells (madeCells #[jZ] (n+1)) TST)).alloc (.cells ((madeCells #[.bool false] (n+1)).setIfInBounds 0 (.bool true)) TB)).heap[wr.heap.size+1]?=some (.cells ((madeCells #[.bool false] (n+1)).setIfInBounds 0 (.bool true)) TB (0,0)):=by
  have:=heap_alloc_new (wr.alloc (.cells (madeCells #[jZ] (n+1)) TST)) (.cells ((madeCells #[.bool false] (n+1)).setIfInBounds 0 (.bool true)) TB);simpa using this
 have hKA:=KA.first (lo:=wr.heap.size+2) hA rfl hL rfl B1 B1;have hbk:Below wr.heap.size wr ((wr.alloc (.cells (madeCells #[jZ] (n+1)) TST)).alloc (.cells ((madeCells #[.bool false] (n+1)).setIfInBounds 0 (.bool true)) TB)):=(below1 _ _).alloc B7 _;have hlo2:wr.heap.size+2<=((wr.alloc (.cells (madeCells #[jZ] (n+1)) TST)).alloc (.cells ((madeCells #[.bool false] (n+1)).setIfInBounds 0 (.bool true)) TB)).heap.size:=B7;clear hA hL d0 d1 hBl hL0 hLf hm70 hm71 HM70 HM71;generalize (wr.alloc (.cells (madeCells #[jZ] (n+1)) TST)).alloc (.cells ((madeCells #[.bool false] (n+1)).setIfInBounds 0 (.bool true)) TB)=wK at *;have hgg:wr.heap.size<=wr.heap.size+1:=B1;generalize wr.heap.size+2=lo at *;generalize wr.heap.size+1=gl at *;obtain ⟨wb,hwb⟩:∃wb,wb=wr:=⟨_,rfl⟩;rw[<-hwb] at hbk hrow hBr hbw;have hgk:wb.heap.size=wr.heap.size:=by rw[hwb]
 generalize wr.heap.size=gk at *;have HG:=jH hgk;rw[hgk] at hbk;have hbwb:Hid (∀u,Below gk wb u->RowsAt u r b1' (.slice ca m cc)/\u.heap[B]?=some (.cells #[.slice ia n ic,.slice ca m cc] 25 (0,0))/\Below B w u):=jH fun u hb=>by
  rw[<-HG.out] at hb;have hBl:=(jg hBr);exact ⟨⟨hrow.1.below hb,jk hb hrow.2⟩,(hb.block _ hBl).trans hBr,hbw.trans (hb.mono Bp31)⟩
 clear hrow hBr hbw hgk hwb;have HFm:Hid (∀(k:Nat) (x:Ma.Ins),p.ins[k]?=some x->Ma.zb2 (m:Int) x k (n:Int)=true):=jH fun k x hx=>by
  have:=Ma.zin hfall.out k x hx
  rwa [Int.zero_add] at this
 go_loopw [12,13,14,15,17,18,104] (fun _ _ _ _ _ _ i wr=>∃(k:Nat) (K:Ma.Kn),k<=n/\i=jI (k:Int)/\KA wr lo gk gl K k/\Hid (K.length=n+1)/\Hid (Ma.flow p k=some K)/\Below gk wb wr/\lo<=wr.heap.size) (fun _ _ _ _ _ _ i _=>n-(intOf i).toNat)
 case atStart=>exact ⟨0,_,Nat.zero_le _,rfl,hKA,jH B7,jH (by unfold Ma.flow;rw[<-Hn.out]),hbk,hlo2⟩
 case round=>
 clear hKA hbk hlo2;obtain ⟨k,K,hk,rfl,hKA,HKl,HFl,hbk,hlo⟩:=hrel;obtain ⟨hrw,hB2,hbw⟩:=hbwb.out _ hbk;obtain ⟨d0,d1⟩:=zds hB2;have hBl:B<wr.heap.size:=(jg hB2)
 by_cases hlt:k<n
 .obtain ⟨x,hx⟩:∃x,p.ins[k]?=some x:=⟨_,List.getElem?_eq_getElem B191⟩;obtain ⟨g,cap,e1,hg,hin⟩:=HI.out.some (by rw[<-Hn.out];omega);rw[<-Hn.out] at e1;cases e1;have hxi:=(hin k x hx).below (by rw[HBB.out];exact hbw);have hgl:g<wr.heap.size:=jL hg hbw.size;have hcon:ConRd wr (.slice ca m cc) p.con:=by
   have:=HC.out.below (w':=wr) (by rw[HBB.out];exact hbw);rw[<-Hm.out] at this;exact this
  have hfm:=HFm.out k x hx;have hxT:x.T.length<=100000:=HTx.out k x hx;obtain ⟨o,hKo⟩:∃o,K[k]?=some o:=⟨_,List.getElem?_eq_getElem (by rw[HKl.out];omega)⟩;obtain ⟨lc,hl1,hl2,hl3⟩:=hKA.ll;obtain ⟨kc,hk1,hk2,hk3⟩:=hKA.kl;have hlc:wr.cell? (jA gl k)=some (.bool o.isSome):=by rw[Lib.cell_of_heap hl1];exact hl3 k o hKo
  have hgll:gl<wr.heap.size:=(jg hl1);have hgkl:gk<wr.heap.size:=(jg hk1);have hkn1:k<n+1:=B1;obtain ⟨kv,hkv,hks⟩:=hk3 k o jE hKo;have hkc:wr.cell? (jA gk k)=some kv:=B107;have HF1:=jH (zwn p HFl.out);clear hin hg hl1 hl2 hl3 hk1 hk2 hk3 hkv;cases o with
  |none=>
   have hno:=zdp p (HF1.out.trans (flow1_no hKo rfl)) (show k+1<=n by omega);have hlc':wr.cell? (jA gl k)=some (.bool false):=hlc;clear hlc hkc hks;go_wp2_with fail;go_ret;rw[HMY.out,hno,HBB.out];exact ⟨rfl,hbw⟩
  |some s=>
  have hlc':wr.cell? (jA gl k)=some (.bool true):=hlc;obtain ⟨hrd,hsl⟩:=hks s rfl;obtain ⟨sa,sc,rfl⟩:=hrd.any;have HF2:=jH (HF1.out.trans (flow1_at hKo hx));obtain ⟨hop1,hop2,hgood⟩:=Ma.zes hfm;rw[Hm.out] at hgood;have hkin:x.op∈zyd:=zvj (by unfold Ma.within;simp;omega);have hto:=jH fun l h=>Ma.zm8 (i:=k) (n:=n) (s:=s) (l:=l) (x:=x) (con:=p.con) h (by rw[<-Hm.out];exact hfm) hlt;have c0:=hxi.choose_spec.1.c0;clear hlc hks HF1 hfm;have hk6:k*6+6<=n*6:=B1;have hki:(k:Int)<(n:Int)+1:=B1;go_upto_region 32 with fail;cases hst:Ma.stepS p.con x k s with
  |none=>
   refine Drw.zaq 19 ?Ana (fun w'=>(w'.cell? (jA g (k*6))=some (jI x.op)/\g<w'.heap.size)/\(w'.cell? (jA gk k)=some (.slice sa s.length sc)/\gk<w'.heap.size)/\InsIs w' g (k*6) x/\RowsAt w' r b1' (.slice ca m cc)/\Rd lo w' (.slice sa s.length sc) s/\ConRd w' (.slice ca m cc) p.con/\Below wr.heap.size wr w') (fun iq=>match iq with|0=>fun v _=>v= .map (some r)|1=>fun v _=>v=PI g (k*6)|2=>fun v _=>v=PI g (k*6)|3=>fun v _=>v=PI g (k*6)|4=>fun v _=>v=jI x.op|5=>fun v w=>IsRow w b1' x.op v|6=>fun v w=>StepSpec w b1' x.op v|7=>fun v _=>v=PI g (k*6)|8=>fun v _=>v=jI (k:Int)|9=>fun v _=>v=jP gk 0 (n+1) (n+1)|10=>fun v _=>v=jI (k:Int)|11=>fun v _=>v=jU gk k|12=>fun v _=>v= .slice sa s.length sc|13=>fun v _=>v= .tuple #[jZ,.bool false]|14=>fun v _=>v= .tuple #[jZ,.bool false]|15=>fun v _=>v=jZ|16=>fun v _=>v= .bool false|17=>fun v _=>v=jZ|18=>fun v _=>v= .bool false|_=>fun _ _=>True) (fun _=>false) ?hAna (by kernel_rfl) (by kernel_rfl) rfl ⟨⟨c0,hgl⟩,⟨hkc,hgkl⟩,hxi.below jB.drew,⟨hrw.1.below jB.drew,hrw.2⟩,hrd.below jB.drew,hcon.below jB.drew,jB.drew⟩ (fun w1 w2 h hS=> ⟨⟨jQ h hS.1.1 hS.1.2,jL hS.1.2 h.size⟩,⟨jQ h hS.2.1.1 hS.2.1.2,jL hS.2.1.2 h.size⟩,hS.2.2.1.below h,⟨hS.2.2.2.1.1.below h,jk h hS.2.2.2.1.2⟩,hS.2.2.2.2.1.below h,hS.2.2.2.2.2.1.below h,jN hS.2.2.2.2.2.2 h⟩) (Drw.zac (Drw.zac (Drw.zac (Drw.zac (Drw.zac (Drw.zac (Drw.zac (Drw.zac (Drw.zac (Drw.zac (Drw.zac (Drw.zac (Drw.zac (Drw.zac (Drw.zac (Drw.zac (Drw.zac (Drw.zac (Drw.zac Drw.zie Drw.st) Drw.st) Drw.st) Drw.st) Drw.st) IsRow.st) StepSpec.st) Drw.st) Drw.st) Drw.st) Drw.st) Drw.st) Drw.st) Drw.st) Drw.st) Drw.st) Drw.st) Drw.st) Drw.st) ?_ ?_
   case hAna=>
    exact M31
   refine .cons ?_ ?_
   .intro f w2 hS hV K' hK;exact M23
   refine .cons ?_ ?_
   .intro f w2 hS hV K' hK;exact M23
   refine .cons ?_ ?_
   .intro f w2 hS hV K' hK;exact M144
   refine .cons ?_ ?_
   .exact M180
   refine .cons ?_ ?_
   .exact M147
   refine .cons ?_ ?_
   .exact M110
   refine .cons ?_ ?_
   .exact M159
   refine .cons ?_ ?_
   .intro f w2 hS hV K' hK;exact M23
   refine .cons ?_ ?_
   .intro f w2 hS hV K' hK;exact M23
   refine .cons ?_ ?_
   .intro f w2 hS hV K' hK;exact M23
   refine .cons ?_ ?_
   .intro f w2 hS hV K' hK;exact M23
   refine .cons ?_ ?_
   .exact M157
   refine .cons ?_ ?_
   .exact M146
   refine .cons ?_ ?_
   .intro f w2 hS hV K' hK;obtain ⟨⟨s1,s2⟩,⟨s3,s4⟩,s5,s6,s7,s8,s9⟩:=hS;have v7:=Drw.val (hV 7 rfl);have v8:=Drw.val (hV 8 rfl);have v12:=Drw.val (hV 12 rfl);obtain ⟨id,bs,⟨v6,hcf⟩,hcall⟩:=zo4 lo w2 b1' x.op (.slice ca m cc) p.con s8 s6.2 (f 6) (hV 6 rfl) g (k*6) x s5 rfl hgood B1 (k:Int) B1 B1 (.slice sa s.length sc) s s7 B1 (jR hlo s9.size);clear hV;rw[hst] at hcall;unfold Drw.Give;go_simp;unfold Drw.giveUpon;refine hcall.mono ?_;rintro e w3 ⟨hb2,rfl⟩;exact ⟨_,rfl,hK.out _ _ rfl hb2 (Drw.no rfl)⟩
   refine .cons ?_ ?_
   .intro f w2 hS hV K' hK;exact M201
   refine .cons ?_ ?_
   .exact M177
   refine .cons ?_ ?_
   .exact M177
   refine .cons ?_ ?_
   .intro f w2 hS hV K' hK;have v15:=Drw.val (hV 15 rfl);clear hV;unfold Drw.Give;go_simp;exact hK.out _ _ rfl jB (Drw.no rfl)
   refine .cons ?_ ?_
   .exact M178
   exact Drw.Obs.nil;intro f w9 hS hV _ _;have e17:=Drw.val (hV 17 B3);have e18:=Drw.val (hV 18 B3);obtain ⟨-,-,-,-,-,-,hb9⟩:=hS;have hno:=zdp p (by rw[HF2.out,hst]:Ma.flow p (k+1)=none) (show k+1<=n by omega);clear hV;simp only[e17,e18];go_wp2_with fail;go_ret;rw[HMY.out,hno,HBB.out];exact ⟨rfl,hbw.trans (hb9.mono Bp31)⟩
  |some l=>
   refine Drw.zaq 19 ?Asm (fun w'=>(w'.cell? (jA g (k*6))=some (jI x.op)/\g<w'.heap.size)/\(w'.cell? (jA gk k)=some (.slice sa s.length sc)/\gk<w'.heap.size)/\InsIs w' g (k*6) x/\RowsAt w' r b1' (.slice ca m cc)/\Rd lo w' (.slice sa s.length sc) s/\ConRd w' (.slice ca m cc) p.con/\Below wr.heap.size wr w') (fun iq=>match iq with|0=>fun v _=>v= .map (some r)|1=>fun v _=>v=PI g (k*6)|2=>fun v _=>v=PI g (k*6)|3=>fun v _=>v=PI g (k*6)|4=>fun v _=>v=jI x.op|5=>fun v w=>IsRow w b1' x.op v|6=>fun v w=>StepSpec w b1' x.op v|7=>fun v _=>v=PI g (k*6)|8=>fun v _=>v=jI (k:Int)|9=>fun v _=>v=jP gk 0 (n+1) (n+1)|10=>fun v _=>v=jI (k:Int)|11=>fun v _=>v=jU gk k|12=>fun v _=>v= .slice sa s.length sc|13=>IsT lo l|14=>IsT lo l|15=>IsL lo l|16=>fun v _=>v= .bool true|17=>IsL lo l|18=>fun v _=>v= .bool true|_=>fun _ _=>True) (fun _=>false) ?hAsm (by kernel_rfl) (by kernel_rfl) rfl ⟨⟨c0,hgl⟩,⟨hkc,hgkl⟩,hxi.below jB.drew,⟨hrw.1.below jB.drew,hrw.2⟩,hrd.below jB.drew,hcon.below jB.drew,jB.drew⟩ (fun w1 w2 h hS=> ⟨⟨jQ h hS.1.1 hS.1.2,jL hS.1.2 h.size⟩,⟨jQ h hS.2.1.1 hS.2.1.2,jL hS.2.1.2 h.size⟩,hS.2.2.1.below h,⟨hS.2.2.2.1.1.below h,jk h hS.2.2.2.1.2⟩,hS.2.2.2.2.1.below h,hS.2.2.2.2.2.1.below h,jN hS.2.2.2.2.2.2 h⟩) (Drw.zac (Drw.zac (Drw.zac (Drw.zac (Drw.zac (Drw.zac (Drw.zac (Drw.zac (Drw.zac (Drw.zac (Drw.zac (Drw.zac (Drw.zac (Drw.zac (Drw.zac (Drw.zac (Drw.zac (Drw.zac (Drw.zac Drw.zie Drw.st) Drw.st) Drw.st) Drw.st) Drw.st) IsRow.st) StepSpec.st) Drw.st) Drw.st) Drw.st) Drw.st) Drw.st) Drw.st) IsT.st) IsT.st) IsL.st) Drw.st) IsL.st) Drw.st) ?_ ?_
   case hAsm=>
    exact M31
   refine .cons ?_ ?_
   .intro f w2 hS hV K' hK;exact M23
   refine .cons ?_ ?_
   .intro f w2 hS hV K' hK;exact M23
   refine .cons ?_ ?_
   .intro f w2 hS hV K' hK;exact M144
   refine .cons ?_ ?_
   .exact M180
   refine .cons ?_ ?_
   .exact M147
   refine .cons ?_ ?_
   .exact M110
   refine .cons ?_ ?_
   .exact M159
   refine .cons ?_ ?_
   .intro f w2 hS hV K' hK;exact M23
   refine .cons ?_ ?_
   .intro f w2 hS hV K' hK;exact M23
   refine .cons ?_ ?_
   .intro f w2 hS hV K' hK;exact M23
   refine .cons ?_ ?_
   .intro f w2 hS hV K' hK;exact M23
   refine .cons ?_ ?_
   .exact M157
   refine .cons ?_ ?_
   .exact M146
   refine .cons ?_ ?_
   .intro f w2 hS hV K' hK;obtain ⟨⟨s1,s2⟩,⟨s3,s4⟩,s5,s6,s7,s8,s9⟩:=hS;have v7:=Drw.val (hV 7 rfl);have v8:=Drw.val (hV 8 rfl);have v12:=Drw.val (hV 12 rfl);obtain ⟨id,bs,⟨v6,hcf⟩,hcall⟩:=zo4 lo w2 b1' x.op (.slice ca m cc) p.con s8 s6.2 (f 6) (hV 6 rfl) g (k*6) x s5 rfl hgood B1 (k:Int) B1 B1 (.slice sa s.length sc) s s7 B1 (jR hlo s9.size);clear hV;rw[hst] at hcall;unfold Drw.Give;go_simp;unfold Drw.giveUpon;refine hcall.mono ?_;rintro e w3 ⟨hb2,v,rfl,hex⟩;obtain ⟨g9,c9,rfl⟩:=hex.shape;exact ⟨_,rfl,hK.out _ _ (mkT hex) hb2 (Drw.no rfl)⟩
   refine .cons ?_ ?_
   .intro f w2 hS hV K' hK;obtain ⟨g9,c9,v13,hex⟩:=(hV 13 rfl:IsT lo l _ _);clear hV;unfold Drw.Give;go_simp;exact hK.out _ _ (mkT hex) jB (Drw.no rfl)
   refine .cons ?_ ?_
   .intro f w2 hS hV K' hK;obtain ⟨g9,c9,v14,hex⟩:=(hV 14 rfl:IsT lo l _ _);clear hV;unfold Drw.Give;go_simp;exact hK.out _ _ (mkL hex) jB (Drw.no rfl)
   refine .cons ?_ ?_
   .intro f w2 hS hV K' hK;obtain ⟨g9,c9,v14,hex⟩:=(hV 14 rfl:IsT lo l _ _);clear hV;unfold Drw.Give;go_simp;exact hK.out _ _ rfl jB (Drw.no rfl)
   refine .cons ?_ ?_
   .intro f w2 hS hV K' hK;obtain ⟨g9,c9,v15,hex⟩:=(hV 15 rfl:IsL lo l _ _);clear hV;unfold Drw.Give;go_simp;exact hK.out _ _ (mkL hex) jB (Drw.no rfl)
   refine .cons ?_ ?_
   .exact M178
   exact Drw.Obs.nil;intro f w9 hS hV _ _;obtain ⟨gx,cx,e17,hex⟩:=(hV 17 B3:IsL lo l _ _);have e18:=Drw.val (hV 18 B3);obtain ⟨-,-,-,-,-,-,hb9⟩:=hS;clear hV;simp only[e17,e18];have hll:l.length<=1000000:=by have:=step_len hop1 hop2 hst;omega
   have hKA9:=hKA.below hb9;have hbk9:=hbk.trans (hb9.mono (by have:=hKA.gk;omega));have hlo9:=jR hlo hb9.size;clear hlc' hkc hrd hrw hcon hxi c0 hgl hgll hgkl hB2 hbw d0 d1 hBl hb9 hKA hbk hlo e17 e18;go_wp2_with fail;go_loopw [15,17,18,137] (fun ok _ _ j wr=>∃(q:Nat) (L:Ma.Kn),q<=l.length/\j=jI (q:Int)/\ok= .bool true/\KA wr lo gk gl L k/\Hid (L.length=n+1)/\Hid (Ma.zdd K l=Ma.zdd L (l.drop q))/\Below gk wb wr/\lo<=wr.heap.size/\ExR lo wr (jP gx 0 l.length cx) l) (fun _ _ _ j _=>l.length-(intOf j).toNat)
   case atStart=>exact ⟨0,K,Nat.zero_le _,rfl,rfl,hKA9,HKl,jH rfl,hbk9,hlo9,hex⟩
   case round=>
   clear hKA9 hbk9 hlo9 hex;obtain ⟨q,L,hq,rfl,rfl,hKA,HLl,HLd,hbk,hlo,hex⟩:=hrel
   by_cases hlt5:q<l.length
   .obtain ⟨⟨tg,s1⟩,hq1⟩:∃e,l[q]?=some e:=⟨_,List.getElem?_eq_getElem hlt5⟩;obtain ⟨xa,xc,x1,x2,hxr,hxl⟩:=hex.get q _ hq1;simp only at x1 x2 hxr;have htr:=hto.out l hst (tg,s1) (List.mem_of_getElem? hq1);simp only at htr;obtain ⟨t,rfl⟩:=Int.eq_ofNat_of_zero_le (show 0<=tg by omega);have ht1:k<t:=B1;have ht2:t<n+1:=B1;have ht3:(t:Int)<(n:Int)+1:=B1;obtain ⟨o,hKt⟩:∃o,L[t]?=some o:=⟨_,List.getElem?_eq_getElem (by rw[HLl.out];omega)⟩;have HD:=jH (HLd.out.trans (leads_at hq1));have hw1:Below wr.heap.size wr (wr.alloc (.cells #[jI (t:Int),.slice xa s1.length xc] TE)):=below1 _ _;have hX:=heap_alloc_new wr (.cells #[jI (t:Int),.slice xa s1.length xc] TE);obtain ⟨lc,hl1,hl2,hl3⟩:=hKA.ll;obtain ⟨kc,hk1,hk2,hk3⟩:=hKA.kl;have hlc:wr.cell? (jA gl t)=some (.bool o.isSome):=by rw[Lib.cell_of_heap hl1];exact hl3 t o hKt
    have hlf:=frozen_of_row wr gl t _ _ hl1;have hkf:=frozen_of_row wr gk t _ _ hk1;have hgll:gl<wr.heap.size:=(jg hl1);have hgkl:gk<wr.heap.size:=(jg hk1);have hggn:gk≠gl:=hKA.ne;obtain ⟨kv,hkv,hks⟩:=hk3 t o B1 hKt;have hkc:wr.cell? (jA gk t)=some kv:=B107;have hKA1:=hKA.below hw1;have hxr1:=hxr.below hw1;have hbk1:=hbk.trans (hw1.mono B1);clear hl1 hl2 hl3 hk1 hk2 hk3 hkv htr hq1;cases o with
    |none=>
     have hlc':wr.cell? (jA gl t)=some (.bool false):=hlc;clear hlc hks
     by_cases hln:1024<s1.length
     .have t8:decide ((1024:Int)<(s1.length:Int))=true:=by simp;omega
      have hno:=zdp p (by rw[HF2.out,hst];show Ma.zdd K l=none;rw[HD.out,zig hKt];simp only[Ma.zff];rw[decide_eq_true hln];rfl:Ma.flow p (k+1)=none) (show k+1<=n by omega);go_wp2_with fail;go_ret;rw[HMY.out,hno,HBB.out];exact ⟨rfl,(hbwb.out _ hbk1).2.2⟩
     .have t8:decide ((1024:Int)<(s1.length:Int))=false:=by simp;omega
      have HLN:=jH (show Ma.zdd K l=Ma.zdd (L.set t (some s1)) (l.drop (q+1)) by rw[HD.out,zig hKt];simp only[Ma.zff];rw[decide_eq_false hln];rfl);have hs9:s1.length<=1024:=B1;have hKAa:=(hKA.setK (k:=t) B149 hxr hs9).below Bp29;have hexa:ExR lo (((wr.setCell (jA gk t) (.slice xa s1.length xc)).setCell (jA gl t) (.bool true)).alloc (Obj.cells #[jI (t:Int),.slice xa s1.length xc] TE)) (jP gx 0 l.length cx) l:=((hex.set hKA.gk).set hKA.gl).below Bp29;have hbka:Below gk wb ((wr.setCell (jA gk t) (.slice xa s1.length xc)).setCell (jA gl t) (.bool true)):=(hbk.setCell (p:=(jA gk t)) jE _).setCell (p:=(jA gl t)) hgg _;replace hbka:Below gk wb (((wr.setCell (jA gk t) (.slice xa s1.length xc)).setCell (jA gl t) (.bool true)).alloc (Obj.cells #[jI (t:Int),.slice xa s1.length xc] TE)):=hbka.alloc B14 _;have hKAb:=(hKA.setK2 (k:=t) B149 hxr hs9).below Bp29;have hexb:ExR lo (((wr.setCell (jA gl t) (.bool true)).setCell (jA gk t) (.slice xa s1.length xc)).alloc (Obj.cells #[jI (t:Int),.slice xa s1.length xc] TE)) (jP gx 0 l.length cx) l:=((hex.set hKA.gl).set hKA.gk).below Bp29;have hbkb:Below gk wb ((wr.setCell (jA gl t) (.bool true)).setCell (jA gk t) (.slice xa s1.length xc)):=(hbk.setCell (p:=(jA gl t)) hgg _).setCell (p:=(jA gk t)) jE _;replace hbkb:Below gk wb (((wr.setCell (jA gl t) (.bool true)).setCell (jA gk t) (.slice xa s1.length xc)).alloc (Obj.cells #[jI (t:Int),.slice xa s1.length xc] TE)):=hbkb.alloc B14 _;exact M85
    |some u=>
     have hlc':wr.cell? (jA gl t)=some (.bool true):=hlc;obtain ⟨hru,hul⟩:=hks u rfl;obtain ⟨ua,uc,rfl⟩:=hru.any;have HM:=jH fun (u1:World) (h1:Rd lo u1 (.slice ua u.length uc) u) (h2:Rd lo u1 (.slice xa s1.length xc) s1)=>meet_any lo lo _ _ u s1 u1 h1 h2 B1;have hru1:=hru.below hw1;clear hlc hks;go_wp2_with fail;refine (HM.out _ hru1 hxr1).mono ?_;rintro e w5 hmo;obtain ⟨hb5,hmo⟩:=hmo;have hX5:=(hb5.block wr.heap.size B7).trans hX;have hb51:Below wr.heap.size wr w5:=hw1.trans (hb5.mono B7);have hKA5:=hKA.below hb51;have hbk5:=hbk.trans (hb51.mono B1);have hex5:=hex.below hb51;have hlo5:lo<=w5.heap.size:=jR hlo hb51.size;have hcl5:=jQ hb51 hlc' hgll;have hck5:=jQ hb51 hkc hgkl;have hlf5:=(hb51.frozen (p:=(jA gl t)) hgll).trans hlf;have hkf5:=(hb51.frozen (p:=(jA gk t)) hgkl).trans hkf;have hgl5:=jL hgll hb51.size;have hgk5:=jL hgkl hb51.size;have hxz5:wr.heap.size<w5.heap.size:=(jg hX5);have z0:=ch hX5 0;have z1:=ch hX5 1;simp at z0 z1;have hlow:lo<=(wr.alloc (.cells #[jI (t:Int),.slice xa s1.length xc] TE)).heap.size:=B14;clear hX hX5 hw1 hlc' hkc hlf hkf hru hru1 hxr hxr1 x1 x2 hbk hex hKA hKA1 hbk1 hb51;cases hme:Ma.meet u s1 with
     |none=>
      rw[hme] at hmo;obtain rfl:=hmo;have hno:=zdp p (by rw[HF2.out,hst];show Ma.zdd K l=none;rw[HD.out,zig hKt];simp only[Ma.zff];rw[hme]:Ma.flow p (k+1)=none) (show k+1<=n by omega);go_wp2_with fail;go_ret;rw[HMY.out,hno,HBB.out];exact ⟨rfl,(hbwb.out _ hbk5).2.2⟩
     |some v1=>
      rw[hme] at hmo;obtain ⟨vv1,rfl,hr5⟩:=hmo;obtain ⟨va,vc,rfl⟩:=hr5.any;have hr6:=hr5.mono hlow
      by_cases hln:1024<v1.length
      .have t8:decide ((1024:Int)<(v1.length:Int))=true:=by simp;omega
       have hno:=zdp p (by rw[HF2.out,hst];show Ma.zdd K l=none;rw[HD.out,zig hKt];simp only[Ma.zff];rw[hme];simp only[];rw[decide_eq_true hln];rfl:Ma.flow p (k+1)=none) (show k+1<=n by omega);go_wp2_with fail;go_ret;rw[HMY.out,hno,HBB.out];exact ⟨rfl,(hbwb.out _ hbk5).2.2⟩
      .have t8:decide ((1024:Int)<(v1.length:Int))=false:=by simp;omega
       have HLN:=jH (show Ma.zdd K l=Ma.zdd (L.set t (some v1)) (l.drop (q+1)) by rw[HD.out,zig hKt];simp only[Ma.zff];rw[hme];simp only[];rw[decide_eq_false hln];rfl);have hs9:v1.length<=1024:=B1;have hKAa:=(hKA5.setK (k:=t) B149 hr6 hs9);have hexa:ExR lo (((w5.setCell (jA gk t) (.slice va v1.length vc)).setCell (jA gl t) (.bool true))) (jP gx 0 l.length cx) l:=((hex5.set hKA5.gk).set hKA5.gl);have hbka:Below gk wb ((w5.setCell (jA gk t) (.slice va v1.length vc)).setCell (jA gl t) (.bool true)):=(hbk5.setCell (p:=(jA gk t)) jE _).setCell (p:=(jA gl t)) hgg _;have hKAb:=(hKA5.setK2 (k:=t) B149 hr6 hs9);have hexb:ExR lo (((w5.setCell (jA gl t) (.bool true)).setCell (jA gk t) (.slice va v1.length vc))) (jP gx 0 l.length cx) l:=((hex5.set hKA5.gl).set hKA5.gk);have hbkb:Below gk wb ((w5.setCell (jA gl t) (.bool true)).setCell (jA gk t) (.slice va v1.length vc)):=(hbk5.setCell (p:=(jA gl t)) hgg _).setCell (p:=(jA gk t)) jE _;exact M85
   have hql:l.length=q:=B1;have hfl:Hid (Ma.flow p (k+1)=some L):=jH (by rw[HF2.out,hst];show Ma.zdd K l=_;rw[HLd.out,List.drop_eq_nil_of_le B1];rfl);have hdone:=hKA.done (v:=jZ);obtain ⟨kc,hk1,hk2,hk3⟩:=hKA.kl;have hkf:=frozen_of_row wr gk k _ _ hk1;have hgkl:gk<wr.heap.size:=(jg hk1);have hkL:∃o,L[k]?=some o:=⟨_,List.getElem?_eq_getElem (by rw[HLl.out];omega)⟩;obtain ⟨o,hKt⟩:=hkL;obtain ⟨kv,hkv,-⟩:=hk3 k o jE hKt;have hkc:wr.cell? (jA gk k)=some kv:=B107;have hbk9:Below gk wb (wr.setCell (jA gk k) jZ):=hbk.setCell (p:=(jA gk k)) jE _;clear hk1 hk2 hk3 hkv hKt hKA hex HLd hq hlt5;go_wp2_with fail;go_roundw
   case rel=>exact ⟨k+1,L,by omega,by go_num,hdone,HLl,hfl,hbk9,B14⟩
   case measure=>simp[intOf];omega
 have hkn:n=k:=B1;subst hkn;rw[HFl.out] at HMY;obtain ⟨o,hKo⟩:∃o,K[n]?=some o:=⟨_,List.getElem?_eq_getElem (by rw[HKl.out];omega)⟩;have hend:=zw8 Hn.out hKo;rw[hend] at HMY;obtain ⟨lc,hl1,hl2,hl3⟩:=hKA.ll;obtain ⟨kc,hk1,hk2,hk3⟩:=hKA.kl;have hlc:wr.cell? (jA gl n)=some (.bool o.isSome):=by rw[Lib.cell_of_heap hl1];exact hl3 n o hKo
 have hgll:gl<wr.heap.size:=(jg hl1);have hgkl:gk<wr.heap.size:=(jg hk1);obtain ⟨kv,hkv,hks⟩:=hk3 n o jE hKo;have hkc:wr.cell? (jA gk n)=some kv:=B107;clear hl1 hl2 hl3 hk1 hk2 hk3 hkv hKA HFl hend hlt hk hKo;rcases four o with rfl|rfl|⟨x,rfl⟩|⟨x,y,rest,rfl⟩
 case inl=>
  have hlc':wr.cell? (jA gl n)=some (.bool false):=hlc;clear hlc hks hkc;exact M189
 case inr.inl=>
  have hlc':wr.cell? (jA gl n)=some (.bool true):=hlc;obtain ⟨hrd,-⟩:=hks [] rfl;obtain ⟨sa,sc,rfl⟩:=hrd.any;have hkc':wr.cell? (jA gk n)=some (.slice sa 0 sc):=hkc;clear hlc hks hkc hrd;exact M189
 case inr.inr.inr=>
  have hlc':wr.cell? (jA gl n)=some (.bool true):=hlc;obtain ⟨hrd,-⟩:=hks _ rfl;obtain ⟨sa,sc,rfl⟩:=hrd.any;have ht7:(((x::y::rest).length:Int) !=1)=true:=B14;have ht7':((x::y::rest).length !=1)=true:=B7;clear hlc hks hrd;generalize (x::y::rest).length=ln at *;exact M189
 case inr.inr.inl=>
  have hlc':wr.cell? (jA gl n)=some (.bool true):=hlc;obtain ⟨hrd,-⟩:=hks [x] rfl;obtain ⟨sg,sc,rfl⟩:=hrd.some B7;obtain ⟨hsg,hsx⟩:=hrd.get;have hx0:=hsx 0 x rfl;have hkc':wr.cell? (jA gk n)=some (jP sg 0 1 sc):=hkc;have HFt:=jH fun u=>cfits_any x 86 u;clear hlc hks hkc hrd hsx;cases hf:(x==86||x==69)
  .exact M115
  .exact M115
def Post(B:Nat)(h:MH)(w:World)(l:List Ma.Arg)(w':World):Prop:=
 ∃sv,At w' B {h with st:=sv}/\Stk w' sv l/\Foot (fun k=>k=B\/h.st.ownBlock=some k) w w'/\(∀k,sv.ownBlock=some k->h.st.ownBlock=some k\/w.heap.size<=k)
def M117(h:jp:=by
 refine ⟨sv2,b1,b2,a3.next b3 fun i hi hF=> ?_,fun k hk=> ?_⟩
 .rcases hF with hF|hF
  .exact .inl hF
  .rcases a4 i hF with h5|h5
   .exact .inr h5
   .omega
 .rcases b4 k hk with h5|h5
  .exact a4 k h5
  .exact .inr (jR a3.size h5)):=h
def _root_.Bp38(h:jp:=by exact Foot.of_below hb):=h
section
variable{B:Nat}{h:MH}
include B h
theorem Post.refl{w:World}{l:List Ma.Arg}(hB:At w B h)(hs:Stk w h.st l):Post B h w l w:=⟨h.st,hB,hs,Foot.refl _ _,fun k e=> .inl e⟩
section
variable{w w1 w2:World}
include w w1 w2
theorem Post.next{l1 l2:List Ma.Arg}(h1:Post B h w l1 w1)(h2:∀sv,At w1 B {h with st:=sv}->Stk w1 sv l1->Post B {h with st:=sv} w1 l2 w2):Post B h w l2 w2:=by
 obtain ⟨sv,a1,a2,a3,a4⟩:=h1;obtain ⟨sv2,b1,b2,b3,b4⟩:=h2 sv a1 a2;exact M117
theorem Post.then{sv:Value}{l2:List Ma.Arg}(a3:Foot (fun k=>k=B\/h.st.ownBlock=some k) w w1)(a4:∀k,sv.ownBlock=some k->h.st.ownBlock=some k\/w.heap.size<=k)(h2:Post B {h with st:=sv} w1 l2 w2):Post B h w l2 w2:=by
 obtain ⟨sv2,b1,b2,b3,b4⟩:=h2;exact M117
theorem Post.pre{l:List Ma.Arg}(hb:Below w.heap.size w w1)(h1:Post B h w1 l w2):Post B h w l w2:=by
 obtain ⟨sv,a1,a2,a3,a4⟩:=h1;exact ⟨sv,a1,a2,(Foot.of_below hb).trans a3,fun k hk=>(a4 k hk).imp_right fun h5=>jR hb.size h5⟩
theorem Post.below{l:List Ma.Arg}(h1:Post B h w l w1)(hb:Below w1.heap.size w1 w2):Post B h w l w2:=by
 obtain ⟨sv,a1,a2,a3,a4⟩:=h1;exact ⟨sv,a1.below hb,a2.kept fun g hg=>hb.block g (a2.lt hg).1,a3.trans Bp38,a4⟩
end
end
section
variable(B:Nat)(h:MH)
include B h
theorem zgi(l:List Ma.Arg)(x:Ma.Arg)(w:World)(hB:At w B h)(hs:Stk w h.st (l++ [x]))(hl:l.length<=1000000):
 Calls prog 29 #[PT B] w fun e w'=>e=jr (argV x)/\Post B h w l w':=
 (take_any B h l x w hB hs hl).mono fun e w' ⟨he,sv,h1,h2,h3,h4⟩=> ⟨he,sv,h1,h2,h3.mono fun i _ e=> .inl e,fun k hk=> .inl (by rw[<-h4];exact hk)⟩
theorem zm5(l m:List Ma.Arg)(w:World)(hB:At w B h)(hs:Stk w h.st (l++m))(hl:(l++m).length<=1000000):
 Calls prog 32 #[PT B,jI (m.length:Int)] w fun e w'=>∃v,e=jr v/\w'.ownsRow w.heap.size TA 8 v m.length (argsC m)/\Post B h w l w':=
 (zhz B h l m w hB hs hl).mono fun e w' ⟨v,sv,he,ho,h1,h2,h3,h4⟩=> ⟨v,he,ho,sv,h1,h2,h3.mono fun i _ e=> .inl e,fun k hk=> .inl (by rw[<-h4];exact hk)⟩
section
variable(l:List Ma.Arg)
include l
theorem lay_p(x:Ma.Arg)(w:World)(hB:At w B h)(hs:Stk w h.st l)(hl:l.length<=1000000):
 Calls prog 38 #[PT B,argV x] w fun e w'=>e=jr jT/\Post B h w (l++ [x]) w':=
 (zvi B h l x w hB hs hl).mono fun e w' ⟨he,sv,h1,h2,h3,h4⟩=> ⟨he,sv,h1,h2,h3,h4⟩
theorem zeh(v:Val.V)(w:World)(hB:At w B h)(hs:Stk w h.st l)(hl:l.length<=1000000):
 Calls prog 23 #[PT B,vv3 v] w fun e w'=>e=jr jT/\Post B h w (l++ [Ma.vArg v]) w':=
 (zhu B h l v w hB hs hl).mono fun e w' ⟨he,sv,h1,h2,h3,h4⟩=> ⟨he,sv,h1,h2,h3,h4⟩
section
variable(n:Int)(w:World)(hB:At w B h)(hs:Stk w h.st l)(hl:l.length<=1000000)
include n w hB hs hl
theorem zk6:
 Calls prog 30 #[PT B,jI n] w fun e w'=>e=jr jT/\Post B h w (l++ [Ma.MS.zaz n]) w':=
 (zw2 B h l n w hB hs hl).mono fun e w' ⟨he,sv,h1,h2,h3,h4⟩=> ⟨he,sv,h1,h2,h3,h4⟩
theorem zkv:
 Calls prog 74 #[PT B,jI n] w fun e w'=>e=jr jT/\Post B h w (l++ [Ma.vArg (Cal.num n)]) w':=
 (zri B h l n w hB hs hl).mono fun e w' ⟨he,sv,h1,h2,h3,h4⟩=> ⟨he,sv,h1,h2,h3,h4⟩
end
end
end
def InsIn(C:Nat->Prop)(w:World)(g o:Nat)(x:Ma.Ins):Prop:=
 C g/\∃T,InsAt w g o x.op x.a x.b x.c x.d T/\IRd w T x.T/\∀g' o' n c,T=jP g' o' n c->C g'
theorem zag{w w':World}{g o:Nat}(h:w'.heap[g]?=w.heap[g]?):w'.cell? (jA g o)=w.cell? (jA g o):=World.cell?_of_block (a:=(jA g o)) h
theorem InsAt.same{w w':World}{g o:Nat}{op a b c d:Int}{T:Value}(h:InsAt w g o op a b c d T)(hs:w.heap.size<=w'.heap.size)(hk:w'.heap[g]?=w.heap[g]?):InsAt w' g o op a b c d T:=
 ⟨jL h.lt hs,(zag hk).trans h.c0,(zag hk).trans h.c1,(zag hk).trans h.c2,(zag hk).trans h.c3,(zag hk).trans h.c4,(zag hk).trans h.c5⟩
theorem InsIn.kept{C:Nat->Prop}{w w':World}{g o:Nat}{x:Ma.Ins}(h:InsIn C w g o x)(hs:w.heap.size<=w'.heap.size)(hk:∀k,C k->w'.heap[k]?=w.heap[k]?):InsIn C w' g o x:=by
 obtain ⟨hg,T,h1,h2,h3⟩:=h;refine ⟨hg,T,h1.same hs (hk g hg),?_,h3⟩;rcases h2 with h2|⟨g',o',cap,e,q1,q2,q3⟩
 .exact .inl h2
 .exact .inr ⟨g',o',cap,e,q1,jL q2 hs,fun j y hy=>(zag (hk g' (h3 g' o' _ _ e))).trans (q3 j y hy)⟩
structure Apart(C:Nat->Prop)(w:World)(B:Nat)(h:MH):Prop where
 lt:∀k,C k->k<w.heap.size
 b:¬C B
 s:∀k,h.st.ownBlock=some k->¬C k
section
variable{C:Nat->Prop}{B:Nat}{h:MH}{w w':World}{l:List Ma.Arg}
include C B h w w' l
section
variable(hp:Post B h w l w')(ha:Apart C w B h)
include hp ha
theorem Post.code:∀k,C k->w'.heap[k]?=w.heap[k]?:=by
 obtain ⟨sv,_,_,h3,_⟩:=hp;intro k hk;refine h3.block k (ha.lt k hk) ?_;rintro (rfl|e)
 .exact ha.b hk
 .exact ha.s k e hk
theorem Post.apart:∀sv,At w' B {h with st:=sv}->Apart C w' B {h with st:=sv}:=by
 obtain ⟨sv,h1,_,h3,h4⟩:=hp;intro sv' h1';have e:sv'=sv:=by
  unfold At at h1 h1';rw[h1] at h1';have:=(Obj.cells.inj (Option.some.inj h1')).1;simp[mc] at this;exact this.symm
 subst e;exact ⟨fun k hk=>jL (ha.lt k hk) h3.size,ha.b,fun k e hk=>by
  rcases h4 k e with h5|h5
  .exact ha.s k h5 hk
  .have:=ha.lt k hk;omega⟩
end
theorem Post.ins{g o:Nat}{x:Ma.Ins}(hp:Post B h w l w')(ha:Apart C w B h)(hx:InsIn C w g o x):InsIn C w' g o x:=
 hx.kept (by obtain ⟨_,_,_,h3,_⟩:=hp;exact h3.size) (hp.code ha)
end
theorem Apart.below{C:Nat->Prop}{w w':World}{B:Nat}{h:MH}(ha:Apart C w B h)(hb:Below w.heap.size w w'):Apart C w' B h:=⟨fun k hk=>jL (ha.lt k hk) hb.size,ha.b,ha.s⟩
theorem InsIn.below{C:Nat->Prop}{w w':World}{g o:Nat}{x:Ma.Ins}(h:InsIn C w g o x)(hC:∀k,C k->k<w.heap.size)(hb:Below w.heap.size w w'):InsIn C w' g o x:=h.kept hb.size fun k hk=>hb.block k (hC k hk)
theorem zl2{c:UInt8}(h:Ma.letterB c=true):c.toNat<128:=by
 unfold Ma.letterB at h;simp only[Bool.or_eq_true,Bool.and_eq_true,decide_eq_true_eq] at h;omega
theorem ze4{p:UInt8->Bool}:∀(l:List UInt8) (k:Nat),k<=l.length->(∀(j:Nat) (h:j<l.length),j<k->p l[j]=true)->(k=l.length\/∃h:k<l.length,p l[k]=false)->(l.takeWhile p).length=k
 |[],k,hk,_,_=>by simp at hk;simp[hk]
 |a::l,0,_,_,h=>by
  rcases h with h|⟨h,h2⟩
  .simp at h
  .simp only[List.getElem_cons_zero] at h2;simp[List.takeWhile_cons,h2]
 |a::l,k+1,hk,h1,h=>by
  have h0:=h1 0 B7 B1;simp only[List.getElem_cons_zero] at h0;rw[List.takeWhile_cons,if_pos h0,List.length_cons];have:=ze4 l k B206 (fun j hj hjk=>by have:=h1 (j+1) B69 B1;simpa using this) (by
   rcases h with h|⟨h,h2⟩
   .exact .inl B38
   .exact .inr ⟨by simpa using h,B70⟩)
  omega
theorem zlg(s:ByteArray)(p:UInt8->Bool)(k:Nat)(hk:k<=s.size)(h1:∀(j:Nat) (h:j<s.size),j<k->p s[j]=true)(h:k=s.size\/∃h:k<s.size,p s[k]=false):(s.data.toList.takeWhile p).length=k:=
 ze4 _ k hk h1 h
theorem zrp(c:Int)(w:World):Calls prog 232 #[.int .u8 c] w fun e w'=>e=jr (.bool ((decide (65<=c)&&decide (c<=90))||(decide (97<=c)&&decide (c<=122))))/\w'=w:=by
 cases h1:decide (65<=c) <;> cases h2:decide (c<=90) <;> cases h3:decide (97<=c) <;> cases h4:decide (c<=122)
 all_goals go_enter func232,ntmps232
 all_goals go_wp2
 all_goals (go_ret;exact ⟨rfl,rfl⟩)
theorem zxd(c:Int)(w:World):Calls prog 233 #[.int .u8 c] w fun e w'=>e=jr (.bool (decide (48<=c)&&decide (c<=57)))/\w'=w:=by
 cases h1:decide (48<=c) <;> cases h2:decide (c<=57)
 all_goals go_enter func233,ntmps233
 all_goals go_wp2
 all_goals (go_ret;exact ⟨rfl,rfl⟩)
theorem zlh(s:ByteArray)(p:UInt8->Bool)(id:FuncId)(hid:∀args w,(callFunc id args).run prog w= .ok (.enter id args) w)(hs:s.size<=1000000)(HF:Hid (∀(c:UInt8) (u:World),Calls prog id #[.int .u8 (c.toNat:Int)] u fun e w'=>e=jr (.bool (p c))/\w'=u))(w:World):
 Calls prog 231 #[jS s,.func (.func id) #[] #[]] w fun e w'=>e=jr (jI ((s.data.toList.takeWhile p).length:Int))/\w'=w:=by
 go_enter func231,ntmps231;go_wp2;go_loopw [5] (fun i wr=>∃k:Nat,k<=s.size/\i=jI (k:Int)/\wr=w/\Hid (∀(j:Nat) (h:j<s.size),j<k->p s[j]=true)) (fun i _=>s.size-(intOf i).toNat)
 case atStart=>exact ⟨0,Nat.zero_le _,rfl,rfl,jH (fun j h hj=>absurd hj B1)⟩
 case round=>
  obtain ⟨k,hk,rfl,rfl,hNo⟩:=hrel
  by_cases hlt:k<s.size
  .cases hp:p s[k]
   .go_wp2_with fail;refine jM (HF.out _ _) ?_;intro w2 rfl;have hp2:p (s.get k hlt)=false:=hp;rw[hp];go_wp2_with fail;go_ret;exact ⟨by rw[zlg s p k hk hNo.out (.inr ⟨hlt,hp⟩)];rfl,rfl⟩
   .go_wp2_with fail;refine jM (HF.out _ _) ?_;intro w2 rfl;rw[hp];go_wp2_with fail;go_roundw
    case rel=>exact ⟨k+1,by omega,by go_num,by first|rfl|trivial,jH (fun j h hj=>by
     by_cases hjk:j<k
     .exact hNo.out j h hjk
     .obtain rfl:j=k:=by omega
      exact hp)⟩
    case measure=>simp[intOf];omega
  .obtain rfl:k=s.size:=by omega
   go_wp2_with fail;go_ret;exact ⟨by rw[zlg s p s.size jE hNo.out (.inl rfl)];rfl,rfl⟩
theorem zsf(s:ByteArray)(hs:s.size<=100000)(hlet:∀c∈s.data.toList,Ma.letterB c=true)(w:World):
 Ret 234 #[jS s] w (.tuple #[jI (Ma.colGo 0 (Lib.toUpperA s.data.toList)).1,.bool (Ma.colGo 0 (Lib.toUpperA s.data.toList)).2]):=by
 have HU:=jH (Tryz.strings_ToUpper_ascii s w B1 (fun j b hb=>zl2 (hlet b (List.mem_of_getElem? hb))));have hup:∀c∈Lib.toUpperA s.data.toList,65<=c.toNat/\c.toNat<128:=by
  intro c hc;unfold Lib.toUpperA at hc;obtain ⟨d,hd,rfl⟩:=List.mem_map.1 hc;exact Ma.zoz d (hlet d hd)
 have hul:(Lib.toUpperA s.data.toList).length=s.size:=by unfold Lib.toUpperA;rw[List.length_map];rfl
 generalize Lib.toUpperA s.data.toList=l at *;obtain ⟨u,hu⟩:∃u:ByteArray,u=⟨l.toArray⟩:=⟨_,rfl⟩;have hus:u.size=l.length:=by rw[hu];rfl
 have hub:∀(k:Nat) (h:k<u.size),l.drop k=u[k]::l.drop (k+1)/\u[k]∈l:=by
  intro k h;have hk:k<l.length:=B1;have e:u[k]=l[k]:=by subst hu;rfl
  rw[e];exact ⟨List.drop_eq_getElem_cons hk,List.getElem_mem hk⟩
 rw[<-hu] at HU;clear hlet hu;have HUB:=jH hub;have HUP:=jH hup;clear hub hup;go_enter func234,ntmps234;go_wp2_with fail;refine jM HU.out ?_;intro w1 hb1;go_wp2_with fail;have hbi:Below w.heap.size w (w1.iter u 0):=hb1.alloc hb1.size _;have hlo:w.heap.size<=w1.heap.size:=hb1.size;have hit0:(w1.iter u 0).heap[w1.heap.size]?=some (.stringIter u 0):=World.iter_heap w1 u 0;generalize w1.iter u 0=w2 at *;generalize w1.heap.size=b1 at *;go_loopw [4,6] (fun n _ wr=>∃(pos:Nat) (m:Int),n=jI m/\pos<=u.size/\0<=m/\m<=702/\Hid (Ma.colGo m (l.drop pos)=Ma.colGo 0 l)/\wr.heap[b1]?=some (.stringIter u pos)/\Below w.heap.size w wr) (fun _ _ wr=>u.size-wr.iterPos b1)
 case atStart=>exact ⟨0,0,rfl,Nat.zero_le _,by omega,by omega,jH (by rw[List.drop_zero]),hit0,hbi⟩
 case round=>
  obtain ⟨pos,m,rfl,hpos,hm0,hm1,HK,hit,hbw⟩:=hrel
  by_cases hp:pos<u.size
  .obtain ⟨hd,hmem⟩:=HUB.out pos hp;have hc:=HUP.out _ hmem;have hnx:∀ty,(Instr.next (jU b1 0) true ty).run prog wr=_:=fun ty=>Lib.run_next_ascii_at wr b1 u pos ty hit hp hc.2;have hit2:=Lib.iterAt_heap wr b1 u pos (pos+1) hit;have hbw2:=Lib.below_iterAt hbw (k:=b1) hlo u (pos+1);have HK2:=jH (show cond (decide (702<m*26+((u[pos].toNat:Int)-65)+1)) (0,false) (Ma.colGo (m*26+((u[pos].toNat:Int)-65)+1) (l.drop (pos+1)))=Ma.colGo 0 l by have:=HK.out;rw[hd] at this;exact this);clear HK hd hmem;generalize wr.iterAt b1 u (pos+1)=W1 at *;generalize hcz:(u[pos].toNat:Int)=cz at *;have hc1:65<=cz:=B1;have hc2:cz<128:=B1;clear hcz;cases ht:decide (702<m*26+(cz-65)+1)
   .have ht2:=of_decide_eq_false ht;have HK3:=jH (show Ma.colGo (m*26+(cz-65)+1) (l.drop (pos+1))=Ma.colGo 0 l by have:=HK2.out;rw[ht] at this;exact this);clear HK2;go_wp2_with fail;go_roundw
    case rel=>exact ⟨pos+1,_,rfl,by omega,by omega,by omega,HK3,hit2,hbw2⟩
    case measure=>
     simp only[World.iterPos,hit2,hit];omega
   .have HE:Ma.colGo 0 l=(0,false):=by have:=HK2.out;rw[ht] at this;exact this.symm
    clear HK2;go_wp2_with fail;go_ret2;exact ⟨by rw[HE];rfl,hbw2⟩
  .have hnx:∀ty,(Instr.next (jU b1 0) true ty).run prog wr=_:=fun ty=>Lib.run_next_end_at wr b1 u pos ty hit hp;have HE:=jH (show Ma.colGo 0 l=(m-1,true) by have:=HK.out;rw[List.drop_of_length_le B1] at this;exact this.symm);clear HK;go_wp2_with fail;go_ret2;exact ⟨by rw[HE.out];rfl,hbw⟩
