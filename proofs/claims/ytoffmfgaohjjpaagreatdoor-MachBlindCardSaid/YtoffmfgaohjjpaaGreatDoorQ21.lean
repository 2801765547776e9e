import Derived.Test.YtoffmfgaohjjpaaGreatDoorRows
import Derived.Deep.DeepWitnessRowRef
import Derived.SevenTiedAt
import Derived.LaidMore
import Derived.Stop.LaidErr
import Derived.Lib.LaidU8
import Derived.Lib.SmallJoins
import Derived.Test.YtoffmfgaohjjpaaGreatDoorQ18
set_option linter.unusedVariables false
set_option linter.unusedSectionVars false
set_option linter.unusedSimpArgs false
open Go.Proofs.Tryz
set_option maxHeartbeats 8000000
variable{jp:Sort _}
set_option maxRecDepth 100000
namespace Go.Proofs.YtoffmfgaohjjpaaGreatDoor
section
section
section
section
section
open Go.ChangeShapes Go.WideShapes Go.ChangeAt Go.RowKit
section
variable {H:Type} {enc:TypeId×Value->H} {P:Program}
theorem post_of_below{f:Func}{s:ChangeSpec}{apart fresh handsOn again:Bool}{W W':World}{args:Array Value}{v:Value}{ds gs:List (DataW H)}{before pa pv:List MemPlace}(hW:DataW.Whole enc P f.params.toList s.vars apart W args.toList ds gs before)(hres:∀(b:Nat) (sp:Nat->Bool) (hd:Bool),DataW.TrodAll enc P W' b sp hd f.resultTypes.toList (v.resultList f.resultTypes.size) (s.fn H (ds++gs)).results [])(hargs:∀sp:Nat->Bool,(∀p∈before,sp p.block=true)->DataW.TrodAll enc P W' 0 sp true f.params.toList args.toList (s.fn H (ds++gs)).args pa)(hvars:∀sp:Nat->Bool,(∀p∈before,sp p.block=true)->DataW.TrodVars enc P W' sp s.vars (s.fn H (ds++gs)).vars pv)(hps:before=pa++pv)(hb:Below W.heap.size W W')(hok:∀(j:Nat) (t:TypeId) (r:Value),f.resultTypes[j]?=some t->(v.resultList f.resultTypes.size)[j]?=some r->Value.okWide P W' .any 0 t r):
 s.post enc P f apart fresh handsOn again W args v W':=by
 have hlt:∀p∈before,p.block<W.heap.size:=fun p hp=>hW.lt p hp;have hold:∀p∈before,(fun b=>decide (b<W.heap.size)) p.block=true:=fun p hp=>by simpa using hlt p hp
 refine ⟨ds,gs,before,[],pa,pv,hW,hres _ _ _,hargs _ hold,hvars _ hold,World.keptBut_mono (fun p hp=> ⟨hp,?_⟩) (hb.frame (·∈before)),fun _=> ?_⟩
 .rw[hps,List.mem_append] at hp;exact Or.inr hp
 .obtain ⟨_,_,_,_,_,hz,hn⟩:=hW;refine ⟨hok,_,_,([]++pa)++pv,⟨[]++pa,pv,trodAll_append (hargs _ (fun _ _=>rfl)) (hres _ _ _),hvars _ (fun _ _=>rfl),rfl,?_,?_⟩,?_⟩
  .intro b off hp;have hin:MemPlace.cell b off∈before:=by rw[hps];simpa using hp
   rw[hb.frozen (hlt _ hin)];exact hz b off hin
  .intro ha;have:=hn ha;rw[hps] at this;simpa using this
  .intro p hp _;rw[hps];simpa using hp
end
theorem looksSeat:true=Tryz.pinned.checked.prog.looks []:=by kernel_rfl
theorem own:ownKnob prog.godebug=none:=by kernel_rfl
end
open Go.ChangeShapes Go.WideShapes Go.ChangeAt Go.RowKit
theorem tenType:(prog.globals[3]?).map (·.type)=some 292:=by kernel_rfl
theorem tenCells:prog.cellsOf 292=20:=by kernel_rfl
theorem u64Cells:prog.cellsOf 234=1:=by kernel_rfl
theorem gRange:prog.globalNamed "strconv.ErrRange" =some 2:=by kernel_rfl
theorem zt5:(prog.globals[2]?).map (·.type)=some 184:=by kernel_rfl
theorem zxr:prog.cellsOf 296=1:=by kernel_rfl
theorem cellsStr:prog.cellsOf 9=1:=by kernel_rfl
theorem star: "*" ++ "errors.errorString" = "*errors.errorString":=B3
theorem rowErrS(u:TypeId)(h:prog.typeName? 3 u=some "*errors.errorString"):u=294:=
 typeName_ptr_named (nm:= "errors.errorString") (by rw[star];kernel_rfl) (by kernel_rfl) B3 u (by rw[star];exact h)
theorem tenData:(Rows.laid_internal_strconv_uint64pow10:DataW Unit)=Lib.tabData .u64 Lib.pow10Tab:=by kernel_rfl
theorem firstIs:(Rows.laid_unicode_utf8_first:DataW Unit)=Lib.firstData:=by kernel_rfl
theorem acceptIs:(Rows.laid_unicode_utf8_acceptRanges:DataW Unit)=Lib.acceptData:=by kernel_rfl
end
open Go.ChangeShapes Go.WideShapes Go.ChangeAt Go.RowKit Go.Joins
section
variable {H:Type} {enc:TypeId×Value->H}
theorem zoy:prog.cellsOf 41=3:=by kernel_rfl
end
open Go.WideElems Go.Deep
section
variable {H:Type} {enc:TypeId×Value->H} {P:Program}
def rowed(P:Program)(ts:List TypeId):Bool:=ts.all fun t=>P.readableRec t&&decide (t<P.types.size)
theorem trodAll_below(hl:laidOutB P=true){W W':World}(hb:Below W.heap.size W W'):
 ∀{ts:List TypeId} {vs:List Value} {ds:List (DataW H)} {ps:List MemPlace},rowed P ts=true->(∀p∈ps,p.block<W.heap.size)->DataW.TrodAll enc P W 0 (fun _=>true) true ts vs ds ps->
  ∀sp:Nat->Bool,(∀p∈ps,sp p.block=true)->DataW.TrodAll enc P W' 0 sp true ts vs ds ps
 |[],[],[],_,_,_,h,_,_=>h
 |_::_,[],_,_,_,_,h,_,_=>h.elim
 |_::_,_::_,[],_,_,_,h,_,_=>h.elim
 |[],_::_,_,_,_,_,h,_,_=>h.elim
 |[],[],_::_,_,_,_,h,_,_=>h.elim
 |t::ts,v::vs,d::ds,ps,hr,hp,h,sp,hs=>by
  obtain ⟨p,q,⟨fuel,h1⟩,h2,rfl⟩:=h;simp only[rowed,List.all_cons,Bool.and_eq_true] at hr;have hx:P.readableRec t=true/\t<P.types.size:=by simpa using hr.1
  refine ⟨p,q,⟨fuel,?_⟩,trodAll_below hl hb (by simpa[rowed] using hr.2) (fun x hx=>hp x (by simp[hx])) h2 sp (fun x hx=>hs x (by simp[hx])),rfl⟩;exact DataW.trod_stays (kids_book hl hx.1) (book_sized hx.1) (fun h=>by cases h) ⟨hx.2,book_self t⟩ h1 (fun x hx=>hb.same (hp x (by simp[hx]))) (fun x hx=>hs x (by simp[hx]))
theorem zct{e:TypeId}:∀{l:List (DataW H)} {d:DataW H},d∈l->∀n∈d.weights P e,n∈DataW.weightsAll P e l
 |[],_,h,_,_=>by cases h
 |x::r,d,h,n,hn=>by
  unfold DataW.weightsAll;rcases List.mem_cons.1 h with rfl|h
  .exact List.mem_append_left _ hn
  .exact List.mem_append_right _ (zct h n hn)
end
section
variable {H:Type} {enc:TypeId×Value->H} {P:Program}
theorem zek{w:World}{base:Nat}{spare:Nat->Bool}{held:Bool}{e:TypeId}{fs:Array Field}{cs:List Value}{n:Nat}{D:DataW H×List MemPlace}(he:P.underlying e=some (.struct fs))(ht:DataW.trod enc P w base spare held n e cs=some D):
 ∃(ys:List (DataW H×List MemPlace)) (m:Nat),D.1= .agg (ys.map (·.1))/\cs.length=P.cellsOf e/\∀(j:Nat) (f:Field),fs[j]?=some f->∀(T o k:Nat),f.type=T->f.offset=o->P.cellsOf T=k->∃y,ys[j]?=some y/\DataW.trod enc P w base spare held m T ((cs.drop o).take k)=some y:=by
 obtain ⟨ys,m,_,hy,hlen,hyl,hf⟩:=DataW.trod_struct he ht;refine ⟨ys,m,by rw[hy],hlen,fun j f hj T o k hT ho hk=> ?_⟩;have hjl:j<fs.size:=(jg hj);have h1:=hf j f hj;rw[hT,ho,hk] at h1;have hys:ys[j]?=some (ys[j]' B1):=List.getElem?_eq_getElem B1;exact ⟨_,hys,h1.trans hys⟩
theorem zb3{d:DataW H}{e:TypeId}{parts:List (DataW H)}{fs:Array Field}(he:P.underlying e=some (.struct fs))(hd:d= .agg parts){i:Nat}{T:TypeId}{c:DataW H}(hi:(fs.toList.map (·.type))[i]?=some T)(hp:parts[i]?=some c){n:Nat}(hn:n∈c.weights P T):n∈d.weights P e:=by
 subst hd;unfold DataW.weights;rw[he];exact DataW.weights_mem_each hi hp _ hn
theorem zmz{T:TypeId}{bytes:List UInt8}{d:DataW H}(hd:d= .lit (.string bytes)):bytes.length∈d.weights P T:=by subst hd;simp[DataW.weights]
theorem zqi(b o i j:Nat):((⟨b,o,none⟩:Addr).add i).add j=⟨b,o+i+j,none⟩:=by
 unfold Addr.add
 by_cases h1:i=0 <;> by_cases h2:j=0 <;> simp[h1,h2]
end
theorem laidOutSeat:laidOutB prog=true:=by kernel_rfl
theorem cells1_int:prog.cellsOf 3=1:=by kernel_rfl
theorem zmq:prog.cellsOf 2=1:=by kernel_rfl
theorem zk9:prog.cellsOf 9=1:=by kernel_rfl
section
variable {H:Type} {enc:TypeId×Value->H}
theorem val_open{w:World}{base:Nat}{spare:Nat->Bool}{held:Bool}{n:Nat}{c0 c1 c2:Value}{D:DataW H×List MemPlace}(ht:DataW.trod enc prog w base spare held n 41 [c0,c1,c2]=some D):
 ∃(k m:Int) (t:ByteArray) (parts:List (DataW H)),c0= .int .i64 k/\c1= .int .i64 m/\c2= .string t/\(Lit.int .i64 m).wf=true/\D.1= .agg parts/\parts[2]?=some (.lit (.string t.data.toList)):=by
 obtain ⟨ys,m',hD,_,hy⟩:=zek underlying41 ht;obtain ⟨y0,e0,t0⟩:=hy 0 _ rfl _ _ _ rfl rfl cells1_int;obtain ⟨y1,e1,t1⟩:=hy 1 _ rfl _ _ _ rfl rfl zmq;obtain ⟨y2,e2,t2⟩:=hy 2 _ rfl _ _ _ rfl rfl zk9;obtain ⟨k,hK,_,_⟩:=DataW.trod_int underlying3 t0;obtain ⟨x,hX,_,wx⟩:=DataW.trod_int underlying2 t1;obtain ⟨s,hS,ys2,_⟩:=DataW.trod_string underlying9 t2;have hK':[c0]=_:=hK;have hX':[c1]=_:=hX;have hS':[c2]=_:=hS;simp only[List.cons.injEq,and_true] at hK' hX' hS';exact ⟨k,x,s,_,hK',hX',hS',wx,hD,by rw[List.getElem?_map,e2,ys2];rfl⟩
theorem list3{α:Type}{cs:List α}(h:cs.length=3):∃c0 c1 c2,cs=[c0,c1,c2]:=by
 match cs,h with
 |[a,b,c],_=>exact ⟨a,b,c,rfl⟩
end
end
open Go.RowKit
namespace Mb
def M77(h:jp:=by
 obtain ⟨a',c',rfl⟩:∃a' c',v= .slice a' N c':=by
  exact N24
 go_wp2_with fail;go_ret;exact ⟨_,rfl,h1,hb⟩):=h
def M121(h:jp:=by
 have hadd:((jA b o):Addr).add j=(jA b (o+j)):=B16;rw[hadd];exact jQ ((Below.refl w.heap.size w).alloc jE _) (hc j u hu) hb0):=h
theorem zpy:(prog.info? 52).map (fun i=>(i.zero,i.size,i.bytes))=some (some (.agg #[jI 0,jI 0,jI 0,jI 0,jI 0,jZ]),6,64):=by kernel_rfl
theorem zxo(b o N cap:Nat)(news:List Value)(w:World)(hb0:b<w.heap.size)(hlen:news.length=N*6)(hN:N<=1000000)(hc:∀(j:Nat) (u:Value),news[j]?=some u->w.cell? (jA b (o+j))=some u)(hone:∀u∈news,u.oneCell'=true):
 Calls prog 18 #[jP b o N cap] w fun e w'=>∃v,e=jr v/\w'.ownsRow w.heap.size 52 6 v N news/\Below w.heap.size w w':=by
 obtain ⟨i0,hi,hz0,hz1,hz2⟩:=info_parts zpy;go_enter func18,ntmps18;have hnil:∀(a:Addr) (n c:Nat) (w:World),(binOp .eql 22 (.slice (some a) n c) jZ).run prog w= .ok (.bool false) w:=fun _ _ _ _=>by kernel_rfl
 have hown:(w.alloc (Obj.cells #[] 52)).ownsRow w.heap.size 52 6 (jP w.heap.size 0 0 0) 0 []:=World.ownsRow_made w #[] 0 jE B3 rfl;have hnews2:∀(j:Nat) (u:Value),news[j]?=some u->(w.alloc (Obj.cells #[] 52)).cell? (((jA b o):Addr).add j)=some u:=fun j u hu=>by
  exact M121
 go_wp2_with (first|(at_builtin;refine wpList_append_own _ rfl _ _ 22 rfl w.heap.size 52 i0 _ 6 64 underlying22 hi hz0 hz1 hz2 rfl B3 _ _ _ rfl hown (jA b o) N cap news rfl hlen hnews2 hone ?d3 ?d4 ?d5 ?_)|fail)
 case d3=>unfold maxLen;omega
 case d4=>omega
 case d5=>simp
 intro v w' h1 h2 _;have hb:Below w.heap.size w w':=((Below.refl w.heap.size w).alloc jE (Obj.cells #[] 52)).grown h2 B7 (fun k e=>by cases e;exact jE);exact M77
theorem zjd(w:World):Calls prog 18 #[jZ] w fun e w'=>∃v,e=jr v/\w'.ownsRow w.heap.size 52 6 v 0 []/\Below w.heap.size w w':=by
 have hnil:∀(w:World),(binOp .eql 22 jZ jZ).run prog w= .ok (.bool true) w:=fun _=>by kernel_rfl
 go_enter func18,ntmps18;exact M138
theorem zpw:(prog.info? 41).map (fun i=>(i.zero,i.size,i.bytes))=some (some (.agg #[jI 0,jI 0,jS ⟨#[]⟩]),3,32):=by kernel_rfl
theorem zxm(b o N cap:Nat)(news:List Value)(w:World)(hb0:b<w.heap.size)(hlen:news.length=N*3)(hN:N<=1000000)(hc:∀(j:Nat) (u:Value),news[j]?=some u->w.cell? (jA b (o+j))=some u)(hone:∀u∈news,u.oneCell'=true):
 Calls prog 19 #[jP b o N cap] w fun e w'=>∃v,e=jr v/\w'.ownsRow w.heap.size 41 3 v N news/\Below w.heap.size w w':=by
 obtain ⟨i0,hi,hz0,hz1,hz2⟩:=info_parts zpw;go_enter func19,ntmps19;have hnil:∀(a:Addr) (n c:Nat) (w:World),(binOp .eql 23 (.slice (some a) n c) jZ).run prog w= .ok (.bool false) w:=fun _ _ _ _=>by kernel_rfl
 have hown:(w.alloc (Obj.cells #[] 41)).ownsRow w.heap.size 41 3 (jP w.heap.size 0 0 0) 0 []:=World.ownsRow_made w #[] 0 jE B3 rfl;have hnews2:∀(j:Nat) (u:Value),news[j]?=some u->(w.alloc (Obj.cells #[] 41)).cell? (((jA b o):Addr).add j)=some u:=fun j u hu=>by
  exact M121
 go_wp2_with (first|(at_builtin;refine wpList_append_own _ rfl _ _ 23 rfl w.heap.size 41 i0 _ 3 32 underlying23 hi hz0 hz1 hz2 rfl B3 _ _ _ rfl hown (jA b o) N cap news rfl hlen hnews2 hone ?d3 ?d4 ?d5 ?_)|fail)
 case d3=>unfold maxLen;omega
 case d4=>omega
 case d5=>simp
 intro v w' h1 h2 _;have hb:Below w.heap.size w w':=((Below.refl w.heap.size w).alloc jE (Obj.cells #[] 41)).grown h2 B7 (fun k e=>by cases e;exact jE);exact M77
theorem zjb(w:World):Calls prog 19 #[jZ] w fun e w'=>∃v,e=jr v/\w'.ownsRow w.heap.size 41 3 v 0 []/\Below w.heap.size w w':=by
 have hnil:∀(w:World),(binOp .eql 23 jZ jZ).run prog w= .ok (.bool true) w:=fun _=>by kernel_rfl
 go_enter func19,ntmps19;exact M138
theorem zpx:(prog.info? 3).map (fun i=>(i.zero,i.size,i.bytes))=some (some (jI 0),1,8):=by kernel_rfl
theorem zxn(b o N cap:Nat)(news:List Value)(w:World)(hb0:b<w.heap.size)(hlen:news.length=N*1)(hN:N<=1000000)(hc:∀(j:Nat) (u:Value),news[j]?=some u->w.cell? (jA b (o+j))=some u)(hone:∀u∈news,u.oneCell'=true):
 Calls prog 20 #[jP b o N cap] w fun e w'=>∃v,e=jr v/\w'.ownsRow w.heap.size 3 1 v N news/\Below w.heap.size w w':=by
 obtain ⟨i0,hi,hz0,hz1,hz2⟩:=info_parts zpx;go_enter func20,ntmps20;have hnil:∀(a:Addr) (n c:Nat) (w:World),(binOp .eql 50 (.slice (some a) n c) jZ).run prog w= .ok (.bool false) w:=fun _ _ _ _=>by kernel_rfl
 have hown:(w.alloc (Obj.cells #[] 3)).ownsRow w.heap.size 3 1 (jP w.heap.size 0 0 0) 0 []:=World.ownsRow_made w #[] 0 jE B3 rfl;have hnews2:∀(j:Nat) (u:Value),news[j]?=some u->(w.alloc (Obj.cells #[] 3)).cell? (((jA b o):Addr).add j)=some u:=fun j u hu=>by
  exact M121
 go_wp2_with (first|(at_builtin;refine wpList_append_own _ rfl _ _ 50 rfl w.heap.size 3 i0 _ 1 8 underlying50 hi hz0 hz1 hz2 rfl B3 _ _ _ rfl hown (jA b o) N cap news rfl hlen hnews2 hone ?d3 ?d4 ?d5 ?_)|fail)
 case d3=>unfold maxLen;omega
 case d4=>omega
 case d5=>simp
 intro v w' h1 h2 _;have hb:Below w.heap.size w w':=((Below.refl w.heap.size w).alloc jE (Obj.cells #[] 3)).grown h2 B7 (fun k e=>by cases e;exact jE);exact M77
theorem zjc(w:World):Calls prog 20 #[jZ] w fun e w'=>∃v,e=jr v/\w'.ownsRow w.heap.size 3 1 v 0 []/\Below w.heap.size w w':=by
 have hnil:∀(w:World),(binOp .eql 50 jZ jZ).run prog w= .ok (.bool true) w:=fun _=>by kernel_rfl
 go_enter func20,ntmps20;exact M138
theorem zhl{α:Type}(f:α->List Value)(n:Nat)(h0:0<n)(hn:∀x,(f x).length=n):∀(l:List α) (j:Nat) (u:Value),(l.flatMap f)[j]?=some u->∃x,l[j/n]?=some x/\(f x)[j%n]?=some u
 |[],j,u,h=>by simp at h
 |x::l,j,u,h=>by
  rw[List.flatMap_cons] at h
  by_cases hj:j<n
  .rw[List.getElem?_append_left (by rw[hn];exact hj)] at h;exact ⟨x,by rw[Nat.div_eq_of_lt hj];rfl,by rw[Nat.mod_eq_of_lt hj];exact h⟩
  .rw[List.getElem?_append_right (by rw[hn];omega),hn] at h;obtain ⟨y,h1,h2⟩:=zhl f n h0 hn l (j-n) u h;have e1:j/n=(j-n)/n+1:=by
    conv=>lhs;rw[show j=(j-n)+n by omega]
    rw[Nat.add_div_right _ h0]
   have e2:j%n=(j-n)%n:=by
    conv=>lhs;rw[show j=(j-n)+n by omega]
    rw[Nat.add_mod_right]
   exact ⟨y,by rw[e1,List.getElem?_cons_succ];exact h1,by rw[e2];exact h2⟩
theorem zhk{α:Type}(f:α->List Value)(n:Nat)(hn:∀x,(f x).length=n):∀(l:List α),(l.flatMap f).length=l.length*n
 |[]=>by simp
 |x::l=>by rw[List.flatMap_cons,List.length_append,hn,zhk f n hn l,List.length_cons,Nat.add_mul,Nat.one_mul,Nat.add_comm]
def insC(q:Ma.Ins×Value):List Value:=[jI q.1.op,jI q.1.a,jI q.1.b,jI q.1.c,jI q.1.d,q.2]
theorem zc8(q:Ma.Ins×Value):(insC q).length=6:=rfl
def vC3(v:Val.V):List Value:=[jI v.k,jI v.n,jS v.t]
def M203(h:jp:=by
 simp only[vC3,List.mem_cons,List.not_mem_nil,or_false] at hx;rcases hx with rfl|rfl|rfl <;> rfl):=h
theorem zfs(v:Val.V):(vC3 v).length=3:=rfl
theorem zo9{P:Nat->Ma.Ins->Value->Prop}:∀(l:List Ma.Ins) (k:Nat),(∀j x,l[j]?=some x->∃T,P (k+j) x T)->∃z:List (Ma.Ins×Value),z.map (·.1)=l/\∀j q,z[j]?=some q->P (k+j) q.1 q.2
 |[],k,_=> ⟨[],rfl,fun j q h=>by simp at h⟩
 |x::l,k,h=>by
  obtain ⟨T,hT⟩:=h 0 x rfl;obtain ⟨z,hz,hp⟩:=zo9 l (k+1) fun j y hy=>by
   obtain ⟨T,hT⟩:=h (j+1) y (by simpa using hy);exact ⟨T,by rw[show k+1+j=k+(j+1) by omega];exact hT⟩
  refine ⟨(x,T)::z,by simp[hz],fun j q hq=> ?_⟩;cases j with
  |zero=>simp at hq;subst hq;exact hT
  |succ j=>rw[show k+(j+1)=k+1+j by omega];exact hp j q (by simpa using hq)
section
variable{w:World}
include w
theorem ins_cells{v:Value}{l:List Ma.Ins}(h:InsRow w v l):(v=jZ/\l=[])\/∃(g cap:Nat) (z:List (Ma.Ins×Value)),v=jP g 0 l.length cap/\l.length<=cap/\g<w.heap.size/\z.map (·.1)=l/\
 (∀(j:Nat) (u:Value),(z.flatMap insC)[j]?=some u->w.cell? (jA g (0+j))=some u)/\∀(j:Nat) (q:Ma.Ins×Value),z[j]?=some q->IRd w q.2 q.1.T:=by
 rcases h with h|⟨g,cap,h1,h2,h3,h4⟩
 .exact .inl h
 .obtain ⟨z,hz,hp⟩:=zo9 (P:=fun j x T=>InsAt w g (j*6) x.op x.a x.b x.c x.d T/\IRd w T x.T) l 0 fun j x hx=>by
   rw[Nat.zero_add];exact h4 j x hx
  refine .inr ⟨g,cap,z,h1,h2,h3,hz,fun j u hu=> ?_,fun j q hq=>(hp j q hq).2⟩;obtain ⟨q,q1,q2⟩:=zhl insC 6 B3 zc8 z j u hu;have hI:=(hp _ q q1).1;rw[Nat.zero_add] at hI ⊢;have hj:j=j/6*6+j%6:=B1;have hm:j%6<6:=Nat.mod_lt _ B3;generalize j/6=a at *;generalize j%6=b at *;subst hj;obtain ⟨_,c0,c1,c2,c3,c4,c5⟩:=hI
  match b,hm,q2 with
  |0,_,q2=>cases q2;exact c0
  |1,_,q2=>cases q2;exact c1
  |2,_,q2=>cases q2;exact c2
  |3,_,q2=>cases q2;exact c3
  |4,_,q2=>cases q2;exact c4
  |5,_,q2=>cases q2;exact c5
theorem con_flat{v:Value}{l:List Val.V}(h:ConRd w v l):(v=jZ/\l=[])\/∃g cap,v=jP g 0 l.length cap/\l.length<=cap/\g<w.heap.size/\
 ∀(j:Nat) (u:Value),(l.flatMap vC3)[j]?=some u->w.cell? (jA g (0+j))=some u:=by
 rcases h with h|⟨g,cap,h1,h2,h3,h4⟩
 .exact .inl h
 .refine .inr ⟨g,cap,h1,h2,h3,fun j u hu=> ?_⟩;obtain ⟨q,q1,q2⟩:=zhl vC3 3 B3 zfs l j u hu;obtain ⟨c0,c1,c2⟩:=h4 _ q q1;rw[Nat.zero_add];have hj:j=j/3*3+j%3:=B1;have hm:j%3<3:=Nat.mod_lt _ B3;generalize j/3=a at *;generalize j%3=b at *;subst hj
  match b,hm,q2 with
  |0,_,q2=>cases q2;exact c0
  |1,_,q2=>cases q2;exact c1
  |2,_,q2=>cases q2;exact c2
theorem zv4{iv:Value}{l:List Ma.Ins}(h:InsRow w iv l)(hl:l.length<=1000000):∃z:List (Ma.Ins×Value),z.map (·.1)=l/\(∀(j:Nat) (q:Ma.Ins×Value),z[j]?=some q->IRd w q.2 q.1.T)/\
 ∀u,Below w.heap.size w u->Calls prog 18 #[iv] u fun e w'=>∃v,e=jr v/\w'.ownsRow u.heap.size 52 6 v l.length (z.flatMap insC)/\Below u.heap.size u w':=by
 rcases ins_cells h with ⟨rfl,rfl⟩|⟨g,cap,z,rfl,h2,h3,hz,h4,h5⟩
 .exact ⟨[],rfl,fun j q hq=>by simp at hq,fun u hu=>zjd u⟩
 .have hlen:z.length=l.length:=by rw[<-hz];simp
  refine ⟨z,hz,h5,fun u hu=>zxo g 0 l.length cap _ u (jL h3 hu.size) (by rw[zhk insC 6 zc8,hlen]) hl (fun j x hx=>jQ hu (h4 j x hx) h3) fun x hx=> ?_⟩;obtain ⟨q,hq,hx⟩:=List.mem_flatMap.1 hx;obtain ⟨j,hj⟩:=List.mem_iff_getElem?.1 hq;have hT:q.2.oneCell'=true:=by
   rcases h5 j q hj with ⟨e,_⟩|⟨_,_,_,e,_⟩ <;> rw[e] <;> rfl
  simp only[insC,List.mem_cons,List.not_mem_nil,or_false] at hx;rcases hx with rfl|rfl|rfl|rfl|rfl|rfl <;> first|rfl|exact hT
theorem zxi{cv:Value}{l:List Val.V}(h:ConRd w cv l)(hl:l.length<=1000000):
 ∀u,Below w.heap.size w u->Calls prog 19 #[cv] u fun e w'=>∃v,e=jr v/\w'.ownsRow u.heap.size 41 3 v l.length (l.flatMap vC3)/\Below u.heap.size u w':=by
 rcases con_flat h with ⟨rfl,rfl⟩|⟨g,cap,rfl,h2,h3,h4⟩
 .exact fun u hu=>zjb u
 .refine fun u hu=>zxm g 0 l.length cap _ u (jL h3 hu.size) (zhk vC3 3 zfs l) hl (fun j x hx=>jQ hu (h4 j x hx) h3) fun x hx=> ?_;obtain ⟨q,hq,hx⟩:=List.mem_flatMap.1 hx;exact M203
theorem zth{T:Value}{l:List Int}(h:IRd w T l)(hl:l.length<=1000000):
 ∀u,Below w.heap.size w u->Calls prog 20 #[T] u fun e w'=>∃v,e=jr v/\w'.ownsRow u.heap.size 3 1 v l.length (l.map (Value.int .i64))/\Below u.heap.size u w':=by
 rcases h with ⟨rfl,rfl⟩|⟨g,o,cap,rfl,h2,h3,h4⟩
 .exact fun u hu=>zjc u
 .refine fun u hu=>zxn g o l.length cap _ u (jL h3 hu.size) B7 hl (fun j x hx=> ?_) fun x hx=> ?_
  .rw[List.getElem?_map] at hx;obtain ⟨y,hy,rfl⟩:=Option.map_eq_some_iff.1 hx;exact jQ hu (h4 j y hy) h3
  .obtain ⟨y,_,rfl⟩:=List.mem_map.1 hx;rfl
end
abbrev TIN:TypeId:=52
abbrev TVL:TypeId:=41
abbrev TIT:TypeId:=3
abbrev TCD:TypeId:=25
section
variable{w:World}
include w
theorem zlu{base:Nat}{e:TypeId}{size n g cap:Nat}{xs:List Value}(h:w.ownsRow base e size (jP g 0 n cap) n xs)(j:Nat)(v:Value):(w.setCell (jA g j) v).ownsRow base e size (jP g 0 n cap) n (xs.set j v):=by
 obtain ⟨h0,h1⟩:=h;refine ⟨by rw[List.length_set];exact h0,?_⟩;rcases h1 with ⟨h1,_⟩|⟨g',cap',cur,e1,hb,hg,hle,hm,hs,ht⟩
 .cases h1
 .cases e1;exact .inr ⟨g,cap,_,rfl,hb,heap_setCell_same w g j cur e v hg,hle,hm,by simp[hs],by rw[Array.toList_setIfInBounds,List.take_set,ht]⟩
theorem own_ne{b g:Nat}{e e2:TypeId}{size n:Nat}{v:Value}{xs:List Value}{c:Array Value}{f:Nat×Nat}(h:w.ownsRow b e size v n xs)(hg:w.heap[g]?=some (.cells c e2 f))(hne:e≠e2):v.ownBlock≠some g:=by
 rcases h.2 with ⟨rfl,_⟩|⟨g',cap',cur,rfl,_,hg',_⟩
 .intro h;cases h
 .intro h;cases h;rw[hg] at hg';cases hg';exact hne rfl
section
variable{b:Nat}{e:TypeId}{size n g cap:Nat}{xs:List Value}(h:w.ownsRow b e size (jP g 0 n cap) n xs)
include b e size n g cap xs h
theorem zen:∃cur,w.heap[g]?=some (.cells cur e (0,0))/\b<=g/\g<w.heap.size:=by
 rcases h.2 with ⟨h,_⟩|⟨g',cap',cur,e1,hb,hg,_⟩
 .cases h
 .cases e1;exact ⟨cur,hg,hb,(jg hg)⟩
theorem zf5:n<=cap:=by
 rcases h.2 with ⟨h,_⟩|⟨g',cap',cur,e1,hb,hg,hle,_⟩
 .cases h
 .cases e1;exact hle
end
theorem zhf{b:Nat}{e:TypeId}{size n:Nat}{v:Value}{xs:List Value}(h:w.ownsRow b e size v n xs)(hn:0<n):∃g cap,v=jP g 0 n cap:=by
 rcases h.2 with ⟨_,h⟩|⟨g',cap',cur,e1,_⟩
 .omega
 .exact ⟨g',cap',e1⟩
end
theorem zp7:∀(z:List (Ma.Ins×Value)) (k:Nat) (q:Ma.Ins×Value) (v:Value),z[k]?=some q->(z.flatMap insC).set (k*6+5) v=(z.set k (q.1,v)).flatMap insC
 |[],k,q,v,h=>by simp at h
 |x::z,0,q,v,h=>by
  simp at h;subst h;rfl
 |x::z,k+1,q,v,h=>by
  have ih:=zp7 z k q v B38;rw[List.set_cons_succ,List.flatMap_cons,List.flatMap_cons,<-ih];rw[List.set_append_right _ _ (by rw[zc8];omega),zc8]
  congr 2
  omega
theorem zgc{α:Type}(f:α->List Value)(n:Nat)(hn:∀x,(f x).length=n):∀(l:List α) (k i:Nat) (x:α) (u:Value),l[k]?=some x->(f x)[i]?=some u->(l.flatMap f)[k*n+i]?=some u
 |[],k,i,x,u,h,_=>by simp at h
 |y::l,0,i,x,u,h,hi=>by
  simp at h;subst h;have hl:=(jl hi);rw[List.flatMap_cons,Nat.zero_mul,Nat.zero_add,List.getElem?_append_left hl];exact hi
 |y::l,k+1,i,x,u,h,hi=>by
  rw[List.flatMap_cons,List.getElem?_append_right (by rw[hn];have:(k+1)*n=k*n+n:=Nat.succ_mul k n;omega),hn];have:(k+1)*n+i-n=k*n+i:=by have:(k+1)*n=k*n+n:=Nat.succ_mul k n;omega
  rw[this];exact zgc f n hn l k i x u B38 hi
theorem box2{w:World}{A:Nat}{a b:Value}{T:TypeId}(k:w.heap[A]?=some (.cells #[a,b] T (0,0))):w.cell? (jA A 0)=some a/\w.cell? (jA A 1)=some b/\(∀j,w.frozen? (jA A j)=false)/\A<w.heap.size:=
 ⟨by simp[World.cell?,k],by simp[World.cell?,k],fun j=>by simp[World.frozen?,k],(jg k)⟩
theorem za7{w:World}{b e size n:Nat}{v:Value}{xs:List Value}(h:w.ownsRow b e size v n xs):∃a c,v= .slice a n c:=by
 rcases h.2 with ⟨rfl,h0⟩|⟨g,cp,cur,rfl,_⟩
 .rw[h0];exact ⟨_,_,rfl⟩
 .exact ⟨_,_,rfl⟩
def plusP:Ma.Code:=⟨[⟨2,0,0,0,0,[]⟩,⟨7,4,0,0,0,[]⟩,⟨1,0,0,0,0,[]⟩,⟨5,4,0,0,0,[]⟩],[⟨1,1,⟨#[]⟩⟩]⟩
theorem add_n(g o j:Nat):((jA g o):Addr).add j=(jA g (o+j)):=B16
def TabIn(w:World)(T:Value)(l:List Int):Prop:=
 (T=jZ/\l=[])\/∃ad cap,T= .slice (some ad) l.length cap/\∀(j:Nat) (x:Int),l[j]?=some x->w.cell? (ad.add j)=some (jI x)
theorem TabIn.below{w w':World}{T:Value}{l:List Int}(h:TabIn w T l)(hb:Below w.heap.size w w'):TabIn w' T l:=by
 rcases h with h|⟨ad,cap,h1,h2⟩
 .exact .inl h
 .exact .inr ⟨ad,cap,h1,fun j x hx=>(hb.cell (World.block_lt_of_cell? w _ (h2 j x hx))).trans (h2 j x hx)⟩
theorem TabIn.any{w:World}{T:Value}{l:List Int}(h:TabIn w T l):∃a cap,T= .slice a l.length cap:=by
 rcases h with ⟨rfl,rfl⟩|⟨ad,cap,rfl,_⟩
 .exact ⟨_,_,rfl⟩
 .exact ⟨_,_,rfl⟩
def InsCome(w:World)(v:Value)(l:List Ma.Ins):Prop:=
 ∃a cap,v= .slice a l.length cap/\∀(j:Nat) (x:Ma.Ins),l[j]?=some x->∃g o T,a=some (jA g o)/\InsAt w g (o+j*6) x.op x.a x.b x.c x.d T/\TabIn w T x.T
theorem InsCome.below{w w':World}{v:Value}{l:List Ma.Ins}(h:InsCome w v l)(hb:Below w.heap.size w w'):InsCome w' v l:=by
 obtain ⟨a,cap,h1,h2⟩:=h;refine ⟨a,cap,h1,fun j x hx=> ?_⟩;obtain ⟨g,o,T,e,k1,k2⟩:=h2 j x hx;exact ⟨g,o,T,e,k1.below k1.lt hb,k2.below hb⟩
theorem InsCome.len{w:World}{v:Value}{l:List Ma.Ins}(h:InsCome w v l):∃a cap,v= .slice a l.length cap:=by
 obtain ⟨a,cap,h1,_⟩:=h;exact ⟨a,cap,h1⟩
def ConCome(w:World)(v:Value)(l:List Val.V):Prop:=
 (v=jZ/\l=[])\/∃ad cap,v= .slice (some ad) l.length cap/\∀(j:Nat) (x:Val.V),l[j]?=some x->∃g o,ad=(jA g o)/\g<w.heap.size/\w.cell? (jA g (o+j*3))=some (jI x.k)/\w.cell? (jA g (o+j*3+1))=some (jI x.n)/\w.cell? (jA g (o+j*3+2))=some (jS x.t)
theorem ConCome.below{w w':World}{v:Value}{l:List Val.V}(h:ConCome w v l)(hb:Below w.heap.size w w'):ConCome w' v l:=by
 rcases h with h|⟨ad,cap,h1,h2⟩
 .exact .inl h
 .refine .inr ⟨ad,cap,h1,fun j x hx=> ?_⟩;obtain ⟨g,o,e,k0,k1,k2,k3⟩:=h2 j x hx;exact ⟨g,o,e,jL k0 hb.size,jQ hb k1 k0,jQ hb k2 k0,jQ hb k3 k0⟩
theorem ConCome.len{w:World}{v:Value}{l:List Val.V}(h:ConCome w v l):∃a cap,v= .slice a l.length cap:=by
 rcases h with ⟨rfl,rfl⟩|⟨ad,cap,h1,_⟩
 .exact ⟨_,_,rfl⟩
 .exact ⟨_,_,h1⟩
theorem ConCome.news{w:World}{ad:Addr}{n cap:Nat}{l:List Val.V}(h:ConCome w (.slice (some ad) n cap) l)(j:Nat)(u:Value)(hu:(l.flatMap vC3)[j]?=some u):w.cell? (ad.add j)=some u:=by
 rcases h with ⟨h,_⟩|⟨ad,cap,h1,h2⟩
 .cases h
 .cases h1;obtain ⟨q,q1,q2⟩:=zhl vC3 3 B3 zfs l j u hu;obtain ⟨g,o,e,_,c0,c1,c2⟩:=h2 _ q q1;subst e;rw[add_n];have hj:j=j/3*3+j%3:=B1;have hm:j%3<3:=Nat.mod_lt _ B3;generalize j/3=a at *;generalize j%3=b at *;subst hj
  match b,hm,q2 with
  |0,_,q2=>cases q2;exact c0
  |1,_,q2=>cases q2;exact c1
  |2,_,q2=>cases q2;exact c2
theorem ird_own{w:World}{base n m cap g o:Nat}{l:List Int}{xs:List Value}(h:w.ownsRow base 3 1 (jP g 0 n cap) n xs)(hm:m<=n)(e:m=l.length)(hx:xs.take m=l.map (Value.int .i64)):IRd w (jP g 0 m cap) l:=by
 subst e;have hg:=(h.lt g rfl).2;refine .inr ⟨g,0,cap,rfl,?_,hg,fun j x hj=> ?_⟩
 .rcases h.2 with ⟨h,_⟩|⟨g',cap',cur,e,_,_,hle,_⟩
  .cases h
  .cases e;omega
 .have h1:xs[j]?=some (jI x):=by
   have hj':j<l.length:=(jl hj);have:(xs.take l.length)[j]?=some (jI x):=by rw[hx,List.getElem?_map,hj];rfl
   rwa [List.getElem?_take_of_lt hj'] at this
  have h2:=World.ownsRow.cells h (g:=g) rfl j _ h1;rw[add_n] at h2;exact h2
open Go.ChangeShapes Go.WideShapes Go.ChangeAt Go.Deep Go.Joins
theorem zxw:prog.bytesOf 41=32:=by kernel_rfl
theorem zxy:prog.bytesOf 52=64:=by kernel_rfl
theorem zxx:prog.bytesOf 3=8:=by kernel_rfl
theorem zmp:prog.cellsOf 52=6:=by kernel_rfl
theorem zon:prog.cellsOf 50=1:=by kernel_rfl
section
variable {H:Type} {enc:TypeId×Value->H}
def B192(h:jp:=by rw[hmm];split <;> omega):=h
theorem zcs{P:Program}{elems spare:List (DataW H)}{t e:TypeId}(hu:P.underlying t=some (.slice e)):(DataW.slice elems spare).weights P t=(elems.length+spare.length)*P.bytesOf e::(DataW.weightsAll P e elems++DataW.weightsAll P e spare):=by
 unfold DataW.weights;rw[hu]
theorem znu{α:Type}(l:Nat)(f:∀i,i<l->α):∃z:List α,z.length=l/\∀(i:Nat) (x:α),z[i]?=some x->∃h:i<l,x=f i h:=by
 refine ⟨(List.finRange l).map fun i=>f i.1 i.2,by simp,fun i x hx=> ?_⟩;have hi:i<l:=by simpa using (jl hx)
 refine ⟨hi,?_⟩;rw[List.getElem?_map,List.getElem?_eq_getElem B204] at hx;simp at hx;exact hx.symm
section
variable{W:World}{base:Nat}{spare:Nat->Bool}{held:Bool}{fuel:Nat}{v0:Value}{D0:DataW H×List MemPlace}
include W base spare held fuel v0 D0
theorem tab_in(hf:DataW.trod enc prog W base spare held fuel 50 [v0]=some D0)(hw:∀m∈D0.1.weights prog 50,m<=reachBytes):∃l:List Int,TabIn W v0 l/\l.length<=17592186043904:=by
 have hreach:reachBytes=140737488351232:=B3;rw[hreach] at hw;rcases open_slice1 underlying50 cells1_int hf with ⟨hcs,hx⟩|⟨a',l,cap,m,n,V,D,Pl,hcs,_,hl,hm,hmm,hx,hi⟩
 .simp only[List.cons.injEq,and_true] at hcs;exact ⟨[],.inl ⟨hcs,rfl⟩,Nat.zero_le _⟩
 .simp only[List.cons.injEq,and_true] at hcs;subst hx;have hlm:l<=m:=B192;simp only[zcs underlying50,zxx,List.length_map,List.length_range] at hw;have hl32:=hw _ (List.mem_cons_self ..);have step:∀i,i<l->∃k:Int,W.cell? (a'.add i)=some (.int .i64 k):=by
   intro i h;obtain ⟨hc,htr⟩:=hi i B1;obtain ⟨k,hk,_,_⟩:=DataW.trod_int underlying3 htr;simp only[List.cons.injEq,and_true] at hk;exact ⟨k,by rw[hc,hk]⟩
  obtain ⟨z,hz,hzi⟩:=znu l fun i h=>Classical.choose (step i h);refine ⟨z,.inr ⟨a',cap,by rw[hcs,hz],fun j x hx=> ?_⟩,B1⟩;obtain ⟨h,rfl⟩:=hzi j x hx;exact Classical.choose_spec (step j h)
theorem con_in(hf:DataW.trod enc prog W base spare held fuel 23 [v0]=some D0)(hw:∀m∈D0.1.weights prog 23,m<=reachBytes):∃l:List Val.V,ConCome W v0 l/\l.length<=4398046510976/\∀x∈l,VB x:=by
 have hreach:reachBytes=140737488351232:=B3;rw[hreach] at hw;rcases open_slice underlying23 hf with ⟨hcs,hx⟩|⟨a',l,cap,m,n,D,Pl,hcs,_,hl,hm,hmm,hx,hi⟩
 .simp only[List.cons.injEq,and_true] at hcs;exact ⟨[],.inl ⟨hcs,rfl⟩,Nat.zero_le _,fun x h=>by simp at h⟩
 .simp only[List.cons.injEq,and_true] at hcs;subst hx;have hlm:l<=m:=B192;simp only[zcs underlying23,zxw,List.length_map,List.length_range] at hw;have hl32:=hw _ (List.mem_cons_self ..);have step:∀i,i<l->∃v:Val.V,(∀q,W.cell? ((a'.add (i*3)).add q)=[Value.int .i64 v.k,.int .i64 v.n,.string v.t][q]?\/3<=q)/\VB v:=by
   intro i h;obtain ⟨cs,hc,htr⟩:=hi i B1;rw[zoy] at hc;have hlen:cs.length=3:=by
    obtain ⟨_,_,_,hlen,_⟩:=zek underlying41 htr;rw[hlen];exact zoy
   obtain ⟨_,_,hat⟩:=World.cells?_some hc;obtain ⟨c0,c1,c2,rfl⟩:=list3 hlen;obtain ⟨vk,vn,vt,pv,rfl,rfl,rfl,wv,ev,gv⟩:=val_open htr;have bv:=bounds_i64 wv;have zv:vt.size<=140737488351232:=by
    rw[Lib.size_eq];have h4:=zb3 underlying41 ev (i:=2) (T:=9) rfl gv (zmz (P:=prog) rfl);exact hw _ (List.mem_cons_of_mem _ (List.mem_append_left _ (zct (List.mem_map.2 ⟨i,by simpa using h,rfl⟩) _ h4)))
   refine ⟨⟨vk,vn,vt⟩,fun q=> ?_,⟨bv.1,bv.2,zv⟩⟩
   by_cases hq:q<3
   .exact .inl ((hat q hq).trans B7)
   .exact .inr B1
  obtain ⟨z,hz,hzi⟩:=znu l fun i h=>Classical.choose (step i h);refine ⟨z,.inr ⟨a',cap,by rw[hcs,hz],fun j x hx=> ?_⟩,by omega,fun x hx=> ?_⟩
  .obtain ⟨h,rfl⟩:=hzi j x hx;have hs:=Classical.choose_spec (step j h);generalize Classical.choose (step j h)=vi at *;obtain ⟨b,o,sp⟩:=a';have hsp:sp=none:=by
    obtain ⟨v,hc,_⟩:=step 0 B1;have g:=(hc 0).resolve_right B1;simpa[Addr.add] using World.cell?_spot g
   subst hsp;have g:∀q,q<3->W.cell? ⟨b,o+j*3+q,none⟩=[Value.int .i64 vi.k,.int .i64 vi.n,.string vi.t][q]?:=fun q hq=>by
    have:=(hs.1 q).resolve_right B1;rw[zqi] at this;exact this
   exact ⟨b,o,rfl,World.block_lt_of_cell? W _ (g 0 B1),g 0 B1,g 1 B1,g 2 B1⟩
  .obtain ⟨j,hj⟩:=List.mem_iff_getElem?.1 hx;obtain ⟨h,rfl⟩:=hzi j x hj;exact (Classical.choose_spec (step j h)).2
end
theorem list6M{α:Type}{cs:List α}(h:cs.length=6):∃c0 c1 c2 c3 c4 c5,cs=[c0,c1,c2,c3,c4,c5]:=by
 match cs,h with
 |[a,b,c,d,e,f],_=>exact ⟨a,b,c,d,e,f,rfl⟩
theorem ins_open{W:World}{base:Nat}{spare:Nat->Bool}{held:Bool}{n:Nat}{cs:List Value}{D:DataW H×List MemPlace}(ht:DataW.trod enc prog W base spare held n 52 cs=some D)(hw:∀m∈D.1.weights prog 52,m<=reachBytes):
 ∃(x:Ma.Ins) (T:Value),cs=[.int .i64 x.op,.int .i64 x.a,.int .i64 x.b,.int .i64 x.c,.int .i64 x.d,T]/\TabIn W T x.T/\x.T.length<=17592186043904:=by
 obtain ⟨ys,m',hD,hlen,hy⟩:=zek underlying52 ht;rw[zmp] at hlen;obtain ⟨c0,c1,c2,c3,c4,c5,rfl⟩:=list6M hlen;obtain ⟨y0,e0,t0⟩:=hy 0 _ rfl _ _ _ rfl rfl cells1_int;obtain ⟨y1,e1,t1⟩:=hy 1 _ rfl _ _ _ rfl rfl cells1_int;obtain ⟨y2,e2,t2⟩:=hy 2 _ rfl _ _ _ rfl rfl cells1_int;obtain ⟨y3,e3,t3⟩:=hy 3 _ rfl _ _ _ rfl rfl cells1_int;obtain ⟨y4,e4,t4⟩:=hy 4 _ rfl _ _ _ rfl rfl cells1_int;obtain ⟨y5,e5,t5⟩:=hy 5 _ rfl _ _ _ rfl rfl zon;obtain ⟨k0,K0,_,_⟩:=DataW.trod_int underlying3 t0;obtain ⟨k1,K1,_,_⟩:=DataW.trod_int underlying3 t1;obtain ⟨k2,K2,_,_⟩:=DataW.trod_int underlying3 t2;obtain ⟨k3,K3,_,_⟩:=DataW.trod_int underlying3 t3;obtain ⟨k4,K4,_,_⟩:=DataW.trod_int underlying3 t4;have K0':[c0]=_:=K0;have K1':[c1]=_:=K1;have K2':[c2]=_:=K2;have K3':[c3]=_:=K3;have K4':[c4]=_:=K4;simp only[List.cons.injEq,and_true] at K0' K1' K2' K3' K4';obtain ⟨l,h1,h2⟩:=tab_in (v0:=c5) t5 (fun m hm=>hw m (zb3 underlying52 hD (i:=5) (T:=50) rfl (by rw[List.getElem?_map,e5];rfl) hm));exact ⟨⟨k0,k1,k2,k3,k4,l⟩,c5,by rw[K0',K1',K2',K3',K4'],h1,h2⟩
theorem ins_in{W:World}{base:Nat}{spare:Nat->Bool}{held:Bool}{fuel:Nat}{v0:Value}{D0:DataW H×List MemPlace}(hf:DataW.trod enc prog W base spare held fuel 22 [v0]=some D0)(hw:∀m∈D0.1.weights prog 22,m<=reachBytes):∃l:List Ma.Ins,InsCome W v0 l/\l.length<=4398046510976/\∀x∈l,x.T.length<=17592186043904:=by
 have hreach:reachBytes=140737488351232:=B3;rcases open_slice underlying22 hf with ⟨hcs,hx⟩|⟨a',l,cap,m,n,D,Pl,hcs,_,hl,hm,hmm,hx,hi⟩
 .simp only[List.cons.injEq,and_true] at hcs;exact ⟨[],⟨none,0,hcs,fun j x hx=>by simp at hx⟩,Nat.zero_le _,fun x h=>by simp at h⟩
 .simp only[List.cons.injEq,and_true] at hcs;subst hx;have hlm:l<=m:=B192;simp only[zcs underlying22,zxy,List.length_map,List.length_range] at hw;have hl32:=hw _ (List.mem_cons_self ..);rw[hreach] at hl32;have step:∀i,i<l->∃(q:Ma.Ins×Value),(∀j u,([.int .i64 q.1.op,.int .i64 q.1.a,.int .i64 q.1.b,.int .i64 q.1.c,.int .i64 q.1.d,q.2]:List Value)[j]?=some u->W.cell? ((a'.add (i*6)).add j)=some u)/\TabIn W q.2 q.1.T/\q.1.T.length<=17592186043904:=by
   intro i h;obtain ⟨cs,hc,htr⟩:=hi i B1;rw[zmp] at hc;obtain ⟨x,T,rfl,ho,hL⟩:=ins_open htr (fun q hq=>hw _ (List.mem_cons_of_mem _ (List.mem_append_left _ (zct (List.mem_map.2 ⟨i,by simpa using h,rfl⟩) _ hq))));obtain ⟨_,_,hat⟩:=World.cells?_some hc;refine ⟨(x,T),fun q u hu=> ?_,ho,hL⟩;have hq:q<6:=(jl hu);exact (hat q hq).trans hu
  obtain ⟨z,hz,hzi⟩:=znu l fun i h=>Classical.choose (step i h);refine ⟨z.map (·.1),⟨some a',cap,by rw[hcs,List.length_map,hz],fun j x hx=> ?_⟩,by rw[List.length_map];omega,fun x hx=> ?_⟩
  .rw[List.getElem?_map] at hx;obtain ⟨q,hq,rfl⟩:=Option.map_eq_some_iff.1 hx;obtain ⟨h,rfl⟩:=hzi j q hq;have hs:=Classical.choose_spec (step j h);generalize Classical.choose (step j h)=q at *;obtain ⟨b,o,sp⟩:=a';have hsp:sp=none:=by
    obtain ⟨v,hc,_⟩:=step 0 B1;simpa[Addr.add] using World.cell?_spot (hc 0 _ rfl)
   subst hsp;have g:∀i u,([.int .i64 q.1.op,.int .i64 q.1.a,.int .i64 q.1.b,.int .i64 q.1.c,.int .i64 q.1.d,q.2]:List Value)[i]?=some u->W.cell? ⟨b,o+j*6+i,none⟩=some u:=fun i u hu=>by
    have:=hs.1 i u hu;rw[zqi] at this;exact this
   exact ⟨b,o,q.2,rfl,⟨World.block_lt_of_cell? W _ (g 0 _ rfl),g 0 _ rfl,g 1 _ rfl,g 2 _ rfl,g 3 _ rfl,g 4 _ rfl,g 5 _ rfl⟩,hs.2.1⟩
  .obtain ⟨q,hq,rfl⟩:=List.mem_map.1 hx;obtain ⟨j,hj⟩:=List.mem_iff_getElem?.1 hq;obtain ⟨h,rfl⟩:=hzi j q hj;exact (Classical.choose_spec (step j h)).2.2
end
section
variable{H:Type}{enc:TypeId×Value->H}{r:Reach}{b0 base:Nat}{W:World}{sp:Nat->Bool}{hd:Bool}{v:Value}{d:DataW H}{p:List MemPlace}
include H enc r b0 base W sp hd v d p
theorem open_code{ts:List TypeId}{ds:List (DataW H)}{j:Nat}(hv:Value.okWide prog W r b0 25 v)(h:DataW.Trod enc prog W base sp hd 25 v d p)(hsz:(DataW.weightsEach prog ts ds).all (·<=reachBytes)=true)(ht:ts[j]?=some 25)(hd':ds[j]?=some d):
 ∃(iv cv:Value) (q:Ma.Code),v= .agg #[iv,cv]/\InsCome W iv q.ins/\ConCome W cv q.con/\q.ins.length<=4398046510976/\q.con.length<=4398046510976/\(∀x∈q.ins,x.T.length<=17592186043904)/\∀x∈q.con,VB x:=by
 have hw:∀m∈d.weights prog 25,m<=reachBytes:=fun m hm=>by
  have:=List.all_eq_true.1 hsz _ (DataW.weights_mem_each ht hd' _ hm);simpa using this
 obtain ⟨v0,v1,y0,y1,n,rfl,hD,_,hy0,hy1⟩:=open_agg2 underlying25 (by kernel_rfl) (by kernel_rfl) hv h;obtain ⟨l,h1,h2,h3⟩:=ins_in (v0:=v0) hy0 (fun m hm=>hw m (zb3 underlying25 hD (i:=0) (T:=22) rfl rfl hm));obtain ⟨c,k1,k2,k3⟩:=con_in (v0:=v1) hy1 (fun m hm=>hw m (zb3 underlying25 hD (i:=1) (T:=23) rfl rfl hm));exact ⟨v0,v1,⟨l,c⟩,rfl,h1,k1,h2,k2,h3,k3⟩
theorem open_spot(hv:Value.okWide prog W r b0 27 v)(h:DataW.Trod enc prog W base sp hd 27 v d p):
 ∃r c:Int,v=SP r c:=by
 obtain ⟨v0,v1,y0,y1,n,rfl,hD,_,hy0,hy1⟩:=open_agg2 underlying27 (by kernel_rfl) (by kernel_rfl) hv h;obtain ⟨a,e0,_,_⟩:=DataW.trod_int underlying3 hy0;obtain ⟨b,e1,_,_⟩:=DataW.trod_int underlying3 hy1;simp only[List.cons.injEq,and_true] at e0 e1;exact ⟨a,b,by rw[e0,e1]⟩
end
end Mb
end
open Go.ChangeShapes Go.WideShapes Go.ChangeAt Go.RowKit Go.Deep
def zpo:List (String×DataW Unit):=[("math/bits.deBruijn32tab",Rows.laid_math_bits_deBruijn32tab),("math/bits.deBruijn64tab",Rows.laid_math_bits_deBruijn64tab),("internal/strconv.uint64pow10",Rows.laid_internal_strconv_uint64pow10),("unicode/utf8.acceptRanges",Rows.laid_unicode_utf8_acceptRanges),("strconv.ErrRange",Rows.laid_strconv_ErrRange),("strconv.ErrSyntax",Rows.laid_strconv_ErrSyntax),("unicode.CaseRanges",Rows.laid_unicode_CaseRanges),("unicode/utf8.first",Rows.laid_unicode_utf8_first)]
theorem machN_of_laid{W:World}(h:laidMetH prog zpo W):NumW W:=by
 rw[MakeChecks.laidMetH_plain _ _ _ (by kernel_rfl)] at h;have h2:=h.tail.tail;rw[tenData] at h2;have ht:=Lib.tabIs_of_head gTen tenType underlying292 underlying234 u64Cells tenCells h2;have h3:=h2.tail.tail;unfold Rows.laid_strconv_ErrRange at h3;obtain ⟨a,s,hv,_,_,_⟩:=laid_sentinel h3 gRange zt5 underlying184 rowErrS underlying294 underlying296 rfl rfl underlying9 zxr cellsStr;have hc:W.cell? ⟨2,0,none⟩=some (.iface 294 (.pointer (some a))):=by simpa using World.var?_cell gRange hv 0
 refine ⟨ht,⟨_,_,hc⟩,?_⟩;have:=ht.cell gTen 0 (by rw[Lib.pow10Tab_length];omega);exact World.block_lt_of_cell? W _ this
theorem machT_of_laid{W:World}(h:laidMetH prog zpo W)(hSh:W.ShapedOpen prog):TxtW W:=by
 rw[MakeChecks.laidMetH_plain _ _ _ (by kernel_rfl)] at h;have h4:=Lib.laidMet.reads h (.tail _ (.tail _ (.tail _ (.head _))));have h3:=Lib.laidMet.reads h (.tail _ (.tail _ (.tail _ (.tail _ (.tail _ (.tail _ (.tail _ (.head _))))))));rw[acceptIs] at h4;rw[firstIs] at h3;obtain ⟨m,hm⟩:=Tryz.laysM145.s1_3 W hSh;exact ⟨utf8Tabs_of_reads {Tryz.lays197 with} ⟨by kernel_rfl,by kernel_rfl,by kernel_rfl,by kernel_rfl,by kernel_rfl,by kernel_rfl,by kernel_rfl⟩ h3 h4,⟨m,hm⟩,World.block_lt_of_cell? W _ hm⟩
theorem open_vals{H:Type}{enc:TypeId×Value->H}{base:Nat}{W:World}{sp:Nat->Bool}{hd:Bool}{a:Option Addr}{l c:Nat}{d:DataW H}{p:List MemPlace}{ts:List TypeId}{ds:List (DataW H)}{j:Nat}(h:DataW.Trod enc prog W base sp hd 23 (.slice a l c) d p)(hsz:(DataW.weightsEach prog ts ds).all (·<=reachBytes)=true)(ht:ts[j]?=some 23)(hd':ds[j]?=some d):l<=4398046510976/\∃V:Nat->Val.V,HCellP W a l V/\∀k,k<l->VB (V k):=by
 have hw:∀m∈d.weights prog 23,m<=reachBytes:=fun m hm=>by
  have:=List.all_eq_true.1 hsz _ (DataW.weights_mem_each ht hd' _ hm);simpa using this
 obtain ⟨fuel,hf⟩:=h;obtain ⟨L,h1,h2,h3⟩:=Mb.con_in (v0:= .slice a l c) (D0:=(d,p)) hf hw;rcases h1 with ⟨e,rfl⟩|⟨ad,cap,e,hc⟩
 .cases e;exact ⟨Nat.zero_le _,fun _=>Cal.zero,fun k h=>absurd h (Nat.not_lt_zero k),fun k h=>absurd h (Nat.not_lt_zero k)⟩
 .cases e;refine ⟨h2,fun k=>L.getD k Cal.zero,fun k hk=> ?_,fun k hk=> ?_⟩
  .have hx:L[k]?=some (L.getD k Cal.zero):=by rw[List.getD_eq_getElem?_getD,List.getElem?_eq_getElem hk];rfl
   obtain ⟨g,o,e,k0,k1,k2,k3⟩:=hc k _ hx;exact ⟨g,o,by rw[e],k0,k1,k2,k3⟩
  .have hx:L[k]?=some (L.getD k Cal.zero):=by rw[List.getD_eq_getElem?_getD,List.getElem?_eq_getElem hk];rfl
   exact h3 _ (List.mem_of_getElem? hx)
end
open Go.RowKit
namespace Mb
def B150(h:jp:=by have h9:N2<=20000:=(by simp at t1;omega);exact jR (HP2.out h9) h9):=h
def B166(h:jp:=by rw[Int.tdiv_eq_ediv_of_nonneg (Int.natCast_nonneg _)];rfl):=h
def M18(h:jp:=by
 go_wp2_with fail;have HP:Hid (N<=20000->tot<=N):=HPx;clear HPx HN;go_loopw [3,5] (fun s i wr=>∃k N:Nat,k<=m/\s=jI (N:Int)/\i=jI (k:Int)/\Below W.heap.size W wr/\N<=281474976710656/\Hid (N<=20000->tot<=N)) (fun _ i _=>m-(intOf i).toNat)
 case atStart=>exact ⟨0,N,Nat.zero_le _,rfl,rfl,hb,by omega,HP⟩
 case round=>
  obtain ⟨k2,N2,hk2,rfl,rfl,hb2,hN2,HP2⟩:=hrel;rename World=>wr2
  have z0:=jQ hb2 a0 la;have z1:=jQ hb2 a1 la;have zl:=jL la hb2.size;have hbw2:Below w.heap.size w wr2:=jN hbW hb2
  by_cases hl2:k2<m
  .have t0:decide ((k2:Int)<(m:Int))=true:=by simp;exact hl2
   by_cases h20:N2<=20000
   .obtain ⟨x,hx⟩:∃x,con[k2]?=some x:=⟨_,List.getElem?_eq_getElem (by rw[hml.out];exact hl2)⟩;have hxs:=(bV.out x (List.mem_of_getElem? hx)).sz;obtain ⟨g,o,ec,r0,r1,r2,r3⟩:=HC.out k2 x hx;subst ec;have y2:=jQ hbw2 r3 r0;have yl:=jL r0 hbw2.size;have t1:decide ((N2:Int)<=20000)=true:=B14;have HP3:=jH (show N2+x.t.size/1000<=20000->tot<=N2+x.t.size/1000 from fun h=>jR (HP2.out h20) (Nat.le_add_right _ _));clear r1 r2 r3 hx;obtain ⟨xk,xn,xt⟩:=x;simp only at *;have hq:((xt.size:Nat):Int).tdiv 1000=((xt.size/1000:Nat):Int):=B166;have hq2:xt.size/1000<=140737488352:=B1;go_wp2_with fail;go_roundw
    case rel=>exact ⟨k2+1,N2+xt.size/1000,by omega,by congr 1,by go_num,hb2,by omega,HP3⟩
    case measure=>simp[intOf];omega
   .have t1:decide ((N2:Int)<=20000)=false:=by simp;omega
    go_wp2_with fail;go_ret;exact ⟨false,rfl,nofun,hbw2⟩
  .have t0:decide ((k2:Int)<(m:Int))=false:=by simp;omega
   cases t1:decide ((N2:Int)<=20000)
   .go_wp2_with fail;go_ret;exact ⟨false,rfl,nofun,hbw2⟩
   .go_wp2_with fail;go_ret;exact ⟨true,rfl,fun _=>B150,hbw2⟩):=h
theorem zve(w:World)(iv cv:Value)(p:Ma.Code)(hI:InsCome w iv p.ins)(hC:ConCome w cv p.con)(b1:p.ins.length<=4398046510976)(b2:p.con.length<=4398046510976)(bT:∀x∈p.ins,x.T.length<=17592186043904)(bV:∀x∈p.con,VB x):
 Calls prog 5 #[.agg #[iv,cv]] w fun e w'=>∃b,e=jr (.bool b)/\(b=true->p.ins.length+p.con.length+Ma.longT p.ins<=20000)/\Below w.heap.size w w':=by
 obtain ⟨ins,con⟩:=p;simp only at *;obtain ⟨ia,ic,rfl,HI⟩:=hI;obtain ⟨ca,cc,rfl,HC⟩:∃a cap,cv= .slice a con.length cap/\∀(j:Nat) (x:Val.V),con[j]?=some x->∃g o,a=some ⟨g,o,none⟩/\g<w.heap.size/\w.cell? ⟨g,o+j*3,none⟩=some (jI x.k)/\w.cell? ⟨g,o+j*3+1,none⟩=some (jI x.n)/\w.cell? ⟨g,o+j*3+2,none⟩=some (jS x.t):=by
  rcases hC with ⟨rfl,rfl⟩|⟨ad,cap,rfl,h⟩
  .exact ⟨_,_,rfl,fun j x hx=>by simp at hx⟩
  .refine ⟨_,_,rfl,fun j x hx=> ?_⟩;obtain ⟨g,o,e,k⟩:=h j x hx;exact ⟨g,o,by rw[e],k⟩
 have HI:=jH HI;have HC:=jH HC;have bV:=jH bV;have bT:=jH bT;obtain ⟨n,hnl⟩:∃n,ins.length=n:=⟨_,rfl⟩;obtain ⟨m,hml⟩:∃m,con.length=m:=⟨_,rfl⟩;obtain ⟨tot,htot⟩:∃t,ins.length+con.length+Ma.longT ins=t:=⟨_,rfl⟩;rw[htot];rw[hnl] at b1 ⊢;rw[hml] at b2 ⊢;have hnl:=jH hnl;have hml:=jH hml;have htot:=jH htot;go_enter func5,ntmps5;have hbW:=below1 w (Obj.cells #[.slice ia n ic,.slice ca m cc] 25);have k0:=heap_alloc_new w (Obj.cells #[.slice ia n ic,.slice ca m cc] 25);go_upto_region 1 with fail;generalize hW:World.alloc _ _=W at *;clear hW;have la:=(jg k0);have a0:=ch k0 0;have a1:=ch k0 1;simp at a0 a1;clear k0;go_wp2_with fail;go_loopw [3,4] (fun s i wr=>∃k N:Nat,k<=n/\s=jI (N:Int)/\i=jI (k:Int)/\Below W.heap.size W wr/\N<=35184372088832/\Hid (N=n+m+Ma.longT (ins.take k))) (fun _ i _=>n-(intOf i).toNat)
 case atStart=>exact ⟨0,n+m,Nat.zero_le _,by go_num,rfl,jB,by omega,jH rfl⟩
 case round=>
  obtain ⟨k,N,hk,rfl,rfl,hb,hN,HN⟩:=hrel;rename World=>wr
  have z0:=jQ hb a0 la;have z1:=jQ hb a1 la;have zl:=jL la hb.size;have hbw:=jN hbW hb
  by_cases hlt:k<n
  .have t0:decide ((k:Int)<(n:Int))=true:=by simp;exact hlt
   by_cases h20:N<=20000
   .obtain ⟨x,hx⟩:∃x,ins[k]?=some x:=⟨_,List.getElem?_eq_getElem (by rw[hnl.out];exact hlt)⟩;have hxs:=bT.out x (List.mem_of_getElem? hx);obtain ⟨g,o,T,ei,hA,hTb⟩:=HI.out k x hx;subst ei;obtain ⟨ta,tc,rfl⟩:=hTb.any;have y5:=jQ hbw hA.c5 hA.lt;have yl:=jL hA.lt hbw.size;have t1:decide ((N:Int)<=20000)=true:=B14;have HN2:=jH (show N+x.T.length=n+m+Ma.longT (ins.take (k+1)) by rw[zf9 _ _ _ hx,HN.out];omega);clear hA hTb hx;generalize x.T.length=tl at *;go_wp2_with fail;go_roundw
    case rel=>exact ⟨k+1,N+tl,by omega,by go_num,by go_num,hb,by omega,HN2⟩
    case measure=>simp[intOf];omega
   .have t1:decide ((N:Int)<=20000)=false:=by simp;omega
    have HPx:Hid (N<=20000->tot<=N):=jH fun h=>absurd h h20;exact M18
  .obtain rfl:k=n:=by omega
   have t0:decide ((k:Int)<(k:Int))=false:=B7;have HPx:Hid (N<=20000->tot<=N):=jH fun _=>by
    have e1:=HN.out;have e2:=htot.out;have e3:=hnl.out;have e4:=hml.out;rw[List.take_of_length_le B1] at e1;omega
   exact M18
def IOwn(lo:Nat)(w:World)(v:Value)(l:List Int):Prop:=
 IRd w v l/\∀g o n c,v=jP g o n c->lo<=g/\∃cur fr,w.heap[g]?=some (.cells cur TIT fr)
section
variable{lo:Nat}{w w':World}{v:Value}{l:List Int}(h:IOwn lo w v l)
include lo w w' v l h
theorem IOwn.kept(hs:w.heap.size<=w'.heap.size)(hk:∀(g:Nat) (cur:Array Value) (fr:Nat×Nat),w.heap[g]?=some (.cells cur TIT fr)->w'.heap[g]?=w.heap[g]?):IOwn lo w' v l:=by
 obtain ⟨h1,h2⟩:=h;refine ⟨?_,fun g o n c e=> ?_⟩
 .rcases h1 with h1|⟨g,o,cap,e,q1,q2,q3⟩
  .exact .inl h1
  .obtain ⟨_,cur,fr,hg⟩:=h2 g o _ _ e;exact .inr ⟨g,o,cap,e,q1,jL q2 hs,fun j x hx=>(zag (hk g cur fr hg)).trans (q3 j x hx)⟩
 .obtain ⟨hl,cur,fr,hg⟩:=h2 g o n c e;exact ⟨hl,cur,fr,(hk g cur fr hg).trans hg⟩
theorem IOwn.below(hb:Below w.heap.size w w'):IOwn lo w' v l:=
 h.kept hb.size fun g cur fr hg=>hb.block g (jg hg)
end
theorem IOwn.nil(lo:Nat)(w:World):IOwn lo w jZ []:=⟨.inl ⟨rfl,rfl⟩,fun _ _ _ _ e=>by cases e⟩
theorem iown_own{w:World}{lo base n m cap g:Nat}{l:List Int}{xs:List Value}(h:w.ownsRow base TIT 1 (jP g 0 n cap) n xs)(hlo:lo<=base)(hm:m<=n)(e:m=l.length)(hx:xs.take m=l.map (Value.int .i64)):IOwn lo w (jP g 0 m cap) l:=by
 refine ⟨ird_own (o:=0) h hm e hx,fun g' o n c e=> ?_⟩;cases e;obtain ⟨cur,hg,hb,_⟩:=zen h;exact ⟨jR hlo hb,cur,_,hg⟩
structure TwL(w wr:World)(iv cv qi:Value)(ins:List Ma.Ins)(k:Nat)(z:List (Ma.Ins×Value)):Prop where
 b:Below w.heap.size w wr
 p:wr.heap[w.heap.size]?=some (.cells #[iv,cv] TCD (0,0))
 r:wr.heap[w.heap.size+1]?=some (.cells #[jZ,jZ] TCD (0,0))
 q:wr.heap[w.heap.size+1+1]?=some (.cells #[qi,jZ] TCD (0,0))
 o:wr.ownsRow w.heap.size TIN 6 qi k (z.flatMap insC)
 same:z.map (·.1)=ins.take k
 tab:∀(j:Nat) (q:Ma.Ins×Value),z[j]?=some q->IOwn w.heap.size wr q.2 q.1.T
def B127(h:jp:=by show w.heap.size<=w.heap.size+1+1;omega):=h
def B202(h:jp:=by rw[List.getElem?_append_left (jl h1)];exact h1):=h
theorem TwL.below{w wr w':World}{iv cv qi:Value}{ins:List Ma.Ins}{k:Nat}{z:List (Ma.Ins×Value)}(h:TwL w wr iv cv qi ins k z)(hb:Below wr.heap.size wr w'):TwL w w' iv cv qi ins k z:=
 have k0:∀{i:Nat} {o:Obj},wr.heap[i]?=some o->w'.heap[i]?=some o:=fun e=>jk hb e
 ⟨jN h.b hb,k0 h.p,k0 h.r,k0 h.q,own_bel h.o hb,h.same,fun j q hq=>(h.tab j q hq).below hb⟩
theorem TwL.box{w y y5:World}{iv cv qi:Value}{ins:List Ma.Ins}{k:Nat}{z:List (Ma.Ins×Value)}(h:TwL w y iv cv qi ins k z)(hg:y.grownBy y5 qi.ownBlock):y5.heap[w.heap.size+1+1]?=some (.cells #[qi,jZ] TCD (0,0)):=
 (hg.block _ (jg h.q) fun e1=>own_ne h.o h.q B3 e1.symm).trans h.q
theorem TwL.setX{w y:World}{iv cv qi v:Value}{ins:List Ma.Ins}{k X j:Nat}{c:Array Value}{f:Nat×Nat}{z:List (Ma.Ins×Value)}(h:TwL w y iv cv qi ins k z)(hX:y.heap[X]?=some (.cells c TIN f))(hne:qi.ownBlock≠some X)(hw:w.heap.size<=X):TwL w (y.setCell (jA X j) v) iv cv qi ins k z:=by
 have k0:∀{i:Nat} {c:Array Value} {e:TypeId} {f:Nat×Nat},y.heap[i]?=some (.cells c e f)->TIN≠e->(y.setCell (jA X j) v).heap[i]?=y.heap[i]?:=fun {i c e f} hi he=>heap_setCell_other y (jA X j) i v (by
  rintro rfl;rw[hX] at hi;cases hi;exact he rfl)
 exact ⟨h.b.setCell (p:=(jA X j)) hw v,(k0 h.p B3).trans h.p,(k0 h.r B3).trans h.r,(k0 h.q B3).trans h.q,ownsRow_setCell_other h.o (a:=(jA X j)) hne v,h.same,fun i q hq=>(h.tab i q hq).kept B7 fun g cur fr e=>k0 e B3⟩
theorem IOwn.setX{lo:Nat}{y:World}{v T:Value}{l:List Int}{X j:Nat}{c:Array Value}{f:Nat×Nat}(h:IOwn lo y T l)(hX:y.heap[X]?=some (.cells c TIN f)):IOwn lo (y.setCell (jA X j) v) T l:=
 h.kept B7 fun g cur fr e=>heap_setCell_other y (jA X j) g v (by
  rintro rfl;rw[hX] at e;cases e)
theorem zrw{w w5:World}{base:Nat}(h:w.grownBy w5 none)(hb:base<=w.heap.size):Below base w w5:=jB.grown h hb (fun k e=>by cases e)
theorem box6{w:World}{A:Nat}{a b c d e f:Value}{T:TypeId}(k:w.heap[A]?=some (.cells #[a,b,c,d,e,f] T (0,0))):w.cell? (jA A 0)=some a/\w.cell? (jA A 1)=some b/\w.cell? (jA A 2)=some c/\w.cell? (jA A 3)=some d/\w.cell? (jA A 4)=some e/\w.cell? (jA A 5)=some f/\(∀j,w.frozen? (jA A j)=false)/\A<w.heap.size:=
 ⟨by simp[World.cell?,k],by simp[World.cell?,k],by simp[World.cell?,k],by simp[World.cell?,k],by simp[World.cell?,k],by simp[World.cell?,k],fun j=>by simp[World.frozen?,k],(jg k)⟩
theorem news_new{w:World}{cs:List Value}{T:TypeId}(j:Nat)(u:Value)(h:cs[j]?=some u):(w.alloc (Obj.cells cs.toArray T)).cell? (((jA w.heap.size 0):Addr).add j)=some u:=by
 have hadd:((jA w.heap.size 0):Addr).add j=(jA w.heap.size j):=B16;rw[hadd,Lib.cell_of_heap Bp34];simpa using h
theorem insC_one{q:Ma.Ins×Value}(h:q.2.oneCell'=true):∀u∈insC q,u.oneCell'=true:=by
 intro u hu;simp only[insC,List.mem_cons,List.not_mem_nil,or_false] at hu;rcases hu with rfl|rfl|rfl|rfl|rfl|rfl <;> first|rfl|exact h
theorem TwL.push{w y y5:World}{iv cv qi v' T:Value}{ins:List Ma.Ins}{k:Nat}{z:List (Ma.Ins×Value)}{x:Ma.Ins}(h:TwL w y iv cv qi ins k z)(hx:ins[k]?=some x)(hT:IOwn w.heap.size y T x.T)(hg:y.grownBy y5 qi.ownBlock)(ho:y5.ownsRow w.heap.size TIN 6 v' (k+1) (z.flatMap insC++insC (x,T))):
 TwL w (y5.setCell (jA (w.heap.size+1+1) 0) v') iv cv v' ins (k+1) (z++ [(x,T)]):=by
 have hs:=h.b.size;have hne:∀{i:Nat} {c:Array Value} {e:TypeId} {f:Nat×Nat},y.heap[i]?=some (.cells c e f)->TIN≠e->y5.heap[i]?=y.heap[i]?:=fun {i c e f} hi he=>hg.block i (jg hi) fun e1=>own_ne h.o hi he e1.symm;have k0:∀{i:Nat} {c:Array Value} {e:TypeId} {f:Nat×Nat},y.heap[i]?=some (.cells c e f)->TIN≠e->y5.heap[i]?=some (.cells c e f):=fun hi he=>(hne hi he).trans hi;have hb5:Below w.heap.size w y5:=h.b.grown hg hs (fun j hj=>(h.o.lt j hj).1);have ho':(y5.setCell (jA (w.heap.size+1+1) 0) v').ownsRow w.heap.size TIN 6 v' (k+1) (z.flatMap insC++insC (x,T)):=ownsRow_setCell_other ho (a:=(jA (w.heap.size+1+1) 0)) (own_ne ho (k0 h.q B3) B3) v';refine ⟨hb5.setCell (p:=(jA (w.heap.size+1+1) 0)) B127 v',?_,?_,?_,?_,?_,fun j q hq=> ?_⟩
 .exact (heap_setCell_other y5 (jA (w.heap.size+1+1) 0) _ v' (by show w.heap.size≠w.heap.size+1+1;omega)).trans (k0 h.p B3)
 .exact (heap_setCell_other y5 (jA (w.heap.size+1+1) 0) _ v' (by show w.heap.size+1≠w.heap.size+1+1;omega)).trans (k0 h.r B3)
 .exact zad (k0 h.q B3) 0 v'
 .rw[List.flatMap_append];simpa using ho'
 .rw[List.map_append,h.same,List.take_add_one,hx];rfl
 .have key:∀{v:Value} {l:List Int},IOwn w.heap.size y v l->IOwn w.heap.size (y5.setCell (jA (w.heap.size+1+1) 0) v') v l:=fun hv=>
   (hv.kept (w':=y5) hg.size fun g cur fr e=>hne e B3).kept B7 fun g cur fr e=>heap_setCell_other y5 (jA (w.heap.size+1+1) 0) g v' (by
    rintro rfl;have:=k0 h.q B3;rw[show ((jA (w.heap.size+1+1) 0):Addr).block=w.heap.size+1+1 from rfl,this] at e;cases e)
  by_cases hj:j<z.length
  .rw[List.getElem?_append_left hj] at hq;exact key (h.tab j q hq)
  .rw[List.getElem?_append_right B1] at hq;have:j-z.length=0:=by
    have:=(jl hq);simp at this;omega
   rw[this] at hq;cases hq;exact key hT
theorem TwL.row{w y y5:World}{iv cv qi:Value}{ins:List Ma.Ins}{n g cap:Nat}{z:List (Ma.Ins×Value)}{mk:List Value}(h:TwL w y iv cv qi ins n z)(hn:ins.length=n)(hg:y.grownBy y5 qi.ownBlock)(ho:y5.ownsRow w.heap.size TIN 6 (jP g 0 (n+1) cap) (n+1) (z.flatMap insC++mk)):
 n<=cap/\∀(j:Nat) (x:Ma.Ins),ins[j]?=some x->∃T,InsAt y5 g (j*6) x.op x.a x.b x.c x.d T/\IOwn w.heap.size y5 T x.T:=by
 refine ⟨by have:=zf5 ho;omega,fun j x hx=> ?_⟩;have hx':(z.map (·.1))[j]?=some x:=by rw[h.same,List.take_of_length_le B1];exact hx
 rw[List.getElem?_map] at hx';obtain ⟨q,hq,rfl⟩:=Option.map_eq_some_iff.1 hx';obtain ⟨cur,hgg,_,hlt⟩:=zen ho;have hC:∀(i:Nat) (u:Value),(insC q)[i]?=some u->y5.cell? (jA g (j*6+i))=some u:=fun i u hu=>by
  have h1:=zgc insC 6 zc8 z j i q u hq hu;have h2:=World.ownsRow.cells ho (g:=g) rfl (j*6+i) u B202;have hadd:((jA g 0):Addr).add (j*6+i)=(jA g (j*6+i)):=B16;rw[hadd] at h2;exact h2
 refine ⟨q.2,⟨hlt,hC 0 _ rfl,hC 1 _ rfl,hC 2 _ rfl,hC 3 _ rfl,hC 4 _ rfl,hC 5 _ rfl⟩,(h.tab j q hq).kept hg.size fun g' cur' fr e=>hg.block g' (jg e) fun e1=>own_ne h.o e B3 e1.symm⟩
structure TwM(w y:World)(iv cv cvq:Value)(ins:List Ma.Ins)(n g c:Nat):Prop where
 b:Below w.heap.size w y
 p:y.heap[w.heap.size]?=some (.cells #[iv,cv] TCD (0,0))
 r:y.heap[w.heap.size+1]?=some (.cells #[jZ,jZ] TCD (0,0))
 q:y.heap[w.heap.size+1+1]?=some (.cells #[jP g 0 n c,cvq] TCD (0,0))
 hg:∃cur fr,y.heap[g]?=some (.cells cur TIN fr)
 le:n<=c
 row:∀(j:Nat) (x:Ma.Ins),ins[j]?=some x->∃T,InsAt y g (j*6) x.op x.a x.b x.c x.d T/\IOwn w.heap.size y T x.T
def B168(h:jp:=by intro u hu;simp at hu;rcases hu with rfl|rfl|rfl <;> rfl):=h
def Bp92(h:jp:=by exact zad hM.r 0 (.slice (some ⟨g3,0,none⟩) k c3)):=h
def M106(h:jp:=by
 intro v6 y6 hown6 hgrow6 _;have hL7:=hL6.push hx hT6 hgrow6 hown6;obtain ⟨va,vc,rfl⟩:=za7 hown6;obtain ⟨r0,r1,rf,rl⟩:=zb8 (hL6.box hgrow6);go_wp2_with fail;go_roundw
 case rel=>exact ⟨k+1,_,_,by omega,by go_num,hL7⟩
 case measure=>simp[intOf] <;> omega):=h
def B153(h:jp:=by simp[World.cell?,hg]):=h
def Bp90(h:jp:=by exact zai (o:=Obj.cells #[jI 1,jI 1,jS ⟨#[]⟩] 41) ky):=h
theorem TwL.done{w y y5:World}{iv cv qi:Value}{ins:List Ma.Ins}{n g cap:Nat}{z:List (Ma.Ins×Value)}{mk:List Value}(h:TwL w y iv cv qi ins n z)(hn:ins.length=n)(hg:y.grownBy y5 qi.ownBlock)(ho:y5.ownsRow w.heap.size TIN 6 (jP g 0 (n+1) cap) (n+1) (z.flatMap insC++mk)):
 TwM w (y5.setCell (jA (w.heap.size+1+1) 0) (jP g 0 n cap)) iv cv jZ ins n g cap:=by
 obtain ⟨hle,hrow⟩:=h.row hn hg ho;have k0:∀{i:Nat} {c:Array Value} {e:TypeId} {f:Nat×Nat},y.heap[i]?=some (.cells c e f)->TIN≠e->y5.heap[i]?=some (.cells c e f):=fun {i c e f} hi he=>(hg.block i (jg hi) fun e1=>own_ne h.o hi he e1.symm).trans hi;have hq5:=k0 h.q B3;obtain ⟨cur,hgg,hgb,hgl⟩:=zen ho;have hb5:Below w.heap.size w y5:=h.b.grown hg h.b.size (fun j hj=>(h.o.lt j hj).1);have hne:g≠w.heap.size+1+1:=by
  rintro e;rw[e,hq5] at hgg;cases hgg
 refine ⟨hb5.setCell (p:=(jA (w.heap.size+1+1) 0)) B127 _,?_,?_,zad hq5 0 _,⟨cur,_,(heap_setCell_other y5 (jA (w.heap.size+1+1) 0) _ _ hne).trans hgg⟩,hle,fun j x hx=> ?_⟩
 .exact (heap_setCell_other y5 (jA (w.heap.size+1+1) 0) _ _ (by show w.heap.size≠w.heap.size+1+1;omega)).trans (k0 h.p B3)
 .exact (heap_setCell_other y5 (jA (w.heap.size+1+1) 0) _ _ (by show w.heap.size+1≠w.heap.size+1+1;omega)).trans (k0 h.r B3)
 .obtain ⟨T,h1,h2⟩:=hrow j x hx;refine ⟨T,h1.same B7 (heap_setCell_other y5 (jA (w.heap.size+1+1) 0) _ _ hne),h2.kept B7 fun g' cur' fr' e=>heap_setCell_other y5 (jA (w.heap.size+1+1) 0) _ _ ?_⟩;rintro rfl;rw[show ((jA (w.heap.size+1+1) 0):Addr).block=w.heap.size+1+1 from rfl,hq5] at e;cases e
theorem TwM.go{w y y':World}{iv cv cvq cvq':Value}{ins:List Ma.Ins}{n g c:Nat}(h:TwM w y iv cv cvq ins n g c)(hb:Below w.heap.size w y')(hs:y.heap.size<=y'.heap.size)(hk:∀(k:Nat) (cs:Array Value) (T:TypeId) (f:Nat×Nat),y.heap[k]?=some (.cells cs T f)->T≠TVL->k≠w.heap.size+1+1->y'.heap[k]?=y.heap[k]?)(hB:y'.heap[w.heap.size+1+1]?=some (.cells #[jP g 0 n c,cvq'] TCD (0,0))):TwM w y' iv cv cvq' ins n g c:=by
 obtain ⟨cur,fr,hg⟩:=h.hg;have hgn:g≠w.heap.size+1+1:=by
  rintro e;have:=h.q;rw[<-e,hg] at this;cases this
 have hg':=hk g cur TIN fr hg B3 hgn;refine ⟨hb,(hk _ _ _ _ h.p B3 B1).trans h.p,(hk _ _ _ _ h.r B3 B1).trans h.r,hB,⟨cur,fr,hg'.trans hg⟩,h.le,fun j x hx=> ?_⟩;obtain ⟨T,h1,h2⟩:=h.row j x hx;refine ⟨T,h1.same hs hg',h2.kept hs fun g' cur' fr' e=>hk g' cur' TIT fr' e B3 ?_⟩;rintro rfl;have:=h.q;rw[e] at this;cases this
theorem TwM.below{w y y':World}{iv cv cvq:Value}{ins:List Ma.Ins}{n g c:Nat}(h:TwM w y iv cv cvq ins n g c)(hb:Below y.heap.size y y'):TwM w y' iv cv cvq ins n g c:=
 h.go (jN h.b hb) hb.size (fun k cs T f e _ _=>hb.block k (jg e)) (jk hb h.q)
theorem TwM.grown{w y y':World}{iv cv cvq v:Value}{ins:List Ma.Ins}{n g c m:Nat}{xs:List Value}(h:TwM w y iv cv cvq ins n g c)(ho:y.ownsRow w.heap.size TVL 3 v m xs)(hg:y.grownBy y' v.ownBlock):TwM w y' iv cv cvq ins n g c:=
 have key:∀(k:Nat) (cs:Array Value) (T:TypeId) (f:Nat×Nat),y.heap[k]?=some (.cells cs T f)->T≠TVL->y'.heap[k]?=y.heap[k]?:=fun k cs T f e hT=>hg.block k (jg e) fun e1=>own_ne ho e (fun e=>hT e.symm) e1.symm
 h.go (h.b.grown hg h.b.size (fun j hj=>(ho.lt j hj).1)) hg.size (fun k cs T f e hT _=>key k cs T f e hT) ((key _ _ _ _ h.q B3).trans h.q)
theorem TwM.set{w y:World}{iv cv cvq v:Value}{ins:List Ma.Ins}{n g c:Nat}(h:TwM w y iv cv cvq ins n g c):TwM w (y.setCell (jA (w.heap.size+1+1) 1) v) iv cv v ins n g c:=
 h.go (h.b.setCell (p:=(jA (w.heap.size+1+1) 1)) B127 v) B7 (fun k cs T f e _ hne=>heap_setCell_other y (jA (w.heap.size+1+1) 1) k v hne) (zad h.q 1 v)
theorem TwM.fin{w y:World}{iv cv cvq a b:Value}{ins:List Ma.Ins}{n g c:Nat}(h:TwM w y iv cv cvq ins n g c)(hn:ins.length=n):InsRow ((y.setCell (jA (w.heap.size+1) 0) a).setCell (jA (w.heap.size+1) 1) b) (jP g 0 n c) ins/\Below w.heap.size w ((y.setCell (jA (w.heap.size+1) 0) a).setCell (jA (w.heap.size+1) 1) b):=by
 subst hn;obtain ⟨cur,fr,hg⟩:=h.hg;have hgn:g≠w.heap.size+1:=by
  rintro e;have:=h.r;rw[<-e,hg] at this;cases this
 have k0:∀k,k≠w.heap.size+1->((y.setCell (jA (w.heap.size+1) 0) a).setCell (jA (w.heap.size+1) 1) b).heap[k]?=y.heap[k]?:=fun k hk=>(heap_setCell_other _ (jA (w.heap.size+1) 1) k b hk).trans (heap_setCell_other y (jA (w.heap.size+1) 0) k a hk);refine ⟨.inr ⟨g,c,rfl,h.le,by have:=(jg hg);simpa using this,fun j x hx=> ?_⟩,(h.b.setCell (p:=(jA (w.heap.size+1) 0)) (Nat.le_succ _) a).setCell (p:=(jA (w.heap.size+1) 1)) (Nat.le_succ _) b⟩;obtain ⟨T,h1,h2⟩:=h.row j x hx;refine ⟨T,h1.same B7 (k0 g hgn),(h2.kept B7 fun g' cur' fr' e=>k0 g' ?_).1⟩;rintro rfl;have:=h.r;rw[e] at this;cases this
theorem con_row{y:World}{base m g c:Nat}{con:List Val.V}{mk:List Value}(ho:y.ownsRow base TVL 3 (jP g 0 (m+1) c) (m+1) (con.flatMap vC3++mk))(hm:con.length=m):ConRd y (jP g 0 m c) con:=by
 subst hm;obtain ⟨cur,hg,_,hl⟩:=zen ho;have hle:=zf5 ho;refine .inr ⟨g,c,rfl,by omega,hl,fun j x hx=> ?_⟩;have hC:∀(i:Nat) (u:Value),(vC3 x)[i]?=some u->y.cell? (jA g (j*3+i))=some u:=fun i u hu=>by
  have h1:=zgc vC3 3 zfs con j i x u hx hu;have h2:=World.ownsRow.cells ho (g:=g) rfl (j*3+i) u B202;have hadd:((jA g 0):Addr).add (j*3+i)=(jA g (j*3+i)):=B16;rw[hadd] at h2;exact h2
 exact ⟨hC 0 _ rfl,hC 1 _ rfl,hC 2 _ rfl⟩
theorem zb8{w:World}{A:Nat}{a b:Value}{T:TypeId}(k:w.heap[A]?=some (.cells #[a,b] T (0,0))):w.cell? (jA A 0)=some a/\w.cell? (jA A 1)=some b/\(∀j,w.frozen? (jA A j)=false)/\A<w.heap.size:=
 ⟨by simp[World.cell?,k],by simp[World.cell?,k],fun j=>by simp[World.frozen?,k],(jg k)⟩
theorem tw_start(w:World)(iv cv:Value)(ins:List Ma.Ins):TwL w (((w.alloc (Obj.cells #[iv,cv] TCD)).alloc (Obj.cells #[jZ,jZ] TCD)).alloc (Obj.cells #[jZ,jZ] TCD)) iv cv jZ ins 0 []:=by
 have h1:=below1 w (Obj.cells #[iv,cv] TCD);have h2:=below1 (w.alloc (Obj.cells #[iv,cv] TCD)) (Obj.cells #[jZ,jZ] TCD);have h3:=below1 ((w.alloc (Obj.cells #[iv,cv] TCD)).alloc (Obj.cells #[jZ,jZ] TCD)) (Obj.cells #[jZ,jZ] TCD);have h23:=jN h2 h3;refine ⟨jN h1 h23,(h23.block w.heap.size B7).trans Bp34,(h3.block (w.heap.size+1) B7).trans ?_,?_,World.ownsRow_nil _ _ _ _,rfl,fun j q h=>by simp at h⟩
 .have:=heap_alloc_new (w.alloc (Obj.cells #[iv,cv] TCD)) (Obj.cells #[jZ,jZ] TCD)
  rwa [show (w.alloc (Obj.cells #[iv,cv] TCD)).heap.size=w.heap.size+1 by simp] at this
 .have:=heap_alloc_new ((w.alloc (Obj.cells #[iv,cv] TCD)).alloc (Obj.cells #[jZ,jZ] TCD)) (Obj.cells #[jZ,jZ] TCD)
  rwa [show ((w.alloc (Obj.cells #[iv,cv] TCD)).alloc (Obj.cells #[jZ,jZ] TCD)).heap.size=w.heap.size+1+1 by simp] at this
theorem twin_any(w:World)(iv cv:Value)(p:Ma.Code)(hI:InsCome w iv p.ins)(hC:ConCome w cv p.con)(b:p.ins.length+p.con.length+Ma.longT p.ins<=20000):
 Calls prog 7 #[.agg #[iv,cv]] w fun e w'=>∃iv' cv',e=jr (.agg #[iv',cv'])/\InsRow w' iv' p.ins/\ConRd w' cv' p.con/\Below w.heap.size w w':=by
 obtain ⟨ins,con⟩:=p;simp only at *;obtain ⟨ia,ic,rfl,HI⟩:=hI;have HI:=jH HI;obtain ⟨ca,cc,rfl⟩:=hC.len;obtain ⟨n,hnl⟩:∃n,ins.length=n:=⟨_,rfl⟩;obtain ⟨m,hml⟩:∃m,con.length=m:=⟨_,rfl⟩;have b1:n<=20000:=B1;have b2:m<=20000:=B1;have HTl:=jH fun (k:Nat) (x:Ma.Ins) (hx:ins[k]?=some x)=>(show x.T.length<=20000 from by have:=zfd ins k x hx;omega);rw[hnl];rw[hml] at hC;rw[hml];have hnl:=jH hnl;have hml:=jH hml;have HC:=jH hC;clear hC b;obtain ⟨i6,hi6,hz60,hz61,hz62⟩:=info_parts zpy;obtain ⟨i1,hi1,hz10,hz11,hz12⟩:=info_parts zpx;obtain ⟨i3,hi3,hz30,hz31,hz32⟩:=info_parts zpw;go_enter func7,ntmps7;go_upto_region 2 with fail;have hL0:TwL w (((w.alloc (Obj.cells #[.slice ia n ic,.slice ca m cc] TCD)).alloc (Obj.cells #[jZ,jZ] TCD)).alloc (Obj.cells #[jZ,jZ] TCD)) (.slice ia n ic) (.slice ca m cc) jZ ins 0 []:=tw_start w _ _ _;generalize World.alloc (World.alloc (World.alloc _ _) _) _=W0 at *;go_wp2_with fail;go_loopw [4] (fun i wr=>∃(k:Nat) (qi:Value) (z:List (Ma.Ins×Value)),k<=n/\i=jI (k:Int)/\TwL w wr (.slice ia n ic) (.slice ca m cc) qi ins k z) (fun i _=>n-(intOf i).toNat)
 case atStart=>exact ⟨0,_,[],Nat.zero_le _,rfl,hL0⟩
 case round=>
  obtain ⟨k,qi,z,hk,rfl,hL⟩:=hrel;rename World=>wr
  obtain ⟨p0,p1,pf,pl⟩:=zb8 hL.p
  by_cases hlt:k<n
  .have t0:decide ((k:Int)<(n:Int))=true:=by simp;exact hlt
   obtain ⟨x,hx⟩:∃x,ins[k]?=some x:=⟨_,List.getElem?_eq_getElem (by rw[hnl.out];exact hlt)⟩;have hTl:=HTl.out k x hx;obtain ⟨g,o,T,ei,hA,hTb⟩:=HI.out k x hx;subst ei;have hA':=hA.below hA.lt hL.b;have hTb':=hTb.below hL.b;clear hA hTb;obtain ⟨hAl,y0,y1,y2,y3,y4,y5⟩:=hA';rcases hTb' with ⟨rfl,hT0⟩|⟨ad,tc,rfl,hTc⟩
   .go_upto_region 6 with fail;have kX:=heap_alloc_new wr (Obj.cells #[jI x.op,jI x.a,jI x.b,jI x.c,jI x.d,jZ] TIN);have hLy:=hL.below (below1 wr (Obj.cells #[jI x.op,jI x.a,jI x.b,jI x.c,jI x.d,jZ] TIN));have hT2:IOwn w.heap.size (wr.alloc (Obj.cells #[jI x.op,jI x.a,jI x.b,jI x.c,jI x.d,jZ] TIN)) jZ x.T:=by rw[hT0];exact IOwn.nil _ _
    clear y0 y1 y2 y3 y4 y5 hAl p0 p1 pf pl hL;generalize wr.alloc (Obj.cells #[jI x.op,jI x.a,jI x.b,jI x.c,jI x.d,jZ] TIN)=y at *;generalize wr.heap.size=X at *;have hnil:∀(w:World),(binOp .neq 50 jZ jZ).run prog w= .ok (.bool false) w:=fun _=>by kernel_rfl
    obtain ⟨x0,x1,x2,x3,x4,x5,xf,xl⟩:=box6 kX;go_upto_region 10 with fail;clear x0 x1 x2 x3 x4 x5 xf xl;obtain ⟨x0,x1,x2,x3,x4,x5,xf,xl⟩:=box6 kX;obtain ⟨qa,qc,rfl⟩:=za7 hLy.o;obtain ⟨q0,q1,qf,ql⟩:=zb8 hLy.q;have hb6:=below1 y (Obj.cells (insC (x,jZ)).toArray TIN);have hL6:=hLy.below hb6;have hT6:=hT2.below hb6;have hsz6:=hL6.b.size;go_wp2_with (first|(at_builtin;refine wpList_append_own _ rfl _ _ 22 rfl w.heap.size TIN i6 _ 6 64 underlying22 hi6 hz60 hz61 hz62 rfl B3 _ _ _ rfl hL6.o (jA y.heap.size 0) 1 1 (insC (x,jZ)) rfl rfl news_new (insC_one (q:=(x,jZ)) rfl) ?e3a ?e4a ?e5a ?_)|fail)
    case e3a=>unfold maxLen;omega
    case e4a=>omega
    case e5a=>exact hsz6
    exact M106
   .go_upto_region 6 with fail;have kX:=heap_alloc_new wr (Obj.cells #[jI x.op,jI x.a,jI x.b,jI x.c,jI x.d,.slice (some ad) x.T.length tc] TIN);have hbx:=below1 wr (Obj.cells #[jI x.op,jI x.a,jI x.b,jI x.c,jI x.d,.slice (some ad) x.T.length tc] TIN);have hLy:=hL.below hbx;have y5:=jQ hbx y5 hAl;have hAl2:=jL hAl hbx.size;clear hAl;have hnews:∀(j:Nat) (u:Value),(x.T.map (Value.int .i64))[j]?=some u->(wr.alloc (Obj.cells #[jI x.op,jI x.a,jI x.b,jI x.c,jI x.d,.slice (some ad) x.T.length tc] TIN)).cell? (ad.add j)=some u:=fun j u hu=>by
     rw[List.getElem?_map] at hu;obtain ⟨v,hv,rfl⟩:=Option.map_eq_some_iff.1 hu;have:=hTc j v hv;exact (hbx.cell (World.block_lt_of_cell? wr _ this)).trans this
    have hone:∀u∈x.T.map (Value.int .i64),u.oneCell'=true:=fun u hu=>by
     obtain ⟨v,_,rfl⟩:=List.mem_map.1 hu;rfl
    have hlm:(x.T.map (Value.int .i64)).length=x.T.length*1:=B7;have hXo:qi.ownBlock≠some wr.heap.size:=fun e=>absurd (hL.o.lt _ e).2 (Nat.lt_irrefl _);have hXw:=hL.b.size;clear y0 y1 y2 y3 y4 p0 p1 pf pl hL hbx hTc;generalize wr.alloc (Obj.cells #[jI x.op,jI x.a,jI x.b,jI x.c,jI x.d,.slice (some ad) x.T.length tc] TIN)=y at *;generalize wr.heap.size=X at *;obtain ⟨tl,htl⟩:∃t,x.T.length=t:=⟨_,rfl⟩;rw[htl] at kX hTl y5 hlm
    try rw[htl]
    have HTL:=jH htl;have Hlm:=jH hlm;clear htl hlm;have hnil:∀(a:Addr) (n c:Nat) (w:World),(binOp .neq 50 (.slice (some a) n c) jZ).run prog w= .ok (.bool true) w:=fun _ _ _ _=>by kernel_rfl
    obtain ⟨x0,x1,x2,x3,x4,x5,xf,xl⟩:=box6 kX;have e3:0+tl<=maxLen:=B53;have e4:(0+tl)*8<=140737488355328:=B1;have g3:tl+1<=maxLen:=B53;have g4:(tl+1)*8<=140737488355328:=B1;go_wp2_with (first|(at_builtin;refine wpList_append_own _ rfl _ _ 50 rfl y.heap.size TIT i1 _ 1 8 underlying50 hi1 hz10 hz11 hz12 rfl B3 _ 0 [] rfl Bp27 ad tl tc (x.T.map (Value.int .i64)) rfl Hlm.out hnews hone e3 e4 jE ?_)|fail);intro v1 y1 hown1 hgrow1 _;have hb1:Below y.heap.size y y1:=zrw hgrow1 jE
    try rw[Nat.zero_add] at hown1
    try rw[List.nil_append] at hown1
    have hb2:=below1 y1 (Obj.cells #[jI (-7)] TIT);have hown1':=own_bel hown1 hb2;obtain ⟨_,_,rfl⟩:=za7 hown1;clear hnews hone hgrow1 x0 x1 x2 x3 x4 x5 xf xl;go_wp2_with (first|(at_builtin;refine wpList_append_own _ rfl _ _ 50 rfl y.heap.size TIT i1 _ 1 8 underlying50 hi1 hz10 hz11 hz12 rfl B3 _ _ _ rfl hown1' (jA y1.heap.size 0) 1 1 [jI (-7)] rfl rfl news_new (by intro u hu;simp at hu;rw[hu];rfl) g3 g4 (jR hb1.size hb2.size) ?_)|fail);intro v2 y2 hown2 hgrow2 _;have hbY:Below y.heap.size y y2:=(jN hb1 hb2).grown hgrow2 (jR hb1.size hb2.size) (fun j hj=>(hown1'.lt j hj).1);obtain ⟨g2,c2,rfl⟩:=zhf hown2 (Nat.succ_pos _);have hc2:tl+1<=c2:=zf5 hown2;have hT2:IOwn w.heap.size y2 (jP g2 0 tl c2) x.T:=iown_own hown2 hLy.b.size (Nat.le_succ _) HTL.out.symm (by rw[List.take_left' (by rw[Hlm.out,Nat.mul_one])]);have kX2:=(hbY.block X (jg kX)).trans kX;have hL2:=hLy.below hbY;have y5:=jQ hbY y5 hAl2;have hAl:=jL hAl2 hbY.size;have hLy:=hL2.setX (j:=5) (v:=jP g2 0 tl c2) kX2 hXo hXw;have hT2:=hT2.setX (j:=5) (v:=jP g2 0 tl c2) kX2;have kX:(y2.setCell (jA X 5) (jP g2 0 tl c2)).heap[X]?=some (.cells #[jI x.op,jI x.a,jI x.b,jI x.c,jI x.d,jP g2 0 tl c2] TIN (0,0)):=zad kX2 5 _;obtain ⟨x0,x1,x2,x3,x4,x5,xf,xl⟩:=box6 kX2;obtain ⟨p0,p1,pf,pl⟩:=zb8 hL2.p;clear hown2 hgrow2 hbY hown1 hown1' hb1 hb2 kX2 hL2;go_upto_region 10 with fail;clear x0 x1 x2 x3 x4 x5 xf xl p0 p1 pf pl y5 hAl hAl2;generalize y2.setCell (jA X 5) (jP g2 0 tl c2)=y at *;obtain ⟨x0,x1,x2,x3,x4,x5,xf,xl⟩:=box6 kX;obtain ⟨qa,qc,rfl⟩:=za7 hLy.o;obtain ⟨q0,q1,qf,ql⟩:=zb8 hLy.q;have hb6:=below1 y (Obj.cells (insC (x,jP g2 0 tl c2)).toArray TIN);have hL6:=hLy.below hb6;have hT6:=hT2.below hb6;have hsz6:=hL6.b.size;go_wp2_with (first|(at_builtin;refine wpList_append_own _ rfl _ _ 22 rfl w.heap.size TIN i6 _ 6 64 underlying22 hi6 hz60 hz61 hz62 rfl B3 _ _ _ rfl hL6.o (jA y.heap.size 0) 1 1 (insC (x,jP g2 0 tl c2)) rfl rfl news_new (insC_one (q:=(x,jP g2 0 tl c2)) rfl) ?e3b ?e4b ?e5b ?_)|fail)
    case e3b=>unfold maxLen;omega
    case e4b=>omega
    case e5b=>exact hsz6
    exact M106
  .obtain rfl:k=n:=by omega
   have t0:decide ((k:Int)<(k:Int))=false:=B7;go_upto_region 11 with fail;go_cut [44] (fun _ wx=>∃g3 c3,TwM w wx (.slice ia k ic) (.slice ca m cc) jZ ins k g3 c3)
   case first=>
    have hLd:=hL.below (jB.drew:Below wr.heap.size wr wr.drew);have hLA:=fun o=>(hL.below (below1 wr o)).below (jB.drew:Below (wr.alloc o).heap.size (wr.alloc o) (wr.alloc o).drew);have hLa:=hLA (Obj.cells #[jI (-7),jI 0,jI 0,jI 0,jI 0,jZ] TIN);obtain ⟨qa,qc,rfl⟩:=za7 hLa.o;obtain ⟨v3,y3,hrun,hown3,hgrow3,_⟩:=run_append_own (P:=prog) (wr.alloc (Obj.cells #[jI (-7),jI 0,jI 0,jI 0,jI 0,.slice none 0 0] TIN)).drew w.heap.size 22 22 TIN i6 _ 6 64 underlying22 hi6 hz60 hz61 hz62 rfl B3 _ _ _ hLa.o ⟨wr.heap.size,0,none⟩ 1 1 [jI (-7),jI 0,jI 0,jI 0,jI 0,.slice none 0 0] rfl (fun j u h=>news_new (w:=wr) j u h) B168 B53 B1 hLa.b.size;obtain ⟨g3,c3,rfl⟩:=zhf hown3 (Nat.succ_pos _);have hM:=hLa.done hnl.out hgrow3 hown3;have hc3:=hM.le;have hc4:=zf5 hown3;obtain ⟨q0,q1,qf,ql⟩:=zb8 hLd.q;obtain ⟨p0,p1,pf,pl⟩:=zb8 hLd.p;have q0a:=fun o=>(zb8 (hLA o).q).1;have p0a:=fun o=>(zb8 (hLA o).p).1;obtain ⟨r0,r1,rf,rl⟩:=zb8 (hLa.box hgrow3);have p0b:y3.cell? (jA w.heap.size 0)=some (.slice ia k ic):=(zag ((hgrow3.block _ (jg hLa.p) fun e1=>own_ne hLa.o hLa.p B3 e1.symm))).trans (zb8 hLa.p).1;have HR:=jH hrun;clear hL hLd hLa hLA hrun hown3 hgrow3;go_region_law (refine zcn rfl (.tmp 45) (.tmp 47) 22 22 rfl _ _ rfl rfl _ _ HR.out ?_)
    all_goals
     go_wp2_with fail;go_meet;exact ⟨_,_,hM⟩
   case rest=>
   obtain ⟨g3,c3,hM⟩:=hcut;clear hL;rename World=>y
   go_upto_region 12 with fail;go_cut [54] (fun _ wx=>∃v4,TwM w wx (.slice ia k ic) (.slice ca m cc) v4 ins k g3 c3/\wx.ownsRow w.heap.size TVL 3 v4 m (con.flatMap vC3))
   case first=>
    obtain ⟨q0,q1,qf,ql⟩:=zb8 hM.q;obtain ⟨p0,p1,pf,pl⟩:=zb8 hM.p;have hcm:=hml.out;rcases HC.out with ⟨e,hc0⟩|⟨ad,cx,e,hcc⟩
    .cases e;go_wp2_with (first|(at_builtin;refine wpList_append_own_none rfl _ _ 23 rfl w.heap.size TVL i3 3 underlying23 hi3 _ _ _ rfl Bp27 rfl ?_)|fail);go_meet;exact ⟨_,hM.set,by rw[hc0];exact World.ownsRow_nil _ _ _ _⟩
    .rw[hcm] at e;cases e;have hcy:ConCome y (.slice (some ad) con.length cc) con:=ConCome.below (.inr ⟨ad,cc,rfl,hcc⟩) hM.b;have hone:∀u∈con.flatMap vC3,u.oneCell'=true:=fun u hu=>by
      obtain ⟨q,hq,hx⟩:=List.mem_flatMap.1 hu;exact M203
     have hfl:(con.flatMap vC3).length=m*3:=by rw[zhk vC3 3 zfs,hcm]
     have e3:0+m<=maxLen:=B53;have e4:(0+m)*32<=140737488355328:=B1;have hnw:=hcy.news;have Hfl:=jH hfl;clear hcm hfl hcc hcy;go_wp2_with (first|(at_builtin;refine wpList_append_own _ rfl _ _ 23 rfl w.heap.size TVL i3 _ 3 32 underlying23 hi3 hz30 hz31 hz32 rfl B3 _ 0 [] rfl Bp27 ad m cc (con.flatMap vC3) rfl Hfl.out hnw hone e3 e4 hM.b.size ?_)|fail);intro v5 y5 hown5 hgrow5 _
     try rw[Nat.zero_add] at hown5
     try rw[List.nil_append] at hown5
     have hM5:=hM.grown (v:=jZ) (m:=0) (xs:=[]) Bp27 hgrow5;obtain ⟨va,vc,rfl⟩:=za7 hown5;obtain ⟨r0,r1,rf,rl⟩:=zb8 hM5.q;go_wp2_with fail;go_meet;exact ⟨_,hM5.set,ownsRow_setCell_other hown5 (a:=(jA (w.heap.size+1+1) 1)) (own_ne hown5 hM5.q B3) _⟩
   case rest=>
   obtain ⟨v4,hM,hown4⟩:=hcut;rename World=>y
   go_upto_region 13 with fail;go_cut [60] (fun _ wx=>∃g5 c5,TwM w wx (.slice ia k ic) (.slice ca m cc) (jP g5 0 m c5) ins k g3 c3/\wx.ownsRow w.heap.size TVL 3 (jP g5 0 (m+1) c5) (m+1) (con.flatMap vC3++ [jI (-7),jI 0,jS ⟨#[]⟩]))
   case first=>
    have hMd:=hM.below (jB.drew:Below y.heap.size y y.drew);have hMA:=fun o=>(hM.below (below1 y o)).below (jB.drew:Below (y.alloc o).heap.size (y.alloc o) (y.alloc o).drew);have hMa:=hMA (Obj.cells #[jI (-7),jI 0,jS ⟨#[]⟩] TVL);have hown4a:=own_bel (own_bel hown4 (below1 y (Obj.cells #[jI (-7),jI 0,jS ⟨#[]⟩] TVL))) (jB.drew:Below (y.alloc (Obj.cells #[jI (-7),jI 0,jS ⟨#[]⟩] TVL)).heap.size _ _);obtain ⟨qa,qc,rfl⟩:=za7 hown4;obtain ⟨v3,y3,hrun,hown3,hgrow3,_⟩:=run_append_own (P:=prog) (y.alloc (Obj.cells #[jI (-7),jI 0,jS ⟨#[]⟩] TVL)).drew w.heap.size 23 23 TVL i3 _ 3 32 underlying23 hi3 hz30 hz31 hz32 rfl B3 _ _ _ hown4a ⟨y.heap.size,0,none⟩ 1 1 [jI (-7),jI 0,jS ⟨#[]⟩] rfl (fun j u h=>news_new (w:=y) j u h) B168 B53 B1 hMa.b.size;obtain ⟨g5,c5,rfl⟩:=zhf hown3 (Nat.succ_pos _);have hM6:=hMa.grown hown4a hgrow3;have hc3:=zf5 hown3;have hc6:m<=c5:=Nat.le_of_succ_le hc3;have hM7:=hM6.set (v:=jP g5 0 m c5);have hown7:=ownsRow_setCell_other hown3 (a:=(jA (w.heap.size+1+1) 1)) (own_ne hown3 hM6.q B3) (jP g5 0 m c5);obtain ⟨q0,q1,qf,ql⟩:=zb8 hMd.q;obtain ⟨p0,p1,pf,pl⟩:=zb8 hMd.p;have q1a:=fun o=>(zb8 (hMA o).q).2.1;have p1a:=fun o=>(zb8 (hMA o).p).2.1;obtain ⟨r0,r1,rf,rl⟩:=zb8 hM6.q;have p1b:=(zb8 hM6.p).2.1;have HR:=jH hrun;clear hM hMd hMa hMA hrun hown3 hgrow3 hown4 hown4a hM6 q0 p0 r0;go_region_law (refine zcn rfl (.tmp 61) (.tmp 63) 23 23 rfl _ _ rfl rfl _ _ HR.out ?_)
    all_goals
     go_wp2_with fail;go_meet;exact ⟨_,_,hM7,hown7⟩
   case rest=>
   obtain ⟨g5,c5,hM,hown⟩:=hcut;rename World=>y
   obtain ⟨q0,q1,qf,ql⟩:=zb8 hM.q;obtain ⟨r0,r1,rf,rl⟩:=zb8 hM.r;obtain ⟨hI9,hb9⟩:=hM.fin (a:= .slice (some ⟨g3,0,none⟩) k c3) (b:= .slice (some ⟨g5,0,none⟩) m c5) hnl.out;have hC9:=con_row (ownsRow_setCell_other (ownsRow_setCell_other hown (a:=(jA (w.heap.size+1) 0)) (own_ne hown hM.r B3) (jP g3 0 k c3)) (a:=(jA (w.heap.size+1) 1)) (own_ne (ownsRow_setCell_other hown (a:=(jA (w.heap.size+1) 0)) (own_ne hown hM.r B3) (jP g3 0 k c3)) (zad hM.r 0 _) B3) (jP g5 0 m c5)) hml.out;obtain ⟨s0,s1,sf,sl⟩:=zb8 (zad Bp92 1 (.slice (some ⟨g5,0,none⟩) m c5));obtain ⟨e0,e1,ef,el⟩:=zb8 Bp92;clear hM hown;go_wp2_with fail;exact jX (.agg #[jP g3 0 k c3,jP g5 0 m c5]) (by simp[results,results7,go_sem,s0,s1,e0]) ⟨_,_,rfl,hI9,hC9,hb9⟩
theorem zfb(x:Int)(w:World):Ret 13 #[jI x] w (vv3 ⟨1,x,⟨#[]⟩⟩):=by
 go_enter func13,ntmps13;go_wp2_with fail;exact jX (vv3 ⟨1,x,⟨#[]⟩⟩) (by simp[results,results13,go_sem]) ⟨rfl,below1 w _⟩
theorem zug{w:World}{g q:Nat}(hg:w.heap[g]?=some (.cells #[jI 2,jI 0,jI 0,jI 0,jI 0,jZ,jI 7,jI 4,jI 0,jI 0,jI 0,jZ,jI 1,jI 0,jI 0,jI 0,jI 0,jZ,jI 5,jI 4,jI 0,jI 0,jI 0,jZ] 52 (0,0)))(hq:w.heap[q]?=some (.cells #[jI 1,jI 1,jS ⟨#[]⟩] 41 (0,0))):InsRow w (jP g 0 4 4) plusP.ins/\ConRd w (jP q 0 1 1) plusP.con:=by
 have lg:=(jg hg);have lq:=(jg hq);refine ⟨.inr ⟨g,4,rfl,jE,lg,fun j x hx=> ?_⟩,.inr ⟨q,1,rfl,jE,lq,fun j x hx=> ?_⟩⟩
 .have hj:j<4:=(jl hx)
  match j,hj,hx with
  |0,_,hx=>cases hx;exact ⟨_,⟨lg,by simp[World.cell?,hg],by simp[World.cell?,hg],by simp[World.cell?,hg],by simp[World.cell?,hg],by simp[World.cell?,hg],B153⟩,.inl ⟨rfl,rfl⟩⟩
  |1,_,hx=>cases hx;exact ⟨_,⟨lg,by simp[World.cell?,hg],by simp[World.cell?,hg],by simp[World.cell?,hg],by simp[World.cell?,hg],by simp[World.cell?,hg],B153⟩,.inl ⟨rfl,rfl⟩⟩
  |2,_,hx=>cases hx;exact ⟨_,⟨lg,by simp[World.cell?,hg],by simp[World.cell?,hg],by simp[World.cell?,hg],by simp[World.cell?,hg],by simp[World.cell?,hg],B153⟩,.inl ⟨rfl,rfl⟩⟩
  |3,_,hx=>cases hx;exact ⟨_,⟨lg,by simp[World.cell?,hg],by simp[World.cell?,hg],by simp[World.cell?,hg],by simp[World.cell?,hg],by simp[World.cell?,hg],B153⟩,.inl ⟨rfl,rfl⟩⟩
 .have hj:j<1:=(jl hx)
  match j,hj,hx with
  |0,_,hx=>cases hx;exact ⟨by simp[World.cell?,hq],by simp[World.cell?,hq],by simp[World.cell?,hq]⟩
theorem plus_any(w:World):Calls prog 15 #[] w fun e w'=>∃iv cv,e=jr (.agg #[iv,cv])/\InsRow w' iv plusP.ins/\ConRd w' cv plusP.con/\Below w.heap.size w w':=by
 have HN:=jH fun u=>zfb 1 u;go_enter func15,ntmps15;go_wp2_with fail;refine jM (HN.out _) ?_;intro w1 hb1;have hb:=(below1 w (Obj.cells #[jZ,jZ] 25)).trans Bp58;have kr:=(hb1.block w.heap.size B7).trans Bp34;have r0:=ch kr 0;have r1:=ch kr 1;have rf:=fun j=>frozen_of_row _ _ j _ _ kr;have rl:=(jg kr);simp at r0 r1;go_wp2_with fail;have ky:=zad (zad kr 0 (jP (w1.heap.size+1) 0 4 4)) 1 (jP w1.heap.size 0 1 1);have hby:=(hb.setCell (p:=(jA w.heap.size 0)) jE (jP (w1.heap.size+1) 0 4 4)).setCell (p:=(jA w.heap.size 1)) jE (jP w1.heap.size 0 1 1);have hsy:((w1.setCell (jA w.heap.size 0) (jP (w1.heap.size+1) 0 4 4)).setCell (jA w.heap.size 1) (jP w1.heap.size 0 1 1)).heap.size=w1.heap.size:=B7;obtain ⟨e0,e1,ef,el⟩:=box2 (zad kr 0 (.slice (some ⟨w1.heap.size+1,0,none⟩) 4 4));clear r0 r1 rf;generalize hY:(w1.setCell (jA w.heap.size 0) (jP (w1.heap.size+1) 0 4 4)).setCell (jA w.heap.size 1) (jP w1.heap.size 0 1 1)=y at *;have a1:=below1 y (Obj.cells #[jI 1,jI 1,jS ⟨#[]⟩] 41);have a2:=below1 (y.alloc (Obj.cells #[jI 1,jI 1,jS ⟨#[]⟩] 41)) (Obj.cells #[jI 2,jI 0,jI 0,jI 0,jI 0,jZ,jI 7,jI 4,jI 0,jI 0,jI 0,jZ,jI 1,jI 0,jI 0,jI 0,jI 0,jZ,jI 5,jI 4,jI 0,jI 0,jI 0,jZ] 52);have hg:((y.alloc (Obj.cells #[jI 1,jI 1,jS ⟨#[]⟩] 41)).alloc (Obj.cells #[jI 2,jI 0,jI 0,jI 0,jI 0,jZ,jI 7,jI 4,jI 0,jI 0,jI 0,jZ,jI 1,jI 0,jI 0,jI 0,jI 0,jZ,jI 5,jI 4,jI 0,jI 0,jI 0,jZ] 52)).heap[w1.heap.size+1]?=some (.cells #[jI 2,jI 0,jI 0,jI 0,jI 0,jZ,jI 7,jI 4,jI 0,jI 0,jI 0,jZ,jI 1,jI 0,jI 0,jI 0,jI 0,jZ,jI 5,jI 4,jI 0,jI 0,jI 0,jZ] 52 (0,0)):=by
  have:=heap_alloc_new (y.alloc (Obj.cells #[jI 1,jI 1,jS ⟨#[]⟩] 41)) (Obj.cells #[jI 2,jI 0,jI 0,jI 0,jI 0,jZ,jI 7,jI 4,jI 0,jI 0,jI 0,jZ,jI 1,jI 0,jI 0,jI 0,jI 0,jZ,jI 5,jI 4,jI 0,jI 0,jI 0,jZ] 52)
  rwa [show (y.alloc (Obj.cells #[jI 1,jI 1,jS ⟨#[]⟩] 41)).heap.size=w1.heap.size+1 by simp[hsy]] at this
 have hq:=(a2.block w1.heap.size (by simp[hsy])).trans (show (y.alloc (Obj.cells #[jI 1,jI 1,jS ⟨#[]⟩] 41)).heap[w1.heap.size]?=some (.cells #[jI 1,jI 1,jS ⟨#[]⟩] 41 (0,0)) by have:=heap_alloc_new y (Obj.cells #[jI 1,jI 1,jS ⟨#[]⟩] 41);rwa [hsy] at this);obtain ⟨h1,h2⟩:=zug hg hq;have hbW:=hby.trans ((jN a1 a2).mono hby.size);obtain ⟨z0,z1,_,_⟩:=box2 (zai (o:=Obj.cells #[jI 2,jI 0,jI 0,jI 0,jI 0,.slice none 0 0,jI 7,jI 4,jI 0,jI 0,jI 0,.slice none 0 0,jI 1,jI 0,jI 0,jI 0,jI 0,.slice none 0 0,jI 5,jI 4,jI 0,jI 0,jI 0,.slice none 0 0] 52) Bp90);obtain ⟨x0,x1,_,_⟩:=box2 Bp90;obtain ⟨y0,y1,_,_⟩:=box2 ky;refine jX (.agg #[jP (w1.heap.size+1) 0 4 4,jP w1.heap.size 0 1 1]) ?_ ⟨_,_,rfl,h1,h2,hbW⟩;clear hg hq h1 h2 hbW hY a1 a2 ky hby;simp[results,results15,go_sem,z0,z1]
