import Derived.Laws.EntriesVeiled
import Derived.OwnWalkIn
import Derived.Test.YtoffmfgaohjjpaaGreatDoorQ00
set_option linter.unusedVariables false
set_option linter.unusedSectionVars false
set_option linter.unusedSimpArgs false
open Go.Proofs.Tryz
set_option maxHeartbeats 8000000
variable{jp:Sort _}
set_option maxRecDepth 100000
namespace Go.Proofs.YtoffmfgaohjjpaaGreatDoor
section
open Go.RowKit Go.MapKept
open Go.ChangeMaps (setBlock)
def mkE:List (Int×Value)->Nat->List MapEntry
 |[],_=> []
 |p::r,i=>{key:= .int .i64 p.1,val:=p.2,born:=i}::mkE r (i+1)
theorem zjo:∀(L:List (Int×Value)) (i:Nat),(mkE L i).length=L.length
 |[],_=>rfl
 |p::r,i=>by simp[mkE,zjo r]
theorem zfc(k:Int)(v:Value):∀(L:List (Int×Value)) (i:Nat),mkE (L++ [(k,v)]) i=mkE L i++ [{key:=jI k,val:=v,born:=i+L.length}]
 |[],i=>by simp[mkE]
 |p::r,i=>by simp[mkE,zfc k v r (i+1)];omega
theorem zhh:∀(L:List (Int×Value)) (i j:Nat) (k:Int),(∀p∈L,p.1≠k)->Instr.findNow (.int .i64) (jI k) (mkE L i) j=some none
 |[],_,_,_,_=>rfl
 |p::r,i,j,k,h=>by
  have h1:¬k=p.1:=fun e=>h p (.head _) e.symm;have h2:=zhh r (i+1) (j+1) k (fun q hq=>h q (.tail _ hq));obtain ⟨b,hb,hiff⟩:=sameNow_of_keys (d:= .int .i64) (a:=jI k) (b:=jI p.1) rfl rfl;cases b with
  |true=>exact absurd (by have:=hiff.1 rfl;simpa using this) h1
  |false=>simp[mkE,Instr.findNow,hb,h2]
theorem znt:∀(L:List (Int×Value)) (i j:Nat) (k:Int) (x:Value),(∃L1 L2,L=L1++(k,x)::L2/\∀p∈L1,p.1≠k)->∃n,Instr.findNow (.int .i64) (jI k) (mkE L i) j=some (some (n,x))
 |L,i,j,k,x,⟨[],L2,e,h⟩=>by
  subst e;obtain ⟨b,hb,hiff⟩:=sameNow_of_keys (d:= .int .i64) (a:=jI k) (b:=jI k) rfl rfl;cases b with
  |true=>exact ⟨j,by simp[mkE,Instr.findNow,hb]⟩
  |false=>exact absurd (hiff.2 rfl) B7
 |L,i,j,k,x,⟨p::L1,L2,e,h⟩=>by
  subst e;have h1:¬k=p.1:=fun e=>h p (.head _) e.symm;obtain ⟨n,hn⟩:=znt (L1++(k,x)::L2) (i+1) (j+1) k x ⟨L1,L2,rfl,fun q hq=>h q (.tail _ hq)⟩;obtain ⟨b,hb,hiff⟩:=sameNow_of_keys (d:= .int .i64) (a:=jI k) (b:=jI p.1) rfl rfl;cases b with
  |true=>exact absurd (by have:=hiff.1 rfl;simpa using this) h1
  |false=>exact ⟨n,by simp[mkE,Instr.findNow,hb,hn]⟩
theorem zkl:∀(L:List (Int×Value)) (k:Int),k∈L.map (·.1)->∃x L1 L2,L=L1++(k,x)::L2/\∀p∈L1,p.1≠k
 |[],_,h=>by simp at h
 |p::r,k,h=>by
  by_cases e:p.1=k
  .exact ⟨p.2,[],r,by subst e;rfl,B7⟩
  .have h2:k∈r.map (·.1):=by
    rcases List.mem_cons.1 h with h|h
    .exact absurd h.symm e
    .exact h
   obtain ⟨x,L1,L2,e1,e2⟩:=zkl r k h2;refine ⟨x,p::L1,L2,by rw[e1];rfl,?_⟩;intro q hq;rcases List.mem_cons.1 hq with rfl|hq
   .exact e
   .exact e2 q hq
def tab(w:World)(r:Nat)(L:List (Int×Value)):Prop:=w.heap[r]?=some (.map (mkE L 0).toArray L.length)
section
variable {P:Program} {w:World} {r:Nat} {L:List (Int×Value)} {t kt et:TypeId}
section
variable(h:tab w r L)(ht:P.underlying t=some (.map kt et))(hk:P.underlying kt=some (.int .i64))(k:Int)
include h ht hk k
theorem zjg(v:Value)(hne:∀p∈L,p.1≠k):
 ∃w',(Instr.mapUpdate t (.map (some r)) (jI k) v).run P w= .ok () w'/\tab w' r (L++ [(k,v)])/\w.grownBy w' (some r):=by
 have h0:=h;unfold tab at h;have hf:=zhh L 0 0 k hne;refine ⟨setBlock w r (.map (mkE (L++ [(k,v)]) 0).toArray (L++ [(k,v)]).length),?_,?_,⟨rfl,rfl,rfl,by simp[setBlock],fun i _ hi=> ?_⟩⟩
 .simp[Instr.mapUpdate,run_underlying ht,MapKept.run_getObj_map h,run_checkKey hk (k:=jI k) rfl,run_findKey hk hf,run_setObj_map _ h,Result.andThen,zfc,setBlock]
 .exact (heap_set h).1
 .exact (heap_set h).2 i (fun e=>hi B196)
theorem ztg(z:Value)(hz:(zeroValue et).run P w= .ok z w)(hne:∀p∈L,p.1≠k):
 ∃w',(Instr.mapEntry t (.map (some r)) (jI k)).run P w= .ok (.tuple #[z,jI (L.length:Int)]) w'/\tab w' r (L++ [(k,z)])/\w.grownBy w' (some r):=by
 have h0:=h;unfold tab at h;have hf:=zhh L 0 0 k hne;refine ⟨setBlock w r (.map (mkE (L++ [(k,z)]) 0).toArray (L++ [(k,z)]).length),?_,?_,⟨rfl,rfl,rfl,by simp[setBlock],fun i _ hi=> ?_⟩⟩
 .simp[Instr.mapEntry,run_underlying ht,MapKept.run_getObj_map h,run_checkKey hk (k:=jI k) rfl,run_findKey hk hf,hz,run_setObj_map _ h,Result.andThen,zfc,setBlock,goInt]
 .exact (heap_set h).1
 .exact (heap_set h).2 i (fun e=>hi B196)
end
theorem zpi:∀(L:List (Int×Value)) (i:Nat),∀x∈mkE L i,x.born<i+L.length
 |[],_,x,h=>by simp[mkE] at h
 |p::r,i,x,h=>by
  rcases List.mem_cons.1 h with rfl|h
  .simp
  .have:=zpi r (i+1) x h;simp;omega
theorem zic{α:Type}:∀(l:List α) (a:α) (f:α->α),(l++ [a]).modify l.length f=l++ [f a]
 |[],a,f=>rfl
 |x::l,a,f=>by simp[List.modify_succ_cons,zic l a f]
theorem zi3(k:Int)(z v:Value)(h:tab w r (L++ [(k,z)])):
 ∃w',(Instr.entryStore t (.map (some r)) (jI (L.length:Int)) v).run P w= .ok () w'/\tab w' r (L++ [(k,v)])/\w.grownBy w' (some r):=by
 have h0:=h;unfold tab at h;have hlen:=zjo L 0;have hfi:(mkE (L++ [(k,z)]) 0).findIdx? (fun e=>(e.born:Int)==(L.length:Int))=some L.length:=by
  rw[zfc,List.findIdx?_append];have hn:(mkE L 0).findIdx? (fun e=>(e.born:Int)==(L.length:Int))=none:=by
   rw[List.findIdx?_eq_none_iff];intro x hx;have:=zpi L 0 x hx;simp;omega
  rw[hn];simp[List.findIdx?_cons,hlen]
 have hmod:((mkE (L++ [(k,z)]) 0).toArray.modify L.length fun e=>{e with val:=v})=(mkE (L++ [(k,v)]) 0).toArray:=by
  apply Array.ext';rw[Array.toList_modify];simp only[zfc];have:=zic (mkE L 0) {key:=jI k,val:=z,born:=0+L.length} (fun e:MapEntry=>{e with val:=v});rw[hlen] at this;exact this
 refine ⟨setBlock w r (.map (mkE (L++ [(k,v)]) 0).toArray (L++ [(k,v)]).length),?_,?_,⟨rfl,rfl,rfl,by simp[setBlock],fun i _ hi=> ?_⟩⟩
 .have hfa:(mkE (L++ [(k,z)]) 0).toArray.findIdx? (fun e=>(e.born:Int)==(L.length:Int))=some L.length:=by rw[List.findIdx?_toArray];exact hfi
  have ha:(asInt (jI (L.length:Int))).run P w= .ok (L.length:Int) w:=by simp[asInt,asIntOf]
  simp only[Instr.entryStore,Sem.run_bind,MapKept.run_getObj_map h,Result.andThen,ha,hfa,hmod,run_setObj_map _ h,setBlock];simp
 .exact (heap_set h).1
 .exact (heap_set h).2 i (fun e=>hi B196)
theorem zqy(h:tab w r L)(ht:P.underlying t=some (.map kt et))(hk:P.underlying kt=some (.int .i64))(k:Int)(hin:k∈L.map (·.1)):
 ∃x,(k,x)∈L/\(Instr.lookup t (.map (some r)) (jI k) false).run P w= .ok x w:=by
 obtain ⟨x,L1,L2,e1,e2⟩:=zkl L k hin;obtain ⟨n,hn⟩:=znt L 0 0 k x ⟨L1,L2,e1,e2⟩;refine ⟨x,by rw[e1];simp,?_⟩;unfold tab at h;simp[Instr.lookup,run_underlying ht,MapKept.run_getObj_map h,run_checkKey hk (k:=jI k) rfl,run_findKey hk hn,Result.andThen]
end
end
open Go.RowKit Go.MapKept
theorem _root_.Go.World.grownBy.next{a b c:World}{row:Option Nat}(h:a.grownBy b row)(k:b.grownBy c row):a.grownBy c row:=
 ⟨k.os.trans h.os,k.tape.trans h.tape,k.output.trans h.output,jR h.size k.size,fun i hi hne=>(k.block i (jL hi h.size) hne).trans (h.block i hi hne)⟩
theorem _root_.Go.World.grownBy.any{a c:World}(h:a.grownBy c none)(row:Option Nat):a.grownBy c row:=⟨h.os,h.tape,h.output,h.size,fun i hi _=>h.block i hi B7⟩
theorem _root_.Go.World.grownBy.fresh{a b c:World}{row:Option Nat}(h:a.grownBy b row)(k:b.grownBy c (some a.heap.size)):a.grownBy c row:=
 ⟨k.os.trans h.os,k.tape.trans h.tape,k.output.trans h.output,jR h.size k.size,fun i hi hne=>(k.block i (jL hi h.size) (fun e=>by cases e;omega)).trans (h.block i hi hne)⟩
def plainTab:List (Int×ByteArray×Nat):=[(1,⟨#[110]⟩,184),(2,⟨#[110]⟩,185),(8,⟨#[110]⟩,190),(9,⟨#[110]⟩,191),(10,⟨#[110]⟩,192),(14,⟨#[98]⟩,197),(15,⟨#[110,110,110]⟩,198),(31,⟨#[110]⟩,199),(33,⟨#[118]⟩,200),(35,⟨#[]⟩,201),(16,⟨#[116]⟩,202),(17,⟨#[116,110]⟩,204),(18,⟨#[116,110]⟩,207),(19,⟨#[116,110,110]⟩,209),(24,⟨#[116,116,110]⟩,216),(25,⟨#[116,116,116]⟩,218),(26,⟨#[116,110,110,116]⟩,220),(27,⟨#[116,110]⟩,221),(28,⟨#[116,116]⟩,223),(29,⟨#[116]⟩,224),(30,⟨#[110]⟩,226),(32,⟨#[116]⟩,228),(34,⟨#[118]⟩,229)]
def boxTab:List (Int×ByteArray×Nat×Nat×Nat):=[(3,⟨#[110,110]⟩,253,187,158),(4,⟨#[110,110]⟩,253,129,158),(5,⟨#[110,110]⟩,253,134,158),(6,⟨#[110,110]⟩,253,188,158),(7,⟨#[110,110]⟩,253,189,158),(11,⟨#[110,110]⟩,256,194,204),(12,⟨#[110,110]⟩,256,195,204),(13,⟨#[110,110]⟩,256,196,204),(20,⟨#[116]⟩,258,212,211),(21,⟨#[116]⟩,258,213,211),(22,⟨#[116]⟩,258,214,211),(23,⟨#[116]⟩,258,215,211)]
def isRow(w:World)(k:Int)(x:Value):Prop:=
 (∃(s:ByteArray) (f:Nat),(k,s,f)∈plainTab/\x= .agg #[jS s,.func (.func f) #[] #[]])\/
 (∃(s:ByteArray) (f g T b:Nat),(k,s,f,g,T)∈boxTab/\w.heap[b]?=some (.cells #[.func (.func g) #[] #[]] T (0,0))/\x= .agg #[jS s,.func (.func f) #[] #[jU b 0]])
theorem isRow.p{w:World}(k:Int)(s:ByteArray)(f:Nat)(h:(k,s,f)∈plainTab):isRow w k (.agg #[jS s,.func (.func f) #[] #[]]):= .inl ⟨s,f,h,rfl⟩
theorem isRow.b{w:World}(k:Int)(s:ByteArray)(f g T b:Nat)(h:(k,s,f,g,T)∈boxTab)(hb:w.heap[b]?=some (.cells #[.func (.func g) #[] #[]] T (0,0))):isRow w k (.agg #[jS s,.func (.func f) #[] #[jU b 0]]):= .inr ⟨s,f,g,T,b,h,hb,rfl⟩
theorem isRow.kept{w w':World}{row:Option Nat}{k:Int}{x:Value}(h:isRow w k x)(hg:w.grownBy w' row)(hr:∀r,row=some r->∃es c,w.heap[r]?=some (.map es c)):isRow w' k x:=by
 rcases h with ⟨s,f,h,rfl⟩|⟨s,f,g,T,b,h,hb,rfl⟩
 .exact .p k s f h
 .refine .b k s f g T b h ((hg.block b (jg hb) ?_).trans hb);intro e;obtain ⟨es,c,hm⟩:=hr b e.symm;rw[hb] at hm;cases hm
def Tab(w:World)(r:Nat)(ks:List Int):Prop:=∃L,tab w r L/\L.map (·.1)=ks/\∀p∈L,isRow w p.1 p.2
def TabE(w:World)(r:Nat)(ks:List Int)(k:Int):Prop:=∃L z,tab w r (L++ [(k,z)])/\L.map (·.1)=ks/\∀p∈L,isRow w p.1 p.2
theorem Tab.kept{w w':World}{r:Nat}{ks:List Int}(h:Tab w r ks)(hg:w.grownBy w' none):Tab w' r ks:=by
 obtain ⟨L,h1,h2,h3⟩:=h;refine ⟨L,?_,h2,fun p hp=>(h3 p hp).kept hg B7⟩;unfold tab at *;exact (hg.block r (jg h1) B7).trans h1
theorem zlw{L:List (Int×Value)}{ks:List Int}{k:Int}(h:L.map (·.1)=ks)(hk:k∉ks):∀p∈L,p.1≠k:=by
 intro p hp e;exact hk (by rw[<-h,<-e];exact List.mem_map_of_mem hp)
section
variable {P:Program} {ops:Array Oper} {rest:List Oper} {o:Oper} {a:Act} {Q:Exit->Act->World->Prop} {t kt et:TypeId}
def Bp105(h:jp:=by exact zlw h2 hne):=h
def M99(h:jp:=by
 have hr:∀r',some r=some r'->∃es c,w.heap[r']?=some (.map es c):=fun r' e=>by cases e;exact ⟨_,_,h1⟩
 refine ⟨w',hrun,⟨_,r1,by simp[h2],fun p hp=> ?_⟩,r2⟩;rcases List.mem_append.1 hp with hp|hp
 .exact (h3 p hp).kept r2 hr
 .obtain rfl:=List.mem_singleton.1 hp;exact hv.kept r2 hr):=h
theorem Tab.update(w:World)(t kt et:TypeId)(ht:P.underlying t=some (.map kt et))(hk:P.underlying kt=some (.int .i64))(r:Nat)(ks:List Int)(k:Int)(v:Value)(hT:Tab w r ks)(hne:k∉ks)(hv:isRow w k v):
 ∃w',(Instr.mapUpdate t (.map (some r)) (jI k) v).run P w= .ok () w'/\Tab w' r (ks++ [k])/\w.grownBy w' (some r):=by
 obtain ⟨L,h1,h2,h3⟩:=hT;obtain ⟨w',hrun,r1,r2⟩:=zjg h1 ht hk k v Bp105;exact M99
theorem Tab.entry(w:World)(t kt et:TypeId)(ht:P.underlying t=some (.map kt et))(hk:P.underlying kt=some (.int .i64))(r:Nat)(ks:List Int)(n:Int)(hn:(ks.length:Int)=n)(k:Int)(z:Value)(hT:Tab w r ks)(hne:k∉ks)(hz:(zeroValue et).run P w= .ok z w):
 ∃w',(Instr.mapEntry t (.map (some r)) (jI k)).run P w= .ok (.tuple #[z,jI n]) w'/\TabE w' r ks k/\w.grownBy w' (some r):=by
 obtain ⟨L,h1,h2,h3⟩:=hT;obtain ⟨w',hrun,r1,r2⟩:=ztg h1 ht hk k z hz Bp105;have hl:n=(L.length:Int):=by rw[<-hn,<-h2];simp
 have hr:∀r',some r=some r'->∃es c,w.heap[r']?=some (.map es c):=fun r' e=>by cases e;exact ⟨_,_,h1⟩
 rw[hl];exact ⟨w',hrun,⟨_,_,r1,h2,fun p hp=>(h3 p hp).kept r2 hr⟩,r2⟩
theorem TabE.store(w:World)(t:TypeId)(r:Nat)(ks:List Int)(n:Int)(hn:(ks.length:Int)=n)(k:Int)(v:Value)(hT:TabE w r ks k)(hv:isRow w k v):
 ∃w',(Instr.entryStore t (.map (some r)) (jI n) v).run P w= .ok () w'/\Tab w' r (ks++ [k])/\w.grownBy w' (some r):=by
 obtain ⟨L,z,h1,h2,h3⟩:=hT;have hl:n=(L.length:Int):=by rw[<-hn,<-h2];simp
 obtain ⟨w',hrun,r1,r2⟩:=zi3 (P:=P) (t:=t) k z v h1;rw[<-hl] at hrun;exact M99
end
def B34(h:jp:=by simp[plainTab]):=h
def B74(h:jp:=by simp[boxTab]):=h
def C36(h:jp:=by
 have hM:prog.underlying 166=some (.map 3 165):=underlying166;have hI:prog.underlying 3=some (.int .i64):=underlying3;have hz:∀w,(zeroValue 165).run prog w= .ok (.agg #[jS ⟨#[]⟩,.nilFunc]) w:=fun w=>by kernel_rfl
 have G0:=World.grownBy.refl w0 (some r);exact K36):=h
def D32(h:jp:=by
 have G12:=G11.next hg;replace hR0:=hR0.kept hg (fun _ e=>by cases e;obtain ⟨_,h,_⟩:=hT11;exact ⟨_,_,h⟩);replace hR1:=hR1.kept hg (fun _ e=>by cases e;obtain ⟨_,h,_⟩:=hT11;exact ⟨_,_,h⟩);clear hg G11 hT11;rw[hr];clear hr;go_wp2_with fail;exact J32):=h
def Da15(h:jp:=by
 have G13:=G12.next hg;simp only[List.cons_append,List.nil_append] at hT13;replace hR1:=hR1.kept hg (fun _ e=>by cases e;obtain ⟨_,_,h,_⟩:=hE;exact ⟨_,_,h⟩);clear hg G12 hE hR0;rw[hr];clear hr;go_wp2_with fail;exact Ja15):=h
def Va39.Ja15(h:jp:=by
 obtain ⟨w14,hr,hT14,hg⟩:=Tab.update (P:=prog) w13 _ _ _ hM hI r [1,2,3,4,5,6] 7 (.agg #[jS ⟨#[110,110]⟩,.func (.func 253) #[] #[.pointer (some ⟨b1,0,none⟩)]]) hT13 B3 hR1;have G14:=G13.next hg;simp only[List.cons_append,List.nil_append] at hT14;clear hg G13 hT13 hR1;rw[hr];clear hr;go_wp2_with fail;obtain ⟨w15,hr,hT15,hg⟩:=Tab.update (P:=prog) w14 _ _ _ hM hI r [1,2,3,4,5,6,7] 8 (.agg #[jS ⟨#[110]⟩,.func (.func 190) #[] #[]]) hT14 B3 (.p _ _ _ B34);have G15:=G14.next hg;simp only[List.cons_append,List.nil_append] at hT15;clear hg G14 hT14;rw[hr];clear hr;go_wp2_with fail;obtain ⟨w16,hr,hT16,hg⟩:=Tab.update (P:=prog) w15 _ _ _ hM hI r [1,2,3,4,5,6,7,8] 9 (.agg #[jS ⟨#[110]⟩,.func (.func 191) #[] #[]]) hT15 B3 (.p _ _ _ B34);have G16:=G15.next hg;simp only[List.cons_append,List.nil_append] at hT16;clear hg G15 hT15;rw[hr];clear hr;go_wp2_with fail;obtain ⟨w17,hr,hT17,hg⟩:=Tab.update (P:=prog) w16 _ _ _ hM hI r [1,2,3,4,5,6,7,8,9] 10 (.agg #[jS ⟨#[110]⟩,.func (.func 192) #[] #[]]) hT16 B3 (.p _ _ _ B34);have G17:=G16.next hg;simp only[List.cons_append,List.nil_append] at hT17;clear hg G16 hT16;rw[hr];clear hr;go_wp2_with fail;refine (zdj 194 _).mono ?_;rintro e w18 ⟨rfl,hb0,hg⟩;have G18:=G17.next (hg.any _);have hT18:=hT17.kept hg;clear hg G17 hT17;generalize w17.heap.size=b0 at *;go_wp2_with fail;have hR0:isRow w18 11 (.agg #[jS ⟨#[110,110]⟩,.func (.func 256) #[] #[jU b0 0]]):=(.b _ _ _ _ _ _ B74 hb0);clear hb0;obtain ⟨w19,hr,hT19,hg⟩:=Tab.update (P:=prog) w18 _ _ _ hM hI r [1,2,3,4,5,6,7,8,9,10] 11 (.agg #[jS ⟨#[110,110]⟩,.func (.func 256) #[] #[.pointer (some ⟨b0,0,none⟩)]]) hT18 B3 hR0;have G19:=G18.next hg;simp only[List.cons_append,List.nil_append] at hT19;clear hg G18 hT18;clear hR0;rw[hr];clear hr;go_wp2_with fail;refine (zdj 195 _).mono ?_;rintro e w20 ⟨rfl,hb0,hg⟩;have G20:=G19.next (hg.any _);have hT20:=hT19.kept hg;clear hg G19 hT19;generalize w19.heap.size=b0 at *;go_wp2_with fail;have hR0:isRow w20 12 (.agg #[jS ⟨#[110,110]⟩,.func (.func 256) #[] #[jU b0 0]]):=(.b _ _ _ _ _ _ B74 hb0);clear hb0;obtain ⟨w21,hr,hT21,hg⟩:=Tab.update (P:=prog) w20 _ _ _ hM hI r [1,2,3,4,5,6,7,8,9,10,11] 12 (.agg #[jS ⟨#[110,110]⟩,.func (.func 256) #[] #[.pointer (some ⟨b0,0,none⟩)]]) hT20 B3 hR0;have G21:=G20.next hg;simp only[List.cons_append,List.nil_append] at hT21;clear hg G20 hT20;clear hR0;rw[hr];clear hr;go_wp2_with fail;refine (zdj 196 _).mono ?_;rintro e w22 ⟨rfl,hb0,hg⟩;have G22:=G21.next (hg.any _);have hT22:=hT21.kept hg;clear hg G21 hT21;generalize w21.heap.size=b0 at *;go_wp2_with fail;have hR0:isRow w22 13 (.agg #[jS ⟨#[110,110]⟩,.func (.func 256) #[] #[jU b0 0]]):=(.b _ _ _ _ _ _ B74 hb0);clear hb0;obtain ⟨w23,hr,hT23,hg⟩:=Tab.update (P:=prog) w22 _ _ _ hM hI r [1,2,3,4,5,6,7,8,9,10,11,12] 13 (.agg #[jS ⟨#[110,110]⟩,.func (.func 256) #[] #[.pointer (some ⟨b0,0,none⟩)]]) hT22 B3 hR0;have G23:=G22.next hg;simp only[List.cons_append,List.nil_append] at hT23;clear hg G22 hT22;clear hR0;rw[hr];clear hr;go_wp2_with fail;obtain ⟨w24,hr,hT24,hg⟩:=Tab.update (P:=prog) w23 _ _ _ hM hI r [1,2,3,4,5,6,7,8,9,10,11,12,13] 14 (.agg #[jS ⟨#[98]⟩,.func (.func 197) #[] #[]]) hT23 B3 (.p _ _ _ B34);have G24:=G23.next hg;simp only[List.cons_append,List.nil_append] at hT24;clear hg G23 hT23;rw[hr];clear hr;go_wp2_with fail;obtain ⟨w25,hr,hT25,hg⟩:=Tab.update (P:=prog) w24 _ _ _ hM hI r [1,2,3,4,5,6,7,8,9,10,11,12,13,14] 15 (.agg #[jS ⟨#[110,110,110]⟩,.func (.func 198) #[] #[]]) hT24 B3 (.p _ _ _ B34);have G25:=G24.next hg;simp only[List.cons_append,List.nil_append] at hT25;clear hg G24 hT24;rw[hr];clear hr;go_wp2_with fail;obtain ⟨w26,hr,hT26,hg⟩:=Tab.update (P:=prog) w25 _ _ _ hM hI r [1,2,3,4,5,6,7,8,9,10,11,12,13,14,15] 31 (.agg #[jS ⟨#[110]⟩,.func (.func 199) #[] #[]]) hT25 B3 (.p _ _ _ B34);have G26:=G25.next hg;simp only[List.cons_append,List.nil_append] at hT26;clear hg G25 hT25;rw[hr];clear hr;go_wp2_with fail;obtain ⟨w27,hr,hT27,hg⟩:=Tab.update (P:=prog) w26 _ _ _ hM hI r [1,2,3,4,5,6,7,8,9,10,11,12,13,14,15,31] 33 (.agg #[jS ⟨#[118]⟩,.func (.func 200) #[] #[]]) hT26 B3 (.p _ _ _ B34);have G27:=G26.next hg;simp only[List.cons_append,List.nil_append] at hT27;clear hg G26 hT26;rw[hr];clear hr;go_wp2_with fail;obtain ⟨w28,hr,hT28,hg⟩:=Tab.update (P:=prog) w27 _ _ _ hM hI r [1,2,3,4,5,6,7,8,9,10,11,12,13,14,15,31,33] 35 (.agg #[jS ⟨#[]⟩,.func (.func 201) #[] #[]]) hT27 B3 (.p _ _ _ B34);have G28:=G27.next hg;simp only[List.cons_append,List.nil_append] at hT28;clear hg G27 hT27;rw[hr];clear hr;go_wp2_with fail;refine bodyPost_end (results_none rfl _ _ _) rfl ?_;exact ⟨rfl,hT28,G28⟩):=h
def V95.J32(h:jp:=by
 obtain ⟨w13,hr,hT13,hg⟩:=TabE.store (P:=prog) w12 166 r [1,2,3,4,5] 5 B3 6 (.agg #[jS ⟨#[110,110]⟩,.func (.func 253) #[] #[.pointer (some ⟨b0,0,none⟩)]]) hE hR0
 open Va39 in exact Da15):=h
def Da16(h:jp:=by
 rintro e w11 ⟨rfl,hb1,hg⟩;have G11:=G10.next (hg.any _);have hT11:=hT10.kept hg;replace hb0:=(hg.block _ (jg hb0) B7).trans hb0;clear hg G10 hT10;generalize w10.heap.size=b1 at *;go_wp2_with fail;exact Ja16):=h
def Va41.Ja16(h:jp:=by
 have hR0:isRow w11 6 (.agg #[jS ⟨#[110,110]⟩,.func (.func 253) #[] #[jU b0 0]]):=(.b _ _ _ _ _ _ B74 hb0);clear hb0;have hR1:isRow w11 7 (.agg #[jS ⟨#[110,110]⟩,.func (.func 253) #[] #[jU b1 0]]):=(.b _ _ _ _ _ _ B74 hb1);clear hb1;obtain ⟨w12,hr,hE,hg⟩:=Tab.entry (P:=prog) w11 _ _ _ hM hI r [1,2,3,4,5] 5 B3 6 _ hT11 B3 (hz _)
 open V95 in exact D32):=h
def X154.K36(h:jp:=by
 go_enter func173,ntmps173;go_wp2_with fail;obtain ⟨w1,hr,hT1,hg⟩:=Tab.update (P:=prog) w0 _ _ _ hM hI r [] 1 (.agg #[jS ⟨#[110]⟩,.func (.func 184) #[] #[]]) hT0 B3 (.p _ _ _ B34);have G1:=G0.next hg;simp only[List.nil_append] at hT1;clear hg G0 hT0;rw[hr];clear hr;go_wp2_with fail;obtain ⟨w2,hr,hT2,hg⟩:=Tab.update (P:=prog) w1 _ _ _ hM hI r [1] 2 (.agg #[jS ⟨#[110]⟩,.func (.func 185) #[] #[]]) hT1 B3 (.p _ _ _ B34);have G2:=G1.next hg;simp only[List.cons_append,List.nil_append] at hT2;clear hg G1 hT1;rw[hr];clear hr;go_wp2_with fail;refine (zhw 187 _).mono ?_;rintro e w3 ⟨rfl,hb0,hg⟩;have G3:=G2.next (hg.any _);have hT3:=hT2.kept hg;clear hg G2 hT2;generalize w2.heap.size=b0 at *;go_wp2_with fail;refine (zhw 129 _).mono ?_;rintro e w4 ⟨rfl,hb1,hg⟩;have G4:=G3.next (hg.any _);have hT4:=hT3.kept hg;replace hb0:=(hg.block _ (jg hb0) B7).trans hb0;clear hg G3 hT3;generalize w3.heap.size=b1 at *;go_wp2_with fail;refine (zhw 134 _).mono ?_;rintro e w5 ⟨rfl,hb2,hg⟩;have G5:=G4.next (hg.any _);have hT5:=hT4.kept hg;replace hb0:=(hg.block _ (jg hb0) B7).trans hb0;replace hb1:=(hg.block _ (jg hb1) B7).trans hb1;clear hg G4 hT4;generalize w4.heap.size=b2 at *;go_wp2_with fail;have hR0:isRow w5 3 (.agg #[jS ⟨#[110,110]⟩,.func (.func 253) #[] #[jU b0 0]]):=(.b _ _ _ _ _ _ B74 hb0);clear hb0;have hR1:isRow w5 4 (.agg #[jS ⟨#[110,110]⟩,.func (.func 253) #[] #[jU b1 0]]):=(.b _ _ _ _ _ _ B74 hb1);clear hb1;have hR2:isRow w5 5 (.agg #[jS ⟨#[110,110]⟩,.func (.func 253) #[] #[jU b2 0]]):=(.b _ _ _ _ _ _ B74 hb2);clear hb2;obtain ⟨w6,hr,hE,hg⟩:=Tab.entry (P:=prog) w5 _ _ _ hM hI r [1,2] 2 B3 3 _ hT5 B3 (hz _);have G6:=G5.next hg;replace hR0:=hR0.kept hg (fun _ e=>by cases e;obtain ⟨_,h,_⟩:=hT5;exact ⟨_,_,h⟩);replace hR1:=hR1.kept hg (fun _ e=>by cases e;obtain ⟨_,h,_⟩:=hT5;exact ⟨_,_,h⟩);replace hR2:=hR2.kept hg (fun _ e=>by cases e;obtain ⟨_,h,_⟩:=hT5;exact ⟨_,_,h⟩);clear hg G5 hT5;rw[hr];clear hr;go_wp2_with fail;obtain ⟨w7,hr,hT7,hg⟩:=TabE.store (P:=prog) w6 166 r [1,2] 2 B3 3 (.agg #[jS ⟨#[110,110]⟩,.func (.func 253) #[] #[.pointer (some ⟨b0,0,none⟩)]]) hE hR0;have G7:=G6.next hg;simp only[List.cons_append,List.nil_append] at hT7;replace hR1:=hR1.kept hg (fun _ e=>by cases e;obtain ⟨_,_,h,_⟩:=hE;exact ⟨_,_,h⟩);replace hR2:=hR2.kept hg (fun _ e=>by cases e;obtain ⟨_,_,h,_⟩:=hE;exact ⟨_,_,h⟩);clear hg G6 hE hR0;rw[hr];clear hr;go_wp2_with fail;obtain ⟨w8,hr,hT8,hg⟩:=Tab.update (P:=prog) w7 _ _ _ hM hI r [1,2,3] 4 (.agg #[jS ⟨#[110,110]⟩,.func (.func 253) #[] #[.pointer (some ⟨b1,0,none⟩)]]) hT7 B3 hR1;have G8:=G7.next hg;simp only[List.cons_append,List.nil_append] at hT8;replace hR2:=hR2.kept hg (fun _ e=>by cases e;obtain ⟨_,h,_⟩:=hT7;exact ⟨_,_,h⟩);clear hg G7 hT7 hR1;rw[hr];clear hr;go_wp2_with fail;obtain ⟨w9,hr,hT9,hg⟩:=Tab.update (P:=prog) w8 _ _ _ hM hI r [1,2,3,4] 5 (.agg #[jS ⟨#[110,110]⟩,.func (.func 253) #[] #[.pointer (some ⟨b2,0,none⟩)]]) hT8 B3 hR2;have G9:=G8.next hg;simp only[List.cons_append,List.nil_append] at hT9;clear hg G8 hT8 hR2;rw[hr];clear hr;go_wp2_with fail;refine (zhw 188 _).mono ?_;rintro e w10 ⟨rfl,hb0,hg⟩;have G10:=G9.next (hg.any _);have hT10:=hT9.kept hg;clear hg G9 hT9;generalize w9.heap.size=b0 at *;go_wp2_with fail;refine (zhw 189 _).mono ?_
 open Va41 in exact Da16):=h
def Va40.Ja15(h:jp:=by
 obtain ⟨w14,hr,hT14,hg⟩:=Tab.update (P:=prog) w13 _ _ _ hM hI r [1,2,3,4,5,6,7,8,9,10,11,12,13,14,15,31,33,35,16,17,18,19,20,21,22] 23 (.agg #[jS ⟨#[116]⟩,.func (.func 258) #[] #[.pointer (some ⟨b1,0,none⟩)]]) hT13 B3 hR1;have G14:=G13.next hg;simp only[List.cons_append,List.nil_append] at hT14;clear hg G13 hT13 hR1;rw[hr];clear hr;go_wp2_with fail;obtain ⟨w15,hr,hT15,hg⟩:=Tab.update (P:=prog) w14 _ _ _ hM hI r [1,2,3,4,5,6,7,8,9,10,11,12,13,14,15,31,33,35,16,17,18,19,20,21,22,23] 24 (.agg #[jS ⟨#[116,116,110]⟩,.func (.func 216) #[] #[]]) hT14 B3 (.p _ _ _ B34);have G15:=G14.next hg;simp only[List.cons_append,List.nil_append] at hT15;clear hg G14 hT14;rw[hr];clear hr;go_wp2_with fail;obtain ⟨w16,hr,hT16,hg⟩:=Tab.update (P:=prog) w15 _ _ _ hM hI r [1,2,3,4,5,6,7,8,9,10,11,12,13,14,15,31,33,35,16,17,18,19,20,21,22,23,24] 25 (.agg #[jS ⟨#[116,116,116]⟩,.func (.func 218) #[] #[]]) hT15 B3 (.p _ _ _ B34);have G16:=G15.next hg;simp only[List.cons_append,List.nil_append] at hT16;clear hg G15 hT15;rw[hr];clear hr;go_wp2_with fail;obtain ⟨w17,hr,hT17,hg⟩:=Tab.update (P:=prog) w16 _ _ _ hM hI r [1,2,3,4,5,6,7,8,9,10,11,12,13,14,15,31,33,35,16,17,18,19,20,21,22,23,24,25] 26 (.agg #[jS ⟨#[116,110,110,116]⟩,.func (.func 220) #[] #[]]) hT16 B3 (.p _ _ _ B34);have G17:=G16.next hg;simp only[List.cons_append,List.nil_append] at hT17;clear hg G16 hT16;rw[hr];clear hr;go_wp2_with fail;obtain ⟨w18,hr,hT18,hg⟩:=Tab.update (P:=prog) w17 _ _ _ hM hI r [1,2,3,4,5,6,7,8,9,10,11,12,13,14,15,31,33,35,16,17,18,19,20,21,22,23,24,25,26] 27 (.agg #[jS ⟨#[116,110]⟩,.func (.func 221) #[] #[]]) hT17 B3 (.p _ _ _ B34);have G18:=G17.next hg;simp only[List.cons_append,List.nil_append] at hT18;clear hg G17 hT17;rw[hr];clear hr;go_wp2_with fail;obtain ⟨w19,hr,hT19,hg⟩:=Tab.update (P:=prog) w18 _ _ _ hM hI r [1,2,3,4,5,6,7,8,9,10,11,12,13,14,15,31,33,35,16,17,18,19,20,21,22,23,24,25,26,27] 28 (.agg #[jS ⟨#[116,116]⟩,.func (.func 223) #[] #[]]) hT18 B3 (.p _ _ _ B34);have G19:=G18.next hg;simp only[List.cons_append,List.nil_append] at hT19;clear hg G18 hT18;rw[hr];clear hr;go_wp2_with fail;obtain ⟨w20,hr,hT20,hg⟩:=Tab.update (P:=prog) w19 _ _ _ hM hI r [1,2,3,4,5,6,7,8,9,10,11,12,13,14,15,31,33,35,16,17,18,19,20,21,22,23,24,25,26,27,28] 29 (.agg #[jS ⟨#[116]⟩,.func (.func 224) #[] #[]]) hT19 B3 (.p _ _ _ B34);have G20:=G19.next hg;simp only[List.cons_append,List.nil_append] at hT20;clear hg G19 hT19;rw[hr];clear hr;go_wp2_with fail;obtain ⟨w21,hr,hT21,hg⟩:=Tab.update (P:=prog) w20 _ _ _ hM hI r [1,2,3,4,5,6,7,8,9,10,11,12,13,14,15,31,33,35,16,17,18,19,20,21,22,23,24,25,26,27,28,29] 30 (.agg #[jS ⟨#[110]⟩,.func (.func 226) #[] #[]]) hT20 B3 (.p _ _ _ B34);have G21:=G20.next hg;simp only[List.cons_append,List.nil_append] at hT21;clear hg G20 hT20;rw[hr];clear hr;go_wp2_with fail;obtain ⟨w22,hr,hT22,hg⟩:=Tab.update (P:=prog) w21 _ _ _ hM hI r [1,2,3,4,5,6,7,8,9,10,11,12,13,14,15,31,33,35,16,17,18,19,20,21,22,23,24,25,26,27,28,29,30] 32 (.agg #[jS ⟨#[116]⟩,.func (.func 228) #[] #[]]) hT21 B3 (.p _ _ _ B34);have G22:=G21.next hg;simp only[List.cons_append,List.nil_append] at hT22;clear hg G21 hT21;rw[hr];clear hr;go_wp2_with fail;obtain ⟨w23,hr,hT23,hg⟩:=Tab.update (P:=prog) w22 _ _ _ hM hI r [1,2,3,4,5,6,7,8,9,10,11,12,13,14,15,31,33,35,16,17,18,19,20,21,22,23,24,25,26,27,28,29,30,32] 34 (.agg #[jS ⟨#[118]⟩,.func (.func 229) #[] #[]]) hT22 B3 (.p _ _ _ B34);have G23:=G22.next hg;simp only[List.cons_append,List.nil_append] at hT23;clear hg G22 hT22;rw[hr];clear hr;go_wp2_with fail;refine bodyPost_end (results_none rfl _ _ _) rfl ?_;exact ⟨rfl,hT23,G23⟩):=h
def V96.J32(h:jp:=by
 obtain ⟨w13,hr,hT13,hg⟩:=TabE.store (P:=prog) w12 166 r [1,2,3,4,5,6,7,8,9,10,11,12,13,14,15,31,33,35,16,17,18,19,20,21] 24 B3 22 (.agg #[jS ⟨#[116]⟩,.func (.func 258) #[] #[.pointer (some ⟨b0,0,none⟩)]]) hE hR0
 open Va40 in exact Da15):=h
def Va42.Ja16(h:jp:=by
 have hR0:isRow w11 22 (.agg #[jS ⟨#[116]⟩,.func (.func 258) #[] #[jU b0 0]]):=(.b _ _ _ _ _ _ B74 hb0);clear hb0;have hR1:isRow w11 23 (.agg #[jS ⟨#[116]⟩,.func (.func 258) #[] #[jU b1 0]]):=(.b _ _ _ _ _ _ B74 hb1);clear hb1;obtain ⟨w12,hr,hE,hg⟩:=Tab.entry (P:=prog) w11 _ _ _ hM hI r [1,2,3,4,5,6,7,8,9,10,11,12,13,14,15,31,33,35,16,17,18,19,20,21] 24 B3 22 _ hT11 B3 (hz _)
 open V96 in exact D32):=h
def X155.K36(h:jp:=by
 go_enter func174,ntmps174;go_wp2_with fail;obtain ⟨w1,hr,hT1,hg⟩:=Tab.update (P:=prog) w0 _ _ _ hM hI r [1,2,3,4,5,6,7,8,9,10,11,12,13,14,15,31,33,35] 16 (.agg #[jS ⟨#[116]⟩,.func (.func 202) #[] #[]]) hT0 B3 (.p _ _ _ B34);have G1:=G0.next hg;simp only[List.cons_append,List.nil_append] at hT1;clear hg G0 hT0;rw[hr];clear hr;go_wp2_with fail;obtain ⟨w2,hr,hT2,hg⟩:=Tab.update (P:=prog) w1 _ _ _ hM hI r [1,2,3,4,5,6,7,8,9,10,11,12,13,14,15,31,33,35,16] 17 (.agg #[jS ⟨#[116,110]⟩,.func (.func 204) #[] #[]]) hT1 B3 (.p _ _ _ B34);have G2:=G1.next hg;simp only[List.cons_append,List.nil_append] at hT2;clear hg G1 hT1;rw[hr];clear hr;go_wp2_with fail;obtain ⟨w3,hr,hT3,hg⟩:=Tab.update (P:=prog) w2 _ _ _ hM hI r [1,2,3,4,5,6,7,8,9,10,11,12,13,14,15,31,33,35,16,17] 18 (.agg #[jS ⟨#[116,110]⟩,.func (.func 207) #[] #[]]) hT2 B3 (.p _ _ _ B34);have G3:=G2.next hg;simp only[List.cons_append,List.nil_append] at hT3;clear hg G2 hT2;rw[hr];clear hr;go_wp2_with fail;obtain ⟨w4,hr,hT4,hg⟩:=Tab.update (P:=prog) w3 _ _ _ hM hI r [1,2,3,4,5,6,7,8,9,10,11,12,13,14,15,31,33,35,16,17,18] 19 (.agg #[jS ⟨#[116,110,110]⟩,.func (.func 209) #[] #[]]) hT3 B3 (.p _ _ _ B34);have G4:=G3.next hg;simp only[List.cons_append,List.nil_append] at hT4;clear hg G3 hT3;rw[hr];clear hr;go_wp2_with fail;refine (plain_any 212 _).mono ?_;rintro e w5 ⟨rfl,hb0,hg⟩;have G5:=G4.next (hg.any _);have hT5:=hT4.kept hg;clear hg G4 hT4;generalize w4.heap.size=b0 at *;go_wp2_with fail;refine (plain_any 213 _).mono ?_;rintro e w6 ⟨rfl,hb1,hg⟩;have G6:=G5.next (hg.any _);have hT6:=hT5.kept hg;replace hb0:=(hg.block _ (jg hb0) B7).trans hb0;clear hg G5 hT5;generalize w5.heap.size=b1 at *;go_wp2_with fail;have hR0:isRow w6 20 (.agg #[jS ⟨#[116]⟩,.func (.func 258) #[] #[jU b0 0]]):=(.b _ _ _ _ _ _ B74 hb0);clear hb0;have hR1:isRow w6 21 (.agg #[jS ⟨#[116]⟩,.func (.func 258) #[] #[jU b1 0]]):=(.b _ _ _ _ _ _ B74 hb1);clear hb1;obtain ⟨w7,hr,hE,hg⟩:=Tab.entry (P:=prog) w6 _ _ _ hM hI r [1,2,3,4,5,6,7,8,9,10,11,12,13,14,15,31,33,35,16,17,18,19] 22 B3 20 _ hT6 B3 (hz _);have G7:=G6.next hg;replace hR0:=hR0.kept hg (fun _ e=>by cases e;obtain ⟨_,h,_⟩:=hT6;exact ⟨_,_,h⟩);replace hR1:=hR1.kept hg (fun _ e=>by cases e;obtain ⟨_,h,_⟩:=hT6;exact ⟨_,_,h⟩);clear hg G6 hT6;rw[hr];clear hr;go_wp2_with fail;obtain ⟨w8,hr,hT8,hg⟩:=TabE.store (P:=prog) w7 166 r [1,2,3,4,5,6,7,8,9,10,11,12,13,14,15,31,33,35,16,17,18,19] 22 B3 20 (.agg #[jS ⟨#[116]⟩,.func (.func 258) #[] #[.pointer (some ⟨b0,0,none⟩)]]) hE hR0;have G8:=G7.next hg;simp only[List.cons_append,List.nil_append] at hT8;replace hR1:=hR1.kept hg (fun _ e=>by cases e;obtain ⟨_,_,h,_⟩:=hE;exact ⟨_,_,h⟩);clear hg G7 hE hR0;rw[hr];clear hr;go_wp2_with fail;obtain ⟨w9,hr,hT9,hg⟩:=Tab.update (P:=prog) w8 _ _ _ hM hI r [1,2,3,4,5,6,7,8,9,10,11,12,13,14,15,31,33,35,16,17,18,19,20] 21 (.agg #[jS ⟨#[116]⟩,.func (.func 258) #[] #[.pointer (some ⟨b1,0,none⟩)]]) hT8 B3 hR1;have G9:=G8.next hg;simp only[List.cons_append,List.nil_append] at hT9;clear hg G8 hT8 hR1;rw[hr];clear hr;go_wp2_with fail;refine (plain_any 214 _).mono ?_;rintro e w10 ⟨rfl,hb0,hg⟩;have G10:=G9.next (hg.any _);have hT10:=hT9.kept hg;clear hg G9 hT9;generalize w9.heap.size=b0 at *;go_wp2_with fail;refine (plain_any 215 _).mono ?_
 open Va42 in exact Da16):=h
theorem zhw(g:Nat)(w:World):Calls prog 186 #[.func (.func g) #[] #[]] w fun e w'=>e=jr (.agg #[jS ⟨#[110,110]⟩,.func (.func 253) #[] #[jU w.heap.size 0]])/\w'.heap[w.heap.size]?=some (.cells #[.func (.func g) #[] #[]] 158 (0,0))/\w.grownBy w' none:=by
 go_enter func186,ntmps186;go_wp2;exact jX (.agg #[jS ⟨#[110,110]⟩,.func (.func 253) #[] #[jU w.heap.size 0]]) (by simp[results,results186,go_sem]) ⟨rfl,((World.grownBy_alloc _ _ none).block _ B7 B7).trans Bp4,(World.grownBy_alloc _ _ none).next (World.grownBy_alloc _ _ none)⟩
theorem zdj(g:Nat)(w:World):Calls prog 193 #[.func (.func g) #[] #[]] w fun e w'=>e=jr (.agg #[jS ⟨#[110,110]⟩,.func (.func 256) #[] #[jU w.heap.size 0]])/\w'.heap[w.heap.size]?=some (.cells #[.func (.func g) #[] #[]] 204 (0,0))/\w.grownBy w' none:=by
 go_enter func193,ntmps193;go_wp2;exact jX (.agg #[jS ⟨#[110,110]⟩,.func (.func 256) #[] #[jU w.heap.size 0]]) (by simp[results,results193,go_sem]) ⟨rfl,((World.grownBy_alloc _ _ none).block _ B7 B7).trans Bp4,(World.grownBy_alloc _ _ none).next (World.grownBy_alloc _ _ none)⟩
theorem plain_any(g:Nat)(w:World):Calls prog 211 #[.func (.func g) #[] #[]] w fun e w'=>e=jr (.agg #[jS ⟨#[116]⟩,.func (.func 258) #[] #[jU w.heap.size 0]])/\w'.heap[w.heap.size]?=some (.cells #[.func (.func g) #[] #[]] 211 (0,0))/\w.grownBy w' none:=by
 go_enter func211,ntmps211;go_wp2;exact jX (.agg #[jS ⟨#[116]⟩,.func (.func 258) #[] #[jU w.heap.size 0]]) (by simp[results,results211,go_sem]) ⟨rfl,((World.grownBy_alloc _ _ none).block _ B7 B7).trans Bp4,(World.grownBy_alloc _ _ none).next (World.grownBy_alloc _ _ none)⟩
theorem znn(r:Nat)(w0:World)(hT0:Tab w0 r []):Calls prog 173 #[.map (some r)] w0 fun e w'=>e=jr jT/\Tab w' r [1,2,3,4,5,6,7,8,9,10,11,12,13,14,15,31,33,35]/\w0.grownBy w' (some r):=by
 open X154 in exact C36
theorem ztb(r:Nat)(w0:World)(hT0:Tab w0 r [1,2,3,4,5,6,7,8,9,10,11,12,13,14,15,31,33,35]):Calls prog 174 #[.map (some r)] w0 fun e w'=>e=jr jT/\Tab w' r [1,2,3,4,5,6,7,8,9,10,11,12,13,14,15,31,33,35,16,17,18,19,20,21,22,23,24,25,26,27,28,29,30,32,34]/\w0.grownBy w' (some r):=by
 open X155 in exact C36
theorem rows_any(w:World):Calls prog 137 #[] w fun e w'=>e=jr (.map (some w.heap.size))/\Tab w' w.heap.size [1,2,3,4,5,6,7,8,9,10,11,12,13,14,15,31,33,35,16,17,18,19,20,21,22,23,24,25,26,27,28,29,30,32,34]/\w.grownBy w' none:=by
 have hT0:Tab (w.alloc (.map #[] 0)) w.heap.size []:=⟨[],(MapKept.heap_alloc w _).1,rfl,B7⟩;have G0:w.grownBy (w.alloc (.map #[] 0)) none:=World.grownBy_alloc _ _ none;go_enter func137,ntmps137;go_wp2_with fail;rw[run_makeMap];go_wp2_with fail;refine (znn _ _ hT0).mono ?_;rintro e w1 ⟨rfl,hT1,G1⟩;go_wp2_with fail;refine (ztb _ _ hT1).mono ?_;rintro e w2 ⟨rfl,hT2,G2⟩;go_wp2;go_ret;exact ⟨rfl,hT2,G0.fresh (G1.next G2)⟩
