import Derived.Shelf.SortG.Plain
import Derived.Shelf.SortG.SortNone
import Derived.Test.YtoffmfgaohjjpaaGreatDoorQ18
set_option linter.unusedVariables false
set_option linter.unusedSectionVars false
set_option linter.unusedSimpArgs false
open Go.Proofs.Tryz
set_option maxHeartbeats 8000000
variable{jp:Sort _}
set_option maxRecDepth 100000
namespace Go.Proofs.YtoffmfgaohjjpaaGreatDoor
open Go.RowKit
namespace Fd
open Mb
theorem list_append{P:Program}{ops:Array Oper}{rest:List Oper}{o:Oper}{a:Act}{w:World}{Q:Exit->Act->World->Prop}(hgd:o.guard=none)(s x:Operand)(t u:TypeId)(ho:o.op= .call {callee:= .builtin .append,args:=#[s,x],argTypes:=#[t,u]})(v y:Value)(hs:a.eval s=v)(hx:a.eval x=y)(v':Value)(w':World)(hrun:(Builtin.append_ #[t,u] o.type #[v,y]).run P w= .ok v' w')(h:wpList P ops Q rest (a.put o.dst v') w'):wpList P ops Q (o::rest) a w:=
 wpList_plain hgd fun K hK=>by
  unfold Oper.wp;simp[execOp,ho,resolve,invoke,builtin,hs,hx,hrun,Result.andThen];exact hK _ _ h
theorem zg1{P:Program}{w:World}(base:Nat)(t u ty e:TypeId)(i:TypeInfo)(ht:P.underlying t=some (.slice e))(hu:P.underlying u=some .string)(hi:P.info? e=some i)(hz:i.zero=some (.int .u8 0))(hsize:i.size=1)(hby:i.bytes=1)(v:Value)(n:Nat)(xs:List Value)(hown:w.ownsRow base e 1 v n xs)(s:ByteArray)(h63:n+s.size<=maxLen)(hbytes:n+s.size<=140737488355328)(v':Value)(w':World)(hrun:(Builtin.append_ #[t,u] ty #[v,jS s]).run P w= .ok v' w'):
 ∀k,v'.ownBlock=some k->v.ownBlock=some k\/w.heap.size<=k:=by
 have hsmall:n+s.size<=9223372036854775807:=by simp only[maxLen] at h63;omega
 have hxl:xs.length=n:=by simpa using hown.1
 rcases hown.2 with ⟨rfl,rfl⟩|⟨g,cap,cur,rfl,hbg,hg,hnc,hcm,hcs,htake⟩
 .by_cases hm:s.size=0
  .have hf:=Lib.run_firstCells_string (P:=P) w 1 s;rw[hm] at hf;have hr:(Builtin.append_ #[t,u] ty #[jZ,jS s]).run P w= .ok jZ w:=by
    simp[Builtin.append_,run_underlying ht,run_underlying hu,sizeOf,typeInfo,hi,hsize,Builtin.lenOf,hm,hf]
   rw[hr] at hrun;cases hrun;intro k hk;cases hk
  .have hr:=run_append_nil_string (P:=P) w t u ty e i (.int .u8 0) ht hu hi hz s B1 B1 (by rw[hby];omega);exact M158
 .by_cases hroom:n+s.size<=cap
  .have hcs':cur.size=cap:=by simpa using hcs
   have hr:=Lib.run_append_room_string (P:=P) w t u ty e i ht hu hi hsize g n cap cur hg s hroom B1;rw[hr] at hrun;cases hrun;intro k hk;exact .inl hk
  .have holds:∀j u,xs[j]?=some u->w.cell? (((jA g 0):Addr).add j)=some u:=hown.cells (g:=g) rfl;have hr:=Lib.run_append_grow_string (P:=P) w t u ty e i (.int .u8 0) ht hu hi hz (jA g 0) n cap xs (by rw[hsize];simpa using hxl) holds s B1 B1 (by rw[hby];exact growslice_fits B1 B1);exact M158
def intC(l:List Int):List Value:=l.map fun n=>jI n
def bytC(l:List UInt8):List Value:=l.map fun b=> .int .u8 (b.toNat:Int)
def B119(h:jp:=by simp[results,results152,go_sem,z0,z1,z2]):=h
def X42.K6(h:jp:=by
 go_wp2_with fail;exact jX (VL ⟨4,4,⟨#[]⟩⟩) B119 ⟨rfl,B18⟩):=h
def D30(h:jp:=by
 have c0:=kN.cell;have l0:=kN.lt;have c1:=kK.cell;have l1:=kK.lt;have c2:=kO.cell;have l2:=kO.lt;obtain ⟨hz,kz⟩:=zbd w #[jI 0,jI 0,jS ⟨#[]⟩] 41;exact J30):=h
def V89.J30(h:jp:=by
 go_enter func152,ntmps152
 open X42 in exact C6):=h
def X43.K6(h:jp:=by
 go_wp2_with fail;exact jX (VL ⟨2,cond odd 1 0,⟨#[]⟩⟩) B119 ⟨rfl,B18⟩):=h
def V90.J30(h:jp:=by
 go_enter func152,ntmps152
 open X43 in exact C6):=h
def X44.K6(h:jp:=by
 go_wp2_with fail;exact jX (VL ⟨2,cond (f==65) 1 0,⟨#[]⟩⟩) B119 ⟨rfl,B18⟩):=h
def V91.J30(h:jp:=by
 go_enter func152,ntmps152
 open X44 in exact C6):=h
def X45.K6(h:jp:=by
 go_wp2_with fail;exact jX (VL ⟨1,n,⟨#[]⟩⟩) (by simp[results,results163,go_sem,z0,z1,z2]) ⟨rfl,B18⟩):=h
def X46.K6(h:jp:=by
 go_wp2_with fail;exact jX (VL ⟨1,all,⟨#[]⟩⟩) (by simp[results,results163,go_sem,z0,z1,z2]) ⟨rfl,B18⟩):=h
theorem info8:(prog.info? 5).map (fun i=>(i.zero,i.size,i.bytes))=some (some (.int .u8 0),1,1):=by kernel_rfl
theorem zcv{w:World}{base:Nat}{e:TypeId}{size:Nat}{v:Value}{n:Nat}{xs:List Value}(h:w.ownsRow base e size v n xs)(o:Obj):(w.alloc o).ownsRow base e size v n xs:=zci h (below1 w o)
theorem add_size(bL:Nat)(sv:Value)(l:List Int)(x:Int)(w:World)(hB:Box w bL sv)(hown:w.ownsRow 0 2 1 sv l.length (intC l))(hne:sv.ownBlock≠some bL)(hl:l.length<=10000000000):
 Calls prog 147 #[jI x,PT bL] w fun e w'=>e=jr jT/\∃sv',Box w' bL sv'/\w'.ownsRow 0 2 1 sv' (l.length+1) (intC (l++ [x]))/\Foot (fun k=>k=bL\/sv.ownBlock=some k) w w'/\(∀k,sv'.ownBlock=some k->sv.ownBlock=some k\/w.heap.size<=k):=by
 obtain ⟨i0,hi,hz0,hz1,hz2⟩:=info_parts zny;have c0:=hB.cell;have l0:=hB.lt;obtain ⟨sa,sc,rfl⟩:∃a c,sv= .slice a l.length c:=by
  exact M16
 have hown1:=zcv hown (.cells #[jI x] 2);have hnb:=heap_alloc_new w (.cells #[jI x] 2);have hB1:=hB.below (below1 w (.cells #[jI x] 2));have hnews:∀(j:Nat) (u:Value),[jI x][j]?=some u->(w.alloc (.cells #[jI x] 2)).cell? (((jA w.heap.size 0):Addr).add j)=some u:=by
  intro j u hj;have hadd:((jA w.heap.size 0):Addr).add j=(jA w.heap.size j):=B16;rw[hadd,Lib.cell_of_heap hnb,<-hj];simp
 obtain ⟨v',w',hrun,hown2,hgrow,_⟩:=run_append_own (P:=prog) (w.alloc (.cells #[jI x] 2)) 0 168 168 2 i0 _ 1 8 underlying168 hi hz0 hz1 hz2 rfl B3 _ l.length _ hown1 ⟨w.heap.size,0,none⟩ 1 1 [jI x] rfl hnews B143 B53 B1 (Nat.zero_le _);have hblk:=append_block 0 168 168 2 i0 _ 1 8 underlying168 hi hz0 hz1 hz2 _ l.length _ hown1 (jA w.heap.size 0) 1 1 [jI x] rfl hnews B143 B3 B53 B1 v' w' hrun;have hB2:Box w' bL (.slice sa l.length sc):=hB1.foot (F:=fun k=>Value.ownBlock (.slice sa l.length sc)=some k) (Foot.of_grown hgrow fun k e=>e) hne;have hf:Foot (fun k=>k=bL\/Value.ownBlock (.slice sa l.length sc)=some k) w w':=(Foot.alloc (Foot.refl _ w)).trans (Foot.of_grown hgrow fun k e=> .inr e);have hnb':v'.ownBlock≠some bL:=fun e=>by
  rcases hblk bL e with h|h
  .exact hne h
  .have:w.heap.size<(w.alloc (.cells #[jI x] 2)).heap.size:=by simp
   omega
 have c1:=hB2.cell;have f1:=hB2.frozen;have l1:=hB2.lt;obtain ⟨g',cp',rfl⟩:∃g' cp',v'= .slice (some ⟨g',0,none⟩) (l.length+1) cp':=by
  rcases hown2.2 with ⟨_,h0⟩|⟨g,cap,cur,rfl,_⟩
  .omega
  .exact ⟨g,cap,rfl⟩
 have HR:=jH hrun;have HE:∃sv',Box (w'.setCell (jA bL 0) (jP g' 0 (l.length+1) cp')) bL sv'/\(w'.setCell (jA bL 0) (jP g' 0 (l.length+1) cp')).ownsRow 0 2 1 sv' (l.length+1) (intC (l++ [x]))/\Foot (fun k=>k=bL\/Value.ownBlock (.slice sa l.length sc)=some k) w (w'.setCell (jA bL 0) (jP g' 0 (l.length+1) cp'))/\(∀k,sv'.ownBlock=some k->Value.ownBlock (.slice sa l.length sc)=some k\/w.heap.size<=k):=
  ⟨_,hB2.set _,by
   unfold intC;rw[List.map_append];exact hown2.kept (row:=some bL) (zcj _ _ _ _) (.inr hnb'),Foot.set hf (.inl rfl),fun k hk=>(hblk k hk).imp_right fun h=>by simp at h;omega⟩
 clear hown hown1 hown2 hB hB1 hB2 hnb hnews hgrow hblk hf hnb' hrun hi hz0 hz1 hz2;go_enter func147,ntmps147;go_wp2_with (first|(at_builtin;refine list_append rfl (.tmp 3) (.tmp 5) 168 168 rfl _ _ rfl rfl _ _ HR.out ?_)|fail);exact jY jT (by simp[results,results147,go_sem]) ⟨rfl,HE⟩
section
variable(bN bK bO:Nat)(n f:Int)(odd:Bool)(w:World)(kN:Box w bN (jI n))(kK:Box w bK (jI f))(kO:Box w bO (.bool odd))
include bN bK bO n f odd w kN kK kO
theorem zip(hn:(n==0)=true):Ret 152 #[PT bN,PT bK,PT bO] w (VL ⟨4,4,⟨#[]⟩⟩):=by
 have HN:=jH fun (u:World)=>zcd 4 u
 open V89 in exact D30
theorem zi9(hn:(n==0)=false)(hf:(f==67)=true):Ret 152 #[PT bN,PT bK,PT bO] w (VL ⟨2,cond odd 1 0,⟨#[]⟩⟩):=by
 have HN:=jH fun (u:World)=>Fd.truth_any odd u
 open V90 in exact D30
theorem zja(hn:(n==0)=false)(hf:(f==67)=false):Ret 152 #[PT bN,PT bK,PT bO] w (VL ⟨2,cond (f==65) 1 0,⟨#[]⟩⟩):=by
 have HN:=jH fun (u:World)=>Fd.truth_any (f==65) u
 open V91 in exact D30
end
section
variable(bU bN bA:Nat)(f n all:Int)(w:World)(kU:Box w bU (jI f))(kN:Box w bN (jI n))(kA:Box w bA (jI all))
include bU bN bA f n all w kU kN kA
theorem zk5(hf:(f==74)=true):Ret 163 #[PT bU,PT bN,PT bA] w (VL ⟨1,n,⟨#[]⟩⟩):=by
 have HN:=jH fun (u:World)=>zbi n u;have c0:=kU.cell;have l0:=kU.lt;have c1:=kN.cell;have l1:=kN.lt;have c2:=kA.cell;have l2:=kA.lt;obtain ⟨hz,kz⟩:=zbd w #[jI 0,jI 0,jS ⟨#[]⟩] 41;go_enter func163,ntmps163
 open X45 in exact C6
theorem zol(hf:(f==74)=false):Ret 163 #[PT bU,PT bN,PT bA] w (VL ⟨1,all,⟨#[]⟩⟩):=by
 have HN:=jH fun (u:World)=>zbi all u;have c0:=kU.cell;have l0:=kU.lt;have c1:=kN.cell;have l1:=kN.lt;have c2:=kA.cell;have l2:=kA.lt;obtain ⟨hz,kz⟩:=zbd w #[jI 0,jI 0,jS ⟨#[]⟩] 41;go_enter func163,ntmps163
 open X46 in exact C6
end
theorem zwv(bB:Nat)(sv:Value)(b:List UInt8)(w:World)(kB:Box w bB sv)(hown:w.ownsRow 0 5 1 sv b.length (bytC b)):Ret 154 #[PT bB] w (VL ⟨3,0,⟨b.toArray⟩⟩):=by
 have c0:=kB.cell;have l0:=kB.lt;obtain ⟨hz,kz⟩:=zbd w #[jI 0,jI 0,jS ⟨#[]⟩] 41;obtain ⟨ao,cap,rfl,hle,hsh⟩:=zum (zcv hown (Obj.cells #[jI 0,jI 0,jS ⟨#[]⟩] 41));have hcv:=conv_own (l:=b) rfl hsh;go_enter func154,ntmps154;go_upto_region 1 with fail;have d0:=(kB.below hz).cell;have d1:=(kB.below hz).lt;generalize w.alloc (Obj.cells #[jI 0,jI 0,jS ⟨#[]⟩] 41)=w1 at *;obtain ⟨z0,z1,z2⟩:=zaa kz;obtain ⟨f0,f1,f2⟩:=zab kz;have lz:=(jg kz);clear hsh hown;go_wp2_with fail;exact jX (VL ⟨3,0,⟨b.toArray⟩⟩) (by simp[results,results154,go_sem,z0,z1,z2]) ⟨rfl,by repeat (first|with_reducible exact hz|with_reducible refine setB ?_ jE)⟩
end Fd
end Go.Proofs.YtoffmfgaohjjpaaGreatDoor
namespace Go.Proofs
open Go.Shelf
def Tryz.laysSort_ren:Go.Shelf.Ren:=⟨fun|53=>149|64=>179|63=>178|78=>245|79=>246|70=>236|71=>237|72=>238|73=>239|74=>240|75=>241|59=>242|76=>243|77=>244|88=>275|89=>276|90=>277|91=>278|92=>279|68=>170|96=>304|n=>n,fun|22=>168|23=>2|3=>3|51=>199|0=>0|67=>232|69=>234|4=>4|61=>225|60=>224|44=>219|5=>5|9=>9|75=>259|79=>263|83=>288|84=>289|n=>n,fun|n=>n⟩
theorem Tryz.laysSort:Go.Proofs.SlLaysN.n53 prog Tryz.laysSort_ren:={
 mixed:=by kernel_rfl
 f53:=⟨Tryz.f149.name,by decide,func149.trans (congrArg some (by kernel_rfl))⟩
 f59:=⟨Tryz.f242.name,by decide,func242.trans (congrArg some (by kernel_rfl))⟩
 f63:=⟨Tryz.f178.name,by decide,func178.trans (congrArg some (by kernel_rfl))⟩
 f64:=func179.trans (congrArg some (by kernel_rfl))
 f68:=⟨Tryz.f170.name,by decide,func170.trans (congrArg some (by kernel_rfl))⟩
 f70:=⟨Tryz.f236.name,by decide,func236.trans (congrArg some (by kernel_rfl))⟩
 f71:=⟨Tryz.f237.name,by decide,func237.trans (congrArg some (by kernel_rfl))⟩
 f72:=⟨Tryz.f238.name,by decide,func238.trans (congrArg some (by kernel_rfl))⟩
 f73:=⟨Tryz.f239.name,by decide,func239.trans (congrArg some (by kernel_rfl))⟩
 f74:=⟨Tryz.f240.name,by decide,func240.trans (congrArg some (by kernel_rfl))⟩
 f75:=⟨Tryz.f241.name,by decide,func241.trans (congrArg some (by kernel_rfl))⟩
 f76:=⟨Tryz.f243.name,by decide,func243.trans (congrArg some (by kernel_rfl))⟩
 f77:=⟨Tryz.f244.name,by decide,func244.trans (congrArg some (by kernel_rfl))⟩
 f78:=func245.trans (congrArg some (by kernel_rfl))
 f79:=func246.trans (congrArg some (by kernel_rfl))
 f88:=⟨Tryz.f275.name,by decide,func275.trans (congrArg some (by kernel_rfl))⟩
 f89:=func276.trans (congrArg some (by kernel_rfl))
 f90:=func277.trans (congrArg some (by kernel_rfl))
 f91:=⟨Tryz.f278.name,by decide,func278.trans (congrArg some (by kernel_rfl))⟩
 f92:=⟨Tryz.f279.name,by decide,func279.trans (congrArg some (by kernel_rfl))⟩
 f96:=⟨Tryz.f304.name,by decide,func304.trans (congrArg some (by kernel_rfl))⟩
 t0:=underlying0
 a0:=isAgg0
 z0:=sizeOf0
 v0:=zeroValue0
 t3:=underlying3
 a3:=isAgg3
 z3:=sizeOf3
 v3:=zeroValue3
 t4:=underlying4
 a4:=isAgg4
 z4:=sizeOf4
 v4:=zeroValue4
 t5:=underlying5
 a5:=isAgg5
 z5:=sizeOf5
 v5:=zeroValue5
 t9:=underlying9
 a9:=isAgg9
 z9:=sizeOf9
 v9:=zeroValue9
 t22:=underlying168
 a22:=isAgg168
 z22:=sizeOf168
 v22:=zeroValue168
 t23:=underlying2
 a23:=isAgg2
 z23:=sizeOf2
 v23:=zeroValue2
 t44:=underlying219
 a44:=isAgg219
 z44:=sizeOf219
 v44:=zeroValue219
 t51:=underlying199
 a51:=isAgg199
 z51:=sizeOf199
 v51:=zeroValue199
 t60:=underlying224
 a60:=isAgg224
 z60:=sizeOf224
 v60:=zeroValue224
 t61:=underlying225
 a61:=isAgg225
 z61:=sizeOf225
 v61:=zeroValue225
 t67:=underlying232
 a67:=isAgg232
 z67:=sizeOf232
 v67:=zeroValue232
 t69:=underlying234
 a69:=isAgg234
 z69:=sizeOf234
 v69:=zeroValue234
 t75:=underlying259
 a75:=isAgg259
 z75:=sizeOf259
 v75:=zeroValue259
 t79:=underlying263
 a79:=isAgg263
 z79:=sizeOf263
 v79:=zeroValue263
 t83:=underlying288
 a83:=isAgg288
 z83:=sizeOf288
 v83:=zeroValue288
 t84:=underlying289
 a84:=isAgg289
 z84:=sizeOf289
 v84:=zeroValue289}
open Go.Sort Go.RowKit in
theorem Tryz.slices_Sort_i64(blk off cap:Nat)(zs:List Int)(w:World)(hH:Holds (Value.int .i64) w blk off zs.toArray)(hblk:blk<w.heap.size)(hsz:zs.length<4611686018427387904):
 Calls prog 149 #[.slice (some ⟨blk,off,none⟩) zs.length cap] w fun e w'=>
  e= .returned (.tuple #[])/\∃n os,w'=grow (putRow (Value.int .i64) (Sort.ahead w n) blk off (zs.mergeSort fun x y=>decide (x<=y)).toArray) os:=AnyG.slices_Sort_int Tryz.laysSort blk off cap zs w hH hblk hsz
open Go.Sort Go.RowKit in
theorem Tryz.slices_Sort_i64_none(p:Option Addr)(cap:Nat)(w:World):
 Calls prog 149 #[.slice p 0 cap] w fun e w'=>e= .returned (.tuple #[])/\w'=w:=AnyG.slices_Sort_int_none Tryz.laysSort p cap w
end Go.Proofs
namespace Go.Proofs.YtoffmfgaohjjpaaGreatDoor
open Go.RowKit
namespace Fd
open Mb
def sortI(l:List Int):List Int:=l.mergeSort fun x y=>decide (x<=y)
def B20(h:jp:=by simp[results,results148,go_sem,z0,z1,z2]):=h
def B157(h:jp:=by rw[H0.out];rfl):=h
def Bp18(h:jp:=by exact Foot.of_below h3):=h
def M33(h:jp:=by
 obtain ⟨hz,kz⟩:=zbd w #[jI 0,jI 0,jS ⟨#[]⟩] 41;have own1:=zcv hown (Obj.cells #[jI 0,jI 0,jS ⟨#[]⟩] 41);go_enter func148,ntmps148;go_upto_region 1 with fail;have kL1:=kL.below hz;have kK1:=kK.below hz;have kk1:=kk.below hz;have hf1:Foot (fun k=>Value.ownBlock (.slice sa l.length sc)=some k) w (w.alloc (Obj.cells #[jI 0,jI 0,jS ⟨#[]⟩] 41)):=Foot.alloc (Foot.refl _ w);generalize w.alloc (Obj.cells #[jI 0,jI 0,jS ⟨#[]⟩] 41)=w1 at *;have d0:=kL1.cell;have d1:=kL1.lt;go_wp2_with fail;refine (HS.out _ own1).mono ?_;rintro e w2 ⟨rfl,hf,hsrt⟩;have kL2:=kL1.foot hf n1;have kK2:=kK1.foot hf n2;have kk2:=kk1.foot hf n3;have kz2:=(hf.block _ (jg kz) hzo).trans kz;have hf2:=hf1.trans hf;have hz2:=(jg kz2);clear own1 hown kL kK kk kL1 kK1 kk1 hf kz hz hf1 d0 d1 HS;have c0:=kL2.cell;have c1:=kK2.cell;have c2:=kk2.cell;have l0:=kL2.lt;have l1:=kK2.lt;have l2:=kk2.lt;clear hsrt;have t0:((l.length:Int)==0)=true:=B157;go_wp2_with fail;refine jM (HN.out _) ?_;intro w3 h3;have kz3:=(h3.block _ hz2).trans kz2;have hf3:=hf2.trans Bp18;obtain ⟨z0,z1,z2⟩:=zaa kz3;obtain ⟨f0,f1,f2⟩:=zab kz3;have lz:=(jg kz3);have hwl:w.heap.size<=w.heap.size:=jE;clear kL2 kK2 kk2 kz2 h3 hf2 c0 c1 c2;go_wp2_with fail;exact jX (VL ⟨1,0,⟨#[]⟩⟩) B20 ⟨rfl,foot_new hf3⟩):=h
def N10(h:jp:=by
 have H0:=jH h0;clear h0;have HS:=jH fun (u:World) (h:u.ownsRow 0 2 1 sv l.length (intC l))=>zhc sv l u h hl;have HN:=jH fun (u:World)=>zbi 0 u;have hzo:sv.ownBlock≠some w.heap.size:=fun e=>by have:=(hown.lt _ e).2;omega
 obtain ⟨sa,sc,rfl⟩:∃a c,sv= .slice a l.length c:=by
  exact M16
 exact M33):=h
def B27(h:jp:=by rw[beq_eq_false_iff_ne];have:=H0.out;omega):=h
def M29(h:jp:=by
 go_wp2_with fail;refine jM (HN.out _) ?_;intro w3 h3;have kz3:=(h3.block _ hz2).trans kz2;have hf3:=hf2.trans Bp18;obtain ⟨z0,z1,z2⟩:=zaa kz3;obtain ⟨f0,f1,f2⟩:=zab kz3;have lz:=(jg kz3);have hwl:w.heap.size<=w.heap.size:=jE;clear kL2 kK2 kk2 kz2 h3 hf2 c0 c1 c2;go_wp2_with fail;exact jX (VL ⟨1,x,⟨#[]⟩⟩) B20 ⟨rfl,foot_new hf3⟩):=h
def C1(h:jp:=by
 have hzo:sv.ownBlock≠some w.heap.size:=fun e=>by have:=(hown.lt _ e).2;omega
 obtain ⟨sa,sc,rfl⟩:∃a c,sv= .slice a l.length c:=by
  exact M16
 obtain ⟨hz,kz⟩:=zbd w #[jI 0,jI 0,jS ⟨#[]⟩] 41;have own1:=zcv hown (Obj.cells #[jI 0,jI 0,jS ⟨#[]⟩] 41);go_enter func148,ntmps148;go_upto_region 1 with fail;have kL1:=kL.below hz;have kK1:=kK.below hz;have kk1:=kk.below hz;have hf1:Foot (fun k=>Value.ownBlock (.slice sa l.length sc)=some k) w (w.alloc (Obj.cells #[jI 0,jI 0,jS ⟨#[]⟩] 41)):=Foot.alloc (Foot.refl _ w);generalize w.alloc (Obj.cells #[jI 0,jI 0,jS ⟨#[]⟩] 41)=w1 at *;have d0:=kL1.cell;have d1:=kL1.lt;go_wp2_with fail;refine (HS.out _ own1).mono ?_;rintro e w2 ⟨rfl,hf,hsrt⟩;have kL2:=kL1.foot hf n1;have kK2:=kK1.foot hf n2;have kk2:=kk1.foot hf n3;have kz2:=(hf.block _ (jg kz) hzo).trans kz;have hf2:=hf1.trans hf;have hz2:=(jg kz2);clear own1 hown kL kK kk kL1 kK1 kk1 hf kz hz hf1 d0 d1 HS;have c0:=kL2.cell;have c1:=kK2.cell;exact K1):=h
def X5.K1(h:jp:=by
 have c2:=kk2.cell;have l0:=kL2.lt;have l1:=kK2.lt;have l2:=kk2.lt;obtain ⟨g,c',he,hgl,hx⟩:=hsrt 0 x hx;cases he;clear hsrt;have t0:((l.length:Int)==0)=false:=B27;exact M29):=h
def D13(h:jp:=by
 have H0:=jH h0;clear h0;have HS:=jH fun (u:World) (h:u.ownsRow 0 2 1 sv l.length (intC l))=>zhc sv l u h hl;exact J13):=h
def V36.J13(h:jp:=by
 have HN:=jH fun (u:World)=>zbi x u
 open X5 in exact C1):=h
def B32(h:jp:=by have:=H0.out;omega):=h
def D33(h:jp:=by
 have c2:=kk2.cell;have l0:=kL2.lt;have l1:=kK2.lt;have l2:=kk2.lt;obtain ⟨g,c',he,hgl,hx⟩:=hsrt i x hx;exact J33):=h
def V97.J33(h:jp:=by
 cases he;clear hsrt;have t0:((l.length:Int)==0)=false:=B27;have tw:IntKind.i64.wrap ((l.length:Int)-1)=(i:Int):=wid B32 B1 B32;have hil:i<l.length:=B32;exact M29):=h
def X6.K1(h:jp:=by
 open V97 in exact D33):=h
def V37.J13(h:jp:=by
 have HN:=jH fun (u:World)=>zbi x u
 open X6 in exact C1):=h
def N23(h:jp:=by
 rcases hown.2 with ⟨rfl,h0⟩|⟨g,cap,cur,rfl,_⟩
 .rw[h0];exact ⟨_,_,rfl⟩
 .exact ⟨_,_,rfl⟩):=h
def M7(h:jp:=by
 have H0:=jH h0;clear h0;have HS:=jH fun (u:World) (h:u.ownsRow 0 2 1 sv l.length (intC l))=>zhc sv l u h hl;have HN:=jH fun (u:World)=>zcd 2 u;have hzo:sv.ownBlock≠some w.heap.size:=fun e=>by have:=(hown.lt _ e).2;omega
 obtain ⟨sa,sc,rfl⟩:∃a c,sv= .slice a l.length c:=by
  exact N23
 obtain ⟨hz,kz⟩:=zbd w #[jI 0,jI 0,jS ⟨#[]⟩] 41;have own1:=zcv hown (Obj.cells #[jI 0,jI 0,jS ⟨#[]⟩] 41);go_enter func148,ntmps148;go_upto_region 1 with fail;have kL1:=kL.below hz;have kK1:=kK.below hz;have kk1:=kk.below hz;have hf1:Foot (fun k=>Value.ownBlock (.slice sa l.length sc)=some k) w (w.alloc (Obj.cells #[jI 0,jI 0,jS ⟨#[]⟩] 41)):=Foot.alloc (Foot.refl _ w);generalize w.alloc (Obj.cells #[jI 0,jI 0,jS ⟨#[]⟩] 41)=w1 at *;have d0:=kL1.cell;have d1:=kL1.lt;go_wp2_with fail;refine (HS.out _ own1).mono ?_;rintro e w2 ⟨rfl,hf,hsrt⟩;have kL2:=kL1.foot hf n1;have kK2:=kK1.foot hf n2;have kk2:=kk1.foot hf n3;have kz2:=(hf.block _ (jg kz) hzo).trans kz;have hf2:=hf1.trans hf;have hz2:=(jg kz2);clear own1 hown kL kK kk kL1 kK1 kk1 hf kz hz hf1 d0 d1 HS;have c0:=kL2.cell;have c1:=kK2.cell;have c2:=kk2.cell;have l0:=kL2.lt;have l1:=kK2.lt;have l2:=kk2.lt;clear hsrt;have t0:((l.length:Int)==0)=true:=B157;go_wp2_with fail;refine jM (HN.out _) ?_;intro w3 h3;have kz3:=(h3.block _ hz2).trans kz2;have hf3:=hf2.trans Bp18;obtain ⟨z0,z1,z2⟩:=zaa kz3;obtain ⟨f0,f1,f2⟩:=zab kz3;have lz:=(jg kz3);have hwl:w.heap.size<=w.heap.size:=jE;clear kL2 kK2 kk2 kz2 h3 hf2 c0 c1 c2;go_wp2_with fail;exact jX (VL ⟨4,2,⟨#[]⟩⟩) B20 ⟨rfl,foot_new hf3⟩):=h
def M1(h:jp:=by
 have H0:=jH h0;clear h0;have HS:=jH fun (u:World) (h:u.ownsRow 0 2 1 sv l.length (intC l))=>zhc sv l u h hl;have HN:=jH fun (u:World)=>zcd 2 u;have hzo:sv.ownBlock≠some w.heap.size:=fun e=>by have:=(hown.lt _ e).2;omega
 obtain ⟨sa,sc,rfl⟩:∃a c,sv= .slice a l.length c:=by
  exact N23
 obtain ⟨hz,kz⟩:=zbd w #[jI 0,jI 0,jS ⟨#[]⟩] 41;have own1:=zcv hown (Obj.cells #[jI 0,jI 0,jS ⟨#[]⟩] 41);go_enter func148,ntmps148;go_upto_region 1 with fail;have kL1:=kL.below hz;have kK1:=kK.below hz;have kk1:=kk.below hz;have hf1:Foot (fun k=>Value.ownBlock (.slice sa l.length sc)=some k) w (w.alloc (Obj.cells #[jI 0,jI 0,jS ⟨#[]⟩] 41)):=Foot.alloc (Foot.refl _ w);generalize w.alloc (Obj.cells #[jI 0,jI 0,jS ⟨#[]⟩] 41)=w1 at *;have d0:=kL1.cell;have d1:=kL1.lt;go_wp2_with fail;refine (HS.out _ own1).mono ?_;rintro e w2 ⟨rfl,hf,hsrt⟩;have kL2:=kL1.foot hf n1;have kK2:=kK1.foot hf n2;have kk2:=kk1.foot hf n3;have kz2:=(hf.block _ (jg kz) hzo).trans kz;have hf2:=hf1.trans hf;have hz2:=(jg kz2);clear own1 hown kL kK kk kL1 kK1 kk1 hf kz hz hf1 d0 d1 HS;have c0:=kL2.cell;have c1:=kK2.cell;have c2:=kk2.cell;have l0:=kL2.lt;have l1:=kK2.lt;have l2:=kk2.lt;clear hsrt;have t0:((l.length:Int)==0)=false:=B27;go_wp2_with fail;refine jM (HN.out _) ?_;intro w3 h3;have kz3:=(h3.block _ hz2).trans kz2;have hf3:=hf2.trans Bp18;obtain ⟨z0,z1,z2⟩:=zaa kz3;obtain ⟨f0,f1,f2⟩:=zab kz3;have lz:=(jg kz3);have hwl:w.heap.size<=w.heap.size:=jE;clear kL2 kK2 kk2 kz2 h3 hf2 c0 c1 c2;go_wp2_with fail;exact jX (VL ⟨4,2,⟨#[]⟩⟩) B20 ⟨rfl,foot_new hf3⟩):=h
def V98.J33(h:jp:=by
 cases he;clear hsrt;have t0:((l.length:Int)==0)=false:=B27;have hk:decide (k<1)=false:=decide_eq_false B32;have hk2:decide ((l.length:Int)<k)=false:=decide_eq_false B32;have tw:IntKind.i64.wrap (k-1)=(i:Int):=wid B32 B1 B32;have hil:i<l.length:=H0.out.2;exact M29):=h
def X7.K1(h:jp:=by
 open V98 in exact D33):=h
def V38.J13(h:jp:=by
 have HN:=jH fun (u:World)=>zbi x u
 open X7 in exact C1):=h
def V99.J33(h:jp:=by
 cases he;clear hsrt;have t0:((l.length:Int)==0)=false:=B27;have hk:decide (k<1)=false:=decide_eq_false B32;have hk2:decide ((l.length:Int)<k)=false:=decide_eq_false B32;have tw:IntKind.i64.wrap ((l.length:Int)-k)=(i:Int):=wid H0.out.1 B1 B32;have hil:i<l.length:=H0.out.2.2;exact M29):=h
def X8.K1(h:jp:=by
 open V99 in exact D33):=h
def V39.J13(h:jp:=by
 have HN:=jH fun (u:World)=>zbi x u
 open X8 in exact C1):=h
def V100.J33(h:jp:=by
 cases he;clear hsrt;have t0:((l.length:Int)==0)=false:=B27;have hk2:decide ((l.length:Int)<1)=false:=decide_eq_false B32;have tr:(l.length:Int).tmod 2=1:=tm1 H0.out;have tq:(l.length:Int).tdiv 2=(i:Int):=td1 H0.out;have hil:i<l.length:=B32;exact M29):=h
def X9.K1(h:jp:=by
 open V100 in exact D33):=h
def V40.J13(h:jp:=by
 have HN:=jH fun (u:World)=>zbi x u
 open X9 in exact C1):=h
def M37(h:jp:=by
 obtain ⟨r1,r2,r3,r4,r5⟩:=Ma.FZ.zln (a.tmod 2+b.tmod 2);have:IntKind.i64.wrap (a.tdiv 2)=a.tdiv 2:=zae B1 B1;have:IntKind.i64.wrap (b.tdiv 2)=b.tdiv 2:=zae B1 B1;have:IntKind.i64.wrap (a.tdiv 2+b.tdiv 2)=a.tdiv 2+b.tdiv 2:=zae B1 B1;have:IntKind.i64.wrap (a.tmod 2)=a.tmod 2:=zae B1 B1;have:IntKind.i64.wrap (b.tmod 2)=b.tmod 2:=zae B1 B1;have:IntKind.i64.wrap (a.tmod 2+b.tmod 2)=a.tmod 2+b.tmod 2:=zae B1 B1;have:IntKind.i64.wrap ((a.tmod 2+b.tmod 2).tdiv 2)=(a.tmod 2+b.tmod 2).tdiv 2:=zae B1 B1;have:IntKind.i64.wrap (a.tdiv 2+b.tdiv 2+(a.tmod 2+b.tmod 2).tdiv 2)=a.tdiv 2+b.tdiv 2+(a.tmod 2+b.tmod 2).tdiv 2:=zae B1 B1;clear p1 p2 p3 p4 p5 q1 q2 q3 q4 q5 r1 r2 r3 r4 r5 sa' sb';go_wp2_with fail;go_region;go_wp2_with fail;refine jM (HN.out _) ?_;intro w3 h3;have kz3:=(h3.block _ hz2).trans kz2;have hf3:=(zck hf2).trans Bp18;obtain ⟨z0,z1,z2⟩:=zaa kz3;obtain ⟨f0,f1,f2⟩:=zab kz3;have lz:=(jg kz3);have hwl:w.heap.size<=w.heap.size:=jE;clear kL2 kK2 kk2 kz2 h3 hf2 c0 c1 c2;go_wp2_with fail;exact jX (VL ⟨1,a.tdiv 2+b.tdiv 2+(a.tmod 2+b.tmod 2).tdiv 2,⟨#[]⟩⟩) B20 ⟨rfl,foot_new hf3⟩):=h
def D5(h:jp:=by
 clear hsrt ha hb;have t0:((l.length:Int)==0)=false:=B27;have hk2:decide ((l.length:Int)<1)=false:=decide_eq_false B32;have tr:(l.length:Int).tmod 2=0:=tm0 H0.out;have tq:(l.length:Int).tdiv 2=(i:Int)+1:=td0 H0.out;have hil:i+1<l.length:=B32;obtain ⟨p1,p2,p3,p4,p5⟩:=Ma.FZ.zln a;obtain ⟨q1,q2,q3,q4,q5⟩:=Ma.FZ.zln b;obtain ⟨a1,a2⟩:=fa;obtain ⟨b1,b2⟩:=fb;exact J5):=h
def V15.J5(h:jp:=by
 have sa':=of_decide_eq_true da;have sb':=of_decide_eq_true db;exact M37):=h
def Da8(h:jp:=by
 have c2:=kk2.cell;have l0:=kL2.lt;have l1:=kK2.lt;have l2:=kk2.lt;obtain ⟨g,c',he,hgl,hx⟩:=hsrt i a ha;obtain ⟨g2,c2',he2,-,hx2⟩:=hsrt (i+1) b hb;exact Ja8):=h
def Va19.Ja8(h:jp:=by
 cases he;cases he2
 open V15 in exact D5):=h
def X1.K1(h:jp:=by
 open Va19 in exact Da8):=h
def V41.J13(h:jp:=by
 have HN:=jH fun (u:World)=>zbi (a.tdiv 2+b.tdiv 2+(a.tmod 2+b.tmod 2).tdiv 2) u
 open X1 in exact C1):=h
def M64(h:jp:=by
 obtain ⟨r1,r2,r3,r4,r5⟩:=Ma.FZ.zln (a+b);have:IntKind.i64.wrap (a+b)=a+b:=zae B1 B1;have:IntKind.i64.wrap ((a+b).tdiv 2)=(a+b).tdiv 2:=zae B1 B1;clear p1 p2 p3 p4 p5 q1 q2 q3 q4 q5 r1 r2 r3 r4 r5 sa' sb';go_wp2_with fail;go_region;go_wp2_with fail;refine jM (HN.out _) ?_;intro w3 h3;have kz3:=(h3.block _ hz2).trans kz2;have hf3:=(zck hf2).trans Bp18;obtain ⟨z0,z1,z2⟩:=zaa kz3;obtain ⟨f0,f1,f2⟩:=zab kz3;have lz:=(jg kz3);have hwl:w.heap.size<=w.heap.size:=jE;clear kL2 kK2 kk2 kz2 h3 hf2 c0 c1 c2;go_wp2_with fail;exact jX (VL ⟨1,(a+b).tdiv 2,⟨#[]⟩⟩) B20 ⟨rfl,foot_new hf3⟩):=h
def V16.J5(h:jp:=by
 have sa':=of_decide_eq_true da;have sb':=of_decide_eq_false db;exact M64):=h
def Va20.Ja8(h:jp:=by
 cases he;cases he2
 open V16 in exact D5):=h
def X2.K1(h:jp:=by
 open Va20 in exact Da8):=h
def V42.J13(h:jp:=by
 have HN:=jH fun (u:World)=>zbi ((a+b).tdiv 2) u
 open X2 in exact C1):=h
def V17.J5(h:jp:=by
 have sa':=of_decide_eq_false da;have sb':=of_decide_eq_true db;exact M64):=h
def Va21.Ja8(h:jp:=by
 cases he;cases he2
 open V17 in exact D5):=h
def X3.K1(h:jp:=by
 open Va21 in exact Da8):=h
def V43.J13(h:jp:=by
 have HN:=jH fun (u:World)=>zbi ((a+b).tdiv 2) u
 open X3 in exact C1):=h
def V18.J5(h:jp:=by
 have sa':=of_decide_eq_false da;have sb':=of_decide_eq_false db;exact M37):=h
def Va22.Ja8(h:jp:=by
 cases he;cases he2
 open V18 in exact D5):=h
def X4.K1(h:jp:=by
 open Va22 in exact Da8):=h
def V44.J13(h:jp:=by
 have HN:=jH fun (u:World)=>zbi (a.tdiv 2+b.tdiv 2+(a.tmod 2+b.tmod 2).tdiv 2) u
 open X4 in exact C1):=h
theorem zau(l:List Int):(sortI l).length=l.length:=List.length_mergeSort l
theorem zhd:Ma.FZ.zfq sortI:=fun l h y hy=>h y ((List.mergeSort_perm l _).mem_iff.1 hy)
theorem zn1{w:World}{g o k:Nat}(d:Array Int)(hk:k≠g):(Sort.putRow (Value.int .i64) w g o d).heap[k]?=w.heap[k]?:=by
 simp only[Sort.putRow,Sort.mapBlock,Array.getElem?_modify];rw[if_neg (fun e=>hk e.symm)]
theorem zhc(sv:Value)(l:List Int)(w:World)(hown:w.ownsRow 0 2 1 sv l.length (intC l))(hl:l.length<=10000000000):Calls prog 149 #[sv] w fun e w'=>
 e=jr jT/\Foot (fun k=>sv.ownBlock=some k) w w'/\∀(j:Nat) (n:Int),(sortI l)[j]?=some n->∃g c,sv=jP g 0 l.length c/\g<w'.heap.size/\w'.cell? (jA g j)=some (jI n):=by
 rcases hown.2 with ⟨rfl,h0⟩|⟨g,cap,cur,rfl,hb,hg,hnc,hcm,hcs,htake⟩
 .refine (Tryz.slices_Sort_i64_none none 0 w).mono ?_;rintro e w' ⟨rfl,rfl⟩;refine ⟨rfl,Foot.refl _ _,fun j n hj=> ?_⟩;have:=(jl hj);rw[zau] at this;omega
 .have hH:Sort.Holds (Value.int .i64) w g 0 l.toArray:=fun j hj=>by
   have hj:j<l.length:=B69;have hc:=World.ownsRow.cells hown (g:=g) rfl j (jI l[j]) (by unfold intC;rw[List.getElem?_map,List.getElem?_eq_getElem hj];rfl);have hadd:((jA g 0):Addr).add j=(jA g (0+j)):=B16;rw[hadd] at hc;refine ⟨?_,frozen_of_row w g _ _ _ hg⟩;rw[hc];simp[hj]
  have hgl:=(jg hg);refine (Tryz.slices_Sort_i64 g 0 cap l w hH hgl B1).mono ?_;rintro e w' ⟨rfl,n,os,rfl⟩;have hH2:Sort.Holds (Value.int .i64) (Sort.ahead w n) g 0 l.toArray:=hH;have hP:=Sort.holds_putRow (Value.int .i64) (Sort.ahead w n) g 0 l.toArray (sortI l).toArray hH2 (by simp[zau]);refine ⟨rfl,⟨rfl,rfl,rfl,?_,fun k hk hne=> ?_⟩,fun j m hj=> ⟨g,cap,rfl,?_,?_⟩⟩
  .show w.heap.size<=(Sort.grow _ os).heap.size;simp[Sort.grow,Sort.ahead]
  .rw[Sort.heap_grow_old _ os (by rw[Sort.size_putRow];exact hk)];exact zn1 _ fun e=>hne (by rw[e];rfl)
  .show g<(Sort.grow _ os).heap.size;simp[Sort.grow,Sort.ahead];omega
  .rw[Sort.cell?_grow _ os _ (by rw[Sort.size_putRow];exact hgl)];have hjl:=(jl hj);have:=(hP j (by simpa using hjl)).1;rw[Nat.zero_add] at this;rw[show (List.mergeSort l fun x y=>decide (x<=y))=sortI l from rfl,this];have:=(List.getElem?_eq_some_iff.1 hj).2;simp[hjl,this]
theorem wid{n m:Int}(h:n=m)(h1:-9223372036854775808<=m)(h2:m<=9223372036854775807):IntKind.i64.wrap n=m:=by rw[h];exact zae h1 h2
theorem tm1{n i:Nat}(h:n=2*i+1):(n:Int).tmod 2=1:=Bp76
theorem td1{n i:Nat}(h:n=2*i+1):(n:Int).tdiv 2=(i:Int):=by rw[Int.tdiv_eq_ediv_of_nonneg B1];omega
theorem tm0{n i:Nat}(h:n=2*(i+1)):(n:Int).tmod 2=0:=Bp76
theorem td0{n i:Nat}(h:n=2*(i+1)):(n:Int).tdiv 2=(i:Int)+1:=by rw[Int.tdiv_eq_ediv_of_nonneg B1];omega
theorem foot_new{F:Nat->Prop}{w w1:World}{a b c:Value}(h:Foot F w w1):Foot F w (((w1.setCell (jA w.heap.size 0) a).setCell (jA w.heap.size 1) b).setCell (jA w.heap.size 2) c):=
 ⟨h.os,h.tape,h.output,by simpa using h.size,fun k hk hn=>by
  have e:k≠w.heap.size:=B1;rw[heap_setCell_other _ _ k _ e,heap_setCell_other _ _ k _ e,heap_setCell_other _ _ k _ e];exact h.block k hk hn⟩
section
variable(bL bK bk:Nat)(sv:Value)(l:List Int)(w:World)(kL:Box w bL sv)
include bL bK bk sv l w kL
theorem sz_min0(kK:Box w bK (jI 59))(kk:Box w bk (jI 1))(hown:w.ownsRow 0 2 1 sv l.length (intC l))(hl:l.length<=10000000000)(n1:sv.ownBlock≠some bL)(n2:sv.ownBlock≠some bK)(n3:sv.ownBlock≠some bk)(h0:l.length=0):Calls prog 148 #[PT bL,PT bK,PT bk] w fun e w'=>e=jr (VL ⟨1,0,⟨#[]⟩⟩)/\Foot (fun k=>sv.ownBlock=some k) w w':=by
 exact N10
theorem sz_max0(kK:Box w bK (jI 60))(kk:Box w bk (jI 1))(hown:w.ownsRow 0 2 1 sv l.length (intC l))(hl:l.length<=10000000000)(n1:sv.ownBlock≠some bL)(n2:sv.ownBlock≠some bK)(n3:sv.ownBlock≠some bk)(h0:l.length=0):Calls prog 148 #[PT bL,PT bK,PT bk] w fun e w'=>e=jr (VL ⟨1,0,⟨#[]⟩⟩)/\Foot (fun k=>sv.ownBlock=some k) w w':=by
 exact N10
end
theorem sz_min(x:Int)(bL bK bk:Nat)(sv:Value)(l:List Int)(w:World)(kL:Box w bL sv)(kK:Box w bK (jI 59))(kk:Box w bk (jI 1))(hown:w.ownsRow 0 2 1 sv l.length (intC l))(hl:l.length<=10000000000)(n1:sv.ownBlock≠some bL)(n2:sv.ownBlock≠some bK)(n3:sv.ownBlock≠some bk)(hx:(sortI l)[0]?=some x)(h0:0<l.length):Calls prog 148 #[PT bL,PT bK,PT bk] w fun e w'=>e=jr (VL ⟨1,x,⟨#[]⟩⟩)/\Foot (fun k=>sv.ownBlock=some k) w w':=by
 open V36 in exact D13
theorem sz_max(x:Int)(i:Nat)(bL bK bk:Nat)(sv:Value)(l:List Int)(w:World)(kL:Box w bL sv)(kK:Box w bK (jI 60))(kk:Box w bk (jI 1))(hown:w.ownsRow 0 2 1 sv l.length (intC l))(hl:l.length<=10000000000)(n1:sv.ownBlock≠some bL)(n2:sv.ownBlock≠some bK)(n3:sv.ownBlock≠some bk)(hx:(sortI l)[i]?=some x)(h0:l.length=i+1):Calls prog 148 #[PT bL,PT bK,PT bk] w fun e w'=>e=jr (VL ⟨1,x,⟨#[]⟩⟩)/\Foot (fun k=>sv.ownBlock=some k) w w':=by
 open V37 in exact D13
theorem sz_med0(bL bK bk:Nat)(sv:Value)(l:List Int)(w:World)(kL:Box w bL sv)(kK:Box w bK (jI 62))(kk:Box w bk (jI 1))(hown:w.ownsRow 0 2 1 sv l.length (intC l))(hl:l.length<=10000000000)(n1:sv.ownBlock≠some bL)(n2:sv.ownBlock≠some bK)(n3:sv.ownBlock≠some bk)(h0:l.length=0):Calls prog 148 #[PT bL,PT bK,PT bk] w fun e w'=>e=jr (VL ⟨4,2,⟨#[]⟩⟩)/\Foot (fun k=>sv.ownBlock=some k) w w':=by
 exact M7
section
variable(k:Int)(bL bK bk:Nat)(sv:Value)(l:List Int)(w:World)(kL:Box w bL sv)(kK:Box w bK (jI 63))(kk:Box w bk (jI k))(hown:w.ownsRow 0 2 1 sv l.length (intC l))(hl:l.length<=10000000000)(n1:sv.ownBlock≠some bL)(n2:sv.ownBlock≠some bK)(n3:sv.ownBlock≠some bk)
include k bL bK bk sv l w kL kK kk hown hl n1 n2 n3
theorem zto(h0:l.length=0):Calls prog 148 #[PT bL,PT bK,PT bk] w fun e w'=>e=jr (VL ⟨4,2,⟨#[]⟩⟩)/\Foot (fun k=>sv.ownBlock=some k) w w':=by
 exact M7
theorem ztn(h0:0<l.length)(hk:decide (k<1)=true):Calls prog 148 #[PT bL,PT bK,PT bk] w fun e w'=>e=jr (VL ⟨4,2,⟨#[]⟩⟩)/\Foot (fun k=>sv.ownBlock=some k) w w':=by
 exact M1
theorem ztm(h0:0<l.length)(hk:decide (k<1)=false)(hk2:decide ((l.length:Int)<k)=true):Calls prog 148 #[PT bL,PT bK,PT bk] w fun e w'=>e=jr (VL ⟨4,2,⟨#[]⟩⟩)/\Foot (fun k=>sv.ownBlock=some k) w w':=by
 exact M1
end
section
variable(k:Int)(bL bK bk:Nat)(sv:Value)(l:List Int)(w:World)(kL:Box w bL sv)(kK:Box w bK (jI 64))(kk:Box w bk (jI k))(hown:w.ownsRow 0 2 1 sv l.length (intC l))(hl:l.length<=10000000000)(n1:sv.ownBlock≠some bL)(n2:sv.ownBlock≠some bK)(n3:sv.ownBlock≠some bk)
include k bL bK bk sv l w kL kK kk hown hl n1 n2 n3
theorem ztl(h0:l.length=0):Calls prog 148 #[PT bL,PT bK,PT bk] w fun e w'=>e=jr (VL ⟨4,2,⟨#[]⟩⟩)/\Foot (fun k=>sv.ownBlock=some k) w w':=by
 exact M7
theorem ztk(h0:0<l.length)(hk:decide (k<1)=true):Calls prog 148 #[PT bL,PT bK,PT bk] w fun e w'=>e=jr (VL ⟨4,2,⟨#[]⟩⟩)/\Foot (fun k=>sv.ownBlock=some k) w w':=by
 exact M1
theorem ztj(h0:0<l.length)(hk:decide (k<1)=false)(hk2:decide ((l.length:Int)<k)=true):Calls prog 148 #[PT bL,PT bK,PT bk] w fun e w'=>e=jr (VL ⟨4,2,⟨#[]⟩⟩)/\Foot (fun k=>sv.ownBlock=some k) w w':=by
 exact M1
end
section
variable(k x:Int)(i:Nat)(bL bK bk:Nat)(sv:Value)(l:List Int)(w:World)(kL:Box w bL sv)
include k x i bL bK bk sv l w kL
theorem sz_small(kK:Box w bK (jI 64))(kk:Box w bk (jI k))(hown:w.ownsRow 0 2 1 sv l.length (intC l))(hl:l.length<=10000000000)(n1:sv.ownBlock≠some bL)(n2:sv.ownBlock≠some bK)(n3:sv.ownBlock≠some bk)(hx:(sortI l)[i]?=some x)(h0:k=(i:Int)+1/\i<l.length):Calls prog 148 #[PT bL,PT bK,PT bk] w fun e w'=>e=jr (VL ⟨1,x,⟨#[]⟩⟩)/\Foot (fun k=>sv.ownBlock=some k) w w':=by
 open V38 in exact D13
theorem sz_large(kK:Box w bK (jI 63))(kk:Box w bk (jI k))(hown:w.ownsRow 0 2 1 sv l.length (intC l))(hl:l.length<=10000000000)(n1:sv.ownBlock≠some bL)(n2:sv.ownBlock≠some bK)(n3:sv.ownBlock≠some bk)(hx:(sortI l)[i]?=some x)(h0:(l.length:Int)-k=(i:Int)/\1<=k/\i<l.length):Calls prog 148 #[PT bL,PT bK,PT bk] w fun e w'=>e=jr (VL ⟨1,x,⟨#[]⟩⟩)/\Foot (fun k=>sv.ownBlock=some k) w w':=by
 open V39 in exact D13
end
theorem sz_odd(x:Int)(i:Nat)(bL bK bk:Nat)(sv:Value)(l:List Int)(w:World)(kL:Box w bL sv)(kK:Box w bK (jI 62))(kk:Box w bk (jI 1))(hown:w.ownsRow 0 2 1 sv l.length (intC l))(hl:l.length<=10000000000)(n1:sv.ownBlock≠some bL)(n2:sv.ownBlock≠some bK)(n3:sv.ownBlock≠some bk)(hx:(sortI l)[i]?=some x)(h0:l.length=2*i+1):Calls prog 148 #[PT bL,PT bK,PT bk] w fun e w'=>e=jr (VL ⟨1,x,⟨#[]⟩⟩)/\Foot (fun k=>sv.ownBlock=some k) w w':=by
 open V40 in exact D13
section
variable(a b:Int)(i:Nat)(bL bK bk:Nat)(sv:Value)(l:List Int)(w:World)(kL:Box w bL sv)(kK:Box w bK (jI 62))(kk:Box w bk (jI 1))(hown:w.ownsRow 0 2 1 sv l.length (intC l))(hl:l.length<=10000000000)(n1:sv.ownBlock≠some bL)(n2:sv.ownBlock≠some bK)(n3:sv.ownBlock≠some bk)(ha:(sortI l)[i]?=some a)(hb:(sortI l)[i+1]?=some b)(h0:l.length=2*(i+1))(fa:Ma.Fit a)(fb:Ma.Fit b)
include a b i bL bK bk sv l w kL kK kk hown hl n1 n2 n3 ha hb h0 fa fb
theorem zqz(da:decide (a<0)=true)(db:decide (b<0)=true):Calls prog 148 #[PT bL,PT bK,PT bk] w fun e w'=>e=jr (VL ⟨1,a.tdiv 2+b.tdiv 2+(a.tmod 2+b.tmod 2).tdiv 2,⟨#[]⟩⟩)/\Foot (fun k=>sv.ownBlock=some k) w w':=by
 open V41 in exact D13
theorem zq0(da:decide (a<0)=true)(db:decide (b<0)=false):Calls prog 148 #[PT bL,PT bK,PT bk] w fun e w'=>e=jr (VL ⟨1,(a+b).tdiv 2,⟨#[]⟩⟩)/\Foot (fun k=>sv.ownBlock=some k) w w':=by
 open V42 in exact D13
theorem zq1(da:decide (a<0)=false)(db:decide (b<0)=true):Calls prog 148 #[PT bL,PT bK,PT bk] w fun e w'=>e=jr (VL ⟨1,(a+b).tdiv 2,⟨#[]⟩⟩)/\Foot (fun k=>sv.ownBlock=some k) w w':=by
 open V43 in exact D13
theorem zq2(da:decide (a<0)=false)(db:decide (b<0)=false):Calls prog 148 #[PT bL,PT bK,PT bk] w fun e w'=>e=jr (VL ⟨1,a.tdiv 2+b.tdiv 2+(a.tmod 2+b.tmod 2).tdiv 2,⟨#[]⟩⟩)/\Foot (fun k=>sv.ownBlock=some k) w w':=by
 open V44 in exact D13
end
