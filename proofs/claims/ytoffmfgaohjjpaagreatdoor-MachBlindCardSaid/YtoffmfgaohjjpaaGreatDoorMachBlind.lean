/- quadrillelaw18.MachBlind, for every code, every place and every row of values. Conditions: none beside what the row lists (the library's variables as the program's text lays them, tied; the world's shape) and the form's own reach. -/
import Derived.Test.YtoffmfgaohjjpaaGreatDoorCards
import Derived.Test.YtoffmfgaohjjpaaGreatDoorTie
import Derived.Lay
import Derived.Test.YtoffmfgaohjjpaaGreatDoorQ23
set_option maxRecDepth 100000
set_option linter.unusedVariables false
namespace Go.Proofs.YtoffmfgaohjjpaaGreatDoor.machBlind
open Go.ChangeShapes Go.WideShapes Go.ChangeAt Go.RowKit
open Go.ChangeMaps (open_string shut_string)
theorem Bp6{p:Prop}(h:p:=by kernel_rfl):p:=h
theorem contract(H:Type)(enc:TypeId×Value→H)(W:World)(base:Nat)(args:Array Value)(ds gs:List (DataW H))(before:List MemPlace)
 (hval:∀(j:Nat) t v,Tryz.f3.params[j]?=some t→args[j]?=some v→Value.okWide Tryz.prog W .any base t v)
 (hW:DataW.Whole enc Tryz.prog Tryz.f3.params.toList Rows.machBlindSpec.vars false W args.toList ds gs before)
 (hsz:(DataW.weightsEach Tryz.prog (Tryz.f3.params.toList++(OpenSpec.ofChange Rows.machBlindSpec).bare.plain.varTypes Tryz.prog) (ds++gs)).all (·≤reachBytes)=true)
 (hL:laidMetH Tryz.prog Rows.machBlindRow.laid W) (hSh:W.ShapedOpen Tryz.prog):
 Calls Tryz.prog 3 args W fun e W'=>∃v,e= .returned v∧Rows.machBlindSpec.post enc Tryz.prog Tryz.f3 false true false false W args v W':=by
 have hW':=hW
 obtain ⟨p,q,hA0,hV,rfl,hfz,hnd⟩:=hW
 have hA:DataW.TrodAll enc Tryz.prog W 0 (fun _=>true) true Tryz.f3.params.toList args.toList ds p:=hA0
 rw[Tryz.params3] at hA hval hsz
 have hA1:=jH hA
 have hlt:=hW'.lt
 obtain ⟨v0,vs0,d0,ds0,p0,q0,hargs,rfl,rfl,h0,r0⟩:=trodAll_cons hA
 obtain ⟨v1,vs1,d1,ds1,p1,q1,rfl,rfl,rfl,h1,r1⟩:=trodAll_cons r0
 obtain ⟨v2,vs2,d2,ds2,p2,q2,rfl,rfl,rfl,h2,r2⟩:=trodAll_cons r1
 obtain ⟨rfl,rfl,rfl⟩:=trodAll_nil r2
 obtain rfl:args=#[v0,v1,v2]:=by cases args;simp_all
 obtain ⟨rfl,rfl⟩:=trodVars_none hV
 obtain ⟨iv0,cv0,q0,rfl,hI0,hC0,n0,m0,hT0,hV0⟩:=Mb.open_code (j:=0) (hval 0 25 v0 rfl rfl) h0 hsz rfl rfl
 obtain ⟨ro1,co1,rfl⟩:=Mb.open_spot (hval 1 27 v1 rfl rfl) h1
 obtain ⟨a2,l2,c2,rfl⟩:=okWide_slice Tryz.underlying23 (hval 2 23 v2 rfl rfl)
 clear hA0
 obtain ⟨hl2,V,hcells,hvb⟩:=open_vals (j:=2) h2 hsz rfl rfl
 simp only[List.append_nil] at hW'
 refine (Mb.blind_walk W iv0 cv0 q0 ro1 co1 a2 l2 c2 V (machN_of_laid hL) (machT_of_laid hL hSh) hI0 hC0 n0 m0 hT0 hV0 hcells hvb hl2).mono fun e W' ⟨he,hb⟩=> ?_
 subst he
 exact ⟨_,rfl,post_of_below (pv:=[]) hW' (fun _ _ _=>trodAll_cons_mk (shut_bool Tryz.underlying4 _) trodAll_mk0) (fun sp hsp=>trodAll_below laidOutSeat hb Bp6 (fun p hp=>hlt p (by simpa using hp)) hA1.out sp (fun p hp=>hsp p (by simpa using hp))) (fun _ _=>rfl) B7
  hb (ok_one Bp6 rfl (okWide_bool_mk Tryz.underlying4 _))⟩
theorem laid_met(os:Os):laidMetH Tryz.prog Rows.machBlindRow.laid ((World.laidAll Tryz.prog os Rows.machBlindRow.laid).forCall (fun _ _=>0) ⟨#[],#[.agg #[.slice none 0 0,.slice none 0 0],.agg #[.int .i64 0,.int .i64 0],.slice none 0 0],[]⟩).memory:=by
 rw[MakeChecks.laidMetH_plain _ _ _ Bp6]
 exact laidMet_laidAll _ Bp6 Bp6
theorem reads(os:Os){H:Type}(enc:TypeId×Value→H):∃places,DataW.whole enc Tryz.prog ((World.laidAll Tryz.prog os Rows.machBlindRow.laid).forCall (fun _ _=>0) ⟨#[],#[.agg #[.slice none 0 0,.slice none 0 0],.agg #[.int .i64 0,.int .i64 0],.slice none 0 0],[]⟩).memory Tryz.f3.params.toList Rows.machBlindSpec.vars false #[.agg #[.slice none 0 0,.slice none 0 0],.agg #[.int .i64 0,.int .i64 0],.slice none 0 0].toList 8=some ([.agg [.nil,.nil],.agg [.lit (.int .i64 0),.lit (.int .i64 0)],.nil],[],places):=
 ⟨[],Bp6⟩
theorem lifted(os:Os)(started:os.Started)(H:Type)(enc:TypeId×Value→H)(F:Stop.Interp):
 ReturnsInHanded {} Tryz.checked os 3 .any ((OpenSpec.ofChange Rows.machBlindSpec).preRow enc Tryz.prog Tryz.f3 Rows.machBlindRow.domain false Rows.machBlindRow.laid) (((OpenSpec.ofChange Rows.machBlindSpec).at F).post enc Tryz.prog Tryz.f3 false true false false):=by
 obtain ⟨places,hx⟩:=reads os enc
 refine returnsInHanded_of_row (C:=Tryz.checked) (s:=OpenSpec.ofChange Rows.machBlindSpec) own started Bp6 Tryz.func3
  (witness_row_atRef (enc:=enc) (C:=Tryz.checked) false (World.laidAll Tryz.prog os Rows.machBlindRow.laid) #[.agg #[.slice none 0 0,.slice none 0 0],.agg #[.int .i64 0,.int .i64 0],.slice none 0 0] (World.laidAll_os _ _ _) Bp6 Bp6 Bp6
   (OpenSpec.preRow_of_cond 8 hx Bp6 (fun k hk=>by cases hk) Bp6 (laid_met os))) ?_
 intro W base args ds gs before hval hW _ _ hsz hL hSh _
 exact contract H enc W base args ds gs before hval hW hsz hL hSh
theorem and_mk{a b:Bool}(h:a=true)(k:b=true):(a&&b)=true:=by rw[h,k];rfl
set_option maxHeartbeats 4000000 in
theorem closed:joinedFacts Tryz.pinned.checked.prog 3 Tryz.f3 (OpenSpec.ofChange Rows.machBlindSpec).bare Rows.machBlindRow=true:=by
 delta joinedFacts
 repeat' (with_reducible refine and_mk ?_ ?_)
 all_goals (as_aux_lemma=>kernel_rfl)
theorem said:Rows.MachBlindSaid:=
 OpenClaim.holds_of_cond 3 Tryz.f3 rfl rfl rfl rfl rfl rfl rfl ⟨rfl,rfl,rfl,rfl,rfl⟩ rfl rfl rfl rfl rfl Bp6 Tryz.func3 closed
  (of_decide_eq_true Bp6) (by unfold Func.isWrapper;first|(rw[if_pos B49];kernel_rfl)|(rw[if_neg B49];exact ⟨rfl,rfl⟩))
  (fun os started H enc _ F=>by rw[OpenClaim.pre_eq_preRow];exact lifted os started H enc F)
theorem plain(f:FuncId)(fn:Func)(hf:Tryz.pinned.checked.prog.funcNamed Tryz.f3.name=some f)(hfn:Tryz.pinned.checked.prog.funcs[f]?=some fn):
 true=Tryz.pinned.checked.prog.looks []∧∀(j:Nat) t,fn.params[j]?=some t→Tryz.pinned.checked.prog.wantsStandIn t=false:=by
 obtain rfl:f=3:=Option.some.inj ((show Tryz.prog.funcNamed Tryz.f3.name=some 3 by kernel_rfl).symm.trans hf)|>.symm
 obtain rfl:fn=Tryz.f3:=(Option.some.inj (Tryz.func3.symm.trans hfn)).symm
 refine ⟨looksSeat,fun j t ht=> ?_⟩
 rw[Tryz.params3] at ht
 have hm:t∈[25,27,23]:=by simpa using Array.mem_of_getElem? ht
 have hall:([25,27,23].all fun u=> !Tryz.prog.wantsStandIn u)=true:=Bp6
 exact (show Tryz.prog.wantsStandIn t=false by simpa using List.all_eq_true.1 hall t hm)
theorem proved:Rows.MachBlindCardSaid:=
 Claim7.holds_tied_plain_at .later [] _ _ _ _ said (fun _ h=>by cases h) Bp6 (fun _ h=>by cases h) machBlind_row_tie rfl ⟨rfl,rfl⟩ Bp6 rfl plain Bp6
end Go.Proofs.YtoffmfgaohjjpaaGreatDoor.machBlind
