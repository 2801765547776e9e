/- quadrillelaw5.goes at every text: true. -/
import Derived.Test.YtdbjmjeiaajdiaaDoorR5J
namespace Go.Proofs.YtdbjmjeiaajdiaaDoor
open Go.RowKit Go.Shelf
set_option linter.unusedVariables false
attribute [local go_sem] Oper.semAt_some
set_option maxRecDepth 100000 in
set_option maxHeartbeats 4000000 in
theorem goes_any (s : ByteArray) (m : Int) (w : World) (hs : s.size ≤ 200000) : Calls Tryd.prog 44 #[.string s, .int .i64 m] w fun e w' => e = .returned (.bool true) ∧ Below w.heap.size w w' := by
  have HS := Lib.hid (fun w => starts_any s w hs)
  have hcl := Run.cnt_le_size s
  have hal := fun k => Run.adv_le s k 0 (Nat.zero_le _)
  have HR := Lib.hid (fun w i hi => rune_any s i w (by omega) hi)
  refine (callsIn_wide (n := 8)).1 ?_
  refine callsIn_of_wp_marks Tryd.func44 rfl trivial ?_ rfl
  simp only [Tryd.ntmps44, List.size_toArray, List.length_cons, List.length_nil, Nat.reduceAdd, Nat.reduceSub, Array.replicate_succ, Array.replicate_zero, List.push_toArray, List.append_toArray, List.nil_append, List.cons_append]
  gi_wp2_with (fail)
  refine ⟨trivial, ?_⟩
  refine (callsIn_wide.2 (HS.out _)).mono ?_
  rintro e w1 ⟨g, cap, rfl, hst, hb1⟩
  have hN : (((w.alloc (Obj.cells #[Value.string s] 9)).alloc (Obj.cells #[Value.int IntKind.i64 m] 2)).alloc (Obj.cells #[Value.bool false] 4)).heap.size = w.heap.size + 3 := by simp
  have b0 : Boxed (((w.alloc (Obj.cells #[Value.string s] 9)).alloc (Obj.cells #[Value.int IntKind.i64 m] 2)).alloc (Obj.cells #[Value.bool false] 4)) w.heap.size 9 (.string s) := ((Boxed.new w 9 (.string s)).alloc _).alloc _
  have b1 : Boxed (((w.alloc (Obj.cells #[Value.string s] 9)).alloc (Obj.cells #[Value.int IntKind.i64 m] 2)).alloc (Obj.cells #[Value.bool false] 4)) (w.heap.size + 1) 2 (.int .i64 m) := by
    have := (Boxed.new (w.alloc (Obj.cells #[Value.string s] 9)) 2 (.int .i64 m)).alloc (Obj.cells #[Value.bool false] 4)
    simpa only [World.size_alloc] using this
  have b2 : Boxed (((w.alloc (Obj.cells #[Value.string s] 9)).alloc (Obj.cells #[Value.int IntKind.i64 m] 2)).alloc (Obj.cells #[Value.bool false] 4)) (w.heap.size + 1 + 1) 4 (.bool false) := by
    have := Boxed.new ((w.alloc (Obj.cells #[Value.string s] 9)).alloc (Obj.cells #[Value.int IntKind.i64 m] 2)) 4 (.bool false)
    simpa only [World.size_alloc] using this
  have hb0 : Below w.heap.size w (((w.alloc (Obj.cells #[Value.string s] 9)).alloc (Obj.cells #[Value.int IntKind.i64 m] 2)).alloc (Obj.cells #[Value.bool false] 4)) := (((Below.refl _ w).alloc (Nat.le_refl _) _).alloc (by simp) _).alloc (by simp; omega) _
  generalize ((w.alloc (Obj.cells #[Value.string s] 9)).alloc (Obj.cells #[Value.int IntKind.i64 m] 2)).alloc (Obj.cells #[Value.bool false] 4) = Wb at *
  have cS := (hb1.cell (p := ⟨w.heap.size, 0, none⟩) (by simp; omega)).trans b0.cell
  have cM := (hb1.cell (p := ⟨w.heap.size + 1, 0, none⟩) (by simp; omega)).trans b1.cell
  have cR := (hb1.cell (p := ⟨w.heap.size + 1 + 1, 0, none⟩) (by simp; omega)).trans b2.cell
  have fR := (hb1.frozen (p := ⟨w.heap.size + 1 + 1, 0, none⟩) (by simp; omega)).trans b2.frozen
  replace hb0 : Below w.heap.size w w1 := hb0.trans (hb1.mono (by omega))
  have hz1 : w.heap.size + 3 ≤ w1.heap.size := by have := hb1.size; omega
  rw [hN] at hst
  clear b0 b1 b2 hb1 hN
  unfold StartsAt at hst
  generalize hc : Run.cnt s 0 = c at *
  have HC0 := Lib.hid hc
  clear hc
  obtain ⟨hg0, hg1, hg2, hst⟩ := hst
  have bL : Boxed (w1.alloc (Obj.cells #[Value.slice (some ⟨g, 0, none⟩) (c + 1) cap] 90)) w1.heap.size 90 (Value.slice (some ⟨g, 0, none⟩) (c + 1) cap) := Boxed.new _ _ _
  have hbA : Below w1.heap.size w1 (w1.alloc (Obj.cells #[Value.slice (some ⟨g, 0, none⟩) (c + 1) cap] 90)) := (Below.refl _ _).alloc (Nat.le_refl _) _
  have cS2 := (hbA.cell (p := ⟨w.heap.size, 0, none⟩) (by simp; omega)).trans cS
  gi_wp2_with (fail)
  refine ⟨trivial, ?_⟩
  refine (all_in Fence.wide _ trivial rfl s _).mono ?_
  rintro e w2 ⟨rfl, rfl⟩
  have hnil : ∀ (b : Nat) (w : World), (binOp BinOp.eql 60 (.func (.func 68) #[] #[.pointer (some ⟨b, 0, none⟩)]) .nilFunc).run Tryd.prog w = .ok (.bool false) w := fun _ _ => by kernel_rfl
  gi_wp2_with (fail)
  clear cS2 hbA bL hnil
  have hb3 : Below w1.heap.size w1 ((((w1.alloc (Obj.cells #[Value.slice (some ⟨g, 0, none⟩) (c + 1) cap] 90)).alloc (Obj.cells #[Value.string s] 9)).alloc (Obj.cells #[Value.func (Fn.func 68) #[] #[Value.pointer (some ⟨w1.heap.size + 1, 0, none⟩)]] 60)).alloc (Obj.cells #[Value.int IntKind.i64 0] 3)) := ((((Below.refl w1.heap.size w1).alloc (Nat.le_refl _) _).alloc (by simp) _).alloc (by simp; omega) _).alloc (by simp; omega) _
  have bL : Boxed ((((w1.alloc (Obj.cells #[Value.slice (some ⟨g, 0, none⟩) (c + 1) cap] 90)).alloc (Obj.cells #[Value.string s] 9)).alloc (Obj.cells #[Value.func (Fn.func 68) #[] #[Value.pointer (some ⟨w1.heap.size + 1, 0, none⟩)]] 60)).alloc (Obj.cells #[Value.int IntKind.i64 0] 3)) w1.heap.size 90 (Value.slice (some ⟨g, 0, none⟩) (c + 1) cap) := (((Boxed.new w1 _ _).alloc _).alloc _).alloc _
  have bAs : Boxed ((((w1.alloc (Obj.cells #[Value.slice (some ⟨g, 0, none⟩) (c + 1) cap] 90)).alloc (Obj.cells #[Value.string s] 9)).alloc (Obj.cells #[Value.func (Fn.func 68) #[] #[Value.pointer (some ⟨w1.heap.size + 1, 0, none⟩)]] 60)).alloc (Obj.cells #[Value.int IntKind.i64 0] 3)) (w1.heap.size + 1) 9 (Value.string s) := by
    have := ((Boxed.new (w1.alloc (Obj.cells #[Value.slice (some ⟨g, 0, none⟩) (c + 1) cap] 90)) 9 (Value.string s)).alloc (Obj.cells #[Value.func (Fn.func 68) #[] #[Value.pointer (some ⟨w1.heap.size + 1, 0, none⟩)]] 60)).alloc (Obj.cells #[Value.int IntKind.i64 0] 3)
    simpa only [World.size_alloc] using this
  have bA : Boxed ((((w1.alloc (Obj.cells #[Value.slice (some ⟨g, 0, none⟩) (c + 1) cap] 90)).alloc (Obj.cells #[Value.string s] 9)).alloc (Obj.cells #[Value.func (Fn.func 68) #[] #[Value.pointer (some ⟨w1.heap.size + 1, 0, none⟩)]] 60)).alloc (Obj.cells #[Value.int IntKind.i64 0] 3)) (w1.heap.size + 1 + 1) 60 (Value.func (Fn.func 68) #[] #[Value.pointer (some ⟨w1.heap.size + 1, 0, none⟩)]) := by
    have := (Boxed.new ((w1.alloc (Obj.cells #[Value.slice (some ⟨g, 0, none⟩) (c + 1) cap] 90)).alloc (Obj.cells #[Value.string s] 9)) 60 (Value.func (Fn.func 68) #[] #[Value.pointer (some ⟨w1.heap.size + 1, 0, none⟩)])).alloc (Obj.cells #[Value.int IntKind.i64 0] 3)
    simpa only [World.size_alloc] using this
  have bP : Boxed ((((w1.alloc (Obj.cells #[Value.slice (some ⟨g, 0, none⟩) (c + 1) cap] 90)).alloc (Obj.cells #[Value.string s] 9)).alloc (Obj.cells #[Value.func (Fn.func 68) #[] #[Value.pointer (some ⟨w1.heap.size + 1, 0, none⟩)]] 60)).alloc (Obj.cells #[Value.int IntKind.i64 0] 3)) (w1.heap.size + 1 + 1 + 1) 3 (.int .i64 0) := by
    have := Boxed.new (((w1.alloc (Obj.cells #[Value.slice (some ⟨g, 0, none⟩) (c + 1) cap] 90)).alloc (Obj.cells #[Value.string s] 9)).alloc (Obj.cells #[Value.func (Fn.func 68) #[] #[Value.pointer (some ⟨w1.heap.size + 1, 0, none⟩)]] 60)) 3 (.int .i64 0)
    simpa only [World.size_alloc] using this
  have hz0 : ((((w1.alloc (Obj.cells #[Value.slice (some ⟨g, 0, none⟩) (c + 1) cap] 90)).alloc (Obj.cells #[Value.string s] 9)).alloc (Obj.cells #[Value.func (Fn.func 68) #[] #[Value.pointer (some ⟨w1.heap.size + 1, 0, none⟩)]] 60)).alloc (Obj.cells #[Value.int IntKind.i64 0] 3)).heap.size = w1.heap.size + 4 := by simp
  have hz0a := Nat.le_of_eq hz0
  have hz0b := Nat.le_of_eq hz0.symm
  clear hz0
  generalize ((((w1.alloc (Obj.cells #[Value.slice (some ⟨g, 0, none⟩) (c + 1) cap] 90)).alloc (Obj.cells #[Value.string s] 9)).alloc (Obj.cells #[Value.func (Fn.func 68) #[] #[Value.pointer (some ⟨w1.heap.size + 1, 0, none⟩)]] 60)).alloc (Obj.cells #[Value.int IntKind.i64 0] 3)) = W0 at *
  replace cS := (hb3.cell (p := ⟨w.heap.size, 0, none⟩) (by simp; omega)).trans cS
  replace cM := (hb3.cell (p := ⟨w.heap.size + 1, 0, none⟩) (by simp; omega)).trans cM
  replace cR := (hb3.cell (p := ⟨w.heap.size + 1 + 1, 0, none⟩) (by simp; omega)).trans cR
  replace fR := (hb3.frozen (p := ⟨w.heap.size + 1 + 1, 0, none⟩) (by simp; omega)).trans fR
  replace hst : ∀ j, j ≤ c → W0.cell? ⟨g, j, none⟩ = some (.int .i64 (Run.adv s j 0 : Int)) := fun j hj => (hb3.cell (p := ⟨g, j, none⟩) hg1).trans (hst j hj)
  replace hb3 : Below w.heap.size w W0 := hb0.trans (hb3.mono (by omega))
  obtain ⟨T, hT⟩ : ∃ T, T = w1.heap.size + 1 + 1 + 1 := ⟨_, rfl⟩
  have HST := Lib.hid hst
  have HAL := Lib.hid hal
  have HBL := Lib.hid bL
  have HBA := Lib.hid bA
  have HAS := Lib.hid bAs
  have cL0 := bL.cell
  have cA0 := bA.cell
  have cAs0 := bAs.cell
  clear hst hal bL bA bAs hb0 hg0 hg2
  refine wpIn_loop_rounds 3 ?_
  rw [roundsIn_succ]
  have cP0 := bP.cell
  have hK0 : Below W0.heap.size W0 (W0.alloc (Obj.cells #[Value.int IntKind.i64 0] 3)) := (Below.refl _ _).alloc (Nat.le_refl _) _
  have cA0 := (hK0.cell (p := ⟨w1.heap.size + 1 + 1, 0, none⟩) (by have := (Below.refl T W0).size; simp; omega)).trans (((Below.refl T W0).cell (p := ⟨w1.heap.size + 1 + 1, 0, none⟩) (by simp; omega)).trans cA0)
  gi_wp2_with (fail)
  have bK0 : Boxed (W0.alloc (Obj.cells #[Value.int IntKind.i64 0] 3)) W0.heap.size 3 (.int .i64 0) := Boxed.new _ _ _
  have bQ0 : Boxed (W0.alloc (Obj.cells #[Value.int IntKind.i64 0] 3)) (w1.heap.size + 1 + 1 + 1) 3 (.int .i64 0) := bP.alloc _
  have hB0 : Below T W0 (W0.alloc (Obj.cells #[Value.int IntKind.i64 0] 3)) := (Below.refl T W0).trans (hK0.mono (by have := (Below.refl T W0).size; omega))
  have hzK0 : W0.heap.size + 1 ≤ (W0.alloc (Obj.cells #[Value.int IntKind.i64 0] 3)).heap.size := by simp
  have hzV0 := (Below.refl T W0).size
  have cAs0 := (hB0.cell (p := ⟨w1.heap.size + 1, 0, none⟩) (by simp; omega)).trans cAs0
  have hPb0 := bP.lt
  clear cP0 cA0 hK0
  generalize W0.alloc (Obj.cells #[Value.int IntKind.i64 0] 3) = V0a at *
  obtain ⟨Kb0, hKb0⟩ : ∃ k, W0.heap.size = k := ⟨_, rfl⟩
  rw [hKb0] at bK0 hzK0 hPb0 hzV0 ⊢
  have hseq0 := all_stops Fence.wide 7 trivial rfl (by omega) (w1.heap.size + 1) s V0a (by omega) (by omega) cAs0
  rw [HC0.out] at hseq0
  clear cAs0
  have hOwn0 : OwnFrom V0a.heap.size (fun (pre : List (Nat × Nat)) W => ((Boxed W Kb0 3 (.int .i64 (pre.length : Int)) ∧ Boxed W (w1.heap.size + 1 + 1 + 1) 3 (.int .i64 0)) ∧ (Good s pre ∧ Hid (∀ j, 1 ≤ j → j ≤ pre.length → ¬ (j : Int) = m))) ∧ (Below T W0 W)) := (OwnFrom.and (OwnFrom.and (OwnFrom.and (Own.from (boxed_own _ _ _) _) (Own.from (boxed_own _ _ _) _)) (ownFrom_pure _ _)) (ownFrom_below (by omega) (by omega)))
  have hOwn0b : OwnFrom V0a.heap.size (fun (pre : List (Nat × Nat)) W => ((Boxed W Kb0 3 (.int .i64 (pre.length : Int)) ∧ Boxed W (w1.heap.size + 1 + 1 + 1) 3 (.int .i64 0)) ∧ Good s pre) ∧ (Below T W0 W)) := (OwnFrom.and (OwnFrom.and (OwnFrom.and (Own.from (boxed_own _ _ _) _) (Own.from (boxed_own _ _ _) _)) (ownFrom_pure _ _)) (ownFrom_below (by omega) (by omega)))
  refine rangeH1 rfl (by omega) (gf := 68) (lb := #[.pointer (some ⟨w1.heap.size + 1, 0, none⟩)]) rfl trivial (enters_of Tryd.func68 (by kernel_rfl) rfl) hseq0 (Below.refl _ _) (fun _ => rfl)
    (fun pre W => ((Boxed W Kb0 3 (.int .i64 (pre.length : Int)) ∧ Boxed W (w1.heap.size + 1 + 1 + 1) 3 (.int .i64 0)) ∧ (Good s pre ∧ Hid (∀ j, 1 ≤ j → j ≤ pre.length → ¬ (j : Int) = m))) ∧ (Below T W0 W))
    (fun c' pre W => (c' = .ret ∧ ¬ Good s pre) ∨ (c' = .exit 2 ∧ (pre.length : Int) = m ∧ ((Boxed W Kb0 3 (.int .i64 (pre.length : Int)) ∧ Boxed W (w1.heap.size + 1 + 1 + 1) 3 (.int .i64 0)) ∧ Good s pre) ∧ (Below T W0 W)))
    hOwn0 ?ix0 ⟨⟨⟨bK0, bQ0⟩, good_nil s, Lib.hid (fun j h1 h2 => by simp at h2; omega)⟩, hB0⟩ ?a0 ?assign0 ?body0 ?done0 ?stop0
  case assign0 =>
    intro l x W K hK
    gi_wp2
    exact hK
  case ix0 =>
    intro c' pre X Y row hs hg hr
    rcases hs with h | ⟨h1, h2, h3⟩
    · exact .inl h
    · exact .inr ⟨h1, h2, hOwn0b pre X Y row h3 hg hr⟩
  case body0 =>
    rintro l pre ⟨x1, x2⟩ W hl ⟨r, hr⟩ ⟨⟨⟨bK, bP⟩, ⟨hgood, HNM⟩⟩, hB⟩ hlen
    have hlW := (Array.getElem?_eq_some_iff.1 hr).1
    obtain ⟨k, hk⟩ : ∃ k, pre.length = k := ⟨_, rfl⟩
    rw [hk] at bK hlen
    have he : ((pre ++ [(x1, x2)]).length : Int) = (k : Int) + 1 := by rw [List.length_append, hk]; rfl
    have HK := Lib.hid hk
    have HE := Lib.hid he
    have HGood := Lib.hid hgood
    have HBW := Lib.hid hB
    have HHR := Lib.hid hr
    have cK := bK.cell
    have fK := bK.frozen
    have cP := bP.cell
    have hbK := bK.lt
    have hPK : (w1.heap.size + 1 + 1 + 1) ≠ Kb0 := by omega
    have HBK := Lib.hid bK
    have HBP := Lib.hid bP
    have cS1 := (hB.cell (p := ⟨w.heap.size, 0, none⟩) (by simp; omega)).trans cS
    have cM1 := (hB.cell (p := ⟨w.heap.size + 1, 0, none⟩) (by simp; omega)).trans cM
    have cR1 := (hB.cell (p := ⟨w.heap.size + 1 + 1, 0, none⟩) (by simp; omega)).trans cR
    have fR1 := (hB.frozen (p := ⟨w.heap.size + 1 + 1, 0, none⟩) (by simp; omega)).trans fR
    have cL1 := (hB.cell (p := ⟨w1.heap.size, 0, none⟩) (by simp; omega)).trans cL0
    have cg := (hB.cell (p := ⟨g, k, none⟩) (by simp; omega)).trans (HST.out k (by omega))
    have hgT : g < T := by omega
    obtain ⟨q, hq⟩ : ∃ q, Run.adv s k 0 = q := ⟨_, rfl⟩
    rw [hq] at cg
    have hqs : q < s.size := by rw [← hq]; exact Run.adv_lt s k 0 (by rw [HC0.out]; exact hlen)
    have HQ := Lib.hid hq
    have t1 : decide ((c : Int) ≤ (k : Int)) = false := decide_eq_false (by omega)
    have t1' : decide (c ≤ k) = false := decide_eq_false (by omega)
    have hWz := hB.size
    clear hk he hgood hB hr bK bP hq
    by_cases hx : x1 = q
    · subst hx
      have t2 : ((x1 : Int) != (x1 : Int)) = false := by simp
      obtain ⟨y, hy⟩ : ∃ y, IntKind.i64.wrap (x2 : Int) = y := ⟨_, rfl⟩
      have HR2 := Lib.hid (fun w => HR.out w x1 hqs)
      obtain ⟨rn, hrn⟩ : ∃ rn, (Utf8.decode s x1).1 = rn := ⟨_, rfl⟩
      simp only [hrn] at HR2
      have HRN := Lib.hid hrn
      clear hrn
      gi_wp2_with (fail)
      refine ⟨trivial, ?_⟩
      refine (CallsIn.inRound l (callsIn_wide.2 (HR2.out _))).mono ?_
      rintro e W' ⟨rfl, hbn⟩
      have hWz' := hbn.size
      have bK := Boxed.below5 HBK.out hbn (by omega)
      have bP := Boxed.below5 HBP.out hbn (by omega)
      replace cK := bK.cell
      replace fK := bK.frozen
      replace cP := bP.cell
      replace cS1 := (hbn.cell (p := ⟨w.heap.size, 0, none⟩) (by simp; omega)).trans cS1
      replace cM1 := (hbn.cell (p := ⟨w.heap.size + 1, 0, none⟩) (by simp; omega)).trans cM1
      replace cR1 := (hbn.cell (p := ⟨w.heap.size + 1 + 1, 0, none⟩) (by simp; omega)).trans cR1
      replace fR1 := (hbn.frozen (p := ⟨w.heap.size + 1 + 1, 0, none⟩) (by simp; omega)).trans fR1
      replace cL1 := (hbn.cell (p := ⟨w1.heap.size, 0, none⟩) (by simp; omega)).trans cL1
      have HHR' : Hid (W'.heap[l]? = some (.loop r)) := Lib.hid ((hbn.block l hlW).trans HHR.out)
      have HB' : Hid (Below T W0 W') := Lib.hid (HBW.out.trans (hbn.mono (by omega)))
      have HBN := Lib.hid hbn
      have HBK' := Lib.hid bK
      have HBP' := Lib.hid bP
      clear hbn bK bP cg
      by_cases hyr : y = (rn : Int)
      · have HG2 : Hid (Good s (pre ++ [(x1, x2)])) := Lib.hid (good_next HK.out HGood.out HQ.out.symm (by rw [HQ.out, HRN.out, ← hyr, ← hy]))
        subst hyr
        have t3 : ((rn : Int) != (rn : Int)) = false := by simp
        obtain ⟨z, hz⟩ : ∃ z : Int, (k : Int) + 1 = z := ⟨_, rfl⟩
        have HE2 : Hid (((pre ++ [(x1, x2)]).length : Int) = z) := Lib.hid (by rw [← hz]; exact HE.out)
        have hs1 : Boxed (W'.setCell ⟨Kb0, 0, none⟩ (.int .i64 z)) Kb0 3 (.int .i64 z) := Boxed.set _ HBK'.out
        have hs2 : Boxed (W'.setCell ⟨Kb0, 0, none⟩ (.int .i64 z)) (w1.heap.size + 1 + 1 + 1) 3 (.int .i64 0) := Boxed.other HBP'.out hPK _
        have hs3 : Below T W0 (W'.setCell ⟨Kb0, 0, none⟩ (.int .i64 z)) := HB'.out.setCell (p := ⟨Kb0, 0, none⟩) (by simp; omega) _
        have hs4 : KeepsFrom V0a.heap.size W (W'.setCell ⟨Kb0, 0, none⟩ (.int .i64 z)) := (keepsFrom_below HBN.out).trans ((KeepsOthers.setCell _ _ _).from _)
        have hs5 : KeepsWalks W (W'.setCell ⟨Kb0, 0, none⟩ (.int .i64 z)) := (keepsWalks_below HBN.out).trans (KeepsWalks.setCell _ _ _)
        rw [← HE2.out] at hs1
        have HS1 : Hid (Boxed (W'.setCell ⟨Kb0, 0, none⟩ (.int .i64 z)) Kb0 3 (.int .i64 ((pre ++ [(x1, x2)]).length : Int))) := Lib.hid (by rw [HE2.out] at hs1 ⊢; exact hs1)
        have HS2 := Lib.hid hs2
        have HS3 := Lib.hid hs3
        have HS4 := Lib.hid hs4
        have HS5 := Lib.hid hs5
        clear hs1 hs2 hs3 hs4 hs5
        by_cases hm : z = m
        · subst hm
          by_cases h2 : z = 2
          · subst h2
            gi_wp2
            exact ⟨HS4.out, .inr ⟨rfl, HE2.out, ⟨⟨HS1.out, HS2.out⟩, HG2.out⟩, HS3.out⟩⟩
          · have t4 : (z == 2) = false := by simpa using h2
            gi_wp2
            exact ⟨HS4.out, .inr ⟨rfl, HE2.out, ⟨⟨HS1.out, HS2.out⟩, HG2.out⟩, HS3.out⟩⟩
        · have t5 : (z == m) = false := by simpa using hm
          have HNM2 : Hid (∀ j, 1 ≤ j → j ≤ (pre ++ [(x1, x2)]).length → ¬ (j : Int) = m) := Lib.hid (fun j h1 h2 h3 => by
            have h4 := HE2.out
            have h5 := HE.out
            by_cases e : j ≤ pre.length
            · exact HNM.out j h1 e h3
            · apply hm; rw [HK.out] at e; omega)
          by_cases h2 : z = 2
          · subst h2
            gi_wp2
            exact ⟨HS4.out, HS5.out, ⟨⟨HS1.out, HS2.out⟩, ⟨HG2.out, HNM2⟩⟩, HS3.out⟩
          · have t4 : (z == 2) = false := by simpa using h2
            gi_wp2
            exact ⟨HS4.out, HS5.out, ⟨⟨HS1.out, HS2.out⟩, ⟨HG2.out, HNM2⟩⟩, HS3.out⟩
      · have HG2 : Hid (¬ Good s (pre ++ [(x1, x2)])) := Lib.hid (good_not HK.out (fun h => hyr (by rw [← hy, ← HRN.out, ← HQ.out]; exact h.2)) HGood.out)
        have t3 : (y != (rn : Int)) = true := by simpa using hyr
        gi_wp2
        exact ⟨(keepsFrom_below HBN.out).trans ((KeepsOthers.setCell _ _ _).from _), .inl ⟨rfl, HG2.out⟩⟩
    · have t2 : ((x1 : Int) != (q : Int)) = true := by rw [bne_iff_ne]; omega
      have HG2 : Hid (¬ Good s (pre ++ [(x1, x2)])) := Lib.hid (good_not HK.out (fun h => hx (by rw [← HQ.out]; exact h.1)) HGood.out)
      gi_wp2
      exact ⟨(KeepsOthers.setCell _ _ _).from _, .inl ⟨rfl, HG2.out⟩⟩
  case done0 =>
    rintro D xs W hD rfl ⟨⟨⟨bK, bP⟩, ⟨hgood, HNM⟩⟩, hB⟩ hDk
    rw [its_length] at bK
    have hnm : ∀ j, 1 ≤ j → j ≤ c → ¬ (j : Int) = m := fun j h1 h2 => HNM.out j h1 (by rw [its_length]; exact h2)
    have t6 : decide (1 ≤ m) = false ∨ (decide (1 ≤ m) = true ∧ decide (m < (c : Int)) = false) := by
      by_cases h1 : 1 ≤ m
      · refine .inr ⟨decide_eq_true h1, decide_eq_false (fun h2 => hnm m.toNat (by omega) (by omega) (by omega))⟩
      · exact .inl (decide_eq_false h1)
    clear hgood HNM hnm
    have cK := bK.cell
    have cP := bP.cell
    have cM1 := (hB.cell (p := ⟨w.heap.size + 1, 0, none⟩) (by simp; omega)).trans cM
    have cR1 := (hB.cell (p := ⟨w.heap.size + 1 + 1, 0, none⟩) (by simp; omega)).trans cR
    have fR1 := (hB.frozen (p := ⟨w.heap.size + 1 + 1, 0, none⟩) (by simp; omega)).trans fR
    have cL1 := (hB.cell (p := ⟨w1.heap.size, 0, none⟩) (by simp; omega)).trans cL0
    have hWz := hB.size
    have hbO : Below W.heap.size W (W.alloc (Obj.cells #[Value.int IntKind.i64 0] 3)) := (Below.refl _ _).alloc (Nat.le_refl _) _
    have HbO := Lib.hid hbO
    have bN : Boxed (W.alloc (Obj.cells #[Value.int IntKind.i64 0] 3)) W.heap.size 3 (.int .i64 0) := Boxed.new _ _ _
    have cN := bN.cell
    have fN := bN.frozen
    clear hbO
    rcases t6 with t6 | ⟨t6, t7⟩
    · gi_wp2_with (fail)
      have hV1 : Below T W0 (W.alloc (Obj.cells #[Value.int IntKind.i64 1] 3)) := hB.alloc (by omega) _
      have bV1 : Boxed (W.alloc (Obj.cells #[Value.int IntKind.i64 1] 3)) W.heap.size 3 (.int .i64 1) := Boxed.new _ _ _
      have hm0 : (W.alloc (Obj.cells #[Value.int IntKind.i64 1] 3)).heap[D]? = some (.deferred (some [])) := (Below.heap_alloc _ _ _ (Array.getElem?_eq_some_iff.1 hDk).1).trans hDk
      have hzW : W.heap.size < (W.alloc (Obj.cells #[Value.int IntKind.i64 1] 3)).heap.size := by simp
      have hDl := (Array.getElem?_eq_some_iff.1 hm0).1
      have HbV : Hid (Below w.heap.size w (W.alloc (Obj.cells #[Value.int IntKind.i64 1] 3))) := Lib.hid (hb3.trans (hV1.mono (by omega)))
      rw [roundsIn_succ]
      clear cK cP cM1 cR1 fR1 cL1 HbO bN cN fN bK bP hB hDk
      generalize W.alloc (Obj.cells #[Value.int IntKind.i64 1] 3) = V at *
      generalize W.heap.size = Pb at *
      have cP1 := bV1.cell
      have hK1 : Below V.heap.size V (V.alloc (Obj.cells #[Value.int IntKind.i64 0] 3)) := (Below.refl _ _).alloc (Nat.le_refl _) _
      have cA1 := (hK1.cell (p := ⟨w1.heap.size + 1 + 1, 0, none⟩) (by have := hV1.size; simp; omega)).trans ((hV1.cell (p := ⟨w1.heap.size + 1 + 1, 0, none⟩) (by simp; omega)).trans cA0)
      gi_wp2_with (fail)
      have bK1 : Boxed (V.alloc (Obj.cells #[Value.int IntKind.i64 0] 3)) V.heap.size 3 (.int .i64 0) := Boxed.new _ _ _
      have bQ1 : Boxed (V.alloc (Obj.cells #[Value.int IntKind.i64 0] 3)) Pb 3 (.int .i64 1) := bV1.alloc _
      have hB1 : Below T W0 (V.alloc (Obj.cells #[Value.int IntKind.i64 0] 3)) := hV1.trans (hK1.mono (by have := hV1.size; omega))
      have hD10 : (V.alloc (Obj.cells #[Value.int IntKind.i64 0] 3)).heap[D]? = some (.deferred (some [])) := (Below.heap_alloc _ _ _ (Array.getElem?_eq_some_iff.1 hm0).1).trans hm0
      have hzK1 : V.heap.size + 1 ≤ (V.alloc (Obj.cells #[Value.int IntKind.i64 0] 3)).heap.size := by simp
      have hzV1 := hV1.size
      have cAs1 := (hB1.cell (p := ⟨w1.heap.size + 1, 0, none⟩) (by simp; omega)).trans cAs0
      have hPb1 := bV1.lt
      clear cP1 cA1 hK1
      generalize V.alloc (Obj.cells #[Value.int IntKind.i64 0] 3) = V1a at *
      obtain ⟨Kb1, hKb1⟩ : ∃ k, V.heap.size = k := ⟨_, rfl⟩
      rw [hKb1] at bK1 hzK1 hPb1 hzV1 ⊢
      have hseq1 := all_stops Fence.wide 7 trivial rfl (by omega) (w1.heap.size + 1) s V1a (by omega) (by omega) cAs1
      rw [HC0.out] at hseq1
      clear cAs1
      have hOwn1 : OwnFrom V1a.heap.size (fun (pre : List (Nat × Nat)) W => ((Boxed W Kb1 3 (.int .i64 (pre.length : Int)) ∧ Boxed W Pb 3 (.int .i64 1)) ∧ (Good s pre ∧ Hid (True))) ∧ (Below T W0 W ∧ W.heap[D]? = some (.deferred (some [])))) := (OwnFrom.and (OwnFrom.and (OwnFrom.and (Own.from (boxed_own _ _ _) _) (Own.from (boxed_own _ _ _) _)) (ownFrom_pure _ _)) (OwnFrom.and (ownFrom_below (by omega) (by omega)) (ownFrom_block (by omega))))
      have hOwn1b : OwnFrom V1a.heap.size (fun (pre : List (Nat × Nat)) W => ((Boxed W Kb1 3 (.int .i64 (pre.length : Int)) ∧ Boxed W Pb 3 (.int .i64 1)) ∧ Good s pre) ∧ (Below T W0 W ∧ W.heap[D]? = some (.deferred (some [])))) := (OwnFrom.and (OwnFrom.and (OwnFrom.and (Own.from (boxed_own _ _ _) _) (Own.from (boxed_own _ _ _) _)) (ownFrom_pure _ _)) (OwnFrom.and (ownFrom_below (by omega) (by omega)) (ownFrom_block (by omega))))
      refine rangeH1 rfl (by omega) (gf := 68) (lb := #[.pointer (some ⟨w1.heap.size + 1, 0, none⟩)]) rfl trivial (enters_of Tryd.func68 (by kernel_rfl) rfl) hseq1 (Below.refl _ _) (fun _ => rfl)
        (fun pre W => ((Boxed W Kb1 3 (.int .i64 (pre.length : Int)) ∧ Boxed W Pb 3 (.int .i64 1)) ∧ (Good s pre ∧ Hid (True))) ∧ (Below T W0 W ∧ W.heap[D]? = some (.deferred (some []))))
        (fun c' pre W => (c' = .ret ∧ ¬ Good s pre))
        hOwn1 ?ix1x ⟨⟨⟨bK1, bQ1⟩, good_nil s, Lib.hid trivial⟩, hB1, hD10⟩ ?a1x ?assign1x ?body1x ?done1x ?stop1x
      case assign1x =>
        intro l x W K hK
        gi_wp2
        exact hK
      case ix1x =>
        intro c' pre X Y row hs hg hr
        exact hs
      case body1x =>
        rintro l pre ⟨x1, x2⟩ W hl ⟨r, hr⟩ ⟨⟨⟨bK, bP⟩, ⟨hgood, HNM⟩⟩, hB, hM0⟩ hlen
        have hlW := (Array.getElem?_eq_some_iff.1 hr).1
        obtain ⟨k, hk⟩ : ∃ k, pre.length = k := ⟨_, rfl⟩
        rw [hk] at bK hlen
        have he : ((pre ++ [(x1, x2)]).length : Int) = (k : Int) + 1 := by rw [List.length_append, hk]; rfl
        have HK := Lib.hid hk
        have HE := Lib.hid he
        have HGood := Lib.hid hgood
        have HBW := Lib.hid hB
        have HM := Lib.hid hM0
        clear hM0
        have HHR := Lib.hid hr
        have cK := bK.cell
        have fK := bK.frozen
        have cP := bP.cell
        have hbK := bK.lt
        have hPK : Pb ≠ Kb1 := by omega
        have HBK := Lib.hid bK
        have HBP := Lib.hid bP
        have cS1 := (hB.cell (p := ⟨w.heap.size, 0, none⟩) (by simp; omega)).trans cS
        have cM1 := (hB.cell (p := ⟨w.heap.size + 1, 0, none⟩) (by simp; omega)).trans cM
        have cR1 := (hB.cell (p := ⟨w.heap.size + 1 + 1, 0, none⟩) (by simp; omega)).trans cR
        have fR1 := (hB.frozen (p := ⟨w.heap.size + 1 + 1, 0, none⟩) (by simp; omega)).trans fR
        have cL1 := (hB.cell (p := ⟨w1.heap.size, 0, none⟩) (by simp; omega)).trans cL0
        have cg := (hB.cell (p := ⟨g, k, none⟩) (by simp; omega)).trans (HST.out k (by omega))
        have hgT : g < T := by omega
        obtain ⟨q, hq⟩ : ∃ q, Run.adv s k 0 = q := ⟨_, rfl⟩
        rw [hq] at cg
        have hqs : q < s.size := by rw [← hq]; exact Run.adv_lt s k 0 (by rw [HC0.out]; exact hlen)
        have HQ := Lib.hid hq
        have t1 : decide ((c : Int) ≤ (k : Int)) = false := decide_eq_false (by omega)
        have t1' : decide (c ≤ k) = false := decide_eq_false (by omega)
        have hWz := hB.size
        clear hk he hgood hB hr bK bP hq
        by_cases hx : x1 = q
        · subst hx
          have t2 : ((x1 : Int) != (x1 : Int)) = false := by simp
          obtain ⟨y, hy⟩ : ∃ y, IntKind.i64.wrap (x2 : Int) = y := ⟨_, rfl⟩
          have HR2 := Lib.hid (fun w => HR.out w x1 hqs)
          obtain ⟨rn, hrn⟩ : ∃ rn, (Utf8.decode s x1).1 = rn := ⟨_, rfl⟩
          simp only [hrn] at HR2
          have HRN := Lib.hid hrn
          clear hrn
          gi_wp2_with (fail)
          refine ⟨trivial, ?_⟩
          refine (CallsIn.inRound l (callsIn_wide.2 (HR2.out _))).mono ?_
          rintro e W' ⟨rfl, hbn⟩
          have hWz' := hbn.size
          have bK := Boxed.below5 HBK.out hbn (by omega)
          have bP := Boxed.below5 HBP.out hbn (by omega)
          replace cK := bK.cell
          replace fK := bK.frozen
          replace cP := bP.cell
          replace cS1 := (hbn.cell (p := ⟨w.heap.size, 0, none⟩) (by simp; omega)).trans cS1
          replace cM1 := (hbn.cell (p := ⟨w.heap.size + 1, 0, none⟩) (by simp; omega)).trans cM1
          replace cR1 := (hbn.cell (p := ⟨w.heap.size + 1 + 1, 0, none⟩) (by simp; omega)).trans cR1
          replace fR1 := (hbn.frozen (p := ⟨w.heap.size + 1 + 1, 0, none⟩) (by simp; omega)).trans fR1
          replace cL1 := (hbn.cell (p := ⟨w1.heap.size, 0, none⟩) (by simp; omega)).trans cL1
          have HHR' : Hid (W'.heap[l]? = some (.loop r)) := Lib.hid ((hbn.block l hlW).trans HHR.out)
          have HB' : Hid (Below T W0 W') := Lib.hid (HBW.out.trans (hbn.mono (by omega)))
          have HMK : Hid (W'.heap[D]? = some (.deferred (some []))) := Lib.hid ((hbn.block D (Array.getElem?_eq_some_iff.1 HM.out).1).trans HM.out)
          have HBN := Lib.hid hbn
          have HBK' := Lib.hid bK
          have HBP' := Lib.hid bP
          clear hbn bK bP cg
          by_cases hyr : y = (rn : Int)
          · have HG2 : Hid (Good s (pre ++ [(x1, x2)])) := Lib.hid (good_next HK.out HGood.out HQ.out.symm (by rw [HQ.out, HRN.out, ← hyr, ← hy]))
            subst hyr
            have t3 : ((rn : Int) != (rn : Int)) = false := by simp
            obtain ⟨z, hz⟩ : ∃ z : Int, (k : Int) + 1 = z := ⟨_, rfl⟩
            have HE2 : Hid (((pre ++ [(x1, x2)]).length : Int) = z) := Lib.hid (by rw [← hz]; exact HE.out)
            have hs1 : Boxed (W'.setCell ⟨Kb1, 0, none⟩ (.int .i64 z)) Kb1 3 (.int .i64 z) := Boxed.set _ HBK'.out
            have hs2 : Boxed (W'.setCell ⟨Kb1, 0, none⟩ (.int .i64 z)) Pb 3 (.int .i64 1) := Boxed.other HBP'.out hPK _
            have hs3 : Below T W0 (W'.setCell ⟨Kb1, 0, none⟩ (.int .i64 z)) := HB'.out.setCell (p := ⟨Kb1, 0, none⟩) (by simp; omega) _
            have hs4 : KeepsFrom V1a.heap.size W (W'.setCell ⟨Kb1, 0, none⟩ (.int .i64 z)) := (keepsFrom_below HBN.out).trans ((KeepsOthers.setCell _ _ _).from _)
            have hs5 : KeepsWalks W (W'.setCell ⟨Kb1, 0, none⟩ (.int .i64 z)) := (keepsWalks_below HBN.out).trans (KeepsWalks.setCell _ _ _)
            rw [← HE2.out] at hs1
            have HS1 : Hid (Boxed (W'.setCell ⟨Kb1, 0, none⟩ (.int .i64 z)) Kb1 3 (.int .i64 ((pre ++ [(x1, x2)]).length : Int))) := Lib.hid (by rw [HE2.out] at hs1 ⊢; exact hs1)
            have HS2 := Lib.hid hs2
            have HS3 := Lib.hid hs3
            have HS4 := Lib.hid hs4
            have HS5 := Lib.hid hs5
            clear hs1 hs2 hs3 hs4 hs5
            have hmk : (W'.setCell ⟨Kb1, 0, none⟩ (.int .i64 z)).heap[D]? = some (.deferred (some [])) := setCell_block5 HMK.out (by omega) _
            have HMK2 := Lib.hid hmk
            clear hmk
            by_cases h2 : z = 2
            · subst h2
              have hjb : Below (W'.setCell ⟨Kb1, 0, none⟩ (.int .i64 2)).heap.size (W'.setCell ⟨Kb1, 0, none⟩ (.int .i64 2)) ((W'.setCell ⟨Kb1, 0, none⟩ (.int .i64 2)).alloc (Obj.cells #[Value.int IntKind.i64 0] 3)) := (Below.refl _ _).alloc (Nat.le_refl _) _
              have hz2 : W'.heap.size ≤ (W'.setCell ⟨Kb1, 0, none⟩ (.int .i64 2)).heap.size := (KeepsOthers.setCell _ _ _).size
              have hz3 : (W'.setCell ⟨Kb1, 0, none⟩ (.int .i64 2)).heap.size < ((W'.setCell ⟨Kb1, 0, none⟩ (.int .i64 2)).alloc (Obj.cells #[Value.int IntKind.i64 0] 3)).heap.size := by simp
              have hB3 : Below T W0 ((W'.setCell ⟨Kb1, 0, none⟩ (.int .i64 2)).alloc (Obj.cells #[Value.int IntKind.i64 0] 3)) := HS3.out.trans (hjb.mono (by omega))
              have cA3 := (hB3.cell (p := ⟨w1.heap.size + 1 + 1, 0, none⟩) (by simp; omega)).trans cA0
              have cAs3 := (hB3.cell (p := ⟨w1.heap.size + 1, 0, none⟩) (by simp; omega)).trans cAs0
              gi_wp2_with (fail)
              have bJ3 : Boxed ((W'.setCell ⟨Kb1, 0, none⟩ (.int .i64 2)).alloc (Obj.cells #[Value.int IntKind.i64 0] 3)) (W'.setCell ⟨Kb1, 0, none⟩ (.int .i64 2)).heap.size 3 (.int .i64 0) := Boxed.new _ _ _
              have bK3 : Boxed ((W'.setCell ⟨Kb1, 0, none⟩ (.int .i64 2)).alloc (Obj.cells #[Value.int IntKind.i64 0] 3)) Kb1 3 (.int .i64 2) := (Boxed.set (.int .i64 2) HBK'.out).alloc _
              have bP3 : Boxed ((W'.setCell ⟨Kb1, 0, none⟩ (.int .i64 2)).alloc (Obj.cells #[Value.int IntKind.i64 0] 3)) Pb 3 (.int .i64 1) := HS2.out.alloc _
              have hr3 : ((W'.setCell ⟨Kb1, 0, none⟩ (.int .i64 2)).alloc (Obj.cells #[Value.int IntKind.i64 0] 3)).heap[l]? = some (.loop r) := (Below.heap_alloc _ _ _ (by omega)).trans (setCell_block5 HHR'.out (by omega) _)
              have hm3 : ((W'.setCell ⟨Kb1, 0, none⟩ (.int .i64 2)).alloc (Obj.cells #[Value.int IntKind.i64 0] 3)).heap[D]? = some (.deferred (some [])) := (Below.heap_alloc _ _ _ (Array.getElem?_eq_some_iff.1 HMK2.out).1).trans HMK2.out
              have hf3 : KeepsFrom V1a.heap.size W ((W'.setCell ⟨Kb1, 0, none⟩ (.int .i64 2)).alloc (Obj.cells #[Value.int IntKind.i64 0] 3)) := HS4.out.trans ((KeepsOthers.alloc _ _).from _)
              have hw3 : KeepsWalks W ((W'.setCell ⟨Kb1, 0, none⟩ (.int .i64 2)).alloc (Obj.cells #[Value.int IntKind.i64 0] 3)) := HS5.out.trans (KeepsWalks.alloc _ _)
              have hsz2 : (W'.setCell ⟨Kb1, 0, none⟩ (.int .i64 2)).heap.size = W'.heap.size := by simp
              simp only [hsz2] at bJ3 hz3 hjb ⊢
              obtain ⟨Jb, hJb⟩ : ∃ b, W'.heap.size = b := ⟨_, rfl⟩
              rw [hJb] at bJ3 hz3 ⊢
              have hJl : Jb < ((W'.setCell ⟨Kb1, 0, none⟩ (.int .i64 2)).alloc (Obj.cells #[Value.int IntKind.i64 0] 3)).heap.size := bJ3.lt
              clear cA3 hjb hsz2
              generalize ((W'.setCell ⟨Kb1, 0, none⟩ (.int .i64 2)).alloc (Obj.cells #[Value.int IntKind.i64 0] 3)) = Y at *
              obtain ⟨Wr, hWr⟩ : ∃ v, v = W := ⟨_, rfl⟩
              rw [← hWr] at hf3 hw3
              have hseqJ := (all_stops Fence.wide 5 trivial rfl (by omega) (w1.heap.size + 1) s Y (by omega) (by omega) cAs3).inRound l
              rw [HC0.out] at hseqJ
              have HR3 := Lib.hid hr3
              clear cAs3
              have hsy := hB3.size
              have hOwnJ : OwnFrom Y.heap.size (fun (pre2 : List (Nat × Nat)) W => ((Boxed W Jb 3 (.int .i64 (pre2.length : Int)) ∧ Boxed W Kb1 3 (.int .i64 2)) ∧ (Boxed W Pb 3 (.int .i64 1) ∧ Good1 s pre2)) ∧ ((Below T W0 W ∧ W.heap[D]? = some (.deferred (some []))) ∧ (KeepsFrom V1a.heap.size Wr W ∧ KeepsWalks Wr W))) :=
                OwnFrom.and (OwnFrom.and (OwnFrom.and (Own.from (boxed_own _ _ _) _) (Own.from (boxed_own _ _ _) _)) (OwnFrom.and (Own.from (boxed_own _ _ _) _) (ownFrom_pure _ _))) (OwnFrom.and (OwnFrom.and (ownFrom_below (by omega) (by omega)) (ownFrom_block (by omega))) (OwnFrom.and (ownFrom_keepsFrom hw3.size) (ownFrom_walks hw3.size)))
              refine rangeN1 (l₀ := l) (r₀ := r) rfl hr3 (by omega) (gf := 68) (lb := #[.pointer (some ⟨w1.heap.size + 1, 0, none⟩)]) rfl trivial (enters_of Tryd.func68 (by kernel_rfl) rfl) hseqJ (Below.refl _ _) (fun _ => rfl)
                (fun pre2 W => ((Boxed W Jb 3 (.int .i64 (pre2.length : Int)) ∧ Boxed W Kb1 3 (.int .i64 2)) ∧ (Boxed W Pb 3 (.int .i64 1) ∧ Good1 s pre2)) ∧ ((Below T W0 W ∧ W.heap[D]? = some (.deferred (some []))) ∧ (KeepsFrom V1a.heap.size Wr W ∧ KeepsWalks Wr W)))
                (fun c' pre2 W => c' = .ret ∧ ¬ Good1 s pre2)
                hOwnJ (fun _ _ _ _ _ hs _ _ => hs) ⟨⟨⟨bJ3, bK3⟩, ⟨bP3, good1_nil s⟩⟩, ⟨⟨hB3, hm3⟩, ⟨hf3, hw3⟩⟩⟩ ?aJx ?assignJx ?bodyJx ?doneJx ?stopJx
              case assignJx =>
                intro l2 x W K hK
                gi_wp2
                exact hK
              case bodyJx =>
                rintro l2 pre2 ⟨y1, y2⟩ W ⟨⟨⟨bJ, bK⟩, ⟨bP, hgood2⟩⟩, ⟨⟨hB, hmk⟩, ⟨hf, hwk⟩⟩⟩ hlen2
                obtain ⟨j, hj⟩ : ∃ j, pre2.length = j := ⟨_, rfl⟩
                rw [hj] at bJ hlen2
                have he2 : ((pre2 ++ [(y1, y2)]).length : Int) = (j : Int) + 1 := by rw [List.length_append, hj]; rfl
                have cJ := bJ.cell
                have fJ := bJ.frozen
                have hWz2 := hB.size
                have cR2 := (hB.cell (p := ⟨w.heap.size + 1 + 1, 0, none⟩) (by simp; omega)).trans cR
                have fR2 := (hB.frozen (p := ⟨w.heap.size + 1 + 1, 0, none⟩) (by simp; omega)).trans fR
                have cL2 := (hB.cell (p := ⟨w1.heap.size, 0, none⟩) (by simp; omega)).trans cL0
                have cg2 := (hB.cell (p := ⟨g, j, none⟩) (by simp; omega)).trans (HST.out j (by omega))
                obtain ⟨q2, hq2⟩ : ∃ q, Run.adv s j 0 = q := ⟨_, rfl⟩
                rw [hq2] at cg2
                have t8 : decide ((c : Int) ≤ (j : Int)) = false := decide_eq_false (by omega)
                have t8' : decide (c ≤ j) = false := decide_eq_false (by omega)
                have HJ := Lib.hid hj
                have HE3 := Lib.hid he2
                have HBJ := Lib.hid bJ
                have HBK2 := Lib.hid bK
                have HBP2 := Lib.hid bP
                have HG3 := Lib.hid hgood2
                have HB4 := Lib.hid hB
                have HM4 := Lib.hid hmk
                have HF4 := Lib.hid hf
                have HW4 := Lib.hid hwk
                have HQ2 := Lib.hid hq2
                clear hj he2 bJ bK bP hgood2 hB hmk hf hwk hq2
                by_cases hy1 : y1 = q2
                · subst hy1
                  have t9 : ((y1 : Int) != (y1 : Int)) = false := by simp
                  gi_wp2
                  exact ⟨(KeepsOthers.setCell _ _ _).from _, KeepsWalks.setCell _ _ _, ⟨⟨by rw [HE3.out]; exact Boxed.set _ HBJ.out, Boxed.other HBK2.out (by omega) _⟩, ⟨Boxed.other HBP2.out (by omega) _, good1_next HJ.out HG3.out HQ2.out.symm⟩⟩, ⟨⟨HB4.out.setCell (p := ⟨Jb, 0, none⟩) (by simp; omega) _, setCell_block5 HM4.out (by omega) _⟩, ⟨HF4.out.trans ((KeepsOthers.setCell _ _ _).from _), HW4.out.trans (KeepsWalks.setCell _ _ _)⟩⟩⟩
                · have t9 : ((y1 : Int) != (q2 : Int)) = true := by rw [bne_iff_ne]; omega
                  gi_wp2
                  exact ⟨(KeepsOthers.setCell _ _ _).from _, rfl, good1_not HJ.out (by rw [HQ2.out]; exact hy1) HG3.out⟩
              case doneJx =>
                rintro xs W rfl ⟨⟨⟨bJ, bK⟩, ⟨bP, hgood2⟩⟩, ⟨⟨hB, hmk⟩, ⟨hf, hwk⟩⟩⟩
                rw [its_length] at bJ
                have cJ := bJ.cell
                have cP := bP.cell
                have hWz2 := hB.size
                have cL2 := (hB.cell (p := ⟨w1.heap.size, 0, none⟩) (by simp; omega)).trans cL0
                have HBK2 := Lib.hid bK
                have HBP2 := Lib.hid bP
                have HB4 := Lib.hid hB
                have HM4 := Lib.hid hmk
                have HF4 := Lib.hid hf
                have HW4 := Lib.hid hwk
                clear bJ bK bP hgood2 hB hmk hf hwk
                gi_wp2
                exact ⟨by rw [← hWr]; exact HF4.out, by rw [← hWr]; exact HW4.out, ⟨⟨by rw [HE2.out]; exact HBK2.out, HBP2.out⟩, ⟨HG2.out, Lib.hid trivial⟩⟩, HB4.out, HM4.out⟩
              case stopJx =>
                rintro c' pre2 W ⟨k2, _, rfl⟩ ⟨_, h⟩
                exact (h (good1_its s _)).elim
            · have t4 : (z == 2) = false := by simpa using h2
              gi_wp2
              exact ⟨HS4.out, HS5.out, ⟨⟨HS1.out, HS2.out⟩, ⟨HG2.out, Lib.hid trivial⟩⟩, HS3.out, HMK2.out⟩
          · have HG2 : Hid (¬ Good s (pre ++ [(x1, x2)])) := Lib.hid (good_not HK.out (fun h => hyr (by rw [← hy, ← HRN.out, ← HQ.out]; exact h.2)) HGood.out)
            have t3 : (y != (rn : Int)) = true := by simpa using hyr
            gi_wp2
            exact ⟨(keepsFrom_below HBN.out).trans ((KeepsOthers.setCell _ _ _).from _), ⟨rfl, HG2.out⟩⟩
        · have t2 : ((x1 : Int) != (q : Int)) = true := by rw [bne_iff_ne]; omega
          have HG2 : Hid (¬ Good s (pre ++ [(x1, x2)])) := Lib.hid (good_not HK.out (fun h => hx (by rw [← HQ.out]; exact h.1)) HGood.out)
          gi_wp2
          exact ⟨(KeepsOthers.setCell _ _ _).from _, ⟨rfl, HG2.out⟩⟩
      case done1x =>
        rintro D1 xs W hD1 rfl ⟨⟨⟨bK, bP⟩, ⟨hgood, _⟩⟩, hB, hM0⟩ hDk
        rw [its_length] at bK
        clear hgood
        have cK := bK.cell
        have cP := bP.cell
        have cM1 := (hB.cell (p := ⟨w.heap.size + 1, 0, none⟩) (by simp; omega)).trans cM
        have cR1 := (hB.cell (p := ⟨w.heap.size + 1 + 1, 0, none⟩) (by simp; omega)).trans cR
        have fR1 := (hB.frozen (p := ⟨w.heap.size + 1 + 1, 0, none⟩) (by simp; omega)).trans fR
        have cL1 := (hB.cell (p := ⟨w1.heap.size, 0, none⟩) (by simp; omega)).trans cL0
        have hWz := hB.size
        have hbO : Below W.heap.size W (W.alloc (Obj.cells #[Value.int IntKind.i64 1] 3)) := (Below.refl _ _).alloc (Nat.le_refl _) _
        have HbO := Lib.hid hbO
        have bN : Boxed (W.alloc (Obj.cells #[Value.int IntKind.i64 1] 3)) W.heap.size 3 (.int .i64 1) := Boxed.new _ _ _
        have cN := bN.cell
        have fN := bN.frozen
        clear hbO
        gi_wp2_with (fail)
        have hV2 : Below T W0 (W.alloc (Obj.cells #[Value.int IntKind.i64 2] 3)) := hB.alloc (by omega) _
        have bV2 : Boxed (W.alloc (Obj.cells #[Value.int IntKind.i64 2] 3)) W.heap.size 3 (.int .i64 2) := Boxed.new _ _ _
        have hq1 : (W.alloc (Obj.cells #[Value.int IntKind.i64 2] 3)).heap[D1]? = some (.deferred (some [])) := (Below.heap_alloc _ _ _ (Array.getElem?_eq_some_iff.1 hDk).1).trans hDk
        have hq0 : (W.alloc (Obj.cells #[Value.int IntKind.i64 2] 3)).heap[D]? = some (.deferred (some [])) := (Below.heap_alloc _ _ _ (Array.getElem?_eq_some_iff.1 hM0).1).trans hM0
        rw [roundsIn_succ]
        clear cK cP cM1 cR1 fR1 cL1 HbO bN cN fN bK bP hB hDk hM0
        generalize W.alloc (Obj.cells #[Value.int IntKind.i64 2] 3) = V2 at *
        have cP2 := bV2.cell
        have hzV2 := hV2.size
        have cR2 := (hV2.cell (p := ⟨w.heap.size + 1 + 1, 0, none⟩) (by simp; omega)).trans cR
        have fR2 := (hV2.frozen (p := ⟨w.heap.size + 1 + 1, 0, none⟩) (by simp; omega)).trans fR
        gi_wp2
        have hr1 := setCell_block5 (B := w.heap.size + 1 + 1) hq1 (by omega) (.bool true)
        have hr0 := setCell_block5 (B := w.heap.size + 1 + 1) hq0 (by omega) (.bool true)
        have hb5 : Below w.heap.size w (V2.setCell ⟨w.heap.size + 1 + 1, 0, none⟩ (.bool true)) := (hb3.trans (hV2.mono (by omega))).setCell (p := ⟨w.heap.size + 1 + 1, 0, none⟩) (by simp; omega) _
        have hc5 : (V2.setCell ⟨w.heap.size + 1 + 1, 0, none⟩ (.bool true)).cell? ⟨w.heap.size + 1 + 1, 0, none⟩ = some (.bool true) := World.cell?_setCell_same' _ _ _ (by rw [cR2]; rfl)
        generalize V2.setCell ⟨w.heap.size + 1 + 1, 0, none⟩ (.bool true) = V3 at *
        have hd1 : D < D1 := by omega
        have hr0' := ((grownBy_putObj' V3 D1 (.deferred none)).block D (Array.getElem?_eq_some_iff.1 hr0).1 (by simp; omega)).trans hr0
        have hc6 := cell_kept hc5 (grownBy_putObj' V3 D1 (.deferred none)) (fun r e => by cases e; exact ⟨_, hr1, rfl⟩)
        have hc7 := cell_kept hc6 (grownBy_putObj' _ D (.deferred none)) (fun r e => by cases e; exact ⟨_, hr0', rfl⟩)
        refine ⟨by simp, .inl ⟨_, _, rfl, run_takeDeferred hr1, ?_⟩⟩
        refine ⟨by simp, .inl ⟨_, _, rfl, run_takeDeferred hr0', ?_⟩⟩
        refine ⟨.bool true, ?_, rfl, ?_⟩
        · simp [results, Tryd.f44, go_sem, hc7]
        · exact (hb5.trans (belowK_b (w := w) (Nat.le_refl _) _ D1 _ _ (by omega) hr1 rfl rfl)).trans (belowK_b (w := w) (Nat.le_refl _) _ D _ _ (by omega) hr0' rfl rfl)
      case stop1x =>
        rintro D1 c' pre W hD1 ⟨k2, _, rfl⟩ ⟨_, h⟩ _
        exact (h (good_its s _)).elim
    · gi_wp2_with (fail)
      have hV1 : Below T W0 (W.alloc (Obj.cells #[Value.int IntKind.i64 1] 3)) := hB.alloc (by omega) _
      have bV1 : Boxed (W.alloc (Obj.cells #[Value.int IntKind.i64 1] 3)) W.heap.size 3 (.int .i64 1) := Boxed.new _ _ _
      have hm0 : (W.alloc (Obj.cells #[Value.int IntKind.i64 1] 3)).heap[D]? = some (.deferred (some [])) := (Below.heap_alloc _ _ _ (Array.getElem?_eq_some_iff.1 hDk).1).trans hDk
      have hzW : W.heap.size < (W.alloc (Obj.cells #[Value.int IntKind.i64 1] 3)).heap.size := by simp
      have hDl := (Array.getElem?_eq_some_iff.1 hm0).1
      have HbV : Hid (Below w.heap.size w (W.alloc (Obj.cells #[Value.int IntKind.i64 1] 3))) := Lib.hid (hb3.trans (hV1.mono (by omega)))
      rw [roundsIn_succ]
      clear cK cP cM1 cR1 fR1 cL1 HbO bN cN fN bK bP hB hDk
      generalize W.alloc (Obj.cells #[Value.int IntKind.i64 1] 3) = V at *
      generalize W.heap.size = Pb at *
      have cP1 := bV1.cell
      have hK1 : Below V.heap.size V (V.alloc (Obj.cells #[Value.int IntKind.i64 0] 3)) := (Below.refl _ _).alloc (Nat.le_refl _) _
      have cA1 := (hK1.cell (p := ⟨w1.heap.size + 1 + 1, 0, none⟩) (by have := hV1.size; simp; omega)).trans ((hV1.cell (p := ⟨w1.heap.size + 1 + 1, 0, none⟩) (by simp; omega)).trans cA0)
      gi_wp2_with (fail)
      have bK1 : Boxed (V.alloc (Obj.cells #[Value.int IntKind.i64 0] 3)) V.heap.size 3 (.int .i64 0) := Boxed.new _ _ _
      have bQ1 : Boxed (V.alloc (Obj.cells #[Value.int IntKind.i64 0] 3)) Pb 3 (.int .i64 1) := bV1.alloc _
      have hB1 : Below T W0 (V.alloc (Obj.cells #[Value.int IntKind.i64 0] 3)) := hV1.trans (hK1.mono (by have := hV1.size; omega))
      have hD10 : (V.alloc (Obj.cells #[Value.int IntKind.i64 0] 3)).heap[D]? = some (.deferred (some [])) := (Below.heap_alloc _ _ _ (Array.getElem?_eq_some_iff.1 hm0).1).trans hm0
      have hzK1 : V.heap.size + 1 ≤ (V.alloc (Obj.cells #[Value.int IntKind.i64 0] 3)).heap.size := by simp
      have hzV1 := hV1.size
      have cAs1 := (hB1.cell (p := ⟨w1.heap.size + 1, 0, none⟩) (by simp; omega)).trans cAs0
      have hPb1 := bV1.lt
      clear cP1 cA1 hK1
      generalize V.alloc (Obj.cells #[Value.int IntKind.i64 0] 3) = V1a at *
      obtain ⟨Kb1, hKb1⟩ : ∃ k, V.heap.size = k := ⟨_, rfl⟩
      rw [hKb1] at bK1 hzK1 hPb1 hzV1 ⊢
      have hseq1 := all_stops Fence.wide 7 trivial rfl (by omega) (w1.heap.size + 1) s V1a (by omega) (by omega) cAs1
      rw [HC0.out] at hseq1
      clear cAs1
      have hOwn1 : OwnFrom V1a.heap.size (fun (pre : List (Nat × Nat)) W => ((Boxed W Kb1 3 (.int .i64 (pre.length : Int)) ∧ Boxed W Pb 3 (.int .i64 1)) ∧ (Good s pre ∧ Hid (True))) ∧ (Below T W0 W ∧ W.heap[D]? = some (.deferred (some [])))) := (OwnFrom.and (OwnFrom.and (OwnFrom.and (Own.from (boxed_own _ _ _) _) (Own.from (boxed_own _ _ _) _)) (ownFrom_pure _ _)) (OwnFrom.and (ownFrom_below (by omega) (by omega)) (ownFrom_block (by omega))))
      have hOwn1b : OwnFrom V1a.heap.size (fun (pre : List (Nat × Nat)) W => ((Boxed W Kb1 3 (.int .i64 (pre.length : Int)) ∧ Boxed W Pb 3 (.int .i64 1)) ∧ Good s pre) ∧ (Below T W0 W ∧ W.heap[D]? = some (.deferred (some [])))) := (OwnFrom.and (OwnFrom.and (OwnFrom.and (Own.from (boxed_own _ _ _) _) (Own.from (boxed_own _ _ _) _)) (ownFrom_pure _ _)) (OwnFrom.and (ownFrom_below (by omega) (by omega)) (ownFrom_block (by omega))))
      refine rangeH1 rfl (by omega) (gf := 68) (lb := #[.pointer (some ⟨w1.heap.size + 1, 0, none⟩)]) rfl trivial (enters_of Tryd.func68 (by kernel_rfl) rfl) hseq1 (Below.refl _ _) (fun _ => rfl)
        (fun pre W => ((Boxed W Kb1 3 (.int .i64 (pre.length : Int)) ∧ Boxed W Pb 3 (.int .i64 1)) ∧ (Good s pre ∧ Hid (True))) ∧ (Below T W0 W ∧ W.heap[D]? = some (.deferred (some []))))
        (fun c' pre W => (c' = .ret ∧ ¬ Good s pre))
        hOwn1 ?ix1y ⟨⟨⟨bK1, bQ1⟩, good_nil s, Lib.hid trivial⟩, hB1, hD10⟩ ?a1y ?assign1y ?body1y ?done1y ?stop1y
      case assign1y =>
        intro l x W K hK
        gi_wp2
        exact hK
      case ix1y =>
        intro c' pre X Y row hs hg hr
        exact hs
      case body1y =>
        rintro l pre ⟨x1, x2⟩ W hl ⟨r, hr⟩ ⟨⟨⟨bK, bP⟩, ⟨hgood, HNM⟩⟩, hB, hM0⟩ hlen
        have hlW := (Array.getElem?_eq_some_iff.1 hr).1
        obtain ⟨k, hk⟩ : ∃ k, pre.length = k := ⟨_, rfl⟩
        rw [hk] at bK hlen
        have he : ((pre ++ [(x1, x2)]).length : Int) = (k : Int) + 1 := by rw [List.length_append, hk]; rfl
        have HK := Lib.hid hk
        have HE := Lib.hid he
        have HGood := Lib.hid hgood
        have HBW := Lib.hid hB
        have HM := Lib.hid hM0
        clear hM0
        have HHR := Lib.hid hr
        have cK := bK.cell
        have fK := bK.frozen
        have cP := bP.cell
        have hbK := bK.lt
        have hPK : Pb ≠ Kb1 := by omega
        have HBK := Lib.hid bK
        have HBP := Lib.hid bP
        have cS1 := (hB.cell (p := ⟨w.heap.size, 0, none⟩) (by simp; omega)).trans cS
        have cM1 := (hB.cell (p := ⟨w.heap.size + 1, 0, none⟩) (by simp; omega)).trans cM
        have cR1 := (hB.cell (p := ⟨w.heap.size + 1 + 1, 0, none⟩) (by simp; omega)).trans cR
        have fR1 := (hB.frozen (p := ⟨w.heap.size + 1 + 1, 0, none⟩) (by simp; omega)).trans fR
        have cL1 := (hB.cell (p := ⟨w1.heap.size, 0, none⟩) (by simp; omega)).trans cL0
        have cg := (hB.cell (p := ⟨g, k, none⟩) (by simp; omega)).trans (HST.out k (by omega))
        have hgT : g < T := by omega
        obtain ⟨q, hq⟩ : ∃ q, Run.adv s k 0 = q := ⟨_, rfl⟩
        rw [hq] at cg
        have hqs : q < s.size := by rw [← hq]; exact Run.adv_lt s k 0 (by rw [HC0.out]; exact hlen)
        have HQ := Lib.hid hq
        have t1 : decide ((c : Int) ≤ (k : Int)) = false := decide_eq_false (by omega)
        have t1' : decide (c ≤ k) = false := decide_eq_false (by omega)
        have hWz := hB.size
        clear hk he hgood hB hr bK bP hq
        by_cases hx : x1 = q
        · subst hx
          have t2 : ((x1 : Int) != (x1 : Int)) = false := by simp
          obtain ⟨y, hy⟩ : ∃ y, IntKind.i64.wrap (x2 : Int) = y := ⟨_, rfl⟩
          have HR2 := Lib.hid (fun w => HR.out w x1 hqs)
          obtain ⟨rn, hrn⟩ : ∃ rn, (Utf8.decode s x1).1 = rn := ⟨_, rfl⟩
          simp only [hrn] at HR2
          have HRN := Lib.hid hrn
          clear hrn
          gi_wp2_with (fail)
          refine ⟨trivial, ?_⟩
          refine (CallsIn.inRound l (callsIn_wide.2 (HR2.out _))).mono ?_
          rintro e W' ⟨rfl, hbn⟩
          have hWz' := hbn.size
          have bK := Boxed.below5 HBK.out hbn (by omega)
          have bP := Boxed.below5 HBP.out hbn (by omega)
          replace cK := bK.cell
          replace fK := bK.frozen
          replace cP := bP.cell
          replace cS1 := (hbn.cell (p := ⟨w.heap.size, 0, none⟩) (by simp; omega)).trans cS1
          replace cM1 := (hbn.cell (p := ⟨w.heap.size + 1, 0, none⟩) (by simp; omega)).trans cM1
          replace cR1 := (hbn.cell (p := ⟨w.heap.size + 1 + 1, 0, none⟩) (by simp; omega)).trans cR1
          replace fR1 := (hbn.frozen (p := ⟨w.heap.size + 1 + 1, 0, none⟩) (by simp; omega)).trans fR1
          replace cL1 := (hbn.cell (p := ⟨w1.heap.size, 0, none⟩) (by simp; omega)).trans cL1
          have HHR' : Hid (W'.heap[l]? = some (.loop r)) := Lib.hid ((hbn.block l hlW).trans HHR.out)
          have HB' : Hid (Below T W0 W') := Lib.hid (HBW.out.trans (hbn.mono (by omega)))
          have HMK : Hid (W'.heap[D]? = some (.deferred (some []))) := Lib.hid ((hbn.block D (Array.getElem?_eq_some_iff.1 HM.out).1).trans HM.out)
          have HBN := Lib.hid hbn
          have HBK' := Lib.hid bK
          have HBP' := Lib.hid bP
          clear hbn bK bP cg
          by_cases hyr : y = (rn : Int)
          · have HG2 : Hid (Good s (pre ++ [(x1, x2)])) := Lib.hid (good_next HK.out HGood.out HQ.out.symm (by rw [HQ.out, HRN.out, ← hyr, ← hy]))
            subst hyr
            have t3 : ((rn : Int) != (rn : Int)) = false := by simp
            obtain ⟨z, hz⟩ : ∃ z : Int, (k : Int) + 1 = z := ⟨_, rfl⟩
            have HE2 : Hid (((pre ++ [(x1, x2)]).length : Int) = z) := Lib.hid (by rw [← hz]; exact HE.out)
            have hs1 : Boxed (W'.setCell ⟨Kb1, 0, none⟩ (.int .i64 z)) Kb1 3 (.int .i64 z) := Boxed.set _ HBK'.out
            have hs2 : Boxed (W'.setCell ⟨Kb1, 0, none⟩ (.int .i64 z)) Pb 3 (.int .i64 1) := Boxed.other HBP'.out hPK _
            have hs3 : Below T W0 (W'.setCell ⟨Kb1, 0, none⟩ (.int .i64 z)) := HB'.out.setCell (p := ⟨Kb1, 0, none⟩) (by simp; omega) _
            have hs4 : KeepsFrom V1a.heap.size W (W'.setCell ⟨Kb1, 0, none⟩ (.int .i64 z)) := (keepsFrom_below HBN.out).trans ((KeepsOthers.setCell _ _ _).from _)
            have hs5 : KeepsWalks W (W'.setCell ⟨Kb1, 0, none⟩ (.int .i64 z)) := (keepsWalks_below HBN.out).trans (KeepsWalks.setCell _ _ _)
            rw [← HE2.out] at hs1
            have HS1 : Hid (Boxed (W'.setCell ⟨Kb1, 0, none⟩ (.int .i64 z)) Kb1 3 (.int .i64 ((pre ++ [(x1, x2)]).length : Int))) := Lib.hid (by rw [HE2.out] at hs1 ⊢; exact hs1)
            have HS2 := Lib.hid hs2
            have HS3 := Lib.hid hs3
            have HS4 := Lib.hid hs4
            have HS5 := Lib.hid hs5
            clear hs1 hs2 hs3 hs4 hs5
            have hmk : (W'.setCell ⟨Kb1, 0, none⟩ (.int .i64 z)).heap[D]? = some (.deferred (some [])) := setCell_block5 HMK.out (by omega) _
            have HMK2 := Lib.hid hmk
            clear hmk
            by_cases h2 : z = 2
            · subst h2
              have hjb : Below (W'.setCell ⟨Kb1, 0, none⟩ (.int .i64 2)).heap.size (W'.setCell ⟨Kb1, 0, none⟩ (.int .i64 2)) ((W'.setCell ⟨Kb1, 0, none⟩ (.int .i64 2)).alloc (Obj.cells #[Value.int IntKind.i64 0] 3)) := (Below.refl _ _).alloc (Nat.le_refl _) _
              have hz2 : W'.heap.size ≤ (W'.setCell ⟨Kb1, 0, none⟩ (.int .i64 2)).heap.size := (KeepsOthers.setCell _ _ _).size
              have hz3 : (W'.setCell ⟨Kb1, 0, none⟩ (.int .i64 2)).heap.size < ((W'.setCell ⟨Kb1, 0, none⟩ (.int .i64 2)).alloc (Obj.cells #[Value.int IntKind.i64 0] 3)).heap.size := by simp
              have hB3 : Below T W0 ((W'.setCell ⟨Kb1, 0, none⟩ (.int .i64 2)).alloc (Obj.cells #[Value.int IntKind.i64 0] 3)) := HS3.out.trans (hjb.mono (by omega))
              have cA3 := (hB3.cell (p := ⟨w1.heap.size + 1 + 1, 0, none⟩) (by simp; omega)).trans cA0
              have cAs3 := (hB3.cell (p := ⟨w1.heap.size + 1, 0, none⟩) (by simp; omega)).trans cAs0
              gi_wp2_with (fail)
              have bJ3 : Boxed ((W'.setCell ⟨Kb1, 0, none⟩ (.int .i64 2)).alloc (Obj.cells #[Value.int IntKind.i64 0] 3)) (W'.setCell ⟨Kb1, 0, none⟩ (.int .i64 2)).heap.size 3 (.int .i64 0) := Boxed.new _ _ _
              have bK3 : Boxed ((W'.setCell ⟨Kb1, 0, none⟩ (.int .i64 2)).alloc (Obj.cells #[Value.int IntKind.i64 0] 3)) Kb1 3 (.int .i64 2) := (Boxed.set (.int .i64 2) HBK'.out).alloc _
              have bP3 : Boxed ((W'.setCell ⟨Kb1, 0, none⟩ (.int .i64 2)).alloc (Obj.cells #[Value.int IntKind.i64 0] 3)) Pb 3 (.int .i64 1) := HS2.out.alloc _
              have hr3 : ((W'.setCell ⟨Kb1, 0, none⟩ (.int .i64 2)).alloc (Obj.cells #[Value.int IntKind.i64 0] 3)).heap[l]? = some (.loop r) := (Below.heap_alloc _ _ _ (by omega)).trans (setCell_block5 HHR'.out (by omega) _)
              have hm3 : ((W'.setCell ⟨Kb1, 0, none⟩ (.int .i64 2)).alloc (Obj.cells #[Value.int IntKind.i64 0] 3)).heap[D]? = some (.deferred (some [])) := (Below.heap_alloc _ _ _ (Array.getElem?_eq_some_iff.1 HMK2.out).1).trans HMK2.out
              have hf3 : KeepsFrom V1a.heap.size W ((W'.setCell ⟨Kb1, 0, none⟩ (.int .i64 2)).alloc (Obj.cells #[Value.int IntKind.i64 0] 3)) := HS4.out.trans ((KeepsOthers.alloc _ _).from _)
              have hw3 : KeepsWalks W ((W'.setCell ⟨Kb1, 0, none⟩ (.int .i64 2)).alloc (Obj.cells #[Value.int IntKind.i64 0] 3)) := HS5.out.trans (KeepsWalks.alloc _ _)
              have hsz2 : (W'.setCell ⟨Kb1, 0, none⟩ (.int .i64 2)).heap.size = W'.heap.size := by simp
              simp only [hsz2] at bJ3 hz3 hjb ⊢
              obtain ⟨Jb, hJb⟩ : ∃ b, W'.heap.size = b := ⟨_, rfl⟩
              rw [hJb] at bJ3 hz3 ⊢
              have hJl : Jb < ((W'.setCell ⟨Kb1, 0, none⟩ (.int .i64 2)).alloc (Obj.cells #[Value.int IntKind.i64 0] 3)).heap.size := bJ3.lt
              clear cA3 hjb hsz2
              generalize ((W'.setCell ⟨Kb1, 0, none⟩ (.int .i64 2)).alloc (Obj.cells #[Value.int IntKind.i64 0] 3)) = Y at *
              obtain ⟨Wr, hWr⟩ : ∃ v, v = W := ⟨_, rfl⟩
              rw [← hWr] at hf3 hw3
              have hseqJ := (all_stops Fence.wide 5 trivial rfl (by omega) (w1.heap.size + 1) s Y (by omega) (by omega) cAs3).inRound l
              rw [HC0.out] at hseqJ
              have HR3 := Lib.hid hr3
              clear cAs3
              have hsy := hB3.size
              have hOwnJ : OwnFrom Y.heap.size (fun (pre2 : List (Nat × Nat)) W => ((Boxed W Jb 3 (.int .i64 (pre2.length : Int)) ∧ Boxed W Kb1 3 (.int .i64 2)) ∧ (Boxed W Pb 3 (.int .i64 1) ∧ Good1 s pre2)) ∧ ((Below T W0 W ∧ W.heap[D]? = some (.deferred (some []))) ∧ (KeepsFrom V1a.heap.size Wr W ∧ KeepsWalks Wr W))) :=
                OwnFrom.and (OwnFrom.and (OwnFrom.and (Own.from (boxed_own _ _ _) _) (Own.from (boxed_own _ _ _) _)) (OwnFrom.and (Own.from (boxed_own _ _ _) _) (ownFrom_pure _ _))) (OwnFrom.and (OwnFrom.and (ownFrom_below (by omega) (by omega)) (ownFrom_block (by omega))) (OwnFrom.and (ownFrom_keepsFrom hw3.size) (ownFrom_walks hw3.size)))
              refine rangeN1 (l₀ := l) (r₀ := r) rfl hr3 (by omega) (gf := 68) (lb := #[.pointer (some ⟨w1.heap.size + 1, 0, none⟩)]) rfl trivial (enters_of Tryd.func68 (by kernel_rfl) rfl) hseqJ (Below.refl _ _) (fun _ => rfl)
                (fun pre2 W => ((Boxed W Jb 3 (.int .i64 (pre2.length : Int)) ∧ Boxed W Kb1 3 (.int .i64 2)) ∧ (Boxed W Pb 3 (.int .i64 1) ∧ Good1 s pre2)) ∧ ((Below T W0 W ∧ W.heap[D]? = some (.deferred (some []))) ∧ (KeepsFrom V1a.heap.size Wr W ∧ KeepsWalks Wr W)))
                (fun c' pre2 W => c' = .ret ∧ ¬ Good1 s pre2)
                hOwnJ (fun _ _ _ _ _ hs _ _ => hs) ⟨⟨⟨bJ3, bK3⟩, ⟨bP3, good1_nil s⟩⟩, ⟨⟨hB3, hm3⟩, ⟨hf3, hw3⟩⟩⟩ ?aJy ?assignJy ?bodyJy ?doneJy ?stopJy
              case assignJy =>
                intro l2 x W K hK
                gi_wp2
                exact hK
              case bodyJy =>
                rintro l2 pre2 ⟨y1, y2⟩ W ⟨⟨⟨bJ, bK⟩, ⟨bP, hgood2⟩⟩, ⟨⟨hB, hmk⟩, ⟨hf, hwk⟩⟩⟩ hlen2
                obtain ⟨j, hj⟩ : ∃ j, pre2.length = j := ⟨_, rfl⟩
                rw [hj] at bJ hlen2
                have he2 : ((pre2 ++ [(y1, y2)]).length : Int) = (j : Int) + 1 := by rw [List.length_append, hj]; rfl
                have cJ := bJ.cell
                have fJ := bJ.frozen
                have hWz2 := hB.size
                have cR2 := (hB.cell (p := ⟨w.heap.size + 1 + 1, 0, none⟩) (by simp; omega)).trans cR
                have fR2 := (hB.frozen (p := ⟨w.heap.size + 1 + 1, 0, none⟩) (by simp; omega)).trans fR
                have cL2 := (hB.cell (p := ⟨w1.heap.size, 0, none⟩) (by simp; omega)).trans cL0
                have cg2 := (hB.cell (p := ⟨g, j, none⟩) (by simp; omega)).trans (HST.out j (by omega))
                obtain ⟨q2, hq2⟩ : ∃ q, Run.adv s j 0 = q := ⟨_, rfl⟩
                rw [hq2] at cg2
                have t8 : decide ((c : Int) ≤ (j : Int)) = false := decide_eq_false (by omega)
                have t8' : decide (c ≤ j) = false := decide_eq_false (by omega)
                have HJ := Lib.hid hj
                have HE3 := Lib.hid he2
                have HBJ := Lib.hid bJ
                have HBK2 := Lib.hid bK
                have HBP2 := Lib.hid bP
                have HG3 := Lib.hid hgood2
                have HB4 := Lib.hid hB
                have HM4 := Lib.hid hmk
                have HF4 := Lib.hid hf
                have HW4 := Lib.hid hwk
                have HQ2 := Lib.hid hq2
                clear hj he2 bJ bK bP hgood2 hB hmk hf hwk hq2
                by_cases hy1 : y1 = q2
                · subst hy1
                  have t9 : ((y1 : Int) != (y1 : Int)) = false := by simp
                  gi_wp2
                  exact ⟨(KeepsOthers.setCell _ _ _).from _, KeepsWalks.setCell _ _ _, ⟨⟨by rw [HE3.out]; exact Boxed.set _ HBJ.out, Boxed.other HBK2.out (by omega) _⟩, ⟨Boxed.other HBP2.out (by omega) _, good1_next HJ.out HG3.out HQ2.out.symm⟩⟩, ⟨⟨HB4.out.setCell (p := ⟨Jb, 0, none⟩) (by simp; omega) _, setCell_block5 HM4.out (by omega) _⟩, ⟨HF4.out.trans ((KeepsOthers.setCell _ _ _).from _), HW4.out.trans (KeepsWalks.setCell _ _ _)⟩⟩⟩
                · have t9 : ((y1 : Int) != (q2 : Int)) = true := by rw [bne_iff_ne]; omega
                  gi_wp2
                  exact ⟨(KeepsOthers.setCell _ _ _).from _, rfl, good1_not HJ.out (by rw [HQ2.out]; exact hy1) HG3.out⟩
              case doneJy =>
                rintro xs W rfl ⟨⟨⟨bJ, bK⟩, ⟨bP, hgood2⟩⟩, ⟨⟨hB, hmk⟩, ⟨hf, hwk⟩⟩⟩
                rw [its_length] at bJ
                have cJ := bJ.cell
                have cP := bP.cell
                have hWz2 := hB.size
                have cL2 := (hB.cell (p := ⟨w1.heap.size, 0, none⟩) (by simp; omega)).trans cL0
                have HBK2 := Lib.hid bK
                have HBP2 := Lib.hid bP
                have HB4 := Lib.hid hB
                have HM4 := Lib.hid hmk
                have HF4 := Lib.hid hf
                have HW4 := Lib.hid hwk
                clear bJ bK bP hgood2 hB hmk hf hwk
                gi_wp2
                exact ⟨by rw [← hWr]; exact HF4.out, by rw [← hWr]; exact HW4.out, ⟨⟨by rw [HE2.out]; exact HBK2.out, HBP2.out⟩, ⟨HG2.out, Lib.hid trivial⟩⟩, HB4.out, HM4.out⟩
              case stopJy =>
                rintro c' pre2 W ⟨k2, _, rfl⟩ ⟨_, h⟩
                exact (h (good1_its s _)).elim
            · have t4 : (z == 2) = false := by simpa using h2
              gi_wp2
              exact ⟨HS4.out, HS5.out, ⟨⟨HS1.out, HS2.out⟩, ⟨HG2.out, Lib.hid trivial⟩⟩, HS3.out, HMK2.out⟩
          · have HG2 : Hid (¬ Good s (pre ++ [(x1, x2)])) := Lib.hid (good_not HK.out (fun h => hyr (by rw [← hy, ← HRN.out, ← HQ.out]; exact h.2)) HGood.out)
            have t3 : (y != (rn : Int)) = true := by simpa using hyr
            gi_wp2
            exact ⟨(keepsFrom_below HBN.out).trans ((KeepsOthers.setCell _ _ _).from _), ⟨rfl, HG2.out⟩⟩
        · have t2 : ((x1 : Int) != (q : Int)) = true := by rw [bne_iff_ne]; omega
          have HG2 : Hid (¬ Good s (pre ++ [(x1, x2)])) := Lib.hid (good_not HK.out (fun h => hx (by rw [← HQ.out]; exact h.1)) HGood.out)
          gi_wp2
          exact ⟨(KeepsOthers.setCell _ _ _).from _, ⟨rfl, HG2.out⟩⟩
      case done1y =>
        rintro D1 xs W hD1 rfl ⟨⟨⟨bK, bP⟩, ⟨hgood, _⟩⟩, hB, hM0⟩ hDk
        rw [its_length] at bK
        clear hgood
        have cK := bK.cell
        have cP := bP.cell
        have cM1 := (hB.cell (p := ⟨w.heap.size + 1, 0, none⟩) (by simp; omega)).trans cM
        have cR1 := (hB.cell (p := ⟨w.heap.size + 1 + 1, 0, none⟩) (by simp; omega)).trans cR
        have fR1 := (hB.frozen (p := ⟨w.heap.size + 1 + 1, 0, none⟩) (by simp; omega)).trans fR
        have cL1 := (hB.cell (p := ⟨w1.heap.size, 0, none⟩) (by simp; omega)).trans cL0
        have hWz := hB.size
        have hbO : Below W.heap.size W (W.alloc (Obj.cells #[Value.int IntKind.i64 1] 3)) := (Below.refl _ _).alloc (Nat.le_refl _) _
        have HbO := Lib.hid hbO
        have bN : Boxed (W.alloc (Obj.cells #[Value.int IntKind.i64 1] 3)) W.heap.size 3 (.int .i64 1) := Boxed.new _ _ _
        have cN := bN.cell
        have fN := bN.frozen
        clear hbO
        gi_wp2_with (fail)
        have hV2 : Below T W0 (W.alloc (Obj.cells #[Value.int IntKind.i64 2] 3)) := hB.alloc (by omega) _
        have bV2 : Boxed (W.alloc (Obj.cells #[Value.int IntKind.i64 2] 3)) W.heap.size 3 (.int .i64 2) := Boxed.new _ _ _
        have hq1 : (W.alloc (Obj.cells #[Value.int IntKind.i64 2] 3)).heap[D1]? = some (.deferred (some [])) := (Below.heap_alloc _ _ _ (Array.getElem?_eq_some_iff.1 hDk).1).trans hDk
        have hq0 : (W.alloc (Obj.cells #[Value.int IntKind.i64 2] 3)).heap[D]? = some (.deferred (some [])) := (Below.heap_alloc _ _ _ (Array.getElem?_eq_some_iff.1 hM0).1).trans hM0
        rw [roundsIn_succ]
        clear cK cP cM1 cR1 fR1 cL1 HbO bN cN fN bK bP hB hDk hM0
        generalize W.alloc (Obj.cells #[Value.int IntKind.i64 2] 3) = V2 at *
        have cP2 := bV2.cell
        have hzV2 := hV2.size
        have cR2 := (hV2.cell (p := ⟨w.heap.size + 1 + 1, 0, none⟩) (by simp; omega)).trans cR
        have fR2 := (hV2.frozen (p := ⟨w.heap.size + 1 + 1, 0, none⟩) (by simp; omega)).trans fR
        gi_wp2
        have hr1 := setCell_block5 (B := w.heap.size + 1 + 1) hq1 (by omega) (.bool true)
        have hr0 := setCell_block5 (B := w.heap.size + 1 + 1) hq0 (by omega) (.bool true)
        have hb5 : Below w.heap.size w (V2.setCell ⟨w.heap.size + 1 + 1, 0, none⟩ (.bool true)) := (hb3.trans (hV2.mono (by omega))).setCell (p := ⟨w.heap.size + 1 + 1, 0, none⟩) (by simp; omega) _
        have hc5 : (V2.setCell ⟨w.heap.size + 1 + 1, 0, none⟩ (.bool true)).cell? ⟨w.heap.size + 1 + 1, 0, none⟩ = some (.bool true) := World.cell?_setCell_same' _ _ _ (by rw [cR2]; rfl)
        generalize V2.setCell ⟨w.heap.size + 1 + 1, 0, none⟩ (.bool true) = V3 at *
        have hd1 : D < D1 := by omega
        have hr0' := ((grownBy_putObj' V3 D1 (.deferred none)).block D (Array.getElem?_eq_some_iff.1 hr0).1 (by simp; omega)).trans hr0
        have hc6 := cell_kept hc5 (grownBy_putObj' V3 D1 (.deferred none)) (fun r e => by cases e; exact ⟨_, hr1, rfl⟩)
        have hc7 := cell_kept hc6 (grownBy_putObj' _ D (.deferred none)) (fun r e => by cases e; exact ⟨_, hr0', rfl⟩)
        refine ⟨by simp, .inl ⟨_, _, rfl, run_takeDeferred hr1, ?_⟩⟩
        refine ⟨by simp, .inl ⟨_, _, rfl, run_takeDeferred hr0', ?_⟩⟩
        refine ⟨.bool true, ?_, rfl, ?_⟩
        · simp [results, Tryd.f44, go_sem, hc7]
        · exact (hb5.trans (belowK_b (w := w) (Nat.le_refl _) _ D1 _ _ (by omega) hr1 rfl rfl)).trans (belowK_b (w := w) (Nat.le_refl _) _ D _ _ (by omega) hr0' rfl rfl)
      case stop1y =>
        rintro D1 c' pre W hD1 ⟨k2, _, rfl⟩ ⟨_, h⟩ _
        exact (h (good_its s _)).elim
  case stop0 =>
    rintro D c' pre W hD ⟨k2, hk2, rfl⟩ h hDk
    rcases h with ⟨rfl, h⟩ | ⟨rfl, hm, ⟨⟨bK, bP⟩, _⟩, hB⟩
    · exact (h (good_its s _)).elim
    rw [its_length] at bK hm
    obtain ⟨kk, hkk⟩ : ∃ kk, k2 + 1 = kk := ⟨_, rfl⟩
    rw [hkk] at bK hm
    have hk1 : 1 ≤ kk := by omega
    have hkc : kk ≤ c := by omega
    clear hkk hk2
    subst hm
    have t6 : decide (1 ≤ (kk : Int)) = true := decide_eq_true (by omega)
    have t6' : decide (1 ≤ kk) = true := decide_eq_true hk1
    have cK := bK.cell
    have cP := bP.cell
    have cM1 := (hB.cell (p := ⟨w.heap.size + 1, 0, none⟩) (by simp; omega)).trans cM
    have cR1 := (hB.cell (p := ⟨w.heap.size + 1 + 1, 0, none⟩) (by simp; omega)).trans cR
    have fR1 := (hB.frozen (p := ⟨w.heap.size + 1 + 1, 0, none⟩) (by simp; omega)).trans fR
    have cL1 := (hB.cell (p := ⟨w1.heap.size, 0, none⟩) (by simp; omega)).trans cL0
    have hWz := hB.size
    have hbO : Below W.heap.size W (W.alloc (Obj.cells #[Value.int IntKind.i64 0] 3)) := (Below.refl _ _).alloc (Nat.le_refl _) _
    have HbO := Lib.hid hbO
    have bN : Boxed (W.alloc (Obj.cells #[Value.int IntKind.i64 0] 3)) W.heap.size 3 (.int .i64 0) := Boxed.new _ _ _
    have cN := bN.cell
    have fN := bN.frozen
    clear hbO
    by_cases hlt : kk < c
    · have t7 : decide ((kk : Int) < (c : Int)) = true := decide_eq_true (by omega)
      have t7' : decide (kk < c) = true := decide_eq_true hlt
      gi_wp2_with (fail)
      have hV1 : Below T W0 (W.alloc (Obj.cells #[Value.int IntKind.i64 1] 3)) := hB.alloc (by omega) _
      have bV1 : Boxed (W.alloc (Obj.cells #[Value.int IntKind.i64 1] 3)) W.heap.size 3 (.int .i64 1) := Boxed.new _ _ _
      have hm0 : (W.alloc (Obj.cells #[Value.int IntKind.i64 1] 3)).heap[D]? = some (.deferred (some [])) := (Below.heap_alloc _ _ _ (Array.getElem?_eq_some_iff.1 hDk).1).trans hDk
      have hzW : W.heap.size < (W.alloc (Obj.cells #[Value.int IntKind.i64 1] 3)).heap.size := by simp
      have hDl := (Array.getElem?_eq_some_iff.1 hm0).1
      have HbV : Hid (Below w.heap.size w (W.alloc (Obj.cells #[Value.int IntKind.i64 1] 3))) := Lib.hid (hb3.trans (hV1.mono (by omega)))
      rw [roundsIn_succ]
      clear cK cP cM1 cR1 fR1 cL1 HbO bN cN fN bK bP hB hDk
      generalize W.alloc (Obj.cells #[Value.int IntKind.i64 1] 3) = V at *
      generalize W.heap.size = Pb at *
      have cP1 := bV1.cell
      have hK1 : Below V.heap.size V (V.alloc (Obj.cells #[Value.int IntKind.i64 0] 3)) := (Below.refl _ _).alloc (Nat.le_refl _) _
      have cA1 := (hK1.cell (p := ⟨w1.heap.size + 1 + 1, 0, none⟩) (by have := hV1.size; simp; omega)).trans ((hV1.cell (p := ⟨w1.heap.size + 1 + 1, 0, none⟩) (by simp; omega)).trans cA0)
      gi_wp2_with (fail)
      have bK1 : Boxed (V.alloc (Obj.cells #[Value.int IntKind.i64 0] 3)) V.heap.size 3 (.int .i64 0) := Boxed.new _ _ _
      have bQ1 : Boxed (V.alloc (Obj.cells #[Value.int IntKind.i64 0] 3)) Pb 3 (.int .i64 1) := bV1.alloc _
      have hB1 : Below T W0 (V.alloc (Obj.cells #[Value.int IntKind.i64 0] 3)) := hV1.trans (hK1.mono (by have := hV1.size; omega))
      have hD10 : (V.alloc (Obj.cells #[Value.int IntKind.i64 0] 3)).heap[D]? = some (.deferred (some [])) := (Below.heap_alloc _ _ _ (Array.getElem?_eq_some_iff.1 hm0).1).trans hm0
      have hzK1 : V.heap.size + 1 ≤ (V.alloc (Obj.cells #[Value.int IntKind.i64 0] 3)).heap.size := by simp
      have hzV1 := hV1.size
      have cAs1 := (hB1.cell (p := ⟨w1.heap.size + 1, 0, none⟩) (by simp; omega)).trans cAs0
      have hPb1 := bV1.lt
      clear cP1 cA1 hK1
      generalize V.alloc (Obj.cells #[Value.int IntKind.i64 0] 3) = V1a at *
      obtain ⟨Kb1, hKb1⟩ : ∃ k, V.heap.size = k := ⟨_, rfl⟩
      rw [hKb1] at bK1 hzK1 hPb1 hzV1 ⊢
      have hseq1 := all_stops Fence.wide 7 trivial rfl (by omega) (w1.heap.size + 1) s V1a (by omega) (by omega) cAs1
      rw [HC0.out] at hseq1
      clear cAs1
      have hOwn1 : OwnFrom V1a.heap.size (fun (pre : List (Nat × Nat)) W => ((Boxed W Kb1 3 (.int .i64 (pre.length : Int)) ∧ Boxed W Pb 3 (.int .i64 1)) ∧ (Good s pre ∧ Hid (True))) ∧ (Below T W0 W ∧ W.heap[D]? = some (.deferred (some [])))) := (OwnFrom.and (OwnFrom.and (OwnFrom.and (Own.from (boxed_own _ _ _) _) (Own.from (boxed_own _ _ _) _)) (ownFrom_pure _ _)) (OwnFrom.and (ownFrom_below (by omega) (by omega)) (ownFrom_block (by omega))))
      have hOwn1b : OwnFrom V1a.heap.size (fun (pre : List (Nat × Nat)) W => ((Boxed W Kb1 3 (.int .i64 (pre.length : Int)) ∧ Boxed W Pb 3 (.int .i64 1)) ∧ Good s pre) ∧ (Below T W0 W ∧ W.heap[D]? = some (.deferred (some [])))) := (OwnFrom.and (OwnFrom.and (OwnFrom.and (Own.from (boxed_own _ _ _) _) (Own.from (boxed_own _ _ _) _)) (ownFrom_pure _ _)) (OwnFrom.and (ownFrom_below (by omega) (by omega)) (ownFrom_block (by omega))))
      refine rangeH1 rfl (by omega) (gf := 68) (lb := #[.pointer (some ⟨w1.heap.size + 1, 0, none⟩)]) rfl trivial (enters_of Tryd.func68 (by kernel_rfl) rfl) hseq1 (Below.refl _ _) (fun _ => rfl)
        (fun pre W => ((Boxed W Kb1 3 (.int .i64 (pre.length : Int)) ∧ Boxed W Pb 3 (.int .i64 1)) ∧ (Good s pre ∧ Hid (True))) ∧ (Below T W0 W ∧ W.heap[D]? = some (.deferred (some []))))
        (fun c' pre W => (c' = .ret ∧ ¬ Good s pre))
        hOwn1 ?ix1z ⟨⟨⟨bK1, bQ1⟩, good_nil s, Lib.hid trivial⟩, hB1, hD10⟩ ?a1z ?assign1z ?body1z ?done1z ?stop1z
      case assign1z =>
        intro l x W K hK
        gi_wp2
        exact hK
      case ix1z =>
        intro c' pre X Y row hs hg hr
        exact hs
      case body1z =>
        rintro l pre ⟨x1, x2⟩ W hl ⟨r, hr⟩ ⟨⟨⟨bK, bP⟩, ⟨hgood, HNM⟩⟩, hB, hM0⟩ hlen
        have hlW := (Array.getElem?_eq_some_iff.1 hr).1
        obtain ⟨k, hk⟩ : ∃ k, pre.length = k := ⟨_, rfl⟩
        rw [hk] at bK hlen
        have he : ((pre ++ [(x1, x2)]).length : Int) = (k : Int) + 1 := by rw [List.length_append, hk]; rfl
        have HK := Lib.hid hk
        have HE := Lib.hid he
        have HGood := Lib.hid hgood
        have HBW := Lib.hid hB
        have HM := Lib.hid hM0
        clear hM0
        have HHR := Lib.hid hr
        have cK := bK.cell
        have fK := bK.frozen
        have cP := bP.cell
        have hbK := bK.lt
        have hPK : Pb ≠ Kb1 := by omega
        have HBK := Lib.hid bK
        have HBP := Lib.hid bP
        have cS1 := (hB.cell (p := ⟨w.heap.size, 0, none⟩) (by simp; omega)).trans cS
        have cM1 := (hB.cell (p := ⟨w.heap.size + 1, 0, none⟩) (by simp; omega)).trans cM
        have cR1 := (hB.cell (p := ⟨w.heap.size + 1 + 1, 0, none⟩) (by simp; omega)).trans cR
        have fR1 := (hB.frozen (p := ⟨w.heap.size + 1 + 1, 0, none⟩) (by simp; omega)).trans fR
        have cL1 := (hB.cell (p := ⟨w1.heap.size, 0, none⟩) (by simp; omega)).trans cL0
        have cg := (hB.cell (p := ⟨g, k, none⟩) (by simp; omega)).trans (HST.out k (by omega))
        have hgT : g < T := by omega
        obtain ⟨q, hq⟩ : ∃ q, Run.adv s k 0 = q := ⟨_, rfl⟩
        rw [hq] at cg
        have hqs : q < s.size := by rw [← hq]; exact Run.adv_lt s k 0 (by rw [HC0.out]; exact hlen)
        have HQ := Lib.hid hq
        have t1 : decide ((c : Int) ≤ (k : Int)) = false := decide_eq_false (by omega)
        have t1' : decide (c ≤ k) = false := decide_eq_false (by omega)
        have hWz := hB.size
        clear hk he hgood hB hr bK bP hq
        by_cases hx : x1 = q
        · subst hx
          have t2 : ((x1 : Int) != (x1 : Int)) = false := by simp
          obtain ⟨y, hy⟩ : ∃ y, IntKind.i64.wrap (x2 : Int) = y := ⟨_, rfl⟩
          have HR2 := Lib.hid (fun w => HR.out w x1 hqs)
          obtain ⟨rn, hrn⟩ : ∃ rn, (Utf8.decode s x1).1 = rn := ⟨_, rfl⟩
          simp only [hrn] at HR2
          have HRN := Lib.hid hrn
          clear hrn
          gi_wp2_with (fail)
          refine ⟨trivial, ?_⟩
          refine (CallsIn.inRound l (callsIn_wide.2 (HR2.out _))).mono ?_
          rintro e W' ⟨rfl, hbn⟩
          have hWz' := hbn.size
          have bK := Boxed.below5 HBK.out hbn (by omega)
          have bP := Boxed.below5 HBP.out hbn (by omega)
          replace cK := bK.cell
          replace fK := bK.frozen
          replace cP := bP.cell
          replace cS1 := (hbn.cell (p := ⟨w.heap.size, 0, none⟩) (by simp; omega)).trans cS1
          replace cM1 := (hbn.cell (p := ⟨w.heap.size + 1, 0, none⟩) (by simp; omega)).trans cM1
          replace cR1 := (hbn.cell (p := ⟨w.heap.size + 1 + 1, 0, none⟩) (by simp; omega)).trans cR1
          replace fR1 := (hbn.frozen (p := ⟨w.heap.size + 1 + 1, 0, none⟩) (by simp; omega)).trans fR1
          replace cL1 := (hbn.cell (p := ⟨w1.heap.size, 0, none⟩) (by simp; omega)).trans cL1
          have HHR' : Hid (W'.heap[l]? = some (.loop r)) := Lib.hid ((hbn.block l hlW).trans HHR.out)
          have HB' : Hid (Below T W0 W') := Lib.hid (HBW.out.trans (hbn.mono (by omega)))
          have HMK : Hid (W'.heap[D]? = some (.deferred (some []))) := Lib.hid ((hbn.block D (Array.getElem?_eq_some_iff.1 HM.out).1).trans HM.out)
          have HBN := Lib.hid hbn
          have HBK' := Lib.hid bK
          have HBP' := Lib.hid bP
          clear hbn bK bP cg
          by_cases hyr : y = (rn : Int)
          · have HG2 : Hid (Good s (pre ++ [(x1, x2)])) := Lib.hid (good_next HK.out HGood.out HQ.out.symm (by rw [HQ.out, HRN.out, ← hyr, ← hy]))
            subst hyr
            have t3 : ((rn : Int) != (rn : Int)) = false := by simp
            obtain ⟨z, hz⟩ : ∃ z : Int, (k : Int) + 1 = z := ⟨_, rfl⟩
            have HE2 : Hid (((pre ++ [(x1, x2)]).length : Int) = z) := Lib.hid (by rw [← hz]; exact HE.out)
            have hs1 : Boxed (W'.setCell ⟨Kb1, 0, none⟩ (.int .i64 z)) Kb1 3 (.int .i64 z) := Boxed.set _ HBK'.out
            have hs2 : Boxed (W'.setCell ⟨Kb1, 0, none⟩ (.int .i64 z)) Pb 3 (.int .i64 1) := Boxed.other HBP'.out hPK _
            have hs3 : Below T W0 (W'.setCell ⟨Kb1, 0, none⟩ (.int .i64 z)) := HB'.out.setCell (p := ⟨Kb1, 0, none⟩) (by simp; omega) _
            have hs4 : KeepsFrom V1a.heap.size W (W'.setCell ⟨Kb1, 0, none⟩ (.int .i64 z)) := (keepsFrom_below HBN.out).trans ((KeepsOthers.setCell _ _ _).from _)
            have hs5 : KeepsWalks W (W'.setCell ⟨Kb1, 0, none⟩ (.int .i64 z)) := (keepsWalks_below HBN.out).trans (KeepsWalks.setCell _ _ _)
            rw [← HE2.out] at hs1
            have HS1 : Hid (Boxed (W'.setCell ⟨Kb1, 0, none⟩ (.int .i64 z)) Kb1 3 (.int .i64 ((pre ++ [(x1, x2)]).length : Int))) := Lib.hid (by rw [HE2.out] at hs1 ⊢; exact hs1)
            have HS2 := Lib.hid hs2
            have HS3 := Lib.hid hs3
            have HS4 := Lib.hid hs4
            have HS5 := Lib.hid hs5
            clear hs1 hs2 hs3 hs4 hs5
            have hmk : (W'.setCell ⟨Kb1, 0, none⟩ (.int .i64 z)).heap[D]? = some (.deferred (some [])) := setCell_block5 HMK.out (by omega) _
            have HMK2 := Lib.hid hmk
            clear hmk
            by_cases h2 : z = 2
            · subst h2
              have hjb : Below (W'.setCell ⟨Kb1, 0, none⟩ (.int .i64 2)).heap.size (W'.setCell ⟨Kb1, 0, none⟩ (.int .i64 2)) ((W'.setCell ⟨Kb1, 0, none⟩ (.int .i64 2)).alloc (Obj.cells #[Value.int IntKind.i64 0] 3)) := (Below.refl _ _).alloc (Nat.le_refl _) _
              have hz2 : W'.heap.size ≤ (W'.setCell ⟨Kb1, 0, none⟩ (.int .i64 2)).heap.size := (KeepsOthers.setCell _ _ _).size
              have hz3 : (W'.setCell ⟨Kb1, 0, none⟩ (.int .i64 2)).heap.size < ((W'.setCell ⟨Kb1, 0, none⟩ (.int .i64 2)).alloc (Obj.cells #[Value.int IntKind.i64 0] 3)).heap.size := by simp
              have hB3 : Below T W0 ((W'.setCell ⟨Kb1, 0, none⟩ (.int .i64 2)).alloc (Obj.cells #[Value.int IntKind.i64 0] 3)) := HS3.out.trans (hjb.mono (by omega))
              have cA3 := (hB3.cell (p := ⟨w1.heap.size + 1 + 1, 0, none⟩) (by simp; omega)).trans cA0
              have cAs3 := (hB3.cell (p := ⟨w1.heap.size + 1, 0, none⟩) (by simp; omega)).trans cAs0
              gi_wp2_with (fail)
              have bJ3 : Boxed ((W'.setCell ⟨Kb1, 0, none⟩ (.int .i64 2)).alloc (Obj.cells #[Value.int IntKind.i64 0] 3)) (W'.setCell ⟨Kb1, 0, none⟩ (.int .i64 2)).heap.size 3 (.int .i64 0) := Boxed.new _ _ _
              have bK3 : Boxed ((W'.setCell ⟨Kb1, 0, none⟩ (.int .i64 2)).alloc (Obj.cells #[Value.int IntKind.i64 0] 3)) Kb1 3 (.int .i64 2) := (Boxed.set (.int .i64 2) HBK'.out).alloc _
              have bP3 : Boxed ((W'.setCell ⟨Kb1, 0, none⟩ (.int .i64 2)).alloc (Obj.cells #[Value.int IntKind.i64 0] 3)) Pb 3 (.int .i64 1) := HS2.out.alloc _
              have hr3 : ((W'.setCell ⟨Kb1, 0, none⟩ (.int .i64 2)).alloc (Obj.cells #[Value.int IntKind.i64 0] 3)).heap[l]? = some (.loop r) := (Below.heap_alloc _ _ _ (by omega)).trans (setCell_block5 HHR'.out (by omega) _)
              have hm3 : ((W'.setCell ⟨Kb1, 0, none⟩ (.int .i64 2)).alloc (Obj.cells #[Value.int IntKind.i64 0] 3)).heap[D]? = some (.deferred (some [])) := (Below.heap_alloc _ _ _ (Array.getElem?_eq_some_iff.1 HMK2.out).1).trans HMK2.out
              have hf3 : KeepsFrom V1a.heap.size W ((W'.setCell ⟨Kb1, 0, none⟩ (.int .i64 2)).alloc (Obj.cells #[Value.int IntKind.i64 0] 3)) := HS4.out.trans ((KeepsOthers.alloc _ _).from _)
              have hw3 : KeepsWalks W ((W'.setCell ⟨Kb1, 0, none⟩ (.int .i64 2)).alloc (Obj.cells #[Value.int IntKind.i64 0] 3)) := HS5.out.trans (KeepsWalks.alloc _ _)
              have hsz2 : (W'.setCell ⟨Kb1, 0, none⟩ (.int .i64 2)).heap.size = W'.heap.size := by simp
              simp only [hsz2] at bJ3 hz3 hjb ⊢
              obtain ⟨Jb, hJb⟩ : ∃ b, W'.heap.size = b := ⟨_, rfl⟩
              rw [hJb] at bJ3 hz3 ⊢
              have hJl : Jb < ((W'.setCell ⟨Kb1, 0, none⟩ (.int .i64 2)).alloc (Obj.cells #[Value.int IntKind.i64 0] 3)).heap.size := bJ3.lt
              clear cA3 hjb hsz2
              generalize ((W'.setCell ⟨Kb1, 0, none⟩ (.int .i64 2)).alloc (Obj.cells #[Value.int IntKind.i64 0] 3)) = Y at *
              obtain ⟨Wr, hWr⟩ : ∃ v, v = W := ⟨_, rfl⟩
              rw [← hWr] at hf3 hw3
              have hseqJ := (all_stops Fence.wide 5 trivial rfl (by omega) (w1.heap.size + 1) s Y (by omega) (by omega) cAs3).inRound l
              rw [HC0.out] at hseqJ
              have HR3 := Lib.hid hr3
              clear cAs3
              have hsy := hB3.size
              have hOwnJ : OwnFrom Y.heap.size (fun (pre2 : List (Nat × Nat)) W => ((Boxed W Jb 3 (.int .i64 (pre2.length : Int)) ∧ Boxed W Kb1 3 (.int .i64 2)) ∧ (Boxed W Pb 3 (.int .i64 1) ∧ Good1 s pre2)) ∧ ((Below T W0 W ∧ W.heap[D]? = some (.deferred (some []))) ∧ (KeepsFrom V1a.heap.size Wr W ∧ KeepsWalks Wr W))) :=
                OwnFrom.and (OwnFrom.and (OwnFrom.and (Own.from (boxed_own _ _ _) _) (Own.from (boxed_own _ _ _) _)) (OwnFrom.and (Own.from (boxed_own _ _ _) _) (ownFrom_pure _ _))) (OwnFrom.and (OwnFrom.and (ownFrom_below (by omega) (by omega)) (ownFrom_block (by omega))) (OwnFrom.and (ownFrom_keepsFrom hw3.size) (ownFrom_walks hw3.size)))
              refine rangeN1 (l₀ := l) (r₀ := r) rfl hr3 (by omega) (gf := 68) (lb := #[.pointer (some ⟨w1.heap.size + 1, 0, none⟩)]) rfl trivial (enters_of Tryd.func68 (by kernel_rfl) rfl) hseqJ (Below.refl _ _) (fun _ => rfl)
                (fun pre2 W => ((Boxed W Jb 3 (.int .i64 (pre2.length : Int)) ∧ Boxed W Kb1 3 (.int .i64 2)) ∧ (Boxed W Pb 3 (.int .i64 1) ∧ Good1 s pre2)) ∧ ((Below T W0 W ∧ W.heap[D]? = some (.deferred (some []))) ∧ (KeepsFrom V1a.heap.size Wr W ∧ KeepsWalks Wr W)))
                (fun c' pre2 W => c' = .ret ∧ ¬ Good1 s pre2)
                hOwnJ (fun _ _ _ _ _ hs _ _ => hs) ⟨⟨⟨bJ3, bK3⟩, ⟨bP3, good1_nil s⟩⟩, ⟨⟨hB3, hm3⟩, ⟨hf3, hw3⟩⟩⟩ ?aJz ?assignJz ?bodyJz ?doneJz ?stopJz
              case assignJz =>
                intro l2 x W K hK
                gi_wp2
                exact hK
              case bodyJz =>
                rintro l2 pre2 ⟨y1, y2⟩ W ⟨⟨⟨bJ, bK⟩, ⟨bP, hgood2⟩⟩, ⟨⟨hB, hmk⟩, ⟨hf, hwk⟩⟩⟩ hlen2
                obtain ⟨j, hj⟩ : ∃ j, pre2.length = j := ⟨_, rfl⟩
                rw [hj] at bJ hlen2
                have he2 : ((pre2 ++ [(y1, y2)]).length : Int) = (j : Int) + 1 := by rw [List.length_append, hj]; rfl
                have cJ := bJ.cell
                have fJ := bJ.frozen
                have hWz2 := hB.size
                have cR2 := (hB.cell (p := ⟨w.heap.size + 1 + 1, 0, none⟩) (by simp; omega)).trans cR
                have fR2 := (hB.frozen (p := ⟨w.heap.size + 1 + 1, 0, none⟩) (by simp; omega)).trans fR
                have cL2 := (hB.cell (p := ⟨w1.heap.size, 0, none⟩) (by simp; omega)).trans cL0
                have cg2 := (hB.cell (p := ⟨g, j, none⟩) (by simp; omega)).trans (HST.out j (by omega))
                obtain ⟨q2, hq2⟩ : ∃ q, Run.adv s j 0 = q := ⟨_, rfl⟩
                rw [hq2] at cg2
                have t8 : decide ((c : Int) ≤ (j : Int)) = false := decide_eq_false (by omega)
                have t8' : decide (c ≤ j) = false := decide_eq_false (by omega)
                have HJ := Lib.hid hj
                have HE3 := Lib.hid he2
                have HBJ := Lib.hid bJ
                have HBK2 := Lib.hid bK
                have HBP2 := Lib.hid bP
                have HG3 := Lib.hid hgood2
                have HB4 := Lib.hid hB
                have HM4 := Lib.hid hmk
                have HF4 := Lib.hid hf
                have HW4 := Lib.hid hwk
                have HQ2 := Lib.hid hq2
                clear hj he2 bJ bK bP hgood2 hB hmk hf hwk hq2
                by_cases hy1 : y1 = q2
                · subst hy1
                  have t9 : ((y1 : Int) != (y1 : Int)) = false := by simp
                  gi_wp2
                  exact ⟨(KeepsOthers.setCell _ _ _).from _, KeepsWalks.setCell _ _ _, ⟨⟨by rw [HE3.out]; exact Boxed.set _ HBJ.out, Boxed.other HBK2.out (by omega) _⟩, ⟨Boxed.other HBP2.out (by omega) _, good1_next HJ.out HG3.out HQ2.out.symm⟩⟩, ⟨⟨HB4.out.setCell (p := ⟨Jb, 0, none⟩) (by simp; omega) _, setCell_block5 HM4.out (by omega) _⟩, ⟨HF4.out.trans ((KeepsOthers.setCell _ _ _).from _), HW4.out.trans (KeepsWalks.setCell _ _ _)⟩⟩⟩
                · have t9 : ((y1 : Int) != (q2 : Int)) = true := by rw [bne_iff_ne]; omega
                  gi_wp2
                  exact ⟨(KeepsOthers.setCell _ _ _).from _, rfl, good1_not HJ.out (by rw [HQ2.out]; exact hy1) HG3.out⟩
              case doneJz =>
                rintro xs W rfl ⟨⟨⟨bJ, bK⟩, ⟨bP, hgood2⟩⟩, ⟨⟨hB, hmk⟩, ⟨hf, hwk⟩⟩⟩
                rw [its_length] at bJ
                have cJ := bJ.cell
                have cP := bP.cell
                have hWz2 := hB.size
                have cL2 := (hB.cell (p := ⟨w1.heap.size, 0, none⟩) (by simp; omega)).trans cL0
                have HBK2 := Lib.hid bK
                have HBP2 := Lib.hid bP
                have HB4 := Lib.hid hB
                have HM4 := Lib.hid hmk
                have HF4 := Lib.hid hf
                have HW4 := Lib.hid hwk
                clear bJ bK bP hgood2 hB hmk hf hwk
                gi_wp2
                exact ⟨by rw [← hWr]; exact HF4.out, by rw [← hWr]; exact HW4.out, ⟨⟨by rw [HE2.out]; exact HBK2.out, HBP2.out⟩, ⟨HG2.out, Lib.hid trivial⟩⟩, HB4.out, HM4.out⟩
              case stopJz =>
                rintro c' pre2 W ⟨k2, _, rfl⟩ ⟨_, h⟩
                exact (h (good1_its s _)).elim
            · have t4 : (z == 2) = false := by simpa using h2
              gi_wp2
              exact ⟨HS4.out, HS5.out, ⟨⟨HS1.out, HS2.out⟩, ⟨HG2.out, Lib.hid trivial⟩⟩, HS3.out, HMK2.out⟩
          · have HG2 : Hid (¬ Good s (pre ++ [(x1, x2)])) := Lib.hid (good_not HK.out (fun h => hyr (by rw [← hy, ← HRN.out, ← HQ.out]; exact h.2)) HGood.out)
            have t3 : (y != (rn : Int)) = true := by simpa using hyr
            gi_wp2
            exact ⟨(keepsFrom_below HBN.out).trans ((KeepsOthers.setCell _ _ _).from _), ⟨rfl, HG2.out⟩⟩
        · have t2 : ((x1 : Int) != (q : Int)) = true := by rw [bne_iff_ne]; omega
          have HG2 : Hid (¬ Good s (pre ++ [(x1, x2)])) := Lib.hid (good_not HK.out (fun h => hx (by rw [← HQ.out]; exact h.1)) HGood.out)
          gi_wp2
          exact ⟨(KeepsOthers.setCell _ _ _).from _, ⟨rfl, HG2.out⟩⟩
      case done1z =>
        rintro D1 xs W hD1 rfl ⟨⟨⟨bK, bP⟩, ⟨hgood, _⟩⟩, hB, hM0⟩ hDk
        rw [its_length] at bK
        clear hgood
        have cK := bK.cell
        have cP := bP.cell
        have cM1 := (hB.cell (p := ⟨w.heap.size + 1, 0, none⟩) (by simp; omega)).trans cM
        have cR1 := (hB.cell (p := ⟨w.heap.size + 1 + 1, 0, none⟩) (by simp; omega)).trans cR
        have fR1 := (hB.frozen (p := ⟨w.heap.size + 1 + 1, 0, none⟩) (by simp; omega)).trans fR
        have cL1 := (hB.cell (p := ⟨w1.heap.size, 0, none⟩) (by simp; omega)).trans cL0
        have hWz := hB.size
        have hbO : Below W.heap.size W (W.alloc (Obj.cells #[Value.int IntKind.i64 1] 3)) := (Below.refl _ _).alloc (Nat.le_refl _) _
        have HbO := Lib.hid hbO
        have bN : Boxed (W.alloc (Obj.cells #[Value.int IntKind.i64 1] 3)) W.heap.size 3 (.int .i64 1) := Boxed.new _ _ _
        have cN := bN.cell
        have fN := bN.frozen
        clear hbO
        gi_wp2_with (fail)
        have hV2 : Below T W0 (W.alloc (Obj.cells #[Value.int IntKind.i64 2] 3)) := hB.alloc (by omega) _
        have bV2 : Boxed (W.alloc (Obj.cells #[Value.int IntKind.i64 2] 3)) W.heap.size 3 (.int .i64 2) := Boxed.new _ _ _
        have hq1 : (W.alloc (Obj.cells #[Value.int IntKind.i64 2] 3)).heap[D1]? = some (.deferred (some [])) := (Below.heap_alloc _ _ _ (Array.getElem?_eq_some_iff.1 hDk).1).trans hDk
        have hq0 : (W.alloc (Obj.cells #[Value.int IntKind.i64 2] 3)).heap[D]? = some (.deferred (some [])) := (Below.heap_alloc _ _ _ (Array.getElem?_eq_some_iff.1 hM0).1).trans hM0
        rw [roundsIn_succ]
        clear cK cP cM1 cR1 fR1 cL1 HbO bN cN fN bK bP hB hDk hM0
        generalize W.alloc (Obj.cells #[Value.int IntKind.i64 2] 3) = V2 at *
        have cP2 := bV2.cell
        have hzV2 := hV2.size
        have cR2 := (hV2.cell (p := ⟨w.heap.size + 1 + 1, 0, none⟩) (by simp; omega)).trans cR
        have fR2 := (hV2.frozen (p := ⟨w.heap.size + 1 + 1, 0, none⟩) (by simp; omega)).trans fR
        gi_wp2
        have hr1 := setCell_block5 (B := w.heap.size + 1 + 1) hq1 (by omega) (.bool true)
        have hr0 := setCell_block5 (B := w.heap.size + 1 + 1) hq0 (by omega) (.bool true)
        have hb5 : Below w.heap.size w (V2.setCell ⟨w.heap.size + 1 + 1, 0, none⟩ (.bool true)) := (hb3.trans (hV2.mono (by omega))).setCell (p := ⟨w.heap.size + 1 + 1, 0, none⟩) (by simp; omega) _
        have hc5 : (V2.setCell ⟨w.heap.size + 1 + 1, 0, none⟩ (.bool true)).cell? ⟨w.heap.size + 1 + 1, 0, none⟩ = some (.bool true) := World.cell?_setCell_same' _ _ _ (by rw [cR2]; rfl)
        generalize V2.setCell ⟨w.heap.size + 1 + 1, 0, none⟩ (.bool true) = V3 at *
        have hd1 : D < D1 := by omega
        have hr0' := ((grownBy_putObj' V3 D1 (.deferred none)).block D (Array.getElem?_eq_some_iff.1 hr0).1 (by simp; omega)).trans hr0
        have hc6 := cell_kept hc5 (grownBy_putObj' V3 D1 (.deferred none)) (fun r e => by cases e; exact ⟨_, hr1, rfl⟩)
        have hc7 := cell_kept hc6 (grownBy_putObj' _ D (.deferred none)) (fun r e => by cases e; exact ⟨_, hr0', rfl⟩)
        refine ⟨by simp, .inl ⟨_, _, rfl, run_takeDeferred hr1, ?_⟩⟩
        refine ⟨by simp, .inl ⟨_, _, rfl, run_takeDeferred hr0', ?_⟩⟩
        refine ⟨.bool true, ?_, rfl, ?_⟩
        · simp [results, Tryd.f44, go_sem, hc7]
        · exact (hb5.trans (belowK_b (w := w) (Nat.le_refl _) _ D1 _ _ (by omega) hr1 rfl rfl)).trans (belowK_b (w := w) (Nat.le_refl _) _ D _ _ (by omega) hr0' rfl rfl)
      case stop1z =>
        rintro D1 c' pre W hD1 ⟨k2, _, rfl⟩ ⟨_, h⟩ _
        exact (h (good_its s _)).elim
    · obtain rfl : c = kk := by omega
      have t7 : decide ((c : Int) < (c : Int)) = false := decide_eq_false (by omega)
      have t7' : decide (c < c) = false := decide_eq_false (by omega)
      gi_wp2_with (fail)
      have hV1 : Below T W0 (W.alloc (Obj.cells #[Value.int IntKind.i64 1] 3)) := hB.alloc (by omega) _
      have bV1 : Boxed (W.alloc (Obj.cells #[Value.int IntKind.i64 1] 3)) W.heap.size 3 (.int .i64 1) := Boxed.new _ _ _
      have hm0 : (W.alloc (Obj.cells #[Value.int IntKind.i64 1] 3)).heap[D]? = some (.deferred (some [])) := (Below.heap_alloc _ _ _ (Array.getElem?_eq_some_iff.1 hDk).1).trans hDk
      have hzW : W.heap.size < (W.alloc (Obj.cells #[Value.int IntKind.i64 1] 3)).heap.size := by simp
      have hDl := (Array.getElem?_eq_some_iff.1 hm0).1
      have HbV : Hid (Below w.heap.size w (W.alloc (Obj.cells #[Value.int IntKind.i64 1] 3))) := Lib.hid (hb3.trans (hV1.mono (by omega)))
      rw [roundsIn_succ]
      clear cK cP cM1 cR1 fR1 cL1 HbO bN cN fN bK bP hB hDk
      generalize W.alloc (Obj.cells #[Value.int IntKind.i64 1] 3) = V at *
      generalize W.heap.size = Pb at *
      have cP1 := bV1.cell
      have hK1 : Below V.heap.size V (V.alloc (Obj.cells #[Value.int IntKind.i64 0] 3)) := (Below.refl _ _).alloc (Nat.le_refl _) _
      have cA1 := (hK1.cell (p := ⟨w1.heap.size + 1 + 1, 0, none⟩) (by have := hV1.size; simp; omega)).trans ((hV1.cell (p := ⟨w1.heap.size + 1 + 1, 0, none⟩) (by simp; omega)).trans cA0)
      gi_wp2_with (fail)
      have bK1 : Boxed (V.alloc (Obj.cells #[Value.int IntKind.i64 0] 3)) V.heap.size 3 (.int .i64 0) := Boxed.new _ _ _
      have bQ1 : Boxed (V.alloc (Obj.cells #[Value.int IntKind.i64 0] 3)) Pb 3 (.int .i64 1) := bV1.alloc _
      have hB1 : Below T W0 (V.alloc (Obj.cells #[Value.int IntKind.i64 0] 3)) := hV1.trans (hK1.mono (by have := hV1.size; omega))
      have hD10 : (V.alloc (Obj.cells #[Value.int IntKind.i64 0] 3)).heap[D]? = some (.deferred (some [])) := (Below.heap_alloc _ _ _ (Array.getElem?_eq_some_iff.1 hm0).1).trans hm0
      have hzK1 : V.heap.size + 1 ≤ (V.alloc (Obj.cells #[Value.int IntKind.i64 0] 3)).heap.size := by simp
      have hzV1 := hV1.size
      have cAs1 := (hB1.cell (p := ⟨w1.heap.size + 1, 0, none⟩) (by simp; omega)).trans cAs0
      have hPb1 := bV1.lt
      clear cP1 cA1 hK1
      generalize V.alloc (Obj.cells #[Value.int IntKind.i64 0] 3) = V1a at *
      obtain ⟨Kb1, hKb1⟩ : ∃ k, V.heap.size = k := ⟨_, rfl⟩
      rw [hKb1] at bK1 hzK1 hPb1 hzV1 ⊢
      have hseq1 := all_stops Fence.wide 7 trivial rfl (by omega) (w1.heap.size + 1) s V1a (by omega) (by omega) cAs1
      rw [HC0.out] at hseq1
      clear cAs1
      have hOwn1 : OwnFrom V1a.heap.size (fun (pre : List (Nat × Nat)) W => ((Boxed W Kb1 3 (.int .i64 (pre.length : Int)) ∧ Boxed W Pb 3 (.int .i64 1)) ∧ (Good s pre ∧ Hid (True))) ∧ (Below T W0 W ∧ W.heap[D]? = some (.deferred (some [])))) := (OwnFrom.and (OwnFrom.and (OwnFrom.and (Own.from (boxed_own _ _ _) _) (Own.from (boxed_own _ _ _) _)) (ownFrom_pure _ _)) (OwnFrom.and (ownFrom_below (by omega) (by omega)) (ownFrom_block (by omega))))
      have hOwn1b : OwnFrom V1a.heap.size (fun (pre : List (Nat × Nat)) W => ((Boxed W Kb1 3 (.int .i64 (pre.length : Int)) ∧ Boxed W Pb 3 (.int .i64 1)) ∧ Good s pre) ∧ (Below T W0 W ∧ W.heap[D]? = some (.deferred (some [])))) := (OwnFrom.and (OwnFrom.and (OwnFrom.and (Own.from (boxed_own _ _ _) _) (Own.from (boxed_own _ _ _) _)) (ownFrom_pure _ _)) (OwnFrom.and (ownFrom_below (by omega) (by omega)) (ownFrom_block (by omega))))
      refine rangeH1 rfl (by omega) (gf := 68) (lb := #[.pointer (some ⟨w1.heap.size + 1, 0, none⟩)]) rfl trivial (enters_of Tryd.func68 (by kernel_rfl) rfl) hseq1 (Below.refl _ _) (fun _ => rfl)
        (fun pre W => ((Boxed W Kb1 3 (.int .i64 (pre.length : Int)) ∧ Boxed W Pb 3 (.int .i64 1)) ∧ (Good s pre ∧ Hid (True))) ∧ (Below T W0 W ∧ W.heap[D]? = some (.deferred (some []))))
        (fun c' pre W => (c' = .ret ∧ ¬ Good s pre))
        hOwn1 ?ix1u ⟨⟨⟨bK1, bQ1⟩, good_nil s, Lib.hid trivial⟩, hB1, hD10⟩ ?a1u ?assign1u ?body1u ?done1u ?stop1u
      case assign1u =>
        intro l x W K hK
        gi_wp2
        exact hK
      case ix1u =>
        intro c' pre X Y row hs hg hr
        exact hs
      case body1u =>
        rintro l pre ⟨x1, x2⟩ W hl ⟨r, hr⟩ ⟨⟨⟨bK, bP⟩, ⟨hgood, HNM⟩⟩, hB, hM0⟩ hlen
        have hlW := (Array.getElem?_eq_some_iff.1 hr).1
        obtain ⟨k, hk⟩ : ∃ k, pre.length = k := ⟨_, rfl⟩
        rw [hk] at bK hlen
        have he : ((pre ++ [(x1, x2)]).length : Int) = (k : Int) + 1 := by rw [List.length_append, hk]; rfl
        have HK := Lib.hid hk
        have HE := Lib.hid he
        have HGood := Lib.hid hgood
        have HBW := Lib.hid hB
        have HM := Lib.hid hM0
        clear hM0
        have HHR := Lib.hid hr
        have cK := bK.cell
        have fK := bK.frozen
        have cP := bP.cell
        have hbK := bK.lt
        have hPK : Pb ≠ Kb1 := by omega
        have HBK := Lib.hid bK
        have HBP := Lib.hid bP
        have cS1 := (hB.cell (p := ⟨w.heap.size, 0, none⟩) (by simp; omega)).trans cS
        have cM1 := (hB.cell (p := ⟨w.heap.size + 1, 0, none⟩) (by simp; omega)).trans cM
        have cR1 := (hB.cell (p := ⟨w.heap.size + 1 + 1, 0, none⟩) (by simp; omega)).trans cR
        have fR1 := (hB.frozen (p := ⟨w.heap.size + 1 + 1, 0, none⟩) (by simp; omega)).trans fR
        have cL1 := (hB.cell (p := ⟨w1.heap.size, 0, none⟩) (by simp; omega)).trans cL0
        have cg := (hB.cell (p := ⟨g, k, none⟩) (by simp; omega)).trans (HST.out k (by omega))
        have hgT : g < T := by omega
        obtain ⟨q, hq⟩ : ∃ q, Run.adv s k 0 = q := ⟨_, rfl⟩
        rw [hq] at cg
        have hqs : q < s.size := by rw [← hq]; exact Run.adv_lt s k 0 (by rw [HC0.out]; exact hlen)
        have HQ := Lib.hid hq
        have t1 : decide ((c : Int) ≤ (k : Int)) = false := decide_eq_false (by omega)
        have t1' : decide (c ≤ k) = false := decide_eq_false (by omega)
        have hWz := hB.size
        clear hk he hgood hB hr bK bP hq
        by_cases hx : x1 = q
        · subst hx
          have t2 : ((x1 : Int) != (x1 : Int)) = false := by simp
          obtain ⟨y, hy⟩ : ∃ y, IntKind.i64.wrap (x2 : Int) = y := ⟨_, rfl⟩
          have HR2 := Lib.hid (fun w => HR.out w x1 hqs)
          obtain ⟨rn, hrn⟩ : ∃ rn, (Utf8.decode s x1).1 = rn := ⟨_, rfl⟩
          simp only [hrn] at HR2
          have HRN := Lib.hid hrn
          clear hrn
          gi_wp2_with (fail)
          refine ⟨trivial, ?_⟩
          refine (CallsIn.inRound l (callsIn_wide.2 (HR2.out _))).mono ?_
          rintro e W' ⟨rfl, hbn⟩
          have hWz' := hbn.size
          have bK := Boxed.below5 HBK.out hbn (by omega)
          have bP := Boxed.below5 HBP.out hbn (by omega)
          replace cK := bK.cell
          replace fK := bK.frozen
          replace cP := bP.cell
          replace cS1 := (hbn.cell (p := ⟨w.heap.size, 0, none⟩) (by simp; omega)).trans cS1
          replace cM1 := (hbn.cell (p := ⟨w.heap.size + 1, 0, none⟩) (by simp; omega)).trans cM1
          replace cR1 := (hbn.cell (p := ⟨w.heap.size + 1 + 1, 0, none⟩) (by simp; omega)).trans cR1
          replace fR1 := (hbn.frozen (p := ⟨w.heap.size + 1 + 1, 0, none⟩) (by simp; omega)).trans fR1
          replace cL1 := (hbn.cell (p := ⟨w1.heap.size, 0, none⟩) (by simp; omega)).trans cL1
          have HHR' : Hid (W'.heap[l]? = some (.loop r)) := Lib.hid ((hbn.block l hlW).trans HHR.out)
          have HB' : Hid (Below T W0 W') := Lib.hid (HBW.out.trans (hbn.mono (by omega)))
          have HMK : Hid (W'.heap[D]? = some (.deferred (some []))) := Lib.hid ((hbn.block D (Array.getElem?_eq_some_iff.1 HM.out).1).trans HM.out)
          have HBN := Lib.hid hbn
          have HBK' := Lib.hid bK
          have HBP' := Lib.hid bP
          clear hbn bK bP cg
          by_cases hyr : y = (rn : Int)
          · have HG2 : Hid (Good s (pre ++ [(x1, x2)])) := Lib.hid (good_next HK.out HGood.out HQ.out.symm (by rw [HQ.out, HRN.out, ← hyr, ← hy]))
            subst hyr
            have t3 : ((rn : Int) != (rn : Int)) = false := by simp
            obtain ⟨z, hz⟩ : ∃ z : Int, (k : Int) + 1 = z := ⟨_, rfl⟩
            have HE2 : Hid (((pre ++ [(x1, x2)]).length : Int) = z) := Lib.hid (by rw [← hz]; exact HE.out)
            have hs1 : Boxed (W'.setCell ⟨Kb1, 0, none⟩ (.int .i64 z)) Kb1 3 (.int .i64 z) := Boxed.set _ HBK'.out
            have hs2 : Boxed (W'.setCell ⟨Kb1, 0, none⟩ (.int .i64 z)) Pb 3 (.int .i64 1) := Boxed.other HBP'.out hPK _
            have hs3 : Below T W0 (W'.setCell ⟨Kb1, 0, none⟩ (.int .i64 z)) := HB'.out.setCell (p := ⟨Kb1, 0, none⟩) (by simp; omega) _
            have hs4 : KeepsFrom V1a.heap.size W (W'.setCell ⟨Kb1, 0, none⟩ (.int .i64 z)) := (keepsFrom_below HBN.out).trans ((KeepsOthers.setCell _ _ _).from _)
            have hs5 : KeepsWalks W (W'.setCell ⟨Kb1, 0, none⟩ (.int .i64 z)) := (keepsWalks_below HBN.out).trans (KeepsWalks.setCell _ _ _)
            rw [← HE2.out] at hs1
            have HS1 : Hid (Boxed (W'.setCell ⟨Kb1, 0, none⟩ (.int .i64 z)) Kb1 3 (.int .i64 ((pre ++ [(x1, x2)]).length : Int))) := Lib.hid (by rw [HE2.out] at hs1 ⊢; exact hs1)
            have HS2 := Lib.hid hs2
            have HS3 := Lib.hid hs3
            have HS4 := Lib.hid hs4
            have HS5 := Lib.hid hs5
            clear hs1 hs2 hs3 hs4 hs5
            have hmk : (W'.setCell ⟨Kb1, 0, none⟩ (.int .i64 z)).heap[D]? = some (.deferred (some [])) := setCell_block5 HMK.out (by omega) _
            have HMK2 := Lib.hid hmk
            clear hmk
            by_cases h2 : z = 2
            · subst h2
              have hjb : Below (W'.setCell ⟨Kb1, 0, none⟩ (.int .i64 2)).heap.size (W'.setCell ⟨Kb1, 0, none⟩ (.int .i64 2)) ((W'.setCell ⟨Kb1, 0, none⟩ (.int .i64 2)).alloc (Obj.cells #[Value.int IntKind.i64 0] 3)) := (Below.refl _ _).alloc (Nat.le_refl _) _
              have hz2 : W'.heap.size ≤ (W'.setCell ⟨Kb1, 0, none⟩ (.int .i64 2)).heap.size := (KeepsOthers.setCell _ _ _).size
              have hz3 : (W'.setCell ⟨Kb1, 0, none⟩ (.int .i64 2)).heap.size < ((W'.setCell ⟨Kb1, 0, none⟩ (.int .i64 2)).alloc (Obj.cells #[Value.int IntKind.i64 0] 3)).heap.size := by simp
              have hB3 : Below T W0 ((W'.setCell ⟨Kb1, 0, none⟩ (.int .i64 2)).alloc (Obj.cells #[Value.int IntKind.i64 0] 3)) := HS3.out.trans (hjb.mono (by omega))
              have cA3 := (hB3.cell (p := ⟨w1.heap.size + 1 + 1, 0, none⟩) (by simp; omega)).trans cA0
              have cAs3 := (hB3.cell (p := ⟨w1.heap.size + 1, 0, none⟩) (by simp; omega)).trans cAs0
              gi_wp2_with (fail)
              have bJ3 : Boxed ((W'.setCell ⟨Kb1, 0, none⟩ (.int .i64 2)).alloc (Obj.cells #[Value.int IntKind.i64 0] 3)) (W'.setCell ⟨Kb1, 0, none⟩ (.int .i64 2)).heap.size 3 (.int .i64 0) := Boxed.new _ _ _
              have bK3 : Boxed ((W'.setCell ⟨Kb1, 0, none⟩ (.int .i64 2)).alloc (Obj.cells #[Value.int IntKind.i64 0] 3)) Kb1 3 (.int .i64 2) := (Boxed.set (.int .i64 2) HBK'.out).alloc _
              have bP3 : Boxed ((W'.setCell ⟨Kb1, 0, none⟩ (.int .i64 2)).alloc (Obj.cells #[Value.int IntKind.i64 0] 3)) Pb 3 (.int .i64 1) := HS2.out.alloc _
              have hr3 : ((W'.setCell ⟨Kb1, 0, none⟩ (.int .i64 2)).alloc (Obj.cells #[Value.int IntKind.i64 0] 3)).heap[l]? = some (.loop r) := (Below.heap_alloc _ _ _ (by omega)).trans (setCell_block5 HHR'.out (by omega) _)
              have hm3 : ((W'.setCell ⟨Kb1, 0, none⟩ (.int .i64 2)).alloc (Obj.cells #[Value.int IntKind.i64 0] 3)).heap[D]? = some (.deferred (some [])) := (Below.heap_alloc _ _ _ (Array.getElem?_eq_some_iff.1 HMK2.out).1).trans HMK2.out
              have hf3 : KeepsFrom V1a.heap.size W ((W'.setCell ⟨Kb1, 0, none⟩ (.int .i64 2)).alloc (Obj.cells #[Value.int IntKind.i64 0] 3)) := HS4.out.trans ((KeepsOthers.alloc _ _).from _)
              have hw3 : KeepsWalks W ((W'.setCell ⟨Kb1, 0, none⟩ (.int .i64 2)).alloc (Obj.cells #[Value.int IntKind.i64 0] 3)) := HS5.out.trans (KeepsWalks.alloc _ _)
              have hsz2 : (W'.setCell ⟨Kb1, 0, none⟩ (.int .i64 2)).heap.size = W'.heap.size := by simp
              simp only [hsz2] at bJ3 hz3 hjb ⊢
              obtain ⟨Jb, hJb⟩ : ∃ b, W'.heap.size = b := ⟨_, rfl⟩
              rw [hJb] at bJ3 hz3 ⊢
              have hJl : Jb < ((W'.setCell ⟨Kb1, 0, none⟩ (.int .i64 2)).alloc (Obj.cells #[Value.int IntKind.i64 0] 3)).heap.size := bJ3.lt
              clear cA3 hjb hsz2
              generalize ((W'.setCell ⟨Kb1, 0, none⟩ (.int .i64 2)).alloc (Obj.cells #[Value.int IntKind.i64 0] 3)) = Y at *
              obtain ⟨Wr, hWr⟩ : ∃ v, v = W := ⟨_, rfl⟩
              rw [← hWr] at hf3 hw3
              have hseqJ := (all_stops Fence.wide 5 trivial rfl (by omega) (w1.heap.size + 1) s Y (by omega) (by omega) cAs3).inRound l
              rw [HC0.out] at hseqJ
              have HR3 := Lib.hid hr3
              clear cAs3
              have hsy := hB3.size
              have hOwnJ : OwnFrom Y.heap.size (fun (pre2 : List (Nat × Nat)) W => ((Boxed W Jb 3 (.int .i64 (pre2.length : Int)) ∧ Boxed W Kb1 3 (.int .i64 2)) ∧ (Boxed W Pb 3 (.int .i64 1) ∧ Good1 s pre2)) ∧ ((Below T W0 W ∧ W.heap[D]? = some (.deferred (some []))) ∧ (KeepsFrom V1a.heap.size Wr W ∧ KeepsWalks Wr W))) :=
                OwnFrom.and (OwnFrom.and (OwnFrom.and (Own.from (boxed_own _ _ _) _) (Own.from (boxed_own _ _ _) _)) (OwnFrom.and (Own.from (boxed_own _ _ _) _) (ownFrom_pure _ _))) (OwnFrom.and (OwnFrom.and (ownFrom_below (by omega) (by omega)) (ownFrom_block (by omega))) (OwnFrom.and (ownFrom_keepsFrom hw3.size) (ownFrom_walks hw3.size)))
              refine rangeN1 (l₀ := l) (r₀ := r) rfl hr3 (by omega) (gf := 68) (lb := #[.pointer (some ⟨w1.heap.size + 1, 0, none⟩)]) rfl trivial (enters_of Tryd.func68 (by kernel_rfl) rfl) hseqJ (Below.refl _ _) (fun _ => rfl)
                (fun pre2 W => ((Boxed W Jb 3 (.int .i64 (pre2.length : Int)) ∧ Boxed W Kb1 3 (.int .i64 2)) ∧ (Boxed W Pb 3 (.int .i64 1) ∧ Good1 s pre2)) ∧ ((Below T W0 W ∧ W.heap[D]? = some (.deferred (some []))) ∧ (KeepsFrom V1a.heap.size Wr W ∧ KeepsWalks Wr W)))
                (fun c' pre2 W => c' = .ret ∧ ¬ Good1 s pre2)
                hOwnJ (fun _ _ _ _ _ hs _ _ => hs) ⟨⟨⟨bJ3, bK3⟩, ⟨bP3, good1_nil s⟩⟩, ⟨⟨hB3, hm3⟩, ⟨hf3, hw3⟩⟩⟩ ?aJu ?assignJu ?bodyJu ?doneJu ?stopJu
              case assignJu =>
                intro l2 x W K hK
                gi_wp2
                exact hK
              case bodyJu =>
                rintro l2 pre2 ⟨y1, y2⟩ W ⟨⟨⟨bJ, bK⟩, ⟨bP, hgood2⟩⟩, ⟨⟨hB, hmk⟩, ⟨hf, hwk⟩⟩⟩ hlen2
                obtain ⟨j, hj⟩ : ∃ j, pre2.length = j := ⟨_, rfl⟩
                rw [hj] at bJ hlen2
                have he2 : ((pre2 ++ [(y1, y2)]).length : Int) = (j : Int) + 1 := by rw [List.length_append, hj]; rfl
                have cJ := bJ.cell
                have fJ := bJ.frozen
                have hWz2 := hB.size
                have cR2 := (hB.cell (p := ⟨w.heap.size + 1 + 1, 0, none⟩) (by simp; omega)).trans cR
                have fR2 := (hB.frozen (p := ⟨w.heap.size + 1 + 1, 0, none⟩) (by simp; omega)).trans fR
                have cL2 := (hB.cell (p := ⟨w1.heap.size, 0, none⟩) (by simp; omega)).trans cL0
                have cg2 := (hB.cell (p := ⟨g, j, none⟩) (by simp; omega)).trans (HST.out j (by omega))
                obtain ⟨q2, hq2⟩ : ∃ q, Run.adv s j 0 = q := ⟨_, rfl⟩
                rw [hq2] at cg2
                have t8 : decide ((c : Int) ≤ (j : Int)) = false := decide_eq_false (by omega)
                have t8' : decide (c ≤ j) = false := decide_eq_false (by omega)
                have HJ := Lib.hid hj
                have HE3 := Lib.hid he2
                have HBJ := Lib.hid bJ
                have HBK2 := Lib.hid bK
                have HBP2 := Lib.hid bP
                have HG3 := Lib.hid hgood2
                have HB4 := Lib.hid hB
                have HM4 := Lib.hid hmk
                have HF4 := Lib.hid hf
                have HW4 := Lib.hid hwk
                have HQ2 := Lib.hid hq2
                clear hj he2 bJ bK bP hgood2 hB hmk hf hwk hq2
                by_cases hy1 : y1 = q2
                · subst hy1
                  have t9 : ((y1 : Int) != (y1 : Int)) = false := by simp
                  gi_wp2
                  exact ⟨(KeepsOthers.setCell _ _ _).from _, KeepsWalks.setCell _ _ _, ⟨⟨by rw [HE3.out]; exact Boxed.set _ HBJ.out, Boxed.other HBK2.out (by omega) _⟩, ⟨Boxed.other HBP2.out (by omega) _, good1_next HJ.out HG3.out HQ2.out.symm⟩⟩, ⟨⟨HB4.out.setCell (p := ⟨Jb, 0, none⟩) (by simp; omega) _, setCell_block5 HM4.out (by omega) _⟩, ⟨HF4.out.trans ((KeepsOthers.setCell _ _ _).from _), HW4.out.trans (KeepsWalks.setCell _ _ _)⟩⟩⟩
                · have t9 : ((y1 : Int) != (q2 : Int)) = true := by rw [bne_iff_ne]; omega
                  gi_wp2
                  exact ⟨(KeepsOthers.setCell _ _ _).from _, rfl, good1_not HJ.out (by rw [HQ2.out]; exact hy1) HG3.out⟩
              case doneJu =>
                rintro xs W rfl ⟨⟨⟨bJ, bK⟩, ⟨bP, hgood2⟩⟩, ⟨⟨hB, hmk⟩, ⟨hf, hwk⟩⟩⟩
                rw [its_length] at bJ
                have cJ := bJ.cell
                have cP := bP.cell
                have hWz2 := hB.size
                have cL2 := (hB.cell (p := ⟨w1.heap.size, 0, none⟩) (by simp; omega)).trans cL0
                have HBK2 := Lib.hid bK
                have HBP2 := Lib.hid bP
                have HB4 := Lib.hid hB
                have HM4 := Lib.hid hmk
                have HF4 := Lib.hid hf
                have HW4 := Lib.hid hwk
                clear bJ bK bP hgood2 hB hmk hf hwk
                gi_wp2
                exact ⟨by rw [← hWr]; exact HF4.out, by rw [← hWr]; exact HW4.out, ⟨⟨by rw [HE2.out]; exact HBK2.out, HBP2.out⟩, ⟨HG2.out, Lib.hid trivial⟩⟩, HB4.out, HM4.out⟩
              case stopJu =>
                rintro c' pre2 W ⟨k2, _, rfl⟩ ⟨_, h⟩
                exact (h (good1_its s _)).elim
            · have t4 : (z == 2) = false := by simpa using h2
              gi_wp2
              exact ⟨HS4.out, HS5.out, ⟨⟨HS1.out, HS2.out⟩, ⟨HG2.out, Lib.hid trivial⟩⟩, HS3.out, HMK2.out⟩
          · have HG2 : Hid (¬ Good s (pre ++ [(x1, x2)])) := Lib.hid (good_not HK.out (fun h => hyr (by rw [← hy, ← HRN.out, ← HQ.out]; exact h.2)) HGood.out)
            have t3 : (y != (rn : Int)) = true := by simpa using hyr
            gi_wp2
            exact ⟨(keepsFrom_below HBN.out).trans ((KeepsOthers.setCell _ _ _).from _), ⟨rfl, HG2.out⟩⟩
        · have t2 : ((x1 : Int) != (q : Int)) = true := by rw [bne_iff_ne]; omega
          have HG2 : Hid (¬ Good s (pre ++ [(x1, x2)])) := Lib.hid (good_not HK.out (fun h => hx (by rw [← HQ.out]; exact h.1)) HGood.out)
          gi_wp2
          exact ⟨(KeepsOthers.setCell _ _ _).from _, ⟨rfl, HG2.out⟩⟩
      case done1u =>
        rintro D1 xs W hD1 rfl ⟨⟨⟨bK, bP⟩, ⟨hgood, _⟩⟩, hB, hM0⟩ hDk
        rw [its_length] at bK
        clear hgood
        have cK := bK.cell
        have cP := bP.cell
        have cM1 := (hB.cell (p := ⟨w.heap.size + 1, 0, none⟩) (by simp; omega)).trans cM
        have cR1 := (hB.cell (p := ⟨w.heap.size + 1 + 1, 0, none⟩) (by simp; omega)).trans cR
        have fR1 := (hB.frozen (p := ⟨w.heap.size + 1 + 1, 0, none⟩) (by simp; omega)).trans fR
        have cL1 := (hB.cell (p := ⟨w1.heap.size, 0, none⟩) (by simp; omega)).trans cL0
        have hWz := hB.size
        have hbO : Below W.heap.size W (W.alloc (Obj.cells #[Value.int IntKind.i64 1] 3)) := (Below.refl _ _).alloc (Nat.le_refl _) _
        have HbO := Lib.hid hbO
        have bN : Boxed (W.alloc (Obj.cells #[Value.int IntKind.i64 1] 3)) W.heap.size 3 (.int .i64 1) := Boxed.new _ _ _
        have cN := bN.cell
        have fN := bN.frozen
        clear hbO
        gi_wp2_with (fail)
        have hV2 : Below T W0 (W.alloc (Obj.cells #[Value.int IntKind.i64 2] 3)) := hB.alloc (by omega) _
        have bV2 : Boxed (W.alloc (Obj.cells #[Value.int IntKind.i64 2] 3)) W.heap.size 3 (.int .i64 2) := Boxed.new _ _ _
        have hq1 : (W.alloc (Obj.cells #[Value.int IntKind.i64 2] 3)).heap[D1]? = some (.deferred (some [])) := (Below.heap_alloc _ _ _ (Array.getElem?_eq_some_iff.1 hDk).1).trans hDk
        have hq0 : (W.alloc (Obj.cells #[Value.int IntKind.i64 2] 3)).heap[D]? = some (.deferred (some [])) := (Below.heap_alloc _ _ _ (Array.getElem?_eq_some_iff.1 hM0).1).trans hM0
        rw [roundsIn_succ]
        clear cK cP cM1 cR1 fR1 cL1 HbO bN cN fN bK bP hB hDk hM0
        generalize W.alloc (Obj.cells #[Value.int IntKind.i64 2] 3) = V2 at *
        have cP2 := bV2.cell
        have hzV2 := hV2.size
        have cR2 := (hV2.cell (p := ⟨w.heap.size + 1 + 1, 0, none⟩) (by simp; omega)).trans cR
        have fR2 := (hV2.frozen (p := ⟨w.heap.size + 1 + 1, 0, none⟩) (by simp; omega)).trans fR
        gi_wp2
        have hr1 := setCell_block5 (B := w.heap.size + 1 + 1) hq1 (by omega) (.bool true)
        have hr0 := setCell_block5 (B := w.heap.size + 1 + 1) hq0 (by omega) (.bool true)
        have hb5 : Below w.heap.size w (V2.setCell ⟨w.heap.size + 1 + 1, 0, none⟩ (.bool true)) := (hb3.trans (hV2.mono (by omega))).setCell (p := ⟨w.heap.size + 1 + 1, 0, none⟩) (by simp; omega) _
        have hc5 : (V2.setCell ⟨w.heap.size + 1 + 1, 0, none⟩ (.bool true)).cell? ⟨w.heap.size + 1 + 1, 0, none⟩ = some (.bool true) := World.cell?_setCell_same' _ _ _ (by rw [cR2]; rfl)
        generalize V2.setCell ⟨w.heap.size + 1 + 1, 0, none⟩ (.bool true) = V3 at *
        have hd1 : D < D1 := by omega
        have hr0' := ((grownBy_putObj' V3 D1 (.deferred none)).block D (Array.getElem?_eq_some_iff.1 hr0).1 (by simp; omega)).trans hr0
        have hc6 := cell_kept hc5 (grownBy_putObj' V3 D1 (.deferred none)) (fun r e => by cases e; exact ⟨_, hr1, rfl⟩)
        have hc7 := cell_kept hc6 (grownBy_putObj' _ D (.deferred none)) (fun r e => by cases e; exact ⟨_, hr0', rfl⟩)
        refine ⟨by simp, .inl ⟨_, _, rfl, run_takeDeferred hr1, ?_⟩⟩
        refine ⟨by simp, .inl ⟨_, _, rfl, run_takeDeferred hr0', ?_⟩⟩
        refine ⟨.bool true, ?_, rfl, ?_⟩
        · simp [results, Tryd.f44, go_sem, hc7]
        · exact (hb5.trans (belowK_b (w := w) (Nat.le_refl _) _ D1 _ _ (by omega) hr1 rfl rfl)).trans (belowK_b (w := w) (Nat.le_refl _) _ D _ _ (by omega) hr0' rfl rfl)
      case stop1u =>
        rintro D1 c' pre W hD1 ⟨k2, _, rfl⟩ ⟨_, h⟩ _
        exact (h (good_its s _)).elim
end Go.Proofs.YtdbjmjeiaajdiaaDoor
