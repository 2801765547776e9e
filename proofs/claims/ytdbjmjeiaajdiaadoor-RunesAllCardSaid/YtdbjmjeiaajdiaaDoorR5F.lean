/- quadrilleref5: begins, Find, Turn, Times, Code. -/
import Derived.Test.YtdbjmjeiaajdiaaDoorR5C
import Derived.Test.YtdbjmjeiaajdiaaDoorR5E
import Derived.Test.YtdbjmjeiaajdiaaDoorRunM
import Derived.Lib.AppendStr
import Derived.Deep.RegionLaw
namespace Go.Proofs.YtdbjmjeiaajdiaaDoor
open Go.RowKit
set_option linter.unusedVariables false
theorem has_iff5 (wh X : ByteArray) : (wh.size ≤ X.size ∧ X.extract 0 wh.size = wh) ↔ Lib.hasPrefix X.data.toList wh.data.toList = true := by
  unfold Lib.hasPrefix
  rw [List.isPrefixOf_iff_prefix, List.prefix_iff_eq_take]
  have hw : wh.data.toList.length = wh.size := (Lib.size_eq wh).symm
  have hX : X.data.toList.length = X.size := (Lib.size_eq X).symm
  have he : (X.extract 0 wh.size).data.toList = X.data.toList.take wh.size := by
    rw [ByteArray.data_extract, Array.toList_extract, List.extract_eq_take_drop]; simp
  constructor
  · rintro ⟨_, h⟩
    rw [hw, ← he, h]
  · intro h
    refine ⟨?_, ByteArray.ext (Array.ext' ?_)⟩
    · have := congrArg List.length h
      rw [List.length_take, hw, hX] at this
      omega
    · rw [he, ← hw]; exact h.symm
theorem begins_no (s what : ByteArray) (w : World) (t1 : decide (what.size ≤ s.size) = false) (h : ¬ what.size ≤ s.size) :
    Calls Tryd.prog 71 #[.string s, .string what] w fun e w' => e = .returned (.bool false) ∧ w = w' := by
  go_enter Tryd.func71, Tryd.ntmps71
  go_wp2
  go_ret
  exact ⟨rfl, rfl⟩
theorem begins_eq (s what : ByteArray) (b : Bool) (w : World) (t1 : decide (what.size ≤ s.size) = true) (h : what.size ≤ s.size) (t2 : ((s.extract 0 what.size).toList == what.toList) = b) :
    Calls Tryd.prog 71 #[.string s, .string what] w fun e w' => e = .returned (.bool b) ∧ w = w' := by
  go_enter Tryd.func71, Tryd.ntmps71
  go_wp2
  go_ret
  exact ⟨rfl, rfl⟩
theorem begins_any (s what : ByteArray) (w : World) :
    Calls Tryd.prog 71 #[.string s, .string what] w fun e w' => e = .returned (.bool (Lib.hasPrefix s.data.toList what.data.toList)) ∧ w = w' := by
  have hi := has_iff5 what s
  by_cases h : what.size ≤ s.size
  · refine begins_eq s what _ w (decide_eq_true h) h ?_
    rw [Lib.toList_data, Lib.toList_data]
    cases hb : Lib.hasPrefix s.data.toList what.data.toList with
    | true =>
      have := (hi.2 hb).2
      rw [this]
      simp
    | false =>
      rw [beq_eq_false_iff_ne]
      intro e
      have : Lib.hasPrefix s.data.toList what.data.toList = true := hi.1 ⟨h, ByteArray.ext (Array.ext' e)⟩
      rw [hb] at this
      cases this
  · have hb : Lib.hasPrefix s.data.toList what.data.toList = false := by
      cases hb : Lib.hasPrefix s.data.toList what.data.toList with
      | false => rfl
      | true => exact absurd (hi.2 hb).1 h
    rw [hb]
    exact begins_no s what w (decide_eq_false h) h
theorem rfind_arg (what s : ByteArray) (f : Int) (w : World) (hs : s.size ≤ 200000) (hf : f < 1 ∨ (Run.cnt s 0 : Int) + 1 < f) :
    Calls Tryd.prog 42 #[.string what, .string s, .int .i64 f] w fun e w' => e = .returned (.tuple #[.int .i64 0, .int .i64 1]) ∧ Below w.heap.size w w' := by
  have hcl := Run.cnt_le_size s
  have HS := Lib.hid (fun w => starts_any s w hs)
  generalize Run.cnt s 0 = c at *
  by_cases h1 : f < 1
  · have t1 : decide (f < 1) = true := decide_eq_true h1
    clear hf
    go_enter Tryd.func42, Tryd.ntmps42
    go_wp2_with (fail)
    refine (HS.out _).mono ?_
    rintro e w1 ⟨g, cap, rfl, hst, hb⟩
    clear hst
    go_wp2
    go_ret2
    exact ⟨rfl, hb⟩
  · have h2 : (c : Int) + 1 < f := by omega
    have t1 : decide (f < 1) = false := decide_eq_false h1
    have t2 : decide ((c : Int) + 1 < f) = true := decide_eq_true h2
    clear hf h1
    go_enter Tryd.func42, Tryd.ntmps42
    go_wp2_with (fail)
    refine (HS.out _).mono ?_
    rintro e w1 ⟨g, cap, rfl, hst, hb⟩
    clear hst
    go_wp2
    go_ret2
    exact ⟨rfl, hb⟩
theorem drop_tail (s : ByteArray) (p : Nat) : (s.extract p s.size).data.toList = s.data.toList.drop p := Lib.extract_to_end s p
theorem rfind_walk (what s : ByteArray) (f : Nat) (a b : Int) (w : World) (hs : s.size ≤ 200000) (hf1 : 1 ≤ f) (hf2 : f ≤ Run.cnt s 0 + 1)
    (hfound : ∀ k, k ≤ Run.cnt s 0 → f ≤ k + 1 → Has what s k = true → (∀ j, j < k → f ≤ j + 1 → Has what s j = false) → a = (k : Int) + 1 ∧ b = 0)
    (hnone : (∀ j, j ≤ Run.cnt s 0 → f ≤ j + 1 → Has what s j = false) → a = 0 ∧ b = 3) :
    Calls Tryd.prog 42 #[.string what, .string s, .int .i64 (f : Int)] w fun e w' => e = .returned (.tuple #[.int .i64 a, .int .i64 b]) ∧ Below w.heap.size w w' := by
  have hcl := Run.cnt_le_size s
  have HS := Lib.hid (fun w => starts_any s w hs)
  unfold StartsAt at HS
  have HF := Lib.hid hfound
  have HN := Lib.hid hnone
  have HB : Hid (∀ k w, Calls Tryd.prog 71 #[.string (s.extract (Run.adv s k 0) s.size), .string what] w fun e w' => e = .returned (.bool (Has what s k)) ∧ w = w') := Lib.hid (fun k w => by
    have h := begins_any (s.extract (Run.adv s k 0) s.size) what w
    rw [drop_tail] at h
    exact h)
  have HA := Lib.hid (fun k => Run.adv_le s k 0 (Nat.zero_le _))
  clear hfound hnone
  generalize hc : Run.cnt s 0 = c at *
  replace hc := Lib.hid hc
  have hfi : ¬ (f : Int) < 1 := by omega
  go_enter Tryd.func42, Tryd.ntmps42
  go_wp2_with (fail)
  refine (HS.out _).mono ?_
  rintro e w1 ⟨g, cap, rfl, ⟨_, _, _, hst⟩, hb⟩
  have HST := Lib.hid hst
  clear hst
  go_wp2
  go_loopw [9] (fun i wr => ∃ k : Nat, f ≤ k + 1 ∧ k ≤ c + 1 ∧ i = .int .i64 ((k : Int) + 1) ∧ wr = w1 ∧ Hid (∀ j, j < k → f ≤ j + 1 → Has what s j = false)) (fun i _ => c + 2 - (intOf i).toNat)
  case atStart =>
    refine ⟨f - 1, by omega, by omega, by simp; omega, rfl, Lib.hid (fun j h1 h2 => by omega)⟩
  case round =>
    obtain ⟨k, hfk, hk, rfl, rfl, HJ⟩ := hrel
    by_cases hlt : k ≤ c
    · have hcell := HST.out k hlt
      have HB2 := Lib.hid (HB.out k)
      have HF2 := Lib.hid (HF.out k hlt hfk)
      have hal := HA.out k
      have HJ2 : Hid (Has what s k = false → ∀ j, j < k + 1 → f ≤ j + 1 → Has what s j = false) := Lib.hid (fun h j hj h2 => by
        by_cases e : j = k
        · rw [e]; exact h
        · exact HJ.out j (by omega) h2)
      have e1 : (k : Int) + 1 - 1 = (k : Int) := by omega
      have hk2 : k ≤ 200000 := by omega
      generalize Run.adv s k 0 = q at *
      generalize hv : Has what s k = v at *
      clear hv
      go_wp2_with (fail)
      refine (HB2.out _).mono ?_
      rintro e w2 ⟨rfl, rfl⟩
      cases v with
      | true =>
        obtain ⟨rfl, rfl⟩ := HF2.out rfl HJ.out
        go_wp2
        go_ret2
        exact ⟨rfl, hb⟩
      | false =>
        go_wp2
        go_roundw
        case rel => exact ⟨k + 1, by omega, by omega, by go_num, by first | rfl | trivial, Lib.hid (HJ2.out (by first | rfl | trivial))⟩
        case measure => simp [intOf]; omega
    · obtain rfl : k = c + 1 := by omega
      obtain ⟨rfl, rfl⟩ := HN.out (fun j h1 h2 => HJ.out j (by omega) h2)
      go_wp2
      go_ret2
      exact ⟨rfl, hb⟩

theorem tn_split (s : ByteArray) (k : Nat) : tn s (k + 1) = (s.extract (Run.adv s k 0) (Run.adv s (k + 1) 0)).data.toList ++ tn s k := rfl
theorem strCells_app (x : List UInt8) (t : ByteArray) : Lib.byteCells x ++ Lib.strCells t = Lib.byteCells (x ++ t.data.toList) := by
  simp [Lib.byteCells, Lib.strCells]
theorem adv_mono1 (s : ByteArray) (k : Nat) : Run.adv s k 0 ≤ Run.adv s (k + 1) 0 := by
  rw [Run.adv_add s k 1 0]
  exact Run.adv_ge s 1 _
/-- An append in a region that draws, by an equation that is known. -/
theorem step_append_eq {P : Program} {ops : Array Oper} {o : Oper} {a : Act} {w : World} {K : Act → World → Prop} {Q : Exit → Act → World → Prop} {E : Prop}
    (hg : o.guard = none) (s x : Operand) (t u : TypeId) (hop : o.op = Op.call { callee := Callee.builtin Builtin.append, args := #[s, x], argTypes := #[t, u] })
    (v y : Value) (hs : a.eval s = v) (hx : a.eval x = y) (v' : Value) (w' : World) (hrun : (Builtin.append_ #[t, u] o.type #[v, y]).run P w = .ok v' w') (hK : K (a.put o.dst v') w') :
    if Region.wanted o (yielded ops a.tmps) = true then Oper.wp P o a w K Q else E := by
  have hw : Region.wanted o (yielded ops a.tmps) = true := by simp [Region.wanted, hg]
  rw [if_pos hw]
  unfold Oper.wp
  simp [execOp, hop, resolve, invoke, builtin, hs, hx, hrun, Result.andThen]
  exact hK
set_option maxRecDepth 100000 in
set_option maxHeartbeats 1000000 in
theorem rturn_any (s : ByteArray) (w : World) (hs : s.size ≤ 200000) :
    Calls Tryd.prog 86 #[.string s] w fun e w' => e = .returned (.string (turned s)) ∧ Below w.heap.size w w' := by
  have hcl := Run.cnt_le_size s
  have HS := Lib.hid (fun w => starts_any s w hs)
  unfold StartsAt at HS
  have HTl := Lib.hid (tn_length s)
  have hall := Run.adv_all s
  have HE : Hid ((⟨(tn s (Run.cnt s 0)).toArray⟩ : ByteArray) = turned s) := Lib.hid rfl
  obtain ⟨i0, hi, hz0, hz1, hz2⟩ := info_parts info5
  generalize Run.cnt s 0 = c at *
  have HTc : Hid ((tn s c).length = s.size) := Lib.hid (by rw [HTl.out, hall])
  clear hall
  go_enter Tryd.func86, Tryd.ntmps86
  go_wp2_with (fail)
  refine (HS.out _).mono ?_
  rintro e w1 ⟨g, cap, rfl, ⟨hg, hgl, hgc, hst⟩, hb0⟩
  have HST := Lib.hid hst
  clear hst
  have hsz0 := hb0.size
  go_wp2
  go_loopw [4, 5] (fun v i wr => ∃ (j n : Nat) (acc : List UInt8), j ≤ c ∧ i = .int .i64 ((j : Int) - 1) ∧ n ≤ 200000 ∧ Hid (acc ++ tn s j = tn s c) ∧ Hid (acc.length = n) ∧ wr.ownsRow w1.heap.size 5 1 v n (Lib.byteCells acc) ∧ Below w1.heap.size w1 wr) (fun _ i _ => (intOf i + 1).toNat)
  case atStart => exact ⟨c, 0, [], Nat.le_refl _, by simp; omega, by omega, Lib.hid rfl, Lib.hid rfl, World.ownsRow_nil _ _ _ _, Below.refl _ _⟩
  case round =>
    obtain ⟨j, n, acc, hj, rfl, hn, HA, HL, hown, hb⟩ := hrel
    by_cases hlt : 0 < j
    · obtain ⟨m, rfl⟩ : ∃ m, j = m + 1 := ⟨j - 1, by omega⟩
      have hp : wr.drew.cell? ⟨g, m, none⟩ = some (.int .i64 (Run.adv s m 0 : Int)) := (hb.cell (p := ⟨g, m, none⟩) hgl).trans (HST.out m (by omega))
      have hq : wr.drew.cell? ⟨g, m + 1, none⟩ = some (.int .i64 (Run.adv s (m + 1) 0 : Int)) := (hb.cell (p := ⟨g, m + 1, none⟩) hgl).trans (HST.out (m + 1) (by omega))
      have hpq := adv_mono1 s m
      have hqs := Run.adv_le s (m + 1) 0 (Nat.zero_le _)
      have htn := tn_split s m
      have hsz := show (s.extract (Run.adv s m 0) (Run.adv s (m + 1) 0)).size = _ from ByteArray.size_extract
      have hnl : n + (s.extract (Run.adv s m 0) (Run.adv s (m + 1) 0)).size ≤ 200000 := by
        have h1 := congrArg List.length HA.out
        rw [htn, List.length_append, List.length_append, HL.out, ← Lib.size_eq, HTc.out] at h1
        omega
      have e1 : ((m : Int) + 1 - 1) = (m : Int) := by omega
      have e2 : (((m + 1 : Nat) : Int) - 1) = (m : Int) := by omega
      have hbs := hb.size
      obtain ⟨v', w2, hr, hown2, hgrow, _⟩ := Lib.run_append_own_string (P := Tryd.prog) (w := wr.drew) w1.heap.size 88 9 88 5 i0 Tryd.underlying88 Tryd.underlying9 hi hz0 hz1 hz2 _ n _ hown.drew (s.extract (Run.adv s m 0) (Run.adv s (m + 1) 0)) (by unfold maxLen; omega) (by omega) (by exact hbs)
      have hb2 : Below w1.heap.size w1 w2 := hb.drew.grown hgrow (by exact hbs) (fun j hj => (hown.drew.lt j hj).1)
      rw [strCells_app] at hown2
      have HA2 : Hid ((acc ++ (s.extract (Run.adv s m 0) (Run.adv s (m + 1) 0)).data.toList) ++ tn s m = tn s c) := Lib.hid (by rw [List.append_assoc, ← htn]; exact HA.out)
      have HL2 : Hid ((acc ++ (s.extract (Run.adv s m 0) (Run.adv s (m + 1) 0)).data.toList).length = n + (s.extract (Run.adv s m 0) (Run.adv s (m + 1) 0)).size) := Lib.hid (by rw [List.length_append, HL.out, ← Lib.size_eq])
      clear hgrow hown hb htn HA HL hsz
      generalize Run.adv s m 0 = p at *
      generalize Run.adv s (m + 1) 0 = q at *
      have HR2 := Lib.hid hr
      have HO := Lib.hid hown2
      have HNL := Lib.hid hnl
      clear hown2 hr hnl
      simp only [e2] at *
      go_wp2
      have i1 : (m : Int) < (c : Int) + 1 := by omega
      have i2 : (m : Int) < (c : Int) := by omega
      have i2' : m < c := by omega
      have i3 : IntKind.i64.wrap ((m : Int) + 1) = (m : Int) + 1 := by rw [IntKind.wrap_i64]; omega
      have i4 : 0 ≤ (m : Int) + 1 := by omega
      have i5 : (p : Int) ≤ (q : Int) := by omega
      have i6 : (q : Int) ≤ (s.size : Int) := by omega
      go_region_law (refine step_append_eq rfl (.tmp 15) (.tmp 26) 88 9 rfl _ _ rfl rfl _ _ HR2.out ?_)
      all_goals (try go_wp2)
      all_goals
        go_roundw
        case rel => exact ⟨m, n + (s.extract p q).size, acc ++ (s.extract p q).data.toList, by omega, by go_num, HNL.out, HA2, HL2, HO.out, hb2⟩
        case measure => simp [intOf] <;> omega
    · obtain rfl : j = 0 := by omega
      obtain ⟨ao, cap2, rfl, hnc, hsh⟩ := own_shape hown
      have hcv := conv_own HL.out hsh
      have HX : Hid ((⟨acc.toArray⟩ : ByteArray) = turned s) := Lib.hid (by
        rw [← HE.out, ← HA.out]
        show _ = (⟨(acc ++ []).toArray⟩ : ByteArray)
        rw [List.append_nil])
      rw [HX.out] at hcv
      clear hown hsh HA
      go_wp2
      go_ret
      exact ⟨rfl, hb0.trans (hb.mono hsz0)⟩
end Go.Proofs.YtdbjmjeiaajdiaaDoor
