/- What calc.Call answers may be; the first error; plain. -/
import Derived.Test.YtpiiemneelkpkaaGreatDoorGcp
import Derived.Test.YtpiiemneelkpkaaGreatDoorGcb
namespace Go.Proofs.YtpiiemneelkpkaaGreatDoor
open Go.RowKit
set_option linter.unusedVariables false
namespace Cal
def Fine (v : Val.V) : Prop := Val.mayB v = true ∧ (v.k == 0) = false
theorem fine_num (n : Int) : Fine (num n) := ⟨(by decide +kernel : Val.isE ⟨#[]⟩ = true), rfl⟩
theorem fine_txt (s : ByteArray) (h : s.size ≤ 32767) : Fine (txt s) := ⟨by show (true && decide (s.size ≤ 32767)) = true; rw [decide_eq_true h]; rfl, rfl⟩
theorem fine_tru (b : Bool) : Fine (tru b) := by cases b <;> exact ⟨by decide +kernel, rfl⟩
theorem fine_bad (e : Int) (h1 : 1 ≤ e) (h2 : e ≤ 6) : Fine (bad e) := ⟨by show (decide (1 ≤ e) && decide (e ≤ 6) && Val.isE ⟨#[]⟩) = true; rw [decide_eq_true h1, decide_eq_true h2]; decide +kernel, rfl⟩
theorem fine_cond {b : Bool} {x y : Val.V} (h1 : Fine x) (h2 : Fine y) : Fine (cond b x y) := by cases b <;> assumption
theorem fine_told (n x : Int) : Fine (told n x) := fine_cond (fine_num _) (fine_cond (fine_bad _ (by decide) (by decide)) (fine_bad _ (by decide) (by decide)))
theorem fine_spelt (s : ByteArray) (x : Int) : Fine (spelt s x) := by
  unfold spelt
  cases h : (x == 0 && decide (s.size ≤ 32767)) with
  | true =>
    rw [Bool.and_eq_true, decide_eq_true_eq] at h
    exact fine_txt s h.2
  | false => exact fine_bad 4 (by decide) (by decide)
theorem fine_fits (n : Int) (b : Bool) : Fine (fits n b) := fine_cond (fine_num _) (fine_bad _ (by decide) (by decide))
def InOK (I : In) : Prop := (∀ t ∈ I.ts, t.size ≤ 32767) ∧ Val.mayB I.v = true
theorem good_of_may {v : Val.V} (h : Val.mayB v = true) : Val.good v = v := by unfold Val.good; rw [h]; rfl
theorem isE_size {t : ByteArray} (h : Val.isE t = true) : t.size = 0 := by
  unfold Val.isE at h
  have := List.isEmpty_iff.1 h
  have e : t.toList = t.data.toList := ByteArray.toList_eq t
  rw [e] at this
  rw [Lib.size_eq, this]
  rfl
theorem asText_size {v : Val.V} (h : Val.mayB v = true) (hv : VB v) : (Val.asText v).1.size ≤ 32767 := by
  unfold Val.asText
  rw [good_of_may h]
  unfold Val.textG
  rcases Val.may_cases h with ⟨k, n, t⟩ | ⟨k, t⟩ | ⟨k, n, t⟩ | ⟨k, n, t⟩ | ⟨k, n, _, t⟩
  · rw [k]; show v.t.size ≤ 32767; rw [isE_size t]; omega
  · rw [k]
    show (⟨(Lib.itoa v.n).toArray⟩ : ByteArray).size ≤ 32767
    have := Dec.itoa_len v.n hv.1 hv.2
    have e : (⟨(Lib.itoa v.n).toArray⟩ : ByteArray).size = (Lib.itoa v.n).length := rfl
    rw [e]; omega
  · rw [k]
    show (Val.word v.n).size ≤ 32767
    rcases n with n | n <;> rw [n] <;> decide
  · rw [k]; exact t
  · rw [k]; show (⟨#[]⟩ : ByteArray).size ≤ 32767; decide
theorem code_zero {v : Val.V} (h : Val.mayB v = true) (hk : (v.k == 4) = false) (c : UInt8) (I : In) : (look1 c v I).1 = 0 ∨ (look1 c v I).1 = 4 := by
  have hk4 : v.k ≠ 4 := by simpa using hk
  have hn : (Val.number v).2 = 0 ∨ (Val.number v).2 = 4 := by
    unfold Val.number Val.numG
    rw [good_of_may h, hk]
    cases v.k == 3
    · exact .inl rfl
    · cases (Dec.readS v.t.data.toList).2 == 0
      · exact .inr rfl
      · exact .inl rfl
  have ha : (Val.asText v).2 = 0 := by
    unfold Val.asText Val.textG
    rw [good_of_may h, hk]
    cases v.k == 1 <;> cases v.k == 2 <;> rfl
  have ht : (Val.truth v).2 = 0 ∨ (Val.truth v).2 = 4 := by
    unfold Val.truth Val.truthG
    rw [good_of_may h, hk]
    cases v.k == 3 <;> cases Val.isT v.t <;> cases Val.isF v.t <;> first | exact .inl rfl | exact .inr rfl
  unfold look1
  cases c.toNat == 110
  · cases c.toNat == 116
    · cases c.toNat == 98
      · exact .inl rfl
      · exact ht
    · exact .inl ha
  · exact hn
theorem inok_look1 {v : Val.V} {I : In} (h : Val.mayB v = true) (hv : VB v) (c : UInt8) (hI : InOK I) : InOK (look1 c v I).2 := by
  unfold look1
  cases c.toNat == 110
  · cases c.toNat == 116
    · cases c.toNat == 98
      · exact ⟨hI.1, h⟩
      · exact hI
    · refine ⟨fun t ht => ?_, hI.2⟩
      rcases List.mem_append.1 ht with ht | ht
      · exact hI.1 t ht
      · rw [List.mem_singleton.1 ht]; exact asText_size h hv
  · exact hI
theorem inAt_ok (s : ByteArray) (v : Nat → Val.V) : ∀ n, (∀ k, k < n → Val.mayB (v k) = true ∧ VB (v k)) → InOK (inAt s v n)
  | 0, _ => ⟨fun t h => (by cases h), (by decide +kernel : Val.mayB ⟨0, 0, ⟨#[]⟩⟩ = true)⟩
  | n + 1, h => inok_look1 (h n (by omega)).1 (h n (by omega)).2 _ (inAt_ok s v n fun k hk => h k (by omega))
theorem tA_size {I : In} (h : InOK I) (i : Nat) : (tA I i).size ≤ 32767 := by
  unfold tA
  rw [List.getD_eq_getElem?_getD]
  cases e : I.ts[i]? with
  | none => decide
  | some t => exact h.1 t (List.mem_of_getElem? e)
theorem trimS_size (s : ByteArray) : (trimS s).size ≤ s.size := by
  have : (trimS s).size = (Tr.trimL s.data.toList).length := rfl
  rw [this, Lib.size_eq]
  exact Tr.trim_length _
theorem work_fine (f : Nat) {I : In} (h : InOK I) : Fine (work f I) := by
  have b2 := fine_bad 2 (by decide) (by decide)
  have b4 := fine_bad 4 (by decide) (by decide)
  have z0 := tA_size h 0
  have z1 : ∀ g, (eachS g (tA I 0)).size ≤ 32767 := fun g => by rw [eachS_size]; exact z0
  have z2 : (turned (tA I 0)).size ≤ 32767 := by rw [turned_size]; exact z0
  have z3 : (trimS (tA I 0)).size ≤ 32767 := Nat.le_trans (trimS_size _) z0
  have hv : Fine (cond (I.v.k == 3) I.v (txt cE)) := by
    cases e : I.v.k == 3
    · exact fine_txt _ (by decide)
    · exact ⟨h.2, by
        have : I.v.k = 3 := by simpa using e
        show (I.v.k == 0) = false
        rw [this]; rfl⟩
  unfold work
  split
  all_goals with_reducible first
    | exact fine_num _
    | exact fine_told _ _
    | exact fine_spelt _ _
    | exact fine_tru _
    | exact fine_cond (fine_fits _ _) (fine_num _)
    | exact fine_cond b2 (fine_num _)
    | exact fine_cond (fine_num _) b4
    | exact fine_cond (fine_num _) (fine_num _)
    | exact fine_bad 6 (by decide) (by decide)
    | exact fine_txt _ z0
    | exact fine_txt _ (z1 _)
    | exact fine_txt _ z2
    | exact fine_txt _ z3
    | exact hv
    | (unfold pos; exact fine_cond b2 (fine_num _))
    | (unfold replV; split <;> first | exact b4 | exact fine_spelt _ _)
    | (split <;> first | exact b2 | exact fine_num _)
theorem callS_may {f n : Nat} {v : Nat → Val.V} (h : ∀ k, k < n → Val.mayB (v k) = true ∧ VB (v k)) : (callS f n v).2 = 0 ∧ Fine (callS f n v).1 := by
  unfold callS
  rw [first_none (p := fun k => !Val.mayB (v k)) (fun j hj => by show (!Val.mayB (v j)) = false; rw [(h j hj).1]; rfl)]
  rcases first_or (fun k => (v k).k == 4) n with ⟨k, hk, h4, e, _⟩ | ⟨e, he⟩
  · rw [e]
    exact ⟨rfl, (h k hk).1, by have : (v k).k = 4 := by simpa using h4
                               show ((v k).k == 0) = false
                               rw [this]; rfl⟩
  · rw [e]
    rcases first_or (fun k => codeAt (how f) v k != 0) n with ⟨k, hk, hc, e, _⟩ | ⟨e, _⟩
    · rw [e]
      refine ⟨rfl, ?_⟩
      rcases code_zero (h k hk).1 (he k hk) ((how f).data.toList.getD k 0) (inAt (how f) v k) with h0 | h0
      · have : codeAt (how f) v k = 0 := h0
        simp [this] at hc
      · have : codeAt (how f) v k = 4 := h0
        show Fine (bad (codeAt (how f) v k))
        rw [this]
        exact fine_bad 4 (by decide) (by decide)
    · rw [e]
      exact ⟨rfl, work_fine f (inAt_ok _ v n h)⟩
theorem callS_not {f n k : Nat} {v : Nat → Val.V} (hk : k < n) (h : Val.mayB (v k) = false) : callS f n v = (zero, 24) := by
  obtain ⟨j, hj⟩ := first_hit (p := fun k => !Val.mayB (v k)) hk (by show (!Val.mayB (v k)) = true; rw [h]; rfl)
  unfold callS
  rw [hj]
  rfl
theorem callS_err {f n k : Nat} {v : Nat → Val.V} (hm : ∀ k, k < n → Val.mayB (v k) = true) (hk : k < n) (h4 : ((v k).k == 4) = true) (hb : ∀ j, j < k → ((v j).k == 4) = false) : callS f n v = (v k, 0) := by
  unfold callS
  rw [first_none (p := fun k => !Val.mayB (v k)) (fun j hj => by show (!Val.mayB (v j)) = false; rw [hm j hj]; rfl), first_some (p := fun k => (v k).k == 4) hk h4 hb]
end Cal
end Go.Proofs.YtpiiemneelkpkaaGreatDoor
