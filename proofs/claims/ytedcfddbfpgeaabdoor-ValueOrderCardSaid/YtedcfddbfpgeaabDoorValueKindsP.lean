/- quadrillelaw4.ValueKinds for every value. -/
import Derived.Test.YtedcfddbfpgeaabDoorValJ
namespace Go.Proofs.YtedcfddbfpgeaabDoor
open Go.RowKit
set_option linter.unusedVariables false
theorem Val.good_of {v : Val.V} (h : Val.mayB v = true) : Val.good v = v := by
  unfold Val.good
  rw [h]
  rfl
theorem Val.good_not {v : Val.V} (h : Val.mayB v = false) : Val.good v = Val.err 4 := by
  unfold Val.good
  rw [h]
  rfl
theorem kinds_any (v : Val.V) (w : World) (hv : VB v) (hN : NumW w) : Calls Tryd.prog 5 #[vv v] w fun e w' => e = .returned (.bool true) ∧ Below w.heap.size w w' := by
  have HB : ∀ w', Below w.heap.size w w' → Calls Tryd.prog 8 #[] w' fun e w'' => e = .returned (.bool true) ∧ Below w'.heap.size w' w'' := fun w' hb => begun4 w' (hN.below hb)
  have H1 : ∀ w', Below w.heap.size w w' → _ := fun w' hb => number_any v w' hv (hN.below hb)
  have H2 : ∀ w', Below w.heap.size w w' → _ := fun w' hb => truth_any v w'
  have H3 : ∀ w', Below w.heap.size w w' → _ := fun w' hb => astext_any v w' hv (hN.below hb)
  have H4 : ∀ w', Below w.heap.size w w' → _ := fun w' hb => vmay_any v w'
  unfold Val.number at H1
  unfold Val.truth at H2
  unfold Val.asText at H3
  cases hm : Val.mayB v with
  | false =>
    rw [Val.good_not hm] at H1 H2 H3
    rw [hm] at H4
    obtain ⟨k, n, t⟩ := v
    exact kinds_x k n t w HB H1 H2 H3 H4
  | true =>
    rw [Val.good_of hm] at H1 H2 H3
    rw [hm] at H4
    have hc := Val.may_cases hm
    clear hm
    obtain ⟨k, n, t⟩ := v
    simp only at hc
    rcases hc with ⟨rfl, rfl, h⟩ | ⟨rfl, h⟩ | ⟨rfl, hn, h⟩ | ⟨rfl, rfl, h⟩ | ⟨rfl, hn0, hn6, h⟩
    · exact kinds_o 0 0 t t w rfl rfl HB H1 H2 H3 H4
    · exact kinds_o 1 n _ t w rfl rfl HB H1 H2 H3 H4
    · exact kinds_o 2 n _ t w rfl rfl HB H1 H2 H3 H4
    · rcases hr : Dec.readS t.data.toList with ⟨m, e⟩
      unfold Val.numG at H1
      simp only [hr] at H1
      unfold Val.truthG Val.isT Val.isF at H2
      by_cases he : e = 0
      · subst he
        have hi := Dec.itoa_read hr
        have hb : -9223372036854775808 ≤ m ∧ m ≤ 9223372036854775807 := by
          rcases Dec.readS_range hr with ⟨_, h1, h2⟩ | ⟨_, h⟩ | ⟨_, h, _⟩
          · exact ⟨h1, h2⟩
          · exact absurd h (by decide)
          · exact absurd h (by decide)
        have H5 : ∀ w', Below w.heap.size w w' → Calls Tryd.prog 12 #[vv ⟨1, m, ⟨#[]⟩⟩] w' fun e w'' => e = .returned (.tuple #[.string t, .int .i64 0]) ∧ Below w'.heap.size w' w'' := fun w' hb' => by
          have h5 := astext_any ⟨1, m, ⟨#[]⟩⟩ w' ⟨hb.1, hb.2, show (⟨#[]⟩ : ByteArray).size ≤ _ by decide⟩ (hN.below hb')
          rw [show Val.asText ⟨1, m, ⟨#[]⟩⟩ = (⟨(Lib.itoa m).toArray⟩, 0) by
            have hm : Val.mayB ⟨1, m, ⟨#[]⟩⟩ = true := by
              show Val.isE ⟨#[]⟩ = true
              decide +kernel
            unfold Val.asText
            rw [Val.good_of hm]
            rfl, hi] at h5
          exact h5
        cases tt : (t.toList == [84, 82, 85, 69]) with
        | true =>
          simp only [tt] at H2
          exact kinds_nT m t w tt HB H1 H2 H3 H4 H5
        | false =>
          cases tf : (t.toList == [70, 65, 76, 83, 69]) with
          | true =>
            simp only [tt, tf] at H2
            exact kinds_nF m t w tt tf HB H1 H2 H3 H4 H5
          | false =>
            simp only [tt, tf] at H2
            exact kinds_nN m t w tt tf HB H1 H2 H3 H4 H5
      · have he2 : (e == 0) = false := by simpa using he
        simp only [he2] at H1
        cases tt : (t.toList == [84, 82, 85, 69]) with
        | true =>
          simp only [tt] at H2
          exact kinds_tT t w tt HB H1 H2 H3 H4
        | false =>
          cases tf : (t.toList == [70, 65, 76, 83, 69]) with
          | true =>
            simp only [tt, tf] at H2
            exact kinds_tF t w tt tf HB H1 H2 H3 H4
          | false =>
            simp only [tt, tf] at H2
            exact kinds_tN t w tt tf HB H1 H2 H3 H4
    · exact kinds_e n t w (by simp; omega) (by simp; omega) HB H1 H2 H3 H4
end Go.Proofs.YtedcfddbfpgeaabDoor
