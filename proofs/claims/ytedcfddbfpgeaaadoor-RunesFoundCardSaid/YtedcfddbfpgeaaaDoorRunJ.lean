/- quadrillelaw5.RunesFound: the plain law. -/
import Derived.Test.YtedcfddbfpgeaaaDoorRunK
namespace Go.Proofs.YtedcfddbfpgeaaaDoor
open Go.RowKit
set_option linter.unusedVariables false

theorem toList_len5 (s : ByteArray) : s.toList.length = s.size := by rw [Lib.toList_data, ← Lib.size_eq]
theorem has_at (wh t : ByteArray) (p : Nat) : (wh.size ≤ (t.extract (Run.adv t p 0) t.size).size ∧ (t.extract (Run.adv t p 0) t.size).extract 0 wh.size = wh) ↔ Has wh t p = true := by
  rw [has_iff]
  unfold Has
  rw [Lib.extract_to_end]
theorem has_empty (wh t : ByteArray) (p : Nat) (h : wh.size = 0) : Has wh t p = true := by
  rw [← has_at]
  refine ⟨by omega, ?_⟩
  apply ByteArray.ext
  apply Array.ext'
  have h1 : wh.data.toList = [] := List.eq_nil_of_length_eq_zero (by rw [← Lib.size_eq]; exact h)
  rw [h1, h, ByteArray.data_extract, Array.toList_extract, List.extract_eq_take_drop]
  simp
theorem has_end (wh t : ByteArray) (p : Nat) (hp : Run.adv t p 0 = t.size) (h : 0 < wh.size) : Has wh t p = false := by
  cases hh : Has wh t p with
  | false => rfl
  | true =>
    rw [← has_at, hp] at hh
    have := hh.1
    rw [ByteArray.size_extract] at this
    omega

theorem least (P : Nat → Prop) : ∀ n, P n → ∃ k, P k ∧ ∀ j, j < k → ¬ P j := fun n => by
  induction n using Nat.strongRecOn with
  | _ n ih =>
    intro h
    by_cases e : ∃ j, j < n ∧ P j
    · obtain ⟨j, hj, hp⟩ := e
      exact ih j hj hp
    · exact ⟨n, h, fun j hj hp => e ⟨j, hj, hp⟩⟩
theorem found_any (what s : ByteArray) (fr : Int) (w : World) (hs : s.size ≤ 140737488351232) (hT : Lib.Utf8Tabs 0 1 w) (hf0 : 0 ≤ fr) (hf : fr ≤ 255) :
    Calls Tryd.prog 4 #[.string what, .string s, .int .u8 fr] w fun e w' => e = .returned (.bool true) ∧ Below w.heap.size w w' := by
  obtain ⟨fr, rfl⟩ := Int.eq_ofNat_of_zero_le hf0
  have hts := cutS_size s
  have hws := cutS_size what
  obtain ⟨t, ht⟩ : ∃ t, cutS s = t := ⟨_, rfl⟩
  obtain ⟨wh, hwh⟩ : ∃ t, cutS what = t := ⟨_, rfl⟩
  rw [ht] at hts
  rw [hwh] at hws
  have hct := Run.cnt_le_size t
  have hall := Run.adv_all t
  obtain ⟨c, hc⟩ : ∃ c, Run.cnt t 0 = c := ⟨_, rfl⟩
  rw [hc] at hct hall
  have hm : fr % (c + 2) < c + 2 := Nat.mod_lt _ (by omega)
  have hat : (fr : Int).tmod ((c : Int) + 2) = ((fr % (c + 2) : Nat) : Int) := by
    rw [Int.tmod_eq_emod_of_nonneg (by omega)]; push_cast; rfl
  generalize fr % (c + 2) = m at *
  by_cases hmc : m = c + 1
  · exact found_far what s wh t fr c w hs hT (by omega) ht hwh hts hws hc hct (by rw [hat, hmc]; push_cast; rfl)
  have hF : ∀ (a b : Int), (∀ k, k < Run.cnt t 0 → m + 1 ≤ k + 1 → Has wh t k = true → (∀ j, j < k → m + 1 ≤ j + 1 → Has wh t j = false) → a = (k : Int) + 1 ∧ b = 0) →
      ((∀ j, j < Run.cnt t 0 → m + 1 ≤ j + 1 → Has wh t j = false) → (wh.toList.isEmpty = true ∧ a = (Run.cnt t 0 : Int) + 1 ∧ b = 0) ∨ (wh.toList.isEmpty = false ∧ ¬ wh.toList = [] ∧ a = 0 ∧ b = 3)) →
      ∀ w, Calls Tryd.prog 20 #[.string wh, .string t, .int .i64 ((m : Int) + 1)] w fun e w' => e = .returned (.tuple #[.int .i64 a, .int .i64 b]) ∧ Below w.heap.size w w' :=
    fun a b h1 h2 w => find_walk wh t (m + 1) a b w (by omega) (by omega) (by rw [hc]; omega) h1 h2
  rw [hc] at hF
  by_cases hex : ∃ k, k < c ∧ m ≤ k ∧ Has wh t k = true
  · obtain ⟨k, ⟨hk1, hk2, hk3⟩, hmin⟩ : ∃ k, (k < c ∧ m ≤ k ∧ Has wh t k = true) ∧ ∀ j, j < k → ¬ (j < c ∧ m ≤ j ∧ Has wh t j = true) := by
      obtain ⟨k, hk⟩ := hex
      exact least (fun k => k < c ∧ m ≤ k ∧ Has wh t k = true) k hk
    have hno : ∀ j, j < k → m ≤ j → Has wh t j = false := fun j hj hmj => by
      cases h : Has wh t j with
      | false => rfl
      | true => exact absurd ⟨by omega, hmj, h⟩ (hmin j hj)
    refine found_walk what s wh t fr m c (k + 1) ((k + 1 : Nat) : Int) 0 w hs hT (by omega) ht hwh hts hws hc hct hat (by omega) (hF _ _ ?_ ?_) (.inl ⟨rfl, rfl, by omega, by omega⟩) ?_
    · intro k' h1 h2 h3 h4
      have : k' = k := by
        rcases Nat.lt_trichotomy k' k with h | h | h
        · have := hno k' h (by omega); rw [h3] at this; cases this
        · exact h
        · have := h4 k h (by omega); rw [hk3] at this; cases this
      subst this
      exact ⟨by push_cast; rfl, rfl⟩
    · intro h
      have := h k hk1 (by omega); rw [hk3] at this; cases this
    · intro p hp1 hp2
      rw [has_at]
      by_cases e : p = k
      · subst e; exact ⟨fun _ => ⟨rfl, rfl⟩, fun _ => hk3⟩
      · rw [hno p (by omega) hp1]
        exact ⟨fun h => (by cases h), fun h => (by omega)⟩
  · have hno : ∀ j, j < c → m ≤ j → Has wh t j = false := fun j hj hmj => by
      cases h : Has wh t j with
      | false => rfl
      | true => exact absurd ⟨j, hj, hmj, h⟩ hex
    by_cases hz : wh.size = 0
    · have hl : wh.toList = [] := List.eq_nil_of_length_eq_zero (by rw [toList_len5]; exact hz)
      have hm2 : m = c := by
        rcases Nat.lt_or_ge m c with h | h
        · have := hno m h (Nat.le_refl _); rw [has_empty wh t m hz] at this; cases this
        · omega
      refine found_walk what s wh t fr m c (c + 1) ((c + 1 : Nat) : Int) 0 w hs hT (by omega) ht hwh hts hws hc hct hat (by omega) (hF _ _ ?_ ?_) (.inl ⟨rfl, rfl, by omega, by omega⟩) ?_
      · intro k' h1 h2; omega
      · intro _; exact .inl ⟨by rw [hl]; rfl, by push_cast; rfl, rfl⟩
      · intro p hp1 hp2
        rw [has_at, has_empty wh t p hz]
        exact ⟨fun _ => ⟨rfl, by omega⟩, fun _ => rfl⟩
    · have hl : ¬ wh.toList = [] := fun e => hz (by rw [← toList_len5, e]; rfl)
      refine found_walk what s wh t fr m c (c + 1) 0 3 w hs hT (by omega) ht hwh hts hws hc hct hat (by omega) (hF _ _ ?_ ?_) (.inr ⟨rfl, rfl, rfl⟩) ?_
      · intro k' h1 h2 h3; rw [hno k' h1 (by omega)] at h3; cases h3
      · intro _; exact .inr ⟨by simpa using hl, hl, rfl, rfl⟩
      · intro p hp1 hp2
        rw [has_at]
        have : Has wh t p = false := by
          by_cases e : p < c
          · exact hno p e hp1
          · exact has_end wh t p (by rw [show p = c by omega]; exact hall) (by omega)
        rw [this]
        exact ⟨fun h => (by cases h), fun h => absurd h.1 (by decide)⟩
end Go.Proofs.YtedcfddbfpgeaaaDoor
