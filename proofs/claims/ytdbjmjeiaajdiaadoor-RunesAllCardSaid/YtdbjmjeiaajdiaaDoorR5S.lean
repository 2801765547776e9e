/- One text put in the place of another, everywhere: by bytes and by cuts the same. No program. -/
import Derived.Lib.IndexMore
namespace Go.Proofs.YtdbjmjeiaajdiaaDoor.Sw
open Go Go.Lib
set_option linter.unusedVariables false
section
variable (old wit : List UInt8)
def swF : Nat → List UInt8 → List UInt8
  | 0, _ => []
  | _ + 1, [] => []
  | n + 1, c :: r => if old.isPrefixOf (c :: r) then wit ++ swF n ((c :: r).drop old.length) else c :: swF n r
def swp (l : List UInt8) : List UInt8 := swF old wit l.length l
variable {old wit}
theorem swF_more (ho : old ≠ []) : ∀ (n : Nat) (l : List UInt8), l.length ≤ n → swF old wit (n + 1) l = swF old wit n l
  | 0, [], _ => rfl
  | 0, _ :: _, h => absurd h (by simp)
  | n + 1, [], _ => rfl
  | n + 1, c :: r, h => by
    have hl : 1 ≤ old.length := by cases old with
      | nil => exact absurd rfl ho
      | cons _ _ => simp
    simp only [List.length_cons] at h
    rw [swF, swF, swF_more ho n _ (by simp only [List.length_drop, List.length_cons]; omega), swF_more ho n r (by omega)]
theorem swF_enough (ho : old ≠ []) (l : List UInt8) : ∀ k, swF old wit (l.length + k) l = swp old wit l
  | 0 => rfl
  | k + 1 => by rw [← Nat.add_assoc, swF_more ho (l.length + k) l (by omega), swF_enough ho l k]
theorem swF_at (ho : old ≠ []) (l : List UInt8) (n : Nat) (h : l.length ≤ n) : swF old wit n l = swp old wit l := by
  obtain ⟨k, rfl⟩ : ∃ k, n = l.length + k := ⟨n - l.length, by omega⟩
  exact swF_enough ho l k
theorem swp_nil : swp old wit [] = [] := rfl
theorem swp_keep (ho : old ≠ []) (c : UInt8) (r : List UInt8) (h : old.isPrefixOf (c :: r) = false) : swp old wit (c :: r) = c :: swp old wit r := by
  show swF old wit (r.length + 1) (c :: r) = _
  rw [swF, if_neg (by rw [h]; exact Bool.false_ne_true)]
  rfl
theorem swp_hit (ho : old ≠ []) (l : List UInt8) (h : old.isPrefixOf l = true) : swp old wit l = wit ++ swp old wit (l.drop old.length) := by
  cases l with
  | nil =>
    cases old with
    | nil => exact absurd rfl ho
    | cons _ _ => simp at h
  | cons c r =>
    have hl : 1 ≤ old.length := by cases old with
      | nil => exact absurd rfl ho
      | cons _ _ => simp
    show swF old wit (r.length + 1) (c :: r) = _
    rw [swF, if_pos h, swF_at ho _ _ (by simp only [List.length_drop, List.length_cons]; omega)]
theorem swp_index (ho : old ≠ []) : ∀ (l : List UInt8), (index l old = -1 → swp old wit l = l) ∧ ∀ i : Nat, index l old = (i : Int) → swp old wit l = l.take i ++ (wit ++ swp old wit (l.drop (i + old.length)))
  | [] => by
    have he : old.isEmpty = false := by cases old with
      | nil => exact absurd rfl ho
      | cons _ _ => rfl
    refine ⟨fun _ => rfl, fun i h => ?_⟩
    unfold index at h
    rw [he] at h
    exact absurd h (by simp)
  | c :: r => by
    obtain ⟨h1, h2⟩ := swp_index ho r
    unfold index
    cases hp : old.isPrefixOf (c :: r)
    · rw [if_neg Bool.false_ne_true]
      by_cases hn : index r old = -1
      · rw [if_pos (by simpa using hn)]
        refine ⟨fun _ => by rw [swp_keep ho c r hp, h1 hn], fun i h => ?_⟩
        exact absurd h (by simp)
      · rw [if_neg (by simpa using hn)]
        have hg := index_ge r old
        refine ⟨fun h => by omega, fun i h => ?_⟩
        obtain ⟨j, rfl⟩ : ∃ j, i = j + 1 := ⟨i - 1, by omega⟩
        rw [swp_keep ho c r hp, h2 j (by omega), show j + 1 + old.length = (j + old.length) + 1 by omega]
        rfl
    · rw [if_pos rfl]
      refine ⟨fun h => absurd h (by decide), fun i h => ?_⟩
      obtain rfl : i = 0 := by omega
      rw [swp_hit ho _ hp]
      simp
end
/-- What is answered where the whole may not be longer than so many bytes. -/
def lim (l : List UInt8) : ByteArray × Int := if 32767 < l.length then (⟨#[]⟩, 2) else (⟨l.toArray⟩, 0)
end Go.Proofs.YtdbjmjeiaajdiaaDoor.Sw
