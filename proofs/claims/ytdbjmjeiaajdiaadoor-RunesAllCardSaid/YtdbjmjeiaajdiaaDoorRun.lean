/- Going over a text rune by rune: places and counts. Plain functions over the model's own decoding; no program. -/
import Derived.Lib.RuneCountTail
import Derived.Lib.QuoteLoop
import Derived.Lib.TrimU
import Derived.Lib.MapLaws
namespace Go.Proofs.YtdbjmjeiaajdiaaDoor.Run
open Go Go.Lib

/-- The width of the rune at a place. -/
def wd (s : ByteArray) (i : Nat) : Nat := (Utf8.decode s i).2
theorem wd_eq (s : ByteArray) (i : Nat) : wd s i = (Utf8.decode s i).2 := rfl
theorem wd_pos (s : ByteArray) (i : Nat) : 1 ≤ wd s i := width_pos s i
theorem wd_tail (s : ByteArray) (p i : Nat) : wd (s.extract p s.size) i = wd s (p + i) := by unfold wd; rw [tail_decode]
theorem tail_size (s : ByteArray) (p : Nat) : (s.extract p s.size).size = s.size - p := by simp
theorem wd_le (s : ByteArray) (i : Nat) (h : i < s.size) : i + wd s i ≤ s.size := by
  have h1 := width_le (s.extract i s.size) (by rw [tail_size]; omega)
  have h2 := wd_tail s i 0
  rw [Nat.add_zero] at h2
  unfold wd at h2 ⊢
  rw [h2, tail_size] at h1
  omega
theorem wd_le4 (s : ByteArray) (i : Nat) : wd s i ≤ 4 := by
  unfold wd
  rw [decode_at]
  rcases decodeN_shape (s.size - i) (s.get! i).toNat (s.get! (i + 1)).toNat (s.get! (i + 2)).toNat (s.get! (i + 3)).toNat with ⟨_, e⟩ | ⟨_, _, _, _, e⟩ | ⟨_, _, _, _, _, _, e⟩ | ⟨_, _, _, _, _, _, _, e⟩ | e <;> rw [e] <;> simp

/-- The place behind n runes from place i on. -/
def adv (s : ByteArray) : Nat → Nat → Nat
  | 0, i => i
  | n + 1, i => if i < s.size then adv s n (i + wd s i) else i
theorem adv_zero (s : ByteArray) (i : Nat) : adv s 0 i = i := rfl
theorem adv_succ (s : ByteArray) (n i : Nat) (h : i < s.size) : adv s (n + 1) i = adv s n (i + wd s i) := by rw [adv, if_pos h]
theorem adv_end (s : ByteArray) (n i : Nat) (h : ¬ i < s.size) : adv s n i = i := by
  cases n with
  | zero => rfl
  | succ n => rw [adv, if_neg h]
theorem adv_ge (s : ByteArray) : ∀ n i, i ≤ adv s n i
  | 0, i => Nat.le_refl _
  | n + 1, i => by
    by_cases h : i < s.size
    · rw [adv_succ s n i h]; have := adv_ge s n (i + wd s i); omega
    · rw [adv_end s _ i h]; exact Nat.le_refl _
theorem adv_le (s : ByteArray) : ∀ n i, i ≤ s.size → adv s n i ≤ s.size
  | 0, i, h => h
  | n + 1, i, h => by
    by_cases h1 : i < s.size
    · rw [adv_succ s n i h1]; exact adv_le s n _ (wd_le s i h1)
    · rw [adv_end s _ i h1]; exact h
theorem adv_add (s : ByteArray) : ∀ n m i, adv s (n + m) i = adv s m (adv s n i)
  | 0, m, i => by rw [Nat.zero_add]; rfl
  | n + 1, m, i => by
    by_cases h : i < s.size
    · rw [Nat.succ_add, adv_succ s (n + m) i h, adv_succ s n i h, adv_add s n m]
    · rw [adv_end s _ i h, adv_end s (n + 1) i h, adv_end s m i h]
theorem adv_next (s : ByteArray) (n i : Nat) (h : adv s n i < s.size) : adv s (n + 1) i = adv s n i + wd s (adv s n i) := by
  rw [adv_add s n 1 i, adv_succ s 0 _ h, adv_zero]
theorem adv_far (s : ByteArray) : ∀ n i, i ≤ s.size → s.size ≤ i + n → adv s n i = s.size
  | 0, i, h, h2 => by rw [adv_zero]; omega
  | n + 1, i, h, h2 => by
    by_cases h1 : i < s.size
    · rw [adv_succ s n i h1]; exact adv_far s n _ (wd_le s i h1) (by have := wd_pos s i; omega)
    · rw [adv_end s _ i h1]; omega
theorem adv_tail (s : ByteArray) (p : Nat) (hp : p ≤ s.size) : ∀ n i, p + adv (s.extract p s.size) n i = adv s n (p + i)
  | 0, i => rfl
  | n + 1, i => by
    have hs := tail_size s p
    by_cases h : p + i < s.size
    · rw [adv_succ _ n i (by omega), adv_succ s n _ h, adv_tail s p hp n, wd_tail, Nat.add_assoc]
    · rw [adv_end _ _ i (by omega), adv_end s _ _ h]

/-- How many runes stand from place i on. -/
def cntF (s : ByteArray) : Nat → Nat → Nat
  | 0, _ => 0
  | f + 1, i => if i < s.size then cntF s f (i + wd s i) + 1 else 0
def cnt (s : ByteArray) (i : Nat) : Nat := cntF s s.size i
theorem cntF_more (s : ByteArray) : ∀ f i, s.size ≤ i + f → cntF s (f + 1) i = cntF s f i
  | 0, i, h => by unfold cntF; rw [if_neg (by omega)]
  | f + 1, i, h => by
    by_cases h1 : i < s.size
    · have hw := wd_pos s i
      rw [cntF, if_pos h1, cntF_more s f _ (by omega)]
      conv => rhs; rw [cntF, if_pos h1]
    · rw [cntF, if_neg h1]
      conv => rhs; rw [cntF, if_neg h1]
theorem cntF_enough (s : ByteArray) : ∀ k f i, s.size ≤ i + f → cntF s (f + k) i = cntF s f i
  | 0, _, _, _ => rfl
  | k + 1, f, i, h => by rw [← Nat.add_assoc, cntF_more s (f + k) i (by omega), cntF_enough s k f i h]
theorem cnt_end (s : ByteArray) (i : Nat) (h : ¬ i < s.size) : cnt s i = 0 := by
  unfold cnt
  cases hs : s.size with
  | zero => rfl
  | succ f => rw [cntF, if_neg h]
theorem cnt_step (s : ByteArray) (i : Nat) (h : i < s.size) : cnt s i = cnt s (i + wd s i) + 1 := by
  have hw := wd_pos s i
  have e : cnt s i = cntF s (s.size + 1) i := (cntF_more s s.size i (by omega)).symm
  rw [e, cntF, if_pos h]
  rfl
theorem cnt_le (s : ByteArray) : ∀ d i, s.size ≤ i + d → cnt s i ≤ s.size - i
  | 0, i, h => by rw [cnt_end s i (by omega)]; exact Nat.zero_le _
  | d + 1, i, h => by
    by_cases h1 : i < s.size
    · have hw := wd_pos s i
      have := cnt_le s d (i + wd s i) (by omega)
      rw [cnt_step s i h1]; omega
    · rw [cnt_end s i h1]; exact Nat.zero_le _
theorem cnt_le_size (s : ByteArray) : cnt s 0 ≤ s.size := by have := cnt_le s s.size 0 (by omega); omega
theorem adv_cnt (s : ByteArray) : ∀ d i, i ≤ s.size → s.size ≤ i + d → adv s (cnt s i) i = s.size
  | 0, i, h, h2 => by rw [cnt_end s i (by omega), adv_zero]; omega
  | d + 1, i, h, h2 => by
    by_cases h1 : i < s.size
    · have hw := wd_pos s i
      rw [cnt_step s i h1, adv_succ s _ i h1]
      exact adv_cnt s d _ (wd_le s i h1) (by omega)
    · rw [cnt_end s i h1, adv_zero]; omega
theorem adv_all (s : ByteArray) : adv s (cnt s 0) 0 = s.size := adv_cnt s s.size 0 (by omega) (by omega)
/-- Behind n runes, n no more than there are, so many fewer are left. -/
theorem cnt_adv (s : ByteArray) : ∀ n i, n ≤ cnt s i → cnt s (adv s n i) + n = cnt s i
  | 0, i, _ => rfl
  | n + 1, i, h => by
    by_cases h1 : i < s.size
    · rw [adv_succ s n i h1]
      rw [cnt_step s i h1] at h ⊢
      have := cnt_adv s n (i + wd s i) (by omega)
      omega
    · rw [cnt_end s i h1] at h; omega
theorem adv_lt (s : ByteArray) (n i : Nat) (h : n < cnt s i) : adv s n i < s.size := by
  rcases Nat.lt_or_ge (adv s n i) s.size with h1 | h1
  · exact h1
  · have := cnt_adv s n i (by omega)
    rw [cnt_end s _ (by omega)] at this
    omega
theorem adv_over (s : ByteArray) (n : Nat) (h : cnt s 0 ≤ n) : adv s n 0 = s.size := by
  obtain ⟨k, rfl⟩ : ∃ k, n = cnt s 0 + k := ⟨n - cnt s 0, by omega⟩
  rw [adv_add, adv_all, adv_end s k _ (by omega)]
theorem cnt_tail (s : ByteArray) (p : Nat) (hp : p ≤ s.size) : ∀ d i, s.size ≤ p + i + d → cnt (s.extract p s.size) i = cnt s (p + i)
  | 0, i, h => by rw [cnt_end _ i (by rw [tail_size]; omega), cnt_end s _ (by omega)]
  | d + 1, i, h => by
    have hs := tail_size s p
    by_cases h1 : p + i < s.size
    · have hw := wd_pos s (p + i)
      rw [cnt_step _ i (by omega), cnt_step s _ h1, wd_tail, cnt_tail s p hp d _ (by omega), Nat.add_assoc]
    · rw [cnt_end _ i (by omega), cnt_end s _ h1]
end Go.Proofs.YtdbjmjeiaajdiaaDoor.Run
