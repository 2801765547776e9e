/- quadrillelaw5.plays at every call: true; the walk of RunesAll. -/
import Derived.Test.YtdbjmjeiaajdiaaDoorR5I
import Derived.Test.YtdbjmjeiaajdiaaDoorR5K
import Derived.Test.YtdbjmjeiaajdiaaDoorR5D
namespace Go.Proofs.YtdbjmjeiaajdiaaDoor
open Go.RowKit
set_option linter.unusedVariables false
/-- What the walks ask of the library's variables. -/
structure RunW (w : World) : Prop where
  tabs : Lib.Utf8Tabs 4 5 w
  max : ∃ m : Int, w.cell? ⟨0, 0, none⟩ = some (.int .i64 m)
  lt : 0 < w.heap.size
theorem RunW.below {w w' : World} {n : Nat} (h : RunW w) (hn : n = w.heap.size) (hb : Below n w w') : RunW w' := by
  subst hn
  obtain ⟨m, hm⟩ := h.max
  exact ⟨Utf8Tabs_below h.tabs hb, ⟨m, (hb.cell (p := ⟨0, 0, none⟩) h.lt).trans hm⟩, Nat.lt_of_lt_of_le h.lt hb.size⟩
theorem least5 (P : Nat → Prop) : ∀ n, P n → ∃ k, k ≤ n ∧ P k ∧ ∀ j, j < k → ¬ P j := by
  intro n
  induction n using Nat.strongRecOn with
  | _ n ih =>
    intro h
    by_cases e : ∃ j, j < n ∧ P j
    · obtain ⟨j, hj, hp⟩ := e
      obtain ⟨k, hk, hp, hn⟩ := ih j hj hp
      exact ⟨k, by omega, hp, hn⟩
    · exact ⟨n, Nat.le_refl _, h, fun j hj hp => e ⟨j, hj, hp⟩⟩
theorem has_end (what s : ByteArray) : Has what s (Run.cnt s 0) = what.toList.isEmpty := by
  unfold Has Lib.hasPrefix
  rw [Run.adv_all, List.drop_of_length_le (by rw [← Lib.size_eq]; exact Nat.le_refl _), Lib.toList_data]
  cases what.data.toList <;> rfl
theorem find_both (what s : ByteArray) (f : Int) (hs : s.size ≤ 200000) : ∃ a b : Int, (∀ w, Calls Tryd.prog 34 #[.string what, .string s, .int .i64 f] w fun e w' => e = .returned (.tuple #[.int .i64 a, .int .i64 b]) ∧ Below w.heap.size w w') ∧
    (∀ w, Calls Tryd.prog 42 #[.string what, .string s, .int .i64 f] w fun e w' => e = .returned (.tuple #[.int .i64 a, .int .i64 b]) ∧ Below w.heap.size w w') := by
  by_cases hf : f < 1 ∨ (Run.cnt s 0 : Int) + 1 < f
  · exact ⟨0, 1, fun w => find_arg what s f w (by omega) hf, fun w => rfind_arg what s f w hs hf⟩
  · obtain ⟨f, rfl⟩ := Int.eq_ofNat_of_zero_le (show 0 ≤ f by omega)
    have h1 : 1 ≤ f := by omega
    have h2 : f ≤ Run.cnt s 0 + 1 := by omega
    have hend := has_end what s
    by_cases hex : ∃ k, k ≤ Run.cnt s 0 ∧ f ≤ k + 1 ∧ Has what s k = true
    · obtain ⟨n, hn⟩ := hex
      obtain ⟨k, hkn, ⟨hk1, hk2, hk3⟩, hk4⟩ := least5 (fun k => k ≤ Run.cnt s 0 ∧ f ≤ k + 1 ∧ Has what s k = true) n hn
      have uniq : ∀ j, j ≤ Run.cnt s 0 → f ≤ j + 1 → Has what s j = true → (∀ i, i < j → f ≤ i + 1 → Has what s i = false) → j = k := fun j a b c d => by
        rcases Nat.lt_trichotomy j k with h | h | h
        · exact absurd ⟨a, b, c⟩ (hk4 j h)
        · exact h
        · have := d k h hk2
          rw [hk3] at this
          cases this
      refine ⟨(k : Int) + 1, 0, fun w => find_walk what s f _ _ w (by omega) h1 h2 (fun j a b c d => ?_) (fun hno => ?_), fun w => rfind_walk what s f _ _ w hs h1 h2 (fun j a b c d => ?_) (fun hno => ?_)⟩
      · rw [uniq j (by omega) b c d]; exact ⟨rfl, rfl⟩
      · have hkc : k = Run.cnt s 0 := by
          rcases Nat.lt_or_ge k (Run.cnt s 0) with h | h
          · have := hno k h hk2
            rw [hk3] at this
            cases this
          · omega
        subst hkc
        rw [hk3] at hend
        exact .inl ⟨hend.symm, rfl, rfl⟩
      · rw [uniq j a b c d]; exact ⟨rfl, rfl⟩
      · have := hno k hk1 hk2
        rw [hk3] at this
        cases this
    · have no : ∀ j, j ≤ Run.cnt s 0 → f ≤ j + 1 → Has what s j = false := fun j a b => by
        cases h : Has what s j with
        | false => rfl
        | true => exact absurd ⟨j, a, b, h⟩ hex
      refine ⟨0, 3, fun w => find_walk what s f _ _ w (by omega) h1 h2 (fun j a b c d => ?_) (fun _ => ?_), fun w => rfind_walk what s f _ _ w hs h1 h2 (fun j a b c d => ?_) (fun _ => ⟨rfl, rfl⟩)⟩
      · rw [no j (by omega) b] at c; cases c
      · have he := no (Run.cnt s 0) (Nat.le_refl _) h2
        rw [hend] at he
        refine .inr ⟨he, fun e => ?_, rfl, rfl⟩
        rw [e] at he
        cases he
      · rw [no j a b] at c; cases c
theorem mid_same (s : ByteArray) (m n : Nat) : (s.extract (Run.adv s m 0) s.size).extract 0 (Run.adv (s.extract (Run.adv s m 0) s.size) n 0) = s.extract (Run.adv s m 0) (Run.adv s (m + n) 0) := by
  have hp := Run.adv_le s m 0 (Nat.zero_le _)
  have h1 := Run.adv_tail s (Run.adv s m 0) hp n 0
  rw [Nat.add_zero] at h1
  have h2 := Run.adv_add s m n 0
  have h3 := Run.adv_le s (m + n) 0 (Nat.zero_le _)
  rw [cut_cut s _ _ (by omega)]
  congr 1
  omega
theorem swap_both (s o t : ByteArray) (hs : s.size ≤ 200000) (ho : o.size ≤ 200000) (ht : t.size ≤ 200000) : ∃ (a : ByteArray) (b : Int), (∀ w, RunW w → Calls Tryd.prog 78 #[.string s, .string o, .string t] w fun e w' => e = .returned (.tuple #[.string a, .int .i64 b]) ∧ Below w.heap.size w w') ∧
    (∀ w, Calls Tryd.prog 87 #[.string s, .string o, .string t] w fun e w' => e = .returned (.tuple #[.string a, .int .i64 b]) ∧ Below w.heap.size w w') := by
  by_cases h0 : o.toList = []
  · have h1 : o.toList.isEmpty = true := by rw [h0]; rfl
    exact ⟨s, 0, fun w _ => swap_none s o t w h0 h1, fun w => rswap_none s o t w h0 h1⟩
  · have h1 : o.toList.isEmpty = false := by simpa using h0
    have h2 : 1 ≤ o.size := by
      rw [Lib.size_eq, ← Lib.toList_data]
      cases h : o.toList with
      | nil => exact absurd h h0
      | cons _ _ => simp
    by_cases hl : 32767 < (Sw.swp o.data.toList t.data.toList s.data.toList).length
    · exact ⟨⟨#[]⟩, 2, fun w hw => by obtain ⟨m, hm⟩ := hw.max; exact swap_walk s o t _ _ m w hs ht h0 h1 h2 ho hm hw.lt (fun _ => ⟨rfl, rfl⟩) (fun h => absurd hl h), fun w => rswap_walk s o t _ _ w hs ht h0 h1 h2 ho (fun _ => ⟨rfl, rfl⟩) (fun h => absurd hl h)⟩
    · exact ⟨_, 0, fun w hw => by obtain ⟨m, hm⟩ := hw.max; exact swap_walk s o t _ _ m w hs ht h0 h1 h2 ho hm hw.lt (fun h => absurd h hl) (fun _ => ⟨rfl, rfl⟩), fun w => rswap_walk s o t _ _ w hs ht h0 h1 h2 ho (fun h => absurd h hl) (fun _ => ⟨rfl, rfl⟩)⟩
theorem same_below {f : FuncId} {args : Array Value} {v : Value} {w : World} (h : Calls Tryd.prog f args w fun e w' => e = .returned v ∧ w = w') : Calls Tryd.prog f args w fun e w' => e = .returned v ∧ Below w.heap.size w w' :=
  h.mono fun _ _ ⟨he, hw⟩ => ⟨he, hw ▸ Below.refl _ _⟩
theorem char_both (n : Int) : ∃ (a : ByteArray) (b : Int), (∀ w, Calls Tryd.prog 36 #[.int .i64 n] w fun e w' => e = .returned (.tuple #[.string a, .int .i64 b]) ∧ Below w.heap.size w w') ∧
    (∀ w, Calls Tryd.prog 89 #[.int .i64 n] w fun e w' => e = .returned (.tuple #[.string a, .int .i64 b]) ∧ Below w.heap.size w w') := by
  by_cases h0 : n < 0
  · exact ⟨⟨#[]⟩, 1, fun w => same_below (char_far n w (.inl h0)), fun w => rchar_neg n w h0⟩
  by_cases h1 : 1114111 < n
  · exact ⟨⟨#[]⟩, 1, fun w => same_below (char_far n w (.inr h1)), fun w => rchar_far n w h1⟩
  cases hv : Lib.validRune n with
  | false =>
    have h2 : ¬ ((0 ≤ n ∧ n < 55296) ∨ (57343 < n ∧ n ≤ 1114111)) := fun h => by
      have := valid_iff.2 h
      rw [hv] at this
      cases this
    exact ⟨⟨#[]⟩, 1, fun w => same_below (char_bad n w (by omega) (by omega) hv), fun w => rchar_mid n w (by omega) (by omega)⟩
  | true =>
    obtain ⟨n, rfl⟩ := Int.eq_ofNat_of_zero_le (show 0 ≤ n by omega)
    exact ⟨_, 0, fun w => same_below (char_ok n w (by omega) (by omega) hv), fun w => rchar_any n w hv⟩
theorem code_both (s : ByteArray) (hs : s.size ≤ 200000) : ∃ (a b : Int), (∀ w, Calls Tryd.prog 35 #[.string s] w fun e w' => e = .returned (.tuple #[.int .i64 a, .int .i64 b]) ∧ Below w.heap.size w w') ∧
    (∀ w, Calls Tryd.prog 43 #[.string s] w fun e w' => e = .returned (.tuple #[.int .i64 a, .int .i64 b]) ∧ Below w.heap.size w w') := by
  have hl : s.toList.length = s.size := by rw [Lib.toList_data, ← Lib.size_eq]
  by_cases hz : 0 < s.size
  · have h1 : ¬ s.toList = [] := fun e => by rw [e] at hl; simp at hl; omega
    exact ⟨_, 0, fun w => code_any s _ w (by omega) hz rfl, fun w => rcode_some s w (by omega) h1 (by simpa using h1) hz⟩
  · have h1 : s.toList = [] := List.eq_nil_of_length_eq_zero (by omega)
    exact ⟨0, 1, fun w => code_none s w hz, fun w => rcode_none s w h1 (by rw [h1]; rfl)⟩
theorem splays_any (K n m : Int) (s t u : ByteArray) (w : World) (hs : s.size ≤ 140737488351232) (ht : t.size ≤ 140737488351232) (hu : u.size ≤ 140737488351232) (n0 : -9223372036854775808 ≤ n) (n1 : n ≤ 9223372036854775807) (m0 : -9223372036854775808 ≤ m) (m1 : m ≤ 9223372036854775807) (hW : RunW w) :
    Calls Tryd.prog 13 #[.agg #[.int .i64 K, .string s, .string t, .string u, .int .i64 n, .int .i64 m]] w fun e w' => e = .returned (.bool true) ∧ Below w.heap.size w w' := by
  have zs := shortS_size s
  have zt := shortS_size t
  have zu := shortS_size u
  have go : ∀ (K : Int) (a : ByteArray) (b : Int), (K == 1) = false → (K == 9) = false → (K == 12) = false → (K == 14) = false → decide (K < 1) = false → decide ((14 : Int) < K) = false →
      (∀ w', RunW w' → Calls Tryd.prog 45 #[.agg #[.int .i64 K, .string (shortS s), .string (shortS t), .string (shortS u), .int .i64 n, .int .i64 m]] w' fun e w'' => e = .returned (.tuple #[.string a, .int .i64 b]) ∧ Below w'.heap.size w' w'') →
      (∀ w', RunW w' → Calls Tryd.prog 46 #[.agg #[.int .i64 K, .string (shortS s), .string (shortS t), .string (shortS u), .int .i64 n, .int .i64 m]] w' fun e w'' => e = .returned (.tuple #[.string a, .int .i64 b]) ∧ Below w'.heap.size w' w'') →
      Calls Tryd.prog 13 #[.agg #[.int .i64 K, .string s, .string t, .string u, .int .i64 n, .int .i64 m]] w fun e w' => e = .returned (.bool true) ∧ Below w.heap.size w w' :=
    fun K a b k1 k9 k12 k14 kl kg h1 h2 => splays_text s t u n m K a b w hs ht hu k1 k9 k12 k14 kl kg (fun w' hb => h1 w' (hW.below rfl hb)) (fun w' hb => h2 w' (hW.below rfl hb))
  by_cases e1 : K = 1
  · subst e1
    exact splays_len s t u n m _ w hs ht hu (fun w' _ => len_any _ w' (by omega)) (fun w' _ => rlen5_any _ w' zs)
  by_cases e9 : K = 9
  · subst e9
    obtain ⟨a, b, h1, h2⟩ := find_both (shortS t) (shortS s) n zs
    exact splays_find s t u n m a b w hs ht hu (fun w' _ => h1 w') (fun w' _ => h2 w')
  by_cases e12 : K = 12
  · subst e12
    obtain ⟨a, b, h1, h2⟩ := code_both (shortS s) zs
    exact splays_code s t u n m a b w hs ht hu (fun w' _ => h1 w') (fun w' _ => h2 w')
  by_cases e14 : K = 14
  · subst e14
    exact splays_all s t u n m w hs ht hu (fun w' _ => goes_any _ n w' zs)
  have k1 : (K == 1) = false := by simpa using e1
  have k9 : (K == 9) = false := by simpa using e9
  have k12 : (K == 12) = false := by simpa using e12
  have k14 : (K == 14) = false := by simpa using e14
  by_cases kl : K < 1
  · exact splays_under s t u n m K w hs ht hu k1 k9 k12 k14 (decide_eq_true kl)
  by_cases kg : 14 < K
  · exact splays_over s t u n m K w hs ht hu k1 k9 k12 k14 (decide_eq_false kl) (decide_eq_true kg)
  obtain rfl | rfl | rfl | rfl | rfl | rfl | rfl | rfl | rfl | rfl : K = 2 ∨ K = 3 ∨ K = 4 ∨ K = 5 ∨ K = 6 ∨ K = 7 ∨ K = 8 ∨ K = 10 ∨ K = 11 ∨ K = 13 := by omega
  · by_cases h : n < 0
    · exact go 2 ⟨#[]⟩ 1 rfl rfl rfl rfl rfl rfl (fun w' hw => one_2 _ _ _ n m ⟨#[]⟩ 1 w' (fun w2 hb => left_neg _ n h w2)) (fun w' hw => meant_2 _ _ _ n m ⟨#[]⟩ 1 w' (fun w2 hb => rleft5_neg _ n w2 h))
    · obtain ⟨n, rfl⟩ := Int.eq_ofNat_of_zero_le (show 0 ≤ n by omega)
      exact go 2 _ _ rfl rfl rfl rfl rfl rfl (fun w' hw => one_2 _ _ _ n m _ _ w' (fun w2 hb => left_any _ n _ w2 (by omega) (by omega) rfl)) (fun w' hw => meant_2 _ _ _ n m _ _ w' (fun w2 hb => rleft5_any _ n _ w2 zs (by omega) rfl))
  · by_cases h : n < 0
    · exact go 3 ⟨#[]⟩ 1 rfl rfl rfl rfl rfl rfl (fun w' hw => one_3 _ _ _ n m ⟨#[]⟩ 1 w' (fun w2 hb => right_neg _ n h w2)) (fun w' hw => meant_3 _ _ _ n m ⟨#[]⟩ 1 w' (fun w2 hb => rright5_neg _ n w2 h))
    · obtain ⟨n, rfl⟩ := Int.eq_ofNat_of_zero_le (show 0 ≤ n by omega)
      exact go 3 _ _ rfl rfl rfl rfl rfl rfl (fun w' hw => one_3 _ _ _ n m _ _ w' (fun w2 hb => right_any _ n _ w2 (by omega) (by omega) rfl)) (fun w' hw => meant_3 _ _ _ n m _ _ w' (fun w2 hb => rright5_any _ n _ w2 zs (by omega) rfl))
  · by_cases h : n < 1
    · exact go 4 ⟨#[]⟩ 1 rfl rfl rfl rfl rfl rfl (fun w' hw => one_4 _ _ _ n m ⟨#[]⟩ 1 w' (fun w2 hb => mid_far _ n m h w2)) (fun w' hw => meant_4 _ _ _ n m ⟨#[]⟩ 1 w' (fun w2 hb => rmid5_far _ n m h w2))
    by_cases h2 : m < 0
    · exact go 4 ⟨#[]⟩ 1 rfl rfl rfl rfl rfl rfl (fun w' hw => one_4 _ _ _ n m ⟨#[]⟩ 1 w' (fun w2 hb => mid_neg _ n m h h2 w2)) (fun w' hw => meant_4 _ _ _ n m ⟨#[]⟩ 1 w' (fun w2 hb => rmid5_neg _ n m h h2 w2))
    obtain ⟨m, rfl⟩ := Int.eq_ofNat_of_zero_le (show 0 ≤ m by omega)
    obtain ⟨f, hf⟩ : ∃ f : Nat, n = (f : Int) + 1 := ⟨(n - 1).toNat, by omega⟩
    subst hf
    exact go 4 (((shortS s).extract (Run.adv (shortS s) f 0) (shortS s).size).extract 0 (Run.adv ((shortS s).extract (Run.adv (shortS s) f 0) (shortS s).size) m 0)) 0 rfl rfl rfl rfl rfl rfl (fun w' hw => one_4 _ _ _ _ _ (((shortS s).extract (Run.adv (shortS s) f 0) (shortS s).size).extract 0 (Run.adv ((shortS s).extract (Run.adv (shortS s) f 0) (shortS s).size) m 0)) 0 w' (fun w2 hb => mid_any _ _ f m _ _ w2 (by omega) (by omega) (by omega) rfl rfl rfl)) (fun w' hw => meant_4 _ _ _ _ _ (((shortS s).extract (Run.adv (shortS s) f 0) (shortS s).size).extract 0 (Run.adv ((shortS s).extract (Run.adv (shortS s) f 0) (shortS s).size) m 0)) 0 w' (fun w2 hb => by rw [mid_same]; exact rmid5_any _ f m _ _ w2 zs (by omega) (by omega) rfl rfl))
  · exact go 5 _ 0 rfl rfl rfl rfl rfl rfl (fun w' hw => one_5 _ _ _ n m _ w' (fun w2 hb => upper_any _ w2 (by omega))) (fun w' hw => meant_5 _ _ _ n m _ w' (fun w2 hb => rup_any _ w2 (by omega)))
  · exact go 6 _ 0 rfl rfl rfl rfl rfl rfl (fun w' hw => one_6 _ _ _ n m _ w' (fun w2 hb => lower_any _ w2 (by omega))) (fun w' hw => meant_6 _ _ _ n m _ w' (fun w2 hb => rlow_any _ w2 (by omega)))
  · exact go 7 _ 0 rfl rfl rfl rfl rfl rfl (fun w' hw => one_7 _ _ _ n m _ w' (fun w2 hb => trim_any _ w2 (by omega))) (fun w' hw => meant_7 _ _ _ n m _ w' (fun w2 hb => rtrim_any _ w2 zs))
  · exact go 8 _ 0 rfl rfl rfl rfl rfl rfl (fun w' hw => one_8 _ _ _ n m _ w' (fun w2 hb => turn_any _ w2 (by omega) (Utf8Tabs_below hw.tabs hb))) (fun w' hw => meant_8 _ _ _ n m _ w' (fun w2 hb => rturn_any _ w2 zs))
  · obtain ⟨a, b, h1, h2⟩ := swap_both (shortS s) (shortS t) (shortS u) zs zt zu
    exact go 10 a b rfl rfl rfl rfl rfl rfl (fun w' hw => one_10 _ _ _ n m a b w' (fun w2 hb => h1 w2 (hw.below rfl hb))) (fun w' hw => meant_10 _ _ _ n m a b w' (fun w2 hb => h2 w2))
  · by_cases h : n < 0
    · exact go 11 ⟨#[]⟩ 1 rfl rfl rfl rfl rfl rfl (fun w' hw => one_11 _ _ _ n m ⟨#[]⟩ 1 w' (fun w2 hb => times_neg _ n w2 h)) (fun w' hw => meant_11 _ _ _ n m ⟨#[]⟩ 1 w' (fun w2 hb => rtimes_neg _ n w2 h))
    · obtain ⟨n, rfl⟩ := Int.eq_ofNat_of_zero_le (show 0 ≤ n by omega)
      exact go 11 _ _ rfl rfl rfl rfl rfl rfl (fun w' hw => one_11 _ _ _ n m _ _ w' (fun w2 hb => times_any _ n w2 (by omega) (by omega))) (fun w' hw => meant_11 _ _ _ n m _ _ w' (fun w2 hb => rtimes_any _ n w2))
  · obtain ⟨a, b, h1, h2⟩ := char_both n
    exact go 13 a b rfl rfl rfl rfl rfl rfl (fun w' hw => one_13 _ _ _ n m a b w' (fun w2 hb => h1 w2)) (fun w' hw => meant_13 _ _ _ n m a b w' (fun w2 hb => h2 w2))
/-- A call that stands in a script, at a place. -/
def SOpAt (w : World) (b o : Nat) : Prop := ∃ (K n m : Int) (s t u : ByteArray), (w.cell? ⟨b, o, none⟩ = some (.int .i64 K) ∧ w.cell? ⟨b, o + 1, none⟩ = some (.string s) ∧ w.cell? ⟨b, o + 2, none⟩ = some (.string t) ∧ w.cell? ⟨b, o + 3, none⟩ = some (.string u) ∧ w.cell? ⟨b, o + 4, none⟩ = some (.int .i64 n) ∧ w.cell? ⟨b, o + 5, none⟩ = some (.int .i64 m)) ∧
  s.size ≤ 140737488351232 ∧ t.size ≤ 140737488351232 ∧ u.size ≤ 140737488351232 ∧ -9223372036854775808 ≤ n ∧ n ≤ 9223372036854775807 ∧ -9223372036854775808 ≤ m ∧ m ≤ 9223372036854775807
set_option maxRecDepth 100000 in
set_option maxHeartbeats 1000000 in
theorem runesAll_walk (a : Option Addr) (len cap : Nat) (w : World) (hlen : len ≤ 140737488351232) (hops : ∀ i, i < len → ∃ b o, a = some ⟨b, o, none⟩ ∧ b < w.heap.size ∧ SOpAt w b (o + i * 6)) (hW : RunW w) :
    Calls Tryd.prog 5 #[.slice a len cap] w fun e w' => e = .returned (.bool true) ∧ Below w.heap.size w w' := by
  have HO := Lib.hid hops
  clear hops
  go_enter Tryd.func5, Tryd.ntmps5
  go_wp2_with (fail)
  refine (begun5 w hW.tabs).mono ?_
  rintro e w1 ⟨rfl, hb1⟩
  go_wp2
  go_loopw [3] (fun i wr => ∃ k : Nat, k ≤ len ∧ i = .int .i64 (k : Int) ∧ Below w.heap.size w wr) (fun i _ => len - (intOf i).toNat)
  case atStart => exact ⟨0, Nat.zero_le _, rfl, hb1⟩
  case round =>
    obtain ⟨k, hk, rfl, hb⟩ := hrel
    by_cases hlt : k < len
    · obtain ⟨b, o, rfl, hbl, K, n, m, s, t, u, ⟨c0, c1, c2, c3, c4, c5⟩, hs, ht, hu, n0, n1, m0, m1⟩ := HO.out k hlt
      have hW2 := hW.below rfl hb
      replace c0 := (hb.cell (p := ⟨b, o + k * 6, none⟩) hbl).trans c0
      replace c1 := (hb.cell (p := ⟨b, o + k * 6 + 1, none⟩) hbl).trans c1
      replace c2 := (hb.cell (p := ⟨b, o + k * 6 + 2, none⟩) hbl).trans c2
      replace c3 := (hb.cell (p := ⟨b, o + k * 6 + 3, none⟩) hbl).trans c3
      replace c4 := (hb.cell (p := ⟨b, o + k * 6 + 4, none⟩) hbl).trans c4
      replace c5 := (hb.cell (p := ⟨b, o + k * 6 + 5, none⟩) hbl).trans c5
      have HP := Lib.hid (fun w hW => splays_any K n m s t u w hs ht hu n0 n1 m0 m1 hW)
      clear hs ht hu n0 n1 m0 m1
      go_wp2_with (fail)
      refine (HP.out _ hW2).mono ?_
      rintro e w2 ⟨rfl, hb2⟩
      replace hb2 := hb.trans (hb2.mono hb.size)
      clear c0 c1 c2 c3 c4 c5
      go_wp2
      go_roundw
      case rel => exact ⟨k + 1, by omega, by go_num, hb2⟩
      case measure => simp [intOf]; omega
    · obtain rfl : k = len := by omega
      go_wp2
      go_ret
      exact ⟨rfl, hb⟩
end Go.Proofs.YtdbjmjeiaajdiaaDoor
