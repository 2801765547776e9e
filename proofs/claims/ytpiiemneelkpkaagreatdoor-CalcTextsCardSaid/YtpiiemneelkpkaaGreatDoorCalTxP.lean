/- What calc.Call answers to texts and numbers handed to it in a row: plain. -/
import Derived.Test.YtpiiemneelkpkaaGreatDoorGcb
import Derived.Test.YtpiiemneelkpkaaGreatDoorGr5
namespace Go.Proofs.YtpiiemneelkpkaaGreatDoor
open Go.RowKit
set_option linter.unusedVariables false
namespace Cal
theorem cut_join (t : ByteArray) (q : Nat) (h : q ≤ t.size) : t.extract 0 q ++ t.extract q t.size = t := by
  have hl : t.data.toList.length = t.size := by rw [← Lib.size_eq]
  apply ByteArray.ext
  rw [ByteArray.data_append, ByteArray.data_extract, ByteArray.data_extract]
  apply Array.ext'
  rw [Array.toList_append, Array.toList_extract, Array.toList_extract]
  generalize t.data.toList = l at *
  rw [← hl]
  simp only [List.extract_eq_take_drop, Nat.sub_zero, List.drop_zero]
  rw [List.take_of_length_le (l := l.drop q) (by rw [List.length_drop]; exact Nat.le_refl _)]
  exact List.take_append_drop q l
theorem callM_lit (f : Nat) (s : ByteArray) (l : List Val.V) (N : Nat) (I : Nat → In) (hN : l.length = N) (hs : how f = s)
    (hg : (infoV (f : Int)).2 = 0 ∧ (infoV (f : Int)).1.2.1 = 1 ∧ (infoV (f : Int)).1.2.2.1 ≤ (N : Int) ∧ (N : Int) ≤ (infoV (f : Int)).1.2.2.2)
    (hm : ∀ k, k < N → Val.mayB (arg l k) = true) (he : ∀ k, k < N → ((arg l k).k == 4) = false)
    (h0 : I 0 = in0) (hI : ∀ k, k < N → look1 (s.data.toList.getD k 0) (arg l k) (I k) = (0, I (k + 1))) :
    callM (f : Int) N (arg l) = (work f (I N), 0) := by
  have hin : ∀ k, k ≤ N → inAt s (arg l) k = I k := by
    intro k
    induction k with
    | zero => intro _; exact h0.symm
    | succ k ih =>
      intro hk
      show (look1 (s.data.toList.getD k 0) (arg l k) (inAt s (arg l) k)).2 = _
      rw [ih (by omega), hI k (by omega)]
  unfold callM
  rw [if_neg (by omega), if_neg (by omega)]
  show callS f N (arg l) = _
  unfold callS
  rw [hs, first_none (p := fun k => !Val.mayB (arg l k)) (fun j hj => by show (!Val.mayB (arg l j)) = false; rw [hm j hj]; rfl),
    first_none (p := fun k => (arg l k).k == 4) he,
    first_none (p := fun k => codeAt s (arg l) k != 0) (fun j hj => by
      show ((look1 (s.data.toList.getD j 0) (arg l j) (inAt s (arg l) j)).1 != 0) = false
      rw [hin j (by omega), hI j hj]; rfl), hin _ (Nat.le_refl _)]
theorem mayn (a : Int) : Val.mayB (num a) = true := (by decide +kernel : Val.isE ⟨#[]⟩ = true)
theorem mayt (s : ByteArray) (h : s.size ≤ 32767) : Val.mayB (txt s) = true := by
  show (true && decide (s.size ≤ 32767)) = true
  rw [decide_eq_true h]; rfl
theorem lookn (a : Int) (I : In) : look1 110 (num a) I = (0, ⟨I.ns ++ [a], I.ts, I.b, I.v⟩) := by
  have : Val.number (num a) = (a, 0) := by unfold Val.number Val.good; rw [mayn]; rfl
  show (cond true _ _ : Int × In) = _
  rw [this]
  rfl
theorem lookt (s : ByteArray) (h : s.size ≤ 32767) (I : In) : look1 116 (txt s) I = (0, ⟨I.ns, I.ts ++ [s], I.b, I.v⟩) := by
  have : Val.asText (txt s) = (s, 0) := by unfold Val.asText Val.good; rw [mayt s h]; rfl
  show (cond false _ (cond true _ _) : Int × In) = _
  rw [this]
  rfl
abbrev iv (ns : List Int) (ts : List ByteArray) : In := ⟨ns, ts, false, ⟨0, 0, ⟨#[]⟩⟩⟩
theorem lit_t (f : Nat) (hf : f = 16 ∨ f = 20 ∨ f = 21 ∨ f = 23) (s : ByteArray) (h : s.size ≤ 32767) : callM (f : Int) 1 (arg [txt s]) = (work f (iv [] [s]), 0) := by
  refine callM_lit f ⟨#[116]⟩ [txt s] 1 (fun k => match k with | 0 => iv [] [] | _ => iv [] [s]) rfl (by rcases hf with rfl | rfl | rfl | rfl <;> decide +kernel) (by rcases hf with rfl | rfl | rfl | rfl <;> decide +kernel) ?_ ?_ rfl ?_
  · intro k hk; match k, hk with | 0, _ => exact mayt s h
  · intro k hk; match k, hk with | 0, _ => rfl
  · intro k hk; match k, hk with | 0, _ => exact lookt s h _
theorem lit_tn (f : Nat) (hf : f = 17 ∨ f = 18 ∨ f = 27) (s : ByteArray) (n : Int) (h : s.size ≤ 32767) : callM (f : Int) 2 (arg [txt s, num n]) = (work f (iv [n] [s]), 0) := by
  refine callM_lit f ⟨#[116, 110]⟩ [txt s, num n] 2 (fun k => match k with | 0 => iv [] [] | 1 => iv [] [s] | _ => iv [n] [s]) rfl (by rcases hf with rfl | rfl | rfl <;> decide +kernel) (by rcases hf with rfl | rfl | rfl <;> decide +kernel) ?_ ?_ rfl ?_
  · intro k hk; match k, hk with | 0, _ => exact mayt s h | 1, _ => exact mayn _
  · intro k hk; match k, hk with | 0, _ => rfl | 1, _ => rfl
  · intro k hk; match k, hk with | 0, _ => exact lookt s h _ | 1, _ => exact lookn n _
theorem lit_tnn (s : ByteArray) (n m : Int) (h : s.size ≤ 32767) : callM 19 3 (arg [txt s, num n, num m]) = (work 19 (iv [n, m] [s]), 0) := by
  refine callM_lit 19 ⟨#[116, 110, 110]⟩ [txt s, num n, num m] 3 (fun k => match k with | 0 => iv [] [] | 1 => iv [] [s] | 2 => iv [n] [s] | _ => iv [n, m] [s]) rfl (by decide +kernel) (by decide +kernel) ?_ ?_ rfl ?_
  · intro k hk; match k, hk with | 0, _ => exact mayt s h | 1, _ => exact mayn _ | 2, _ => exact mayn _
  · intro k hk; match k, hk with | 0, _ => rfl | 1, _ => rfl | 2, _ => rfl
  · intro k hk; match k, hk with | 0, _ => exact lookt s h _ | 1, _ => exact lookn n _ | 2, _ => exact lookn m _
theorem lit_tt (s t : ByteArray) (h : s.size ≤ 32767) (h2 : t.size ≤ 32767) : callM 24 2 (arg [txt s, txt t]) = (work 24 (iv [] [s, t]), 0) := by
  refine callM_lit 24 ⟨#[116, 116, 110]⟩ [txt s, txt t] 2 (fun k => match k with | 0 => iv [] [] | 1 => iv [] [s] | _ => iv [] [s, t]) rfl (by decide +kernel) (by decide +kernel) ?_ ?_ rfl ?_
  · intro k hk; match k, hk with | 0, _ => exact mayt s h | 1, _ => exact mayt t h2
  · intro k hk; match k, hk with | 0, _ => rfl | 1, _ => rfl
  · intro k hk; match k, hk with | 0, _ => exact lookt s h _ | 1, _ => exact lookt t h2 _
theorem lit_tnnt (s t : ByteArray) (n m : Int) (h : s.size ≤ 32767) (h2 : t.size ≤ 32767) : callM 26 4 (arg [txt s, num n, num m, txt t]) = (work 26 (iv [n, m] [s, t]), 0) := by
  refine callM_lit 26 ⟨#[116, 110, 110, 116]⟩ [txt s, num n, num m, txt t] 4 (fun k => match k with | 0 => iv [] [] | 1 => iv [] [s] | 2 => iv [n] [s] | 3 => iv [n, m] [s] | _ => iv [n, m] [s, t]) rfl (by decide +kernel) (by decide +kernel) ?_ ?_ rfl ?_
  · intro k hk; match k, hk with | 0, _ => exact mayt s h | 1, _ => exact mayn _ | 2, _ => exact mayn _ | 3, _ => exact mayt t h2
  · intro k hk; match k, hk with | 0, _ => rfl | 1, _ => rfl | 2, _ => rfl | 3, _ => rfl
  · intro k hk; match k, hk with | 0, _ => exact lookt s h _ | 1, _ => exact lookn n _ | 2, _ => exact lookn m _ | 3, _ => exact lookt t h2 _
theorem spelt_txt (s : ByteArray) (h : s.size ≤ 32767) : spelt s 0 = txt s := by
  show cond (true && decide (s.size ≤ 32767)) (txt s) (bad 4) = _
  rw [decide_eq_true h]; rfl
/-- The first m runes, and the others. -/
def fore (s : ByteArray) (m : Nat) : ByteArray := s.extract 0 (Run.adv s m 0)
def aft (s : ByteArray) (m : Nat) : ByteArray := s.extract (Run.adv s m 0) s.size
theorem fore_aft (s : ByteArray) (m : Nat) : fore s m ++ aft s m = s := cut_join s _ (Run.adv_le s m 0 (by omega))
theorem fore_size (s : ByteArray) (m : Nat) : (fore s m).size ≤ s.size := by
  unfold fore; have := Run.adv_le s m 0 (by omega); simp; omega
theorem aft_size (s : ByteArray) (m : Nat) : (aft s m).size ≤ s.size := by unfold aft; simp
section
variable (s wi : ByteArray) (m : Nat) (hm : m ≤ Run.cnt s 0) (hs : s.size ≤ 10000) (hw : wi.size ≤ 10000)
include hs
theorem t_len : callM 16 1 (arg [txt s]) = (num (Run.cnt s 0 : Int), 0) := lit_t 16 (by omega) s (by omega)
theorem t_left : callM 17 2 (arg [txt s, num (m : Int)]) = (txt (fore s m), 0) := by
  refine (lit_tn 17 (by omega) s _ (by omega)).trans ?_
  show (spelt (leftV s (m : Int)).1 (leftV s (m : Int)).2, _) = _
  have := fore_size s m
  unfold leftV
  rw [if_neg (by omega), Int.toNat_natCast]
  show (spelt (fore s m) 0, _) = _
  rw [spelt_txt _ (by omega)]
include hm in
theorem t_right : callM 18 2 (arg [txt s, num ((Run.cnt s 0 : Int) - (m : Int))]) = (txt (aft s m), 0) := by
  refine (lit_tn 18 (by omega) s _ (by omega)).trans ?_
  show (spelt (rightV s ((Run.cnt s 0 : Int) - (m : Int))).1 (rightV s ((Run.cnt s 0 : Int) - (m : Int))).2, _) = _
  have := aft_size s m
  unfold rightV
  rw [if_neg (by omega), show Run.cnt s 0 - ((Run.cnt s 0 : Int) - (m : Int)).toNat = m by omega]
  show (spelt (aft s m) 0, _) = _
  rw [spelt_txt _ (by omega)]
theorem t_mid1 : callM 19 3 (arg [txt s, num 1, num (m : Int)]) = (txt (fore s m), 0) := by
  refine (lit_tnn s _ _ (by omega)).trans ?_
  show (spelt (midV s 1 (m : Int)).1 (midV s 1 (m : Int)).2, _) = _
  have := fore_size s m
  unfold midV
  rw [if_neg (by omega), show ((1 : Int) - 1).toNat = 0 by omega, show 0 + ((m : Int)).toNat = m by omega]
  show (spelt (fore s m) 0, _) = _
  rw [spelt_txt _ (by omega)]
theorem t_mid2 : callM 19 3 (arg [txt s, num ((m : Int) + 1), num (Run.cnt s 0 : Int)]) = (txt (aft s m), 0) := by
  refine (lit_tnn s _ _ (by omega)).trans ?_
  show (spelt (midV s ((m : Int) + 1) (Run.cnt s 0 : Int)).1 (midV s ((m : Int) + 1) (Run.cnt s 0 : Int)).2, _) = _
  have := aft_size s m
  unfold midV
  rw [if_neg (by omega), show ((m : Int) + 1 - 1).toNat = m by omega, show m + ((Run.cnt s 0 : Int)).toNat = m + Run.cnt s 0 by omega, Run.adv_over s (m + Run.cnt s 0) (by omega)]
  show (spelt (aft s m) 0, _) = _
  rw [spelt_txt _ (by omega)]
include hw
theorem t_rep1 : callM 26 4 (arg [txt s, num ((m : Int) + 1), num 0, txt wi]) = (txt (fore s m ++ wi ++ aft s m), 0) := by
  refine (lit_tnnt s wi _ _ (by omega) (by omega)).trans ?_
  show (replV s ((m : Int) + 1) 0 wi, _) = _
  have h1 := fore_size s m
  have h2 := aft_size s m
  unfold replV replT
  rw [if_neg (by omega), show ((m : Int) + 1 - 1).toNat = m by omega, show m + (0 : Int).toNat = m by omega]
  show (spelt (fore s m ++ wi ++ aft s m) 0, _) = _
  rw [spelt_txt _ (by simp; omega)]
theorem t_rep2 : callM 26 4 (arg [txt s, num 1, num (m : Int), txt wi]) = (txt (wi ++ aft s m), 0) := by
  refine (lit_tnnt s wi _ _ (by omega) (by omega)).trans ?_
  show (replV s 1 (m : Int) wi, _) = _
  have h2 := aft_size s m
  unfold replV replT
  rw [if_neg (by omega), show ((1 : Int) - 1).toNat = 0 by omega, show 0 + ((m : Int)).toNat = m by omega, Run.adv_zero, show s.extract 0 0 ++ wi = wi by apply ByteArray.ext; simp]
  show (spelt (wi ++ aft s m) 0, _) = _
  rw [spelt_txt _ (by simp; omega)]
omit hw
theorem t_turn : callM 23 1 (arg [txt s]) = (txt (turned s), 0) := lit_t 23 (by omega) s (by omega)
theorem t_low : callM 21 1 (arg [txt s]) = (txt (eachS lowB s), 0) := lit_t 21 (by omega) s (by omega)
theorem t_up : callM 20 1 (arg [txt s]) = (txt (eachS upB s), 0) := lit_t 20 (by omega) s (by omega)
end
theorem up_low (s : ByteArray) : eachS upB (eachS lowB s) = eachS upB s := by
  have h : ∀ c : UInt8, upB (lowB c) = upB c := by
    intro c
    have hc := c.toNat_lt
    unfold upB lowB
    by_cases h1 : 65 ≤ c.toNat ∧ c.toNat ≤ 90
    · rw [decide_eq_true h1.1, decide_eq_true h1.2]
      have e : (UInt8.ofNat (c.toNat + 32)).toNat = c.toNat + 32 := by simp; omega
      simp only [Bool.and_self, cond_true, e]
      rw [decide_eq_true (by omega : 97 ≤ c.toNat + 32), decide_eq_true (by omega : c.toNat + 32 ≤ 122), decide_eq_false (by omega : ¬ 97 ≤ c.toNat)]
      show UInt8.ofNat (c.toNat + 32 - 32) = c
      rw [Nat.add_sub_cancel]; simp
    · have e : (decide (65 ≤ c.toNat) && decide (c.toNat ≤ 90)) = false := by
        rw [← Bool.decide_and]; exact decide_eq_false h1
      rw [e]; rfl
  unfold eachS
  simp [List.map_map, Function.comp_def, h]
theorem hp_self (l : List UInt8) : Lib.hasPrefix l l = true := by
  induction l with
  | nil => rfl
  | cons a l ih => simp [Lib.hasPrefix]
theorem has_aft (s : ByteArray) (m : Nat) : Has (aft s m) s m = true := by
  unfold Has aft
  have e : (s.extract (Run.adv s m 0) s.size).data.toList = s.data.toList.drop (Run.adv s m 0) := by
    simp
    rw [List.take_of_length_le (by simp)]
  rw [e]
  exact hp_self _
theorem findF_le (what s : ByteArray) : ∀ (n k j : Nat), k ≤ j → j ≤ k + n → Has what s j = true → ∃ i : Nat, k ≤ i ∧ i ≤ j ∧ findF what s k n = ((i : Int) + 1, 0)
  | 0, k, j, h1, h2, h3 => by
    obtain rfl : k = j := by omega
    unfold findF; rw [h3]; exact ⟨k, Nat.le_refl _, Nat.le_refl _, rfl⟩
  | n + 1, k, j, h1, h2, h3 => by
    unfold findF
    cases h : Has what s k with
    | true => exact ⟨k, Nat.le_refl _, h1, rfl⟩
    | false =>
      have : k ≠ j := fun e => by rw [← e, h] at h3; cases h3
      obtain ⟨i, a, b, c⟩ := findF_le what s n (k + 1) j (by omega) (by omega) h3
      exact ⟨i, by omega, b, c⟩
theorem t_find (s : ByteArray) (m : Nat) (hm : m ≤ Run.cnt s 0) (hs : s.size ≤ 10000) : ∃ i : Nat, i ≤ m ∧ callM 24 2 (arg [txt (aft s m), txt s]) = (num ((i : Int) + 1), 0) := by
  have h2 := aft_size s m
  obtain ⟨i, _, h1, h⟩ := findF_le (aft s m) s (Run.cnt s 0 + 1 - (1 : Int).toNat) ((1 : Int).toNat - 1) m (by omega) (by have : (1 : Int).toNat = 1 := rfl; omega) (has_aft s m)
  refine ⟨i, h1, (lit_tt (aft s m) s (by omega) (by omega)).trans ?_⟩
  show (cond ((findV (aft s m) s 1).2 == 0) (num (findV (aft s m) s 1).1) (bad 4), _) = _
  unfold findV
  rw [if_neg (by omega), h]
  rfl
theorem t_times (s : ByteArray) (n : Nat) (hs : s.size ≤ 10000) :
    (32767 < s.size * n ∧ callM 27 2 (arg [txt s, num (n : Int)]) = (bad 4, 0)) ∨ (¬ 32767 < s.size * n ∧ ∃ t : ByteArray, t.size = s.size * n ∧ callM 27 2 (arg [txt s, num (n : Int)]) = (txt t, 0)) := by
  have e : callM 27 2 (arg [txt s, num (n : Int)]) = (spelt (timesR s n).1 (timesR s n).2, 0) := by
    refine (lit_tn 27 (by omega) s _ (by omega)).trans ?_
    show (spelt (timesV s (n : Int)).1 (timesV s (n : Int)).2, _) = _
    unfold timesV
    rw [if_neg (by omega), Int.toNat_natCast]
  rw [e]
  unfold timesR
  by_cases h0 : s.size = 0
  · rw [if_pos h0, h0, Nat.zero_mul]
    exact .inr ⟨by omega, ⟨#[]⟩, rfl, rfl⟩
  · rw [if_neg h0]
    by_cases h1 : 32767 < s.size * n
    · rw [if_pos h1]; exact .inl ⟨h1, rfl⟩
    · rw [if_neg h1]
      have hz := rep_size s n
      have hz2 : (rep s n).size ≤ 32767 := by omega
      refine .inr ⟨h1, rep s n, hz, ?_⟩
      show (spelt (rep s n) 0, (0 : Int)) = _
      rw [spelt_txt _ hz2]
theorem t_join (s : ByteArray) (m : Nat) (hs : s.size ≤ 10000) : bin 6 (txt (fore s m)) (txt (aft s m)) = txt s := by
  have h1 := fore_size s m
  have h2 := aft_size s m
  have g1 : Val.good (txt (fore s m)) = txt (fore s m) := by unfold Val.good; rw [mayt _ (by omega)]; rfl
  have g2 : Val.good (txt (aft s m)) = txt (aft s m) := by unfold Val.good; rw [mayt _ (by omega)]; rfl
  have a1 : Val.asText (txt (fore s m)) = (fore s m, 0) := by unfold Val.asText; rw [g1]; rfl
  have a2 : Val.asText (txt (aft s m)) = (aft s m, 0) := by unfold Val.asText; rw [g2]; rfl
  have j := fore_aft s m
  generalize fore s m = a at *
  generalize aft s m = b at *
  subst j
  have e : bin 6 (txt a) (txt b) = two 6 (txt a) (txt b) := by
    unfold bin
    rw [if_neg (by omega), g1, g2]
    rfl
  have e2 : two 6 (txt a) (txt b) = spelt ((Val.asText (txt a)).1 ++ (Val.asText (txt b)).1) 0 := rfl
  rw [e, e2, a1, a2]
  exact spelt_txt _ (show (a ++ b).size ≤ 32767 by omega)
end Cal
end Go.Proofs.YtpiiemneelkpkaaGreatDoor
