/- Decimal numerals: what is written is read back, and only what would be written is read. Plain lists of bytes; no program. -/
import Derived.Lib.ItoaNum
import Derived.Lib.ParseIntBCases
namespace Go.Proofs.YtdbjmjeiaajdiaaDoor.Dec
open Go.Lib

/-- A byte that is a digit. -/
def dig (c : UInt8) : Bool := decide (48 ≤ c.toNat ∧ c.toNat ≤ 57)
/-- A digit's worth. -/
def dv (c : UInt8) : Nat := c.toNat - 48
theorem dv_eq (c : UInt8) : dv c = c.toNat - 48 := rfl
attribute [irreducible] dv
/-- What digits spell behind acc. -/
def dval : Nat → List UInt8 → Nat
  | acc, [] => acc
  | acc, c :: r => dval (acc * 10 + dv c) r
theorem dval_nil (acc : Nat) : dval acc [] = acc := rfl
theorem dval_cons (acc : Nat) (c : UInt8) (r : List UInt8) : dval acc (c :: r) = dval (acc * 10 + (c.toNat - 48)) r := by rw [dval, dv_eq]

theorem dig_iff {c : UInt8} : dig c = true ↔ 48 ≤ c.toNat ∧ c.toNat ≤ 57 := by simp [dig]

theorem dval_append (a b : List UInt8) (acc : Nat) : dval acc (a ++ b) = dval (dval acc a) b := by
  induction a generalizing acc with
  | nil => rfl
  | cons c r ih => simp only [List.cons_append, dval_cons, ih]
theorem dval_ge (l : List UInt8) (acc : Nat) : acc ≤ dval acc l := by
  induction l generalizing acc with
  | nil => exact Nat.le_refl _
  | cons c r ih =>
    have := ih (acc * 10 + (c.toNat - 48))
    rw [dval_cons]; omega
theorem dval_lt (l : List UInt8) (acc : Nat) (h : l.all dig = true) : dval acc l < (acc + 1) * 10 ^ l.length := by
  induction l generalizing acc with
  | nil => simp [dval_nil]
  | cons c r ih =>
    simp only [List.all_cons, Bool.and_eq_true] at h
    have hc := dig_iff.1 h.1
    have := ih (acc * 10 + (c.toNat - 48)) h.2
    simp only [dval_cons, List.length_cons, Nat.pow_succ]
    refine Nat.lt_of_lt_of_le this ?_
    have h2 : acc * 10 + (c.toNat - 48) + 1 ≤ (acc + 1) * 10 := by omega
    calc (acc * 10 + (c.toNat - 48) + 1) * 10 ^ r.length ≤ ((acc + 1) * 10) * 10 ^ r.length := Nat.mul_le_mul_right _ h2
      _ = (acc + 1) * (10 ^ r.length * 10) := by rw [Nat.mul_assoc, Nat.mul_comm 10]

theorem parseM (l : List UInt8) (acc : Nat) (h : l.all dig = true) (ha : acc ≤ 18446744073709551615) :
    parseUintM 18446744073709551615 acc l = if dval acc l ≤ 18446744073709551615 then .ok (dval acc l) else .range := by
  induction l generalizing acc with
  | nil => simp [parseUintM, dval_nil, ha]
  | cons c r ih =>
    simp only [List.all_cons, Bool.and_eq_true] at h
    have hc := dig_iff.1 h.1
    have hge := dval_ge r (acc * 10 + (c.toNat - 48))
    rw [dval_cons]
    simp only [parseUintM]
    rw [if_pos hc]
    by_cases h1 : 1844674407370955162 ≤ acc
    · rw [if_pos h1, if_neg (by omega)]
    · rw [if_neg h1]
      by_cases h2 : 18446744073709551615 < acc * 10 + (c.toNat - 48)
      · rw [if_pos h2, if_neg (by omega)]
      · rw [if_neg h2, ih _ h.2 (by omega)]

theorem parseB (l : List UInt8) (hn : l ≠ []) (h : l.all dig = true) :
    parseUintB 64 l = if dval 0 l ≤ 18446744073709551615 then .ok (dval 0 l) else .range := by
  have e : (2 : Nat) ^ 64 - 1 = 18446744073709551615 := by decide
  unfold parseUintB
  rw [if_neg hn, e, parseM l 0 h (by omega)]

/-! ### The numeral -/
theorem ofNat_dig (d : Nat) (h : d < 10) : (UInt8.ofNat (48 + d)).toNat = 48 + d := by
  simp [UInt8.toNat_ofNat']; omega
theorem dec_small {u : Nat} (h : u < 10) : decDigits u = [UInt8.ofNat (48 + u)] := by rw [decDigits, dif_pos h]
theorem dec_big {u : Nat} (h : ¬ u < 10) : decDigits u = decDigits (u / 10) ++ [UInt8.ofNat (48 + u % 10)] := by rw [decDigits, dif_neg h]
theorem dec_ne (u : Nat) : decDigits u ≠ [] := by
  by_cases h : u < 10
  · rw [dec_small h]; simp
  · rw [dec_big h]; simp
theorem dec_dig (u : Nat) : (decDigits u).all dig = true := by
  induction u using Nat.strongRecOn with
  | _ u ih =>
    by_cases h : u < 10
    · rw [dec_small h]; simp only [List.all_cons, List.all_nil, Bool.and_true, dig_iff, ofNat_dig u h]; omega
    · rw [dec_big h, List.all_append, ih (u / 10) (by omega)]
      simp only [List.all_cons, List.all_nil, Bool.and_true, Bool.true_and, dig_iff, ofNat_dig (u % 10) (by omega)]; omega
theorem dec_val (u : Nat) : dval 0 (decDigits u) = u := by
  induction u using Nat.strongRecOn with
  | _ u ih =>
    by_cases h : u < 10
    · rw [dec_small h]; simp only [dval_cons, dval_nil, ofNat_dig u h]; omega
    · rw [dec_big h, dval_append, ih (u / 10) (by omega)]
      simp only [dval_cons, dval_nil, ofNat_dig (u % 10) (by omega)]; omega
theorem dec_zero : decDigits 0 = [48] := by rw [dec_small (by omega)]; rfl
theorem dec_head (u : Nat) (h0 : 1 ≤ u) : ∃ c r, decDigits u = c :: r ∧ 49 ≤ c.toNat ∧ c.toNat ≤ 57 := by
  induction u using Nat.strongRecOn with
  | _ u ih =>
    by_cases h : u < 10
    · exact ⟨_, _, dec_small h, by rw [ofNat_dig u h]; omega, by rw [ofNat_dig u h]; omega⟩
    · obtain ⟨c, r, e, h1, h2⟩ := ih (u / 10) (by omega) (by omega)
      exact ⟨c, r ++ [UInt8.ofNat (48 + u % 10)], by rw [dec_big h, e]; rfl, h1, h2⟩
theorem dec_len (u k : Nat) (hk : 1 ≤ k) (h : u < 10 ^ k) : (decDigits u).length ≤ k := by
  induction k generalizing u with
  | zero => omega
  | succ k ih =>
    by_cases h1 : u < 10
    · rw [dec_small h1]; simp
    · rw [dec_big h1, List.length_append]
      have hk1 : 1 ≤ k := by
        rcases Nat.eq_zero_or_pos k with e | e
        · subst e; simp at h; omega
        · exact e
      have := ih (u / 10) hk1 (by rw [Nat.pow_succ] at h; omega)
      simp; omega

/-- The one form: digits without an idle 0 ahead. -/
def form (d : List UInt8) : Bool := d.all dig && !d.isEmpty && (d.head? != some 48 || d == [48])

theorem toNat_inj {a b : UInt8} (h : a.toNat = b.toNat) : a = b := UInt8.toNat_inj.1 h
theorem ofNat_of_dig {c : UInt8} (h : dig c = true) : UInt8.ofNat (48 + (c.toNat - 48)) = c := by
  have := dig_iff.1 h
  exact toNat_inj (by rw [ofNat_dig _ (by omega)]; omega)

theorem dec_of_form_rev : ∀ (r : List UInt8), (r.reverse).all dig = true → r ≠ [] → (r.reverse.head? ≠ some 48 ∨ r = [48]) → decDigits (dval 0 r.reverse) = r.reverse
  | [], _, hn, _ => absurd rfl hn
  | [c], hd, _, _ => by
    simp only [List.reverse_cons, List.reverse_nil, List.nil_append, List.all_cons, List.all_nil, Bool.and_true] at hd ⊢
    have hc := dig_iff.1 hd
    simp only [dval_cons, dval_nil]
    rw [dec_small (by omega), Nat.zero_mul, Nat.zero_add, ofNat_of_dig hd]
  | c :: b :: r, hd, _, hh => by
    have e : (c :: b :: r).reverse = (b :: r).reverse ++ [c] := by simp
    rw [e] at hd hh ⊢
    rw [List.all_append, Bool.and_eq_true] at hd
    simp only [List.all_cons, List.all_nil, Bool.and_true] at hd
    have hc := dig_iff.1 hd.2
    have hh' : (b :: r).reverse.head? ≠ some 48 := by
      rcases hh with h | h
      · intro e2
        apply h
        rw [List.head?_append, e2]
        rfl
      · cases h
    have ih := dec_of_form_rev (b :: r) hd.1 (by simp) (.inl hh')
    have hpos : 1 ≤ dval 0 (b :: r).reverse := by
      rcases Nat.eq_zero_or_pos (dval 0 (b :: r).reverse) with e0 | e0
      · rw [e0, dec_zero] at ih
        rw [← ih] at hh'
        exact absurd rfl hh'
      · exact e0
    rw [dval_append]
    simp only [dval_cons, dval_nil]
    rw [dec_big (by omega)]
    have e1 : (dval 0 (b :: r).reverse * 10 + (c.toNat - 48)) / 10 = dval 0 (b :: r).reverse := by omega
    have e2 : (dval 0 (b :: r).reverse * 10 + (c.toNat - 48)) % 10 = c.toNat - 48 := by omega
    rw [e1, e2, ih, ofNat_of_dig hd.2]

theorem dec_of_form {d : List UInt8} (h : form d = true) : decDigits (dval 0 d) = d := by
  unfold form at h
  simp only [Bool.and_eq_true, Bool.or_eq_true] at h
  have := dec_of_form_rev d.reverse (by rw [List.reverse_reverse]; exact h.1.1) (by
    intro e
    have : d = [] := by simpa using e
    subst this
    simp at h) (by
    rw [List.reverse_reverse]
    rcases h.2 with h2 | h2
    · exact .inl (by simpa using h2)
    · right
      have : d = [48] := by simpa using h2
      subst this; rfl)
  rwa [List.reverse_reverse] at this

theorem form_dec (u : Nat) : form (decDigits u) = true := by
  unfold form
  rw [dec_dig]
  rcases Nat.eq_zero_or_pos u with h | h
  · subst h; rw [dec_zero]; rfl
  · obtain ⟨c, r, e, h1, h2⟩ := dec_head u h
    rw [e]
    have : c ≠ 48 := by intro e; subst e; simp at h1
    simp [this]

/-! ### Reading -/
/-- A text without its sign. -/
def body (l : List UInt8) : List UInt8 := cond (l.head? == some 45) l.tail l
/-- What whole.Read answers: the number, the error's number (12: no whole number's one form; 13: beyond 64 bits). -/
def isForm (l : List UInt8) : Bool := form (body l) && !(l.head? == some 45 && body l == [48])
def readS (l : List UInt8) : Int × Int :=
  if isForm l then (match parseIntB 64 l with | .ok v => (v, 0) | _ => (0, 13)) else (0, 12)

theorem p63 : (2 : Nat) ^ (64 - 1) = 9223372036854775808 := by decide

theorem parseI_minus (d : List UInt8) (hn : d ≠ []) (hd : d.all dig = true) :
    parseIntB 64 (45 :: d) = if dval 0 d ≤ 9223372036854775808 then .ok (-(dval 0 d : Int)) else .range := by
  rw [parseIntB_minus, parseB d hn hd, p63]
  by_cases h : dval 0 d ≤ 18446744073709551615
  · rw [if_pos h]
    simp only [signedC]
    by_cases h2 : 9223372036854775808 < dval 0 d
    · rw [if_pos h2, if_neg (by omega)]
    · rw [if_neg h2, if_pos (by omega)]
  · rw [if_neg h, if_neg (by omega)]; rfl
theorem parseI_plain (d : List UInt8) (hn : d ≠ []) (hd : d.all dig = true) :
    parseIntB 64 d = if dval 0 d < 9223372036854775808 then .ok (dval 0 d : Int) else .range := by
  match d, hn with
  | c :: r, hn =>
    have hc : dig c = true := by simp only [List.all_cons, Bool.and_eq_true] at hd; exact hd.1
    have hc' := dig_iff.1 hc
    rw [parseIntB_plain 64 c r (by omega) (by omega), parseB (c :: r) hn hd, p63]
    by_cases h : dval 0 (c :: r) ≤ 18446744073709551615
    · rw [if_pos h]
      simp only [signlessC]
      by_cases h2 : 9223372036854775808 ≤ dval 0 (c :: r)
      · rw [if_pos h2, if_neg (by omega)]
      · rw [if_neg h2, if_pos (by omega)]
    · rw [if_neg h, if_neg (by omega)]; rfl

theorem form_parts {d : List UInt8} (h : form d = true) : d.all dig = true ∧ d ≠ [] := by
  unfold form at h
  simp only [Bool.and_eq_true] at h
  exact ⟨h.1.1, by intro e; subst e; simp at h⟩

/-- A text of the one form: with a sign, or without. -/
theorem isForm_cases {l : List UInt8} (h : isForm l = true) :
    (∃ d, l = 45 :: d ∧ form d = true ∧ d ≠ [48]) ∨ (form l = true ∧ l.head? ≠ some 45) := by
  unfold isForm body at h
  match l with
  | [] => simp [form] at h
  | c :: r =>
    by_cases hc : c = 45
    · subst hc
      left
      simp at h
      exact ⟨r, rfl, h.1, h.2⟩
    · right
      have hc2 : (c == 45) = false := by simpa using hc
      simp [hc2] at h
      exact ⟨h, by simpa using hc⟩

theorem isForm_minus {d : List UInt8} (h : form d = true) (h2 : d ≠ [48]) : isForm (45 :: d) = true := by
  unfold isForm body
  simp [h, h2]
theorem isForm_plain {d : List UInt8} (h : form d = true) : isForm d = true := by
  obtain ⟨hd, hn⟩ := form_parts h
  match d, hn with
  | c :: r, _ =>
    have hc : dig c = true := by simp only [List.all_cons, Bool.and_eq_true] at hd; exact hd.1
    have hc' := dig_iff.1 hc
    have hne : c ≠ 45 := by intro e; subst e; simp at hc'
    have hc2 : (c == 45) = false := by simpa using hne
    unfold isForm body
    simp [hc2, h]

/-- WHAT IS WRITTEN IS READ BACK. -/
theorem read_itoa (n : Int) (h0 : -9223372036854775808 ≤ n) (h1 : n ≤ 9223372036854775807) : readS (itoa n) = (n, 0) := by
  unfold readS itoa
  by_cases hn : n < 0
  · rw [if_pos hn]
    have hne : decDigits n.natAbs ≠ [48] := by
      intro e
      obtain ⟨c, r, e2, h3, _⟩ := dec_head n.natAbs (by omega)
      rw [e] at e2
      cases e2
      simp at h3
    rw [if_pos (isForm_minus (form_dec _) hne), parseI_minus _ (dec_ne _) (dec_dig _), dec_val, if_pos (by omega)]
    have : -(n.natAbs : Int) = n := by omega
    simp [this]
  · rw [if_neg hn, if_pos (isForm_plain (form_dec _)), parseI_plain _ (dec_ne _) (dec_dig _), dec_val, if_pos (by omega)]
    have : (n.toNat : Int) = n := by omega
    simp [this]

/-- WHAT IS READ IS WHAT WOULD BE WRITTEN. -/
theorem itoa_read {l : List UInt8} {k : Int} (h : readS l = (k, 0)) : itoa k = l := by
  unfold readS at h
  by_cases hf : isForm l = true
  · rw [if_pos hf] at h
    rcases isForm_cases hf with ⟨d, rfl, hd, hne⟩ | ⟨hd, _⟩
    · obtain ⟨hdd, hdn⟩ := form_parts hd
      rw [parseI_minus d hdn hdd] at h
      have hdec := dec_of_form hd
      have hpos : 1 ≤ dval 0 d := by
        rcases Nat.eq_zero_or_pos (dval 0 d) with e0 | e0
        · rw [e0, dec_zero] at hdec
          exact absurd hdec.symm hne
        · exact e0
      by_cases hv : dval 0 d ≤ 9223372036854775808
      · rw [if_pos hv] at h
        simp only [Prod.mk.injEq] at h
        obtain ⟨rfl, _⟩ := h
        unfold itoa
        rw [if_pos (by omega)]
        have : (-(dval 0 d : Int)).natAbs = dval 0 d := by omega
        rw [this, hdec]
      · rw [if_neg hv] at h; simp at h
    · obtain ⟨hdd, hdn⟩ := form_parts hd
      rw [parseI_plain l hdn hdd] at h
      by_cases hv : dval 0 l < 9223372036854775808
      · rw [if_pos hv] at h
        simp only [Prod.mk.injEq] at h
        obtain ⟨rfl, _⟩ := h
        unfold itoa
        rw [if_neg (by omega), Int.toNat_natCast, dec_of_form hd]
      · rw [if_neg hv] at h; simp at h
  · rw [if_neg hf] at h; simp at h

/-- What the answers are: a number of 64 bits and no error; or 0 and one of two errors, the second of a text of 19 bytes at the least. -/
theorem readS_range {l : List UInt8} {k e : Int} (h : readS l = (k, e)) :
    (e = 0 ∧ -9223372036854775808 ≤ k ∧ k ≤ 9223372036854775807) ∨ (k = 0 ∧ e = 12) ∨ (k = 0 ∧ e = 13 ∧ 19 ≤ l.length) := by
  unfold readS at h
  by_cases hf : isForm l = true
  · rw [if_pos hf] at h
    have big : ∀ d : List UInt8, d.all dig = true → 9223372036854775808 ≤ dval 0 d → 19 ≤ d.length := by
      intro d hd hb
      have hlt := dval_lt d 0 hd
      rcases Nat.lt_or_ge d.length 19 with h19 | h19
      · have : 10 ^ d.length ≤ 10 ^ 18 := Nat.pow_le_pow_right (by omega) (by omega)
        have e18 : (10 : Nat) ^ 18 = 1000000000000000000 := by decide
        omega
      · exact h19
    rcases isForm_cases hf with ⟨d, rfl, hd, hne⟩ | ⟨hd, _⟩
    · obtain ⟨hdd, hdn⟩ := form_parts hd
      rw [parseI_minus d hdn hdd] at h
      by_cases hv : dval 0 d ≤ 9223372036854775808
      · rw [if_pos hv] at h
        simp only [Prod.mk.injEq] at h
        exact .inl ⟨h.2.symm, by omega, by omega⟩
      · rw [if_neg hv] at h
        simp only [Prod.mk.injEq] at h
        have := big d hdd (by omega)
        exact .inr (.inr ⟨h.1.symm, h.2.symm, by simp; omega⟩)
    · obtain ⟨hdd, hdn⟩ := form_parts hd
      rw [parseI_plain l hdn hdd] at h
      by_cases hv : dval 0 l < 9223372036854775808
      · rw [if_pos hv] at h
        simp only [Prod.mk.injEq] at h
        exact .inl ⟨h.2.symm, by omega, by omega⟩
      · rw [if_neg hv] at h
        simp only [Prod.mk.injEq] at h
        have := big l hdd (by omega)
        exact .inr (.inr ⟨h.1.symm, h.2.symm, this⟩)
  · rw [if_neg hf] at h
    simp only [Prod.mk.injEq] at h
    exact .inr (.inl ⟨h.1.symm, h.2.symm⟩)

/-- A text that has the form is never refused as no number by strconv: so the one error is the range. -/
theorem parse_of_form {l : List UInt8} (h : isForm l = true) : (∃ v, parseIntB 64 l = .ok v) ∨ parseIntB 64 l = .range := by
  rcases isForm_cases h with ⟨d, rfl, hd, _⟩ | ⟨hd, _⟩
  · obtain ⟨hdd, hdn⟩ := form_parts hd
    rw [parseI_minus d hdn hdd]
    split
    · exact .inl ⟨_, rfl⟩
    · exact .inr rfl
  · obtain ⟨hdd, hdn⟩ := form_parts hd
    rw [parseI_plain l hdn hdd]
    split
    · exact .inl ⟨_, rfl⟩
    · exact .inr rfl

theorem itoa_len (n : Int) (h0 : -9223372036854775808 ≤ n) (h1 : n ≤ 9223372036854775807) : 1 ≤ (itoa n).length ∧ (itoa n).length ≤ 20 := by
  have e19 : (10 : Nat) ^ 19 = 10000000000000000000 := by decide
  unfold itoa
  split
  · have := dec_len n.natAbs 19 (by omega) (by omega)
    simp; omega
  · have := dec_len n.toNat 19 (by omega) (by omega)
    have := dec_ne n.toNat
    have : (decDigits n.toNat).length ≠ 0 := by simpa using this
    omega
end Go.Proofs.YtdbjmjeiaajdiaaDoor.Dec
