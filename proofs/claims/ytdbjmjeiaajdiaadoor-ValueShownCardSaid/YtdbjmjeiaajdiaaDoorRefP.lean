/- What the reference of stage 1 (quadrilleref1) computes with signs and magnitudes, in plain numbers; no program. -/
import Derived.Test.YtdbjmjeiaajdiaaDoorPowG
import Derived.Test.YtdbjmjeiaajdiaaDoorDec
namespace Go.Proofs.YtdbjmjeiaajdiaaDoor.Ref
open PowG

def val (neg : Bool) (m : Nat) : Int := cond neg (-(m : Int)) m
/-- A number and true where it is one of 64 bits, else 0 and false. -/
def fitV (v : Int) : Int := if Fits v then v else 0
def fitB (v : Int) : Bool := decide (Fits v)
def fitE (v : Int) : Int := if Fits v then 0 else 13
/-- What the reference's fits tells of a sign, a mark and a magnitude. -/
def rV (neg over : Bool) (m : Nat) : Int := cond over 0 (fitV (val neg m))
def rB (neg over : Bool) (m : Nat) : Bool := !over && fitB (val neg m)

theorem val_neg (a : Int) : val (decide (a < 0)) a.natAbs = a := by
  unfold val
  by_cases h : a < 0
  · rw [decide_eq_true h]; simp; omega
  · rw [decide_eq_false h]; simp; omega
def W : Nat := 18446744073709551616
def sumN (n1 : Bool) (m1 : Nat) (n2 : Bool) (m2 : Nat) : Bool := cond (n1 == n2) n1 (cond (decide (m2 ≤ m1)) n1 n2)
def sumM (n1 : Bool) (m1 : Nat) (n2 : Bool) (m2 : Nat) : Nat := cond (n1 == n2) ((m1 + m2) % 18446744073709551616) (cond (decide (m2 ≤ m1)) (m1 - m2) (m2 - m1))
def sumO (n1 : Bool) (m1 : Nat) (n2 : Bool) (m2 : Nat) : Bool := n1 == n2 && decide (18446744073709551616 ≤ m1 + m2)
theorem not_fits_great (neg : Bool) (m : Nat) (h : 18446744073709551616 ≤ m) : ¬ Fits (val neg m) := by
  unfold Fits val; cases neg <;> simp <;> omega
/-- A sum's fields are the sum's, or its mark is set and it is no number of 64 bits. -/
theorem sum_tells (n1 : Bool) (m1 : Nat) (n2 : Bool) (m2 : Nat) (_h1 : m1 < 18446744073709551616) (_h2 : m2 < 18446744073709551616) :
    (sumO n1 m1 n2 m2 = false ∧ val (sumN n1 m1 n2 m2) (sumM n1 m1 n2 m2) = val n1 m1 + val n2 m2) ∨ (sumO n1 m1 n2 m2 = true ∧ ¬ Fits (val n1 m1 + val n2 m2)) := by
  unfold sumO sumN sumM val
  by_cases h : n1 = n2
  · subst h
    by_cases ho : 18446744073709551616 ≤ m1 + m2
    · right
      refine ⟨by simp [ho], ?_⟩
      unfold Fits
      cases n1 <;> simp <;> omega
    · left
      refine ⟨by simp; omega, ?_⟩
      have : (m1 + m2) % 18446744073709551616 = m1 + m2 := Nat.mod_eq_of_lt (by omega)
      simp only [beq_self_eq_true, cond_true, this]
      cases n1 <;> simp <;> omega
  · left
    have hb : (n1 == n2) = false := by simpa using h
    rw [hb]
    refine ⟨rfl, ?_⟩
    simp only [cond_false]
    by_cases hm : m2 ≤ m1
    · rw [decide_eq_true hm]
      cases n1 <;> cases n2 <;> simp_all <;> omega
    · rw [decide_eq_false hm]
      cases n1 <;> cases n2 <;> simp_all <;> omega
theorem sum_fits (n1 : Bool) (m1 : Nat) (n2 : Bool) (m2 : Nat) (v : Int) (h1 : m1 < 18446744073709551616) (h2 : m2 < 18446744073709551616) (hv : val n1 m1 + val n2 m2 = v) :
    rV (sumN n1 m1 n2 m2) (sumO n1 m1 n2 m2) (sumM n1 m1 n2 m2) = fitV v ∧ rB (sumN n1 m1 n2 m2) (sumO n1 m1 n2 m2) (sumM n1 m1 n2 m2) = fitB v := by
  rcases sum_tells n1 m1 n2 m2 h1 h2 with ⟨a, b⟩ | ⟨a, b⟩
  · unfold rV rB; rw [a, b, hv]; exact ⟨rfl, rfl⟩
  · rw [hv] at b
    unfold rV rB fitV fitB; rw [a, if_neg b, decide_eq_false b]; exact ⟨rfl, rfl⟩
theorem sumM_lt (n1 : Bool) (m1 : Nat) (n2 : Bool) (m2 : Nat) (h1 : m1 < 18446744073709551616) (h2 : m2 < 18446744073709551616) : sumM n1 m1 n2 m2 < 18446744073709551616 := by
  unfold sumM
  cases (n1 == n2)
  · cases decide (m2 ≤ m1) <;> simp <;> omega
  · simp; omega

def prodM (m1 m2 : Nat) : Nat := m1 * m2 % 18446744073709551616
def prodO (m1 m2 : Nat) : Bool := decide (18446744073709551616 ≤ m1 * m2)
theorem prod_tell (m1 m2 : Nat) (h1 : m1 ≠ 0) (_h2 : m2 < 18446744073709551616) : (prodM m1 m2 / m1 = m2) ↔ ¬ 18446744073709551616 ≤ m1 * m2 := by
  unfold prodM
  constructor
  · intro e h
    have hl : m1 * (m1 * m2 % 18446744073709551616 / m1) ≤ m1 * m2 % 18446744073709551616 := Nat.mul_div_le _ _
    rw [e] at hl
    have : m1 * m2 % 18446744073709551616 < 18446744073709551616 := Nat.mod_lt _ (by decide)
    omega
  · intro h
    rw [Nat.mod_eq_of_lt (by omega), Nat.mul_div_cancel_left _ (by omega)]
theorem val_mul (n1 n2 : Bool) (m1 m2 : Nat) : val (n1 != n2) (m1 * m2) = val n1 m1 * val n2 m2 := by
  unfold val
  cases n1 <;> cases n2 <;> simp [Int.neg_mul, Int.mul_neg]
theorem prod_tells (n1 : Bool) (m1 : Nat) (n2 : Bool) (m2 : Nat) :
    (prodO m1 m2 = false ∧ val (n1 != n2) (prodM m1 m2) = val n1 m1 * val n2 m2) ∨ (prodO m1 m2 = true ∧ ¬ Fits (val n1 m1 * val n2 m2)) := by
  rw [← val_mul]
  unfold prodO prodM
  by_cases h : 18446744073709551616 ≤ m1 * m2
  · exact .inr ⟨decide_eq_true h, not_fits_great _ _ h⟩
  · exact .inl ⟨decide_eq_false h, by rw [Nat.mod_eq_of_lt (by omega)]⟩
theorem prod_fits (n1 : Bool) (m1 : Nat) (n2 : Bool) (m2 : Nat) (v : Int) (hv : val n1 m1 * val n2 m2 = v) :
    rV (n1 != n2) (prodO m1 m2) (prodM m1 m2) = fitV v ∧ rB (n1 != n2) (prodO m1 m2) (prodM m1 m2) = fitB v := by
  rcases prod_tells n1 m1 n2 m2 with ⟨a, b⟩ | ⟨a, b⟩
  · unfold rV rB; rw [a, b, hv]; exact ⟨rfl, rfl⟩
  · rw [hv] at b
    unfold rV rB fitV fitB; rw [a, if_neg b, decide_eq_false b]; exact ⟨rfl, rfl⟩
theorem prodM_lt (m1 m2 : Nat) : prodM m1 m2 < 18446744073709551616 := Nat.mod_lt _ (by decide)

theorem val_zero (n : Bool) : val n 0 = 0 := by cases n <;> rfl
theorem val_quo (a b : Int) : val (decide (a < 0) != decide (b < 0)) (a.natAbs / b.natAbs) = a.tdiv b := by
  obtain ⟨m, rfl | rfl⟩ := a.eq_nat_or_neg <;> obtain ⟨n, rfl | rfl⟩ := b.eq_nat_or_neg
  · have h1 : ¬ ((m : Int) < 0) := by omega
    have h2 : ¬ ((n : Int) < 0) := by omega
    rw [decide_eq_false h1, decide_eq_false h2]
    simp [val]
  · have h1 : ¬ ((m : Int) < 0) := by omega
    rw [decide_eq_false h1, Int.tdiv_neg, Int.natAbs_neg]
    rcases Nat.eq_zero_or_pos n with rfl | h
    · simp [val]
    · rw [decide_eq_true (show -(n : Int) < 0 by omega)]; simp [val]
  · have h1 : ¬ ((n : Int) < 0) := by omega
    rw [decide_eq_false h1, Int.neg_tdiv, Int.natAbs_neg]
    rcases Nat.eq_zero_or_pos m with rfl | h
    · simp [val]
    · rw [decide_eq_true (show -(m : Int) < 0 by omega)]; simp [val]
  · rw [Int.tdiv_neg, Int.neg_tdiv, Int.natAbs_neg, Int.natAbs_neg, Int.neg_neg]
    rcases Nat.eq_zero_or_pos m with rfl | h
    · simp [val_zero]
    · rcases Nat.eq_zero_or_pos n with rfl | h2
      · simp [val_zero]
      · rw [decide_eq_true (show -(m : Int) < 0 by omega), decide_eq_true (show -(n : Int) < 0 by omega)]; simp [val]
theorem val_mod (a b : Int) : val (decide (a < 0)) (a.natAbs % b.natAbs) = a.tmod b := by
  obtain ⟨m, rfl | rfl⟩ := a.eq_nat_or_neg
  · have h1 : ¬ ((m : Int) < 0) := by omega
    rw [decide_eq_false h1]
    obtain ⟨n, rfl | rfl⟩ := b.eq_nat_or_neg
    · simp [val]; rfl
    · rw [Int.tmod_neg, Int.natAbs_neg]; simp [val]; rfl
  · rw [Int.neg_tmod, Int.natAbs_neg]
    rcases Nat.eq_zero_or_pos m with rfl | h
    · simp [val_zero]
    · rw [decide_eq_true (show -(m : Int) < 0 by omega)]
      obtain ⟨n, rfl | rfl⟩ := b.eq_nat_or_neg
      · simp [val]; rfl
      · rw [Int.tmod_neg, Int.natAbs_neg]; simp [val]; rfl
theorem tmod_zero (a b : Int) : (a.natAbs % b.natAbs = 0) ↔ a.tmod b = 0 := by
  rw [← val_mod a b]
  unfold val
  cases decide (a < 0) <;> simp <;> omega
theorem tmod_neg (a b : Int) (h : a.tmod b ≠ 0) : decide (a.tmod b < 0) = decide (a < 0) := by
  have e := val_mod a b
  have h0 : a.natAbs % b.natAbs ≠ 0 := fun e2 => h ((tmod_zero a b).1 e2)
  by_cases h1 : a < 0
  · rw [decide_eq_true h1] at e ⊢
    rw [← e]; simp [val]; omega
  · rw [decide_eq_false h1] at e ⊢
    rw [← e]; simp only [val, cond_false]; exact decide_eq_false (by omega)
theorem dval_lower (l : List UInt8) (acc : Nat) : acc * 10 ^ l.length ≤ Dec.dval acc l := by
  induction l generalizing acc with
  | nil => simp [Dec.dval_nil]
  | cons c r ih =>
    rw [Dec.dval_cons]
    refine Nat.le_trans ?_ (ih _)
    rw [List.length_cons, Nat.pow_succ, Nat.mul_comm (10 ^ r.length), ← Nat.mul_assoc]
    exact Nat.mul_le_mul_right _ (by omega)
theorem e19 : (10 : Nat) ^ 19 = 10000000000000000000 := by decide
theorem dval_19 (d : List UInt8) (h : d.all Dec.dig = true) (hl : d.length ≤ 19) : Dec.dval 0 d < 10000000000000000000 := by
  have h1 := Dec.dval_lt d 0 h
  have h2 : 10 ^ d.length ≤ 10 ^ 19 := Nat.pow_le_pow_right (by omega) hl
  rw [e19] at h2
  omega
theorem dval_20 (d : List UInt8) (h : Dec.form d = true) (hl : 19 < d.length) : 10000000000000000000 ≤ Dec.dval 0 d := by
  obtain ⟨h1, _⟩ := Dec.form_parts h
  match d, hl with
  | c :: r, hl =>
    have hc : c ≠ 48 := by
      rintro rfl
      unfold Dec.form at h
      have : r ≠ [] := by rintro rfl; simp at hl
      simp [this] at h
    have hd : Dec.dig c = true := by simp only [List.all_cons, Bool.and_eq_true] at h1; exact h1.1
    have hd2 := Dec.dig_iff.1 hd
    have hc2 : c.toNat ≠ 48 := fun e => hc (Dec.toNat_inj (by rw [e]; rfl))
    have h3 := dval_lower r (0 * 10 + (c.toNat - 48))
    rw [Dec.dval_cons]
    have h4 : 10 ^ 19 ≤ 10 ^ r.length := Nat.pow_le_pow_right (by omega) (by simp at hl; omega)
    rw [e19] at h4
    have h5 : 1 * 10 ^ r.length ≤ (0 * 10 + (c.toNat - 48)) * 10 ^ r.length := Nat.mul_le_mul_right _ (by omega)
    omega
theorem form_of_isForm {l : List UInt8} (h : Dec.isForm l = true) : Dec.form (Dec.body l) = true := by
  unfold Dec.isForm at h; rw [Bool.and_eq_true] at h; exact h.1
/-- What Read answers, by the sign and the digits' worth. -/
theorem read_near {l : List UInt8} (h : Dec.isForm l = true) : Dec.readS l = (fitV (val (l.head? == some 45) (Dec.dval 0 (Dec.body l))), fitE (val (l.head? == some 45) (Dec.dval 0 (Dec.body l)))) := by
  unfold Dec.readS
  rw [if_pos h]
  rcases Dec.isForm_cases h with ⟨d, rfl, hd, hne⟩ | ⟨hd, hh⟩
  · obtain ⟨hdd, hdn⟩ := Dec.form_parts hd
    rw [Dec.parseI_minus d hdn hdd]
    have hb : Dec.body (45 :: d) = d := by unfold Dec.body; simp
    rw [hb]
    simp only [List.head?_cons, beq_self_eq_true, val, cond_true]
    unfold fitV fitE
    by_cases hv : Dec.dval 0 d ≤ 9223372036854775808
    · rw [if_pos hv, if_pos (by unfold PowG.Fits; omega), if_pos (by unfold PowG.Fits; omega)]
    · rw [if_neg hv, if_neg (by unfold PowG.Fits; omega), if_neg (by unfold PowG.Fits; omega)]
  · obtain ⟨hdd, hdn⟩ := Dec.form_parts hd
    rw [Dec.parseI_plain l hdn hdd]
    have h45 : (l.head? == some 45) = false := by simpa using hh
    have hb : Dec.body l = l := by unfold Dec.body; rw [h45]; rfl
    rw [hb, h45]
    simp only [val, cond_false]
    unfold fitV fitE
    by_cases hv : Dec.dval 0 l < 9223372036854775808
    · rw [if_pos hv, if_pos (by unfold PowG.Fits; omega), if_pos (by unfold PowG.Fits; omega)]
    · rw [if_neg hv, if_neg (by unfold PowG.Fits; omega), if_neg (by unfold PowG.Fits; omega)]
theorem read_far {l : List UInt8} (h : Dec.isForm l = true) (hl : 19 < (Dec.body l).length) : Dec.readS l = (0, 13) := by
  rw [read_near h]
  have := dval_20 _ (form_of_isForm h) hl
  have hf : ¬ PowG.Fits (val (l.head? == some 45) (Dec.dval 0 (Dec.body l))) := by
    unfold PowG.Fits val
    cases (l.head? == some 45) <;> simp <;> omega
  unfold fitV fitE
  rw [if_neg hf, if_neg hf]
theorem read_not {l : List UInt8} (h : Dec.isForm l = false) : Dec.readS l = (0, 12) := by unfold Dec.readS; rw [h]; rfl

/-! ### Writing: digits from the last one on -/
/-- The digits of a number, none of 0. -/
def digs (m : Nat) : List UInt8 := if m = 0 then [] else Go.Lib.decDigits m
theorem digs_step (m : Nat) (h : m ≠ 0) : digs m = digs (m / 10) ++ [UInt8.ofNat (48 + m % 10)] := by
  unfold digs
  rw [if_neg h]
  by_cases h1 : m < 10
  · rw [Dec.dec_small h1, if_pos (by omega), Nat.mod_eq_of_lt h1]; rfl
  · rw [Dec.dec_big h1, if_neg (by omega)]
theorem dec_step (m : Nat) : Go.Lib.decDigits m = digs (m / 10) ++ [UInt8.ofNat (48 + m % 10)] := by
  by_cases h : m = 0
  · subst h; rw [Dec.dec_small (by omega)]; rfl
  · rw [← digs_step m h, digs, if_neg h]
theorem itoa_neg (n : Int) (h : n < 0) : Go.Lib.itoa n = 45 :: Go.Lib.decDigits n.natAbs := by unfold Go.Lib.itoa; rw [if_pos h]
theorem itoa_pos (n : Int) (h : ¬ n < 0) : Go.Lib.itoa n = Go.Lib.decDigits n.natAbs := by unfold Go.Lib.itoa; rw [if_neg h]; congr 1; omega
end Go.Proofs.YtdbjmjeiaajdiaaDoor.Ref
