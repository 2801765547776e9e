import Derived.Lib.ItoaNum
import Derived.Lib.ParseIntBCases
import Derived.Lib.RuneCountTail
import Derived.Lib.QuoteLoop
import Derived.Lib.TrimU
import Derived.Lib.MapLaws
import Derived.Lib.TrimByte
import Derived.Lib.IndexMore
namespace Go.Proofs.YtpiiemneelkpkaaGreatDoor.Dec
open Go.Lib
def dig (c : UInt8) : Bool := decide (48 ≤ c.toNat ∧ c.toNat ≤ 57)
def dv (c : UInt8) : Nat := c.toNat - 48
theorem dv_eq (c : UInt8) : dv c = c.toNat - 48 := rfl
attribute [irreducible] dv
def dval : Nat → List UInt8 → Nat
 | acc, [] => acc
 | acc, c :: r => dval (acc * 10 + dv c) r
theorem dval_nil (acc : Nat) : dval acc [] = acc := rfl
theorem dval_cons (acc : Nat) (c : UInt8) (r : List UInt8) : dval acc (c :: r) = dval (acc * 10 + (c.toNat - 48)) r := by rw [dval, dv_eq]
theorem dig_iff {c : UInt8} : dig c = true ↔ 48 ≤ c.toNat ∧ c.toNat ≤ 57 := by simp [dig]
theorem dval_append (a b : List UInt8) (acc : Nat) : dval acc (a ++ b) = dval (dval acc a) b := by
 induction a generalizing acc with
 | nil => rfl
 | cons c r ih => simp only [List.cons_append, dval_cons, ih]
theorem dval_ge (l : List UInt8) (acc : Nat) : acc ≤ dval acc l := by
 induction l generalizing acc with
 | nil => exact Nat.le_refl _
 | cons c r ih =>
  have := ih (acc * 10 + (c.toNat - 48))
  rw [dval_cons]; omega
theorem dval_lt (l : List UInt8) (acc : Nat) (h : l.all dig = true) : dval acc l < (acc + 1) * 10 ^ l.length := by
 induction l generalizing acc with
 | nil => simp [dval_nil]
 | cons c r ih =>
  simp only [List.all_cons, Bool.and_eq_true] at h
  have hc := dig_iff.1 h.1
  have := ih (acc * 10 + (c.toNat - 48)) h.2
  simp only [dval_cons, List.length_cons, Nat.pow_succ]
  refine Nat.lt_of_lt_of_le this ?_
  have h2 : acc * 10 + (c.toNat - 48) + 1 ≤ (acc + 1) * 10 := by omega
  calc (acc * 10 + (c.toNat - 48) + 1) * 10 ^ r.length ≤ ((acc + 1) * 10) * 10 ^ r.length := Nat.mul_le_mul_right _ h2
   _ = (acc + 1) * (10 ^ r.length * 10) := by rw [Nat.mul_assoc, Nat.mul_comm 10]
theorem parseM (l : List UInt8) (acc : Nat) (h : l.all dig = true) (ha : acc ≤ 18446744073709551615) :
  parseUintM 18446744073709551615 acc l = if dval acc l ≤ 18446744073709551615 then .ok (dval acc l) else .range := by
 induction l generalizing acc with
 | nil => simp [parseUintM, dval_nil, ha]
 | cons c r ih =>
  simp only [List.all_cons, Bool.and_eq_true] at h
  have hc := dig_iff.1 h.1
  have hge := dval_ge r (acc * 10 + (c.toNat - 48))
  rw [dval_cons]
  simp only [parseUintM]
  rw [if_pos hc]
  by_cases h1 : 1844674407370955162 ≤ acc
  ·rw [if_pos h1, if_neg (by omega)]
  ·rw [if_neg h1]
   by_cases h2 : 18446744073709551615 < acc * 10 + (c.toNat - 48)
   ·rw [if_pos h2, if_neg (by omega)]
   ·rw [if_neg h2, ih _ h.2 (by omega)]
theorem parseB (l : List UInt8) (hn : l ≠ []) (h : l.all dig = true) :
  parseUintB 64 l = if dval 0 l ≤ 18446744073709551615 then .ok (dval 0 l) else .range := by
 have e : (2 : Nat) ^ 64 - 1 = 18446744073709551615 := by decide
 unfold parseUintB
 rw [if_neg hn, e, parseM l 0 h (by omega)]
theorem dec_small {u : Nat} (h : u < 10) : decDigits u = [UInt8.ofNat (48 + u)] := by rw [decDigits, dif_pos h]
theorem dec_big {u : Nat} (h : ¬ u < 10) : decDigits u = decDigits (u / 10) ++ [UInt8.ofNat (48 + u % 10)] := by rw [decDigits, dif_neg h]
theorem dec_ne (u : Nat) : decDigits u ≠ [] := by
 by_cases h : u < 10
 ·rw [dec_small h]; simp
 ·rw [dec_big h]; simp
theorem dec_len (u k : Nat) (hk : 1 ≤ k) (h : u < 10 ^ k) : (decDigits u).length ≤ k := by
 induction k generalizing u with
 | zero => omega
 | succ k ih =>
  by_cases h1 : u < 10
  ·rw [dec_small h1]; simp
  ·rw [dec_big h1, List.length_append]
   have hk1 : 1 ≤ k := by
    rcases Nat.eq_zero_or_pos k with e | e
    ·subst e; simp at h; omega
    ·exact e
   have := ih (u / 10) hk1 (by rw [Nat.pow_succ] at h; omega)
   simp; omega
def form (d : List UInt8) : Bool := d.all dig && !d.isEmpty && (d.head? != some 48 || d == [48])
theorem toNat_inj {a b : UInt8} (h : a.toNat = b.toNat) : a = b := UInt8.toNat_inj.1 h
def body (l : List UInt8) : List UInt8 := cond (l.head? == some 45) l.tail l
def isForm (l : List UInt8) : Bool := form (body l) && !(l.head? == some 45 && body l == [48])
def readS (l : List UInt8) : Int × Int :=
 if isForm l then (match parseIntB 64 l with | .ok v => (v, 0) | _ => (0, 13)) else (0, 12)
theorem p63 : (2 : Nat) ^ (64 - 1) = 9223372036854775808 := by decide
theorem parseI_minus (d : List UInt8) (hn : d ≠ []) (hd : d.all dig = true) :
  parseIntB 64 (45 :: d) = if dval 0 d ≤ 9223372036854775808 then .ok (-(dval 0 d : Int)) else .range := by
 rw [parseIntB_minus, parseB d hn hd, p63]
 by_cases h : dval 0 d ≤ 18446744073709551615
 ·rw [if_pos h]
  simp only [signedC]
  by_cases h2 : 9223372036854775808 < dval 0 d
  ·rw [if_pos h2, if_neg (by omega)]
  ·rw [if_neg h2, if_pos (by omega)]
 ·rw [if_neg h, if_neg (by omega)]; rfl
theorem parseI_plain (d : List UInt8) (hn : d ≠ []) (hd : d.all dig = true) :
  parseIntB 64 d = if dval 0 d < 9223372036854775808 then .ok (dval 0 d : Int) else .range := by
 match d, hn with
 | c :: r, hn =>
  have hc : dig c = true := by simp only [List.all_cons, Bool.and_eq_true] at hd; exact hd.1
  have hc' := dig_iff.1 hc
  rw [parseIntB_plain 64 c r (by omega) (by omega), parseB (c :: r) hn hd, p63]
  by_cases h : dval 0 (c :: r) ≤ 18446744073709551615
  ·rw [if_pos h]
   simp only [signlessC]
   by_cases h2 : 9223372036854775808 ≤ dval 0 (c :: r)
   ·rw [if_pos h2, if_neg (by omega)]
   ·rw [if_neg h2, if_pos (by omega)]
  ·rw [if_neg h, if_neg (by omega)]; rfl
theorem form_parts {d : List UInt8} (h : form d = true) : d.all dig = true ∧ d ≠ [] := by
 unfold form at h
 simp only [Bool.and_eq_true] at h
 exact ⟨h.1.1, by intro e; subst e; simp at h⟩
theorem isForm_cases {l : List UInt8} (h : isForm l = true) :
  (∃ d, l = 45 :: d ∧ form d = true ∧ d ≠ [48]) ∨ (form l = true ∧ l.head? ≠ some 45) := by
 unfold isForm body at h
 match l with
 | [] => simp [form] at h
 | c :: r =>
  by_cases hc : c = 45
  ·subst hc
   left
   simp at h
   exact ⟨r, rfl, h.1, h.2⟩
  ·right
   have hc2 : (c == 45) = false := by simpa using hc
   simp [hc2] at h
   exact ⟨h, by simpa using hc⟩
theorem isForm_minus {d : List UInt8} (h : form d = true) (h2 : d ≠ [48]) : isForm (45 :: d) = true := by
 unfold isForm body
 simp [h, h2]
theorem parse_of_form {l : List UInt8} (h : isForm l = true) : (∃ v, parseIntB 64 l = .ok v) ∨ parseIntB 64 l = .range := by
 rcases isForm_cases h with ⟨d, rfl, hd, _⟩ | ⟨hd, _⟩
 ·obtain ⟨hdd, hdn⟩ := form_parts hd
  rw [parseI_minus d hdn hdd]
  split
  ·exact .inl ⟨_, rfl⟩
  ·exact .inr rfl
 ·obtain ⟨hdd, hdn⟩ := form_parts hd
  rw [parseI_plain l hdn hdd]
  split
  ·exact .inl ⟨_, rfl⟩
  ·exact .inr rfl
theorem itoa_len (n : Int) (h0 : -9223372036854775808 ≤ n) (h1 : n ≤ 9223372036854775807) : 1 ≤ (itoa n).length ∧ (itoa n).length ≤ 20 := by
 have e19 : (10 : Nat) ^ 19 = 10000000000000000000 := by decide
 unfold itoa
 split
 ·have := dec_len n.natAbs 19 (by omega) (by omega)
  simp; omega
 ·have := dec_len n.toNat 19 (by omega) (by omega)
  have := dec_ne n.toNat
  have : (decDigits n.toNat).length ≠ 0 := by simpa using this
  omega
end Go.Proofs.YtpiiemneelkpkaaGreatDoor.Dec
namespace Go.Proofs.YtpiiemneelkpkaaGreatDoor.Val
open Go
structure V where
 k : Int
 n : Int
 t : ByteArray
def emp : ByteArray := ⟨#[]⟩
def sTrue : ByteArray := ⟨#[84, 82, 85, 69]⟩
def sFalse : ByteArray := ⟨#[70, 65, 76, 83, 69]⟩
def isE (t : ByteArray) : Bool := t.toList.isEmpty
def mayB (v : V) : Bool :=
 cond (v.k == 0) (v.n == 0 && isE v.t) <| cond (v.k == 1) (isE v.t) <| cond (v.k == 2) ((v.n == 0 || v.n == 1) && isE v.t) <|
 cond (v.k == 3) (v.n == 0 && decide (v.t.size ≤ 32767)) <| cond (v.k == 4) (decide (1 ≤ v.n) && decide (v.n ≤ 6) && isE v.t) false
def err (e : Int) : V := ⟨4, e, emp⟩
def good (v : V) : V := cond (mayB v) v (err 4)
def numG (g : V) : Int × Int :=
 cond (g.k == 3) (cond ((Dec.readS g.t.data.toList).2 == 0) ((Dec.readS g.t.data.toList).1, 0) (0, 4)) <| cond (g.k == 4) (0, g.n) (g.n, 0)
def number (v : V) : Int × Int := numG (good v)
def word (n : Int) : ByteArray := cond (n == 1) sTrue sFalse
def textG (g : V) : ByteArray × Int :=
 cond (g.k == 1) (⟨(Lib.itoa g.n).toArray⟩, 0) <| cond (g.k == 2) (word g.n, 0) <| cond (g.k == 4) (emp, g.n) (g.t, 0)
def asText (v : V) : ByteArray × Int := textG (good v)
def isT (t : ByteArray) : Bool := t.toList == [84, 82, 85, 69]
def isF (t : ByteArray) : Bool := t.toList == [70, 65, 76, 83, 69]
def truthG (g : V) : Bool × Int :=
 cond (g.k == 4) (false, g.n) <| cond (g.k == 3) (cond (isT g.t) (true, 0) <| cond (isF g.t) (false, 0) (false, 4)) (g.n != 0, 0)
def truth (v : V) : Bool × Int := truthG (good v)
theorem may_cases {v : V} (h : mayB v = true) :
  (v.k = 0 ∧ v.n = 0 ∧ isE v.t = true) ∨ (v.k = 1 ∧ isE v.t = true) ∨ (v.k = 2 ∧ (v.n = 0 ∨ v.n = 1) ∧ isE v.t = true) ∨ (v.k = 3 ∧ v.n = 0 ∧ v.t.size ≤ 32767) ∨ (v.k = 4 ∧ 1 ≤ v.n ∧ v.n ≤ 6 ∧ isE v.t = true) := by
 unfold mayB at h
 by_cases h0 : v.k = 0
 ·rw [show (v.k == 0) = true by simpa using h0] at h; simp at h; exact .inl ⟨h0, h⟩
 rw [show (v.k == 0) = false by simpa using h0] at h
 by_cases h1 : v.k = 1
 ·rw [show (v.k == 1) = true by simpa using h1] at h; simp at h; exact .inr (.inl ⟨h1, h⟩)
 rw [show (v.k == 1) = false by simpa using h1] at h
 by_cases h2 : v.k = 2
 ·rw [show (v.k == 2) = true by simpa using h2] at h; simp at h; exact .inr (.inr (.inl ⟨h2, h⟩))
 rw [show (v.k == 2) = false by simpa using h2] at h
 by_cases h3 : v.k = 3
 ·rw [show (v.k == 3) = true by simpa using h3] at h; simp at h; exact .inr (.inr (.inr (.inl ⟨h3, h⟩)))
 rw [show (v.k == 3) = false by simpa using h3] at h
 by_cases h4 : v.k = 4
 ·rw [show (v.k == 4) = true by simpa using h4] at h; simp at h; exact .inr (.inr (.inr (.inr ⟨h4, h.1.1, h.1.2, h.2⟩)))
 rw [show (v.k == 4) = false by simpa using h4] at h
 simp at h
theorem may_err4 : mayB (err 4) = true := by decide +kernel
theorem good_may (v : V) : mayB (good v) = true := by
 unfold good
 cases h : mayB v
 ·exact may_err4
 ·exact h
end Go.Proofs.YtpiiemneelkpkaaGreatDoor.Val
namespace Go.Proofs.YtpiiemneelkpkaaGreatDoor.PowG
def Fits (n : Int) : Prop := -9223372036854775808 ≤ n ∧ n ≤ 9223372036854775807
instance (n : Int) : Decidable (Fits n) := by unfold Fits; infer_instance
theorem natAbs_fits {n : Int} (h : ¬ Fits n) : 9223372036854775808 ≤ n.natAbs := by unfold Fits at h; omega
theorem fits_of_lt {n : Int} (h : n.natAbs < 9223372036854775808) : Fits n := by unfold Fits; omega
theorem pow_over (x : Int) (k j : Nat) (hx : 2 ≤ x.natAbs) (h : ¬ Fits (x ^ k)) : ¬ Fits (x ^ (k + j)) := by
 rcases Nat.eq_zero_or_pos j with e | e
 ·subst e; exact h
 ·have h1 := natAbs_fits h
  have h2 : 2 ≤ (x ^ j).natAbs := by
   rw [Int.natAbs_pow]
   calc 2 ≤ x.natAbs := hx
    _ = x.natAbs ^ 1 := by rw [Nat.pow_one]
    _ ≤ x.natAbs ^ j := Nat.pow_le_pow_right (by omega) e
  intro hf
  have h3 : (x ^ (k + j)).natAbs = (x ^ k).natAbs * (x ^ j).natAbs := by rw [Int.pow_add, Int.natAbs_mul]
  have h4 : (x ^ k).natAbs * 2 ≤ (x ^ k).natAbs * (x ^ j).natAbs := Nat.mul_le_mul_left _ h2
  unfold Fits at hf
  omega
theorem pow_small (x : Int) (k : Nat) (hx : x.natAbs ≤ 1) : Fits (x ^ k) := by
 apply fits_of_lt
 rw [Int.natAbs_pow]
 have : x.natAbs ^ k ≤ 1 ^ k := Nat.pow_le_pow_left hx k
 rw [Nat.one_pow] at this
 omega
theorem pow_over' (x : Int) (k j : Nat) (h : ¬ Fits (x ^ k)) : ¬ Fits (x ^ (k + j)) := by
 rcases Nat.lt_or_ge x.natAbs 2 with hx | hx
 ·exact absurd (pow_small x k (by omega)) h
 ·exact pow_over x k j hx h
def powN (x : Int) (k : Nat) : Int := if Fits (x ^ k) then x ^ k else 0
def powE (x : Int) (k : Nat) : Int := if Fits (x ^ k) then 0 else 13
theorem negone_pow (k : Nat) : (-1 : Int) ^ k = 1 - 2 * ((k : Int) % 2) := by
 induction k with
 | zero => rfl
 | succ k ih => rw [Int.pow_succ, ih]; omega
theorem one_pow (k : Nat) : (1 : Int) ^ k = 1 := by
 induction k with
 | zero => rfl
 | succ k ih => rw [Int.pow_succ, ih]; rfl
theorem zero_pow (k : Nat) (h : 1 ≤ k) : (0 : Int) ^ k = 0 := by
 match k, h with
 | k + 1, _ => rw [Int.pow_succ]; simp
theorem gcd_step (a b : Nat) : Nat.gcd a b = Nat.gcd b (a % b) := by rw [Nat.gcd_comm, Nat.gcd_rec, Nat.gcd_comm]
theorem gcd_le (a b M : Nat) (ha : a ≤ M) (hb : b ≤ M) : Nat.gcd a b ≤ M := by
 rcases Nat.eq_zero_or_pos a with h | h
 ·subst h; rw [Nat.gcd_zero_left]; exact hb
 ·exact Nat.le_trans (Nat.gcd_le_left _ h) ha
end Go.Proofs.YtpiiemneelkpkaaGreatDoor.PowG
namespace Go.Proofs.YtpiiemneelkpkaaGreatDoor.Ref
open PowG
def val (neg : Bool) (m : Nat) : Int := cond neg (-(m : Int)) m
def fitV (v : Int) : Int := if Fits v then v else 0
def fitB (v : Int) : Bool := decide (Fits v)
def fitE (v : Int) : Int := if Fits v then 0 else 13
def rV (neg over : Bool) (m : Nat) : Int := cond over 0 (fitV (val neg m))
def rB (neg over : Bool) (m : Nat) : Bool := !over && fitB (val neg m)
theorem val_neg (a : Int) : val (decide (a < 0)) a.natAbs = a := by
 unfold val
 by_cases h : a < 0
 ·rw [decide_eq_true h]; simp; omega
 ·rw [decide_eq_false h]; simp; omega
def sumN (n1 : Bool) (m1 : Nat) (n2 : Bool) (m2 : Nat) : Bool := cond (n1 == n2) n1 (cond (decide (m2 ≤ m1)) n1 n2)
def sumM (n1 : Bool) (m1 : Nat) (n2 : Bool) (m2 : Nat) : Nat := cond (n1 == n2) ((m1 + m2) % 18446744073709551616) (cond (decide (m2 ≤ m1)) (m1 - m2) (m2 - m1))
def sumO (n1 : Bool) (m1 : Nat) (n2 : Bool) (m2 : Nat) : Bool := n1 == n2 && decide (18446744073709551616 ≤ m1 + m2)
theorem not_fits_great (neg : Bool) (m : Nat) (h : 18446744073709551616 ≤ m) : ¬ Fits (val neg m) := by
 unfold Fits val; cases neg <;> simp <;> omega
theorem sum_tells (n1 : Bool) (m1 : Nat) (n2 : Bool) (m2 : Nat) (_h1 : m1 < 18446744073709551616) (_h2 : m2 < 18446744073709551616) :
  (sumO n1 m1 n2 m2 = false ∧ val (sumN n1 m1 n2 m2) (sumM n1 m1 n2 m2) = val n1 m1 + val n2 m2) ∨ (sumO n1 m1 n2 m2 = true ∧ ¬ Fits (val n1 m1 + val n2 m2)) := by
 unfold sumO sumN sumM val
 by_cases h : n1 = n2
 ·subst h
  by_cases ho : 18446744073709551616 ≤ m1 + m2
  ·right
   refine ⟨by simp [ho], ?_⟩
   unfold Fits
   cases n1 <;> simp <;> omega
  ·left
   refine ⟨by simp; omega, ?_⟩
   have : (m1 + m2) % 18446744073709551616 = m1 + m2 := Nat.mod_eq_of_lt (by omega)
   simp only [beq_self_eq_true, cond_true, this]
   cases n1 <;> simp <;> omega
 ·left
  have hb : (n1 == n2) = false := by simpa using h
  rw [hb]
  refine ⟨rfl, ?_⟩
  simp only [cond_false]
  by_cases hm : m2 ≤ m1
  ·rw [decide_eq_true hm]
   cases n1 <;> cases n2 <;> simp_all <;> omega
  ·rw [decide_eq_false hm]
   cases n1 <;> cases n2 <;> simp_all <;> omega
theorem sum_fits (n1 : Bool) (m1 : Nat) (n2 : Bool) (m2 : Nat) (v : Int) (h1 : m1 < 18446744073709551616) (h2 : m2 < 18446744073709551616) (hv : val n1 m1 + val n2 m2 = v) :
  rV (sumN n1 m1 n2 m2) (sumO n1 m1 n2 m2) (sumM n1 m1 n2 m2) = fitV v ∧ rB (sumN n1 m1 n2 m2) (sumO n1 m1 n2 m2) (sumM n1 m1 n2 m2) = fitB v := by
 rcases sum_tells n1 m1 n2 m2 h1 h2 with ⟨a, b⟩ | ⟨a, b⟩
 ·unfold rV rB; rw [a, b, hv]; exact ⟨rfl, rfl⟩
 ·rw [hv] at b
  unfold rV rB fitV fitB; rw [a, if_neg b, decide_eq_false b]; exact ⟨rfl, rfl⟩
def prodM (m1 m2 : Nat) : Nat := m1 * m2 % 18446744073709551616
def prodO (m1 m2 : Nat) : Bool := decide (18446744073709551616 ≤ m1 * m2)
theorem prod_tell (m1 m2 : Nat) (h1 : m1 ≠ 0) (_h2 : m2 < 18446744073709551616) : (prodM m1 m2 / m1 = m2) ↔ ¬ 18446744073709551616 ≤ m1 * m2 := by
 unfold prodM
 constructor
 ·intro e h
  have hl : m1 * (m1 * m2 % 18446744073709551616 / m1) ≤ m1 * m2 % 18446744073709551616 := Nat.mul_div_le _ _
  rw [e] at hl
  have : m1 * m2 % 18446744073709551616 < 18446744073709551616 := Nat.mod_lt _ (by decide)
  omega
 ·intro h
  rw [Nat.mod_eq_of_lt (by omega), Nat.mul_div_cancel_left _ (by omega)]
theorem val_mul (n1 n2 : Bool) (m1 m2 : Nat) : val (n1 != n2) (m1 * m2) = val n1 m1 * val n2 m2 := by
 unfold val
 cases n1 <;> cases n2 <;> simp [Int.neg_mul, Int.mul_neg]
theorem prod_tells (n1 : Bool) (m1 : Nat) (n2 : Bool) (m2 : Nat) :
  (prodO m1 m2 = false ∧ val (n1 != n2) (prodM m1 m2) = val n1 m1 * val n2 m2) ∨ (prodO m1 m2 = true ∧ ¬ Fits (val n1 m1 * val n2 m2)) := by
 rw [← val_mul]
 unfold prodO prodM
 by_cases h : 18446744073709551616 ≤ m1 * m2
 ·exact .inr ⟨decide_eq_true h, not_fits_great _ _ h⟩
 ·exact .inl ⟨decide_eq_false h, by rw [Nat.mod_eq_of_lt (by omega)]⟩
theorem prod_fits (n1 : Bool) (m1 : Nat) (n2 : Bool) (m2 : Nat) (v : Int) (hv : val n1 m1 * val n2 m2 = v) :
  rV (n1 != n2) (prodO m1 m2) (prodM m1 m2) = fitV v ∧ rB (n1 != n2) (prodO m1 m2) (prodM m1 m2) = fitB v := by
 rcases prod_tells n1 m1 n2 m2 with ⟨a, b⟩ | ⟨a, b⟩
 ·unfold rV rB; rw [a, b, hv]; exact ⟨rfl, rfl⟩
 ·rw [hv] at b
  unfold rV rB fitV fitB; rw [a, if_neg b, decide_eq_false b]; exact ⟨rfl, rfl⟩
theorem prodM_lt (m1 m2 : Nat) : prodM m1 m2 < 18446744073709551616 := Nat.mod_lt _ (by decide)
theorem val_zero (n : Bool) : val n 0 = 0 := by cases n <;> rfl
theorem val_quo (a b : Int) : val (decide (a < 0) != decide (b < 0)) (a.natAbs / b.natAbs) = a.tdiv b := by
 obtain ⟨m, rfl | rfl⟩ := a.eq_nat_or_neg <;> obtain ⟨n, rfl | rfl⟩ := b.eq_nat_or_neg
 ·have h1 : ¬ ((m : Int) < 0) := by omega
  have h2 : ¬ ((n : Int) < 0) := by omega
  rw [decide_eq_false h1, decide_eq_false h2]
  simp [val]
 ·have h1 : ¬ ((m : Int) < 0) := by omega
  rw [decide_eq_false h1, Int.tdiv_neg, Int.natAbs_neg]
  rcases Nat.eq_zero_or_pos n with rfl | h
  ·simp [val]
  ·rw [decide_eq_true (show -(n : Int) < 0 by omega)]; simp [val]
 ·have h1 : ¬ ((n : Int) < 0) := by omega
  rw [decide_eq_false h1, Int.neg_tdiv, Int.natAbs_neg]
  rcases Nat.eq_zero_or_pos m with rfl | h
  ·simp [val]
  ·rw [decide_eq_true (show -(m : Int) < 0 by omega)]; simp [val]
 ·rw [Int.tdiv_neg, Int.neg_tdiv, Int.natAbs_neg, Int.natAbs_neg, Int.neg_neg]
  rcases Nat.eq_zero_or_pos m with rfl | h
  ·simp [val_zero]
  ·rcases Nat.eq_zero_or_pos n with rfl | h2
   ·simp [val_zero]
   ·rw [decide_eq_true (show -(m : Int) < 0 by omega), decide_eq_true (show -(n : Int) < 0 by omega)]; simp [val]
theorem val_mod (a b : Int) : val (decide (a < 0)) (a.natAbs % b.natAbs) = a.tmod b := by
 obtain ⟨m, rfl | rfl⟩ := a.eq_nat_or_neg
 ·have h1 : ¬ ((m : Int) < 0) := by omega
  rw [decide_eq_false h1]
  obtain ⟨n, rfl | rfl⟩ := b.eq_nat_or_neg
  ·simp [val]; rfl
  ·rw [Int.tmod_neg, Int.natAbs_neg]; simp [val]; rfl
 ·rw [Int.neg_tmod, Int.natAbs_neg]
  rcases Nat.eq_zero_or_pos m with rfl | h
  ·simp [val_zero]
  ·rw [decide_eq_true (show -(m : Int) < 0 by omega)]
   obtain ⟨n, rfl | rfl⟩ := b.eq_nat_or_neg
   ·simp [val]; rfl
   ·rw [Int.tmod_neg, Int.natAbs_neg]; simp [val]; rfl
theorem tmod_zero (a b : Int) : (a.natAbs % b.natAbs = 0) ↔ a.tmod b = 0 := by
 rw [← val_mod a b]
 unfold val
 cases decide (a < 0) <;> simp <;> omega
theorem tmod_neg (a b : Int) (h : a.tmod b ≠ 0) : decide (a.tmod b < 0) = decide (a < 0) := by
 have e := val_mod a b
 have h0 : a.natAbs % b.natAbs ≠ 0 := fun e2 => h ((tmod_zero a b).1 e2)
 by_cases h1 : a < 0
 ·rw [decide_eq_true h1] at e ⊢
  rw [← e]; simp [val]; omega
 ·rw [decide_eq_false h1] at e ⊢
  rw [← e]; simp only [val, cond_false]; exact decide_eq_false (by omega)
theorem dval_lower (l : List UInt8) (acc : Nat) : acc * 10 ^ l.length ≤ Dec.dval acc l := by
 induction l generalizing acc with
 | nil => simp [Dec.dval_nil]
 | cons c r ih =>
  rw [Dec.dval_cons]
  refine Nat.le_trans ?_ (ih _)
  rw [List.length_cons, Nat.pow_succ, Nat.mul_comm (10 ^ r.length), ← Nat.mul_assoc]
  exact Nat.mul_le_mul_right _ (by omega)
theorem e19 : (10 : Nat) ^ 19 = 10000000000000000000 := by decide
theorem dval_20 (d : List UInt8) (h : Dec.form d = true) (hl : 19 < d.length) : 10000000000000000000 ≤ Dec.dval 0 d := by
 obtain ⟨h1, _⟩ := Dec.form_parts h
 match d, hl with
 | c :: r, hl =>
  have hc : c ≠ 48 := by
   rintro rfl
   unfold Dec.form at h
   have : r ≠ [] := by rintro rfl; simp at hl
   simp [this] at h
  have hd : Dec.dig c = true := by simp only [List.all_cons, Bool.and_eq_true] at h1; exact h1.1
  have hd2 := Dec.dig_iff.1 hd
  have hc2 : c.toNat ≠ 48 := fun e => hc (Dec.toNat_inj (by rw [e]; rfl))
  have h3 := dval_lower r (0 * 10 + (c.toNat - 48))
  rw [Dec.dval_cons]
  have h4 : 10 ^ 19 ≤ 10 ^ r.length := Nat.pow_le_pow_right (by omega) (by simp at hl; omega)
  rw [e19] at h4
  have h5 : 1 * 10 ^ r.length ≤ (0 * 10 + (c.toNat - 48)) * 10 ^ r.length := Nat.mul_le_mul_right _ (by omega)
  omega
theorem form_of_isForm {l : List UInt8} (h : Dec.isForm l = true) : Dec.form (Dec.body l) = true := by
 unfold Dec.isForm at h; rw [Bool.and_eq_true] at h; exact h.1
theorem read_near {l : List UInt8} (h : Dec.isForm l = true) : Dec.readS l = (fitV (val (l.head? == some 45) (Dec.dval 0 (Dec.body l))), fitE (val (l.head? == some 45) (Dec.dval 0 (Dec.body l)))) := by
 unfold Dec.readS
 rw [if_pos h]
 rcases Dec.isForm_cases h with ⟨d, rfl, hd, hne⟩ | ⟨hd, hh⟩
 ·obtain ⟨hdd, hdn⟩ := Dec.form_parts hd
  rw [Dec.parseI_minus d hdn hdd]
  have hb : Dec.body (45 :: d) = d := by unfold Dec.body; simp
  rw [hb]
  simp only [List.head?_cons, beq_self_eq_true, val, cond_true]
  unfold fitV fitE
  by_cases hv : Dec.dval 0 d ≤ 9223372036854775808
  ·rw [if_pos hv, if_pos (by unfold PowG.Fits; omega), if_pos (by unfold PowG.Fits; omega)]
  ·rw [if_neg hv, if_neg (by unfold PowG.Fits; omega), if_neg (by unfold PowG.Fits; omega)]
 ·obtain ⟨hdd, hdn⟩ := Dec.form_parts hd
  rw [Dec.parseI_plain l hdn hdd]
  have h45 : (l.head? == some 45) = false := by simpa using hh
  have hb : Dec.body l = l := by unfold Dec.body; rw [h45]; rfl
  rw [hb, h45]
  simp only [val, cond_false]
  unfold fitV fitE
  by_cases hv : Dec.dval 0 l < 9223372036854775808
  ·rw [if_pos hv, if_pos (by unfold PowG.Fits; omega), if_pos (by unfold PowG.Fits; omega)]
  ·rw [if_neg hv, if_neg (by unfold PowG.Fits; omega), if_neg (by unfold PowG.Fits; omega)]
theorem read_far {l : List UInt8} (h : Dec.isForm l = true) (hl : 19 < (Dec.body l).length) : Dec.readS l = (0, 13) := by
 rw [read_near h]
 have := dval_20 _ (form_of_isForm h) hl
 have hf : ¬ PowG.Fits (val (l.head? == some 45) (Dec.dval 0 (Dec.body l))) := by
  unfold PowG.Fits val
  cases (l.head? == some 45) <;> simp <;> omega
 unfold fitV fitE
 rw [if_neg hf, if_neg hf]
theorem read_not {l : List UInt8} (h : Dec.isForm l = false) : Dec.readS l = (0, 12) := by unfold Dec.readS; rw [h]; rfl
def digs (m : Nat) : List UInt8 := if m = 0 then [] else Go.Lib.decDigits m
theorem digs_step (m : Nat) (h : m ≠ 0) : digs m = digs (m / 10) ++ [UInt8.ofNat (48 + m % 10)] := by
 unfold digs
 rw [if_neg h]
 by_cases h1 : m < 10
 ·rw [Dec.dec_small h1, if_pos (by omega), Nat.mod_eq_of_lt h1]; rfl
 ·rw [Dec.dec_big h1, if_neg (by omega)]
theorem dec_step (m : Nat) : Go.Lib.decDigits m = digs (m / 10) ++ [UInt8.ofNat (48 + m % 10)] := by
 by_cases h : m = 0
 ·subst h; rw [Dec.dec_small (by omega)]; rfl
 ·rw [← digs_step m h, digs, if_neg h]
theorem itoa_neg (n : Int) (h : n < 0) : Go.Lib.itoa n = 45 :: Go.Lib.decDigits n.natAbs := by unfold Go.Lib.itoa; rw [if_pos h]
theorem itoa_pos (n : Int) (h : ¬ n < 0) : Go.Lib.itoa n = Go.Lib.decDigits n.natAbs := by unfold Go.Lib.itoa; rw [if_neg h]; congr 1; omega
end Go.Proofs.YtpiiemneelkpkaaGreatDoor.Ref
namespace Go.Proofs.YtpiiemneelkpkaaGreatDoor.Div
theorem parts (x y : Int) (_hy : y ≠ 0) :
  x.tdiv y * y = x - x.tmod y ∧ (0 ≤ x → 0 ≤ x.tmod y) ∧ (x ≤ 0 → x.tmod y ≤ 0) ∧ (0 < y → x.tmod y < y ∧ -y < x.tmod y) ∧ (y < 0 → x.tmod y < -y ∧ y < x.tmod y) := by
 have e : y * x.tdiv y + x.tmod y = x := Int.mul_tdiv_add_tmod x y
 refine ⟨by rw [Int.mul_comm]; omega, ?_, ?_, ?_, ?_⟩
 ·intro h; exact Int.tmod_nonneg y h
 ·intro h
  have : 0 ≤ (-x).tmod y := Int.tmod_nonneg y (by omega)
  rw [Int.neg_tmod] at this
  omega
 ·intro h
  have h1 : x.tmod y < y := Int.tmod_lt_of_pos x h
  have h2 : (-x).tmod y < y := Int.tmod_lt_of_pos (-x) h
  rw [Int.neg_tmod] at h2
  omega
 ·intro h
  have h1 : x.tmod (-y) < -y := Int.tmod_lt_of_pos x (by omega)
  have h2 : (-x).tmod (-y) < -y := Int.tmod_lt_of_pos (-x) (by omega)
  rw [Int.neg_tmod] at h2
  rw [Int.tmod_neg] at h1 h2
  omega
theorem side (x y : Int) (hy : y ≠ 0) :
  (0 < x.tdiv y → (0 < x ∧ 0 < y) ∨ (x < 0 ∧ y < 0)) ∧ (x.tdiv y < 0 → (0 < x ∧ y < 0) ∨ (x < 0 ∧ 0 < y)) := by
 obtain ⟨h1, h2, h3, h4, h5⟩ := parts x y hy
 generalize x.tdiv y = q at *
 generalize x.tmod y = r at *
 constructor
 ·intro hq
  rcases Int.lt_or_gt_of_ne hy with h | h
  ·have : q * y ≤ 1 * y := Int.mul_le_mul_of_nonpos_right (by omega) (by omega)
   have := h5 h
   omega
  ·have : 1 * y ≤ q * y := Int.mul_le_mul_of_nonneg_right (by omega) (by omega)
   have := h4 h
   omega
 ·intro hq
  rcases Int.lt_or_gt_of_ne hy with h | h
  ·have : (-1) * y ≤ q * y := Int.mul_le_mul_of_nonpos_right (by omega) (by omega)
   have := h5 h
   omega
  ·have : q * y ≤ (-1) * y := Int.mul_le_mul_of_nonneg_right (by omega) (by omega)
   have := h4 h
   omega
theorem size (x y : Int) (hy : y ≠ 0) : (0 ≤ x → x.tdiv y ≤ x ∧ -x ≤ x.tdiv y) ∧ (x ≤ 0 → x ≤ x.tdiv y ∧ x.tdiv y ≤ -x) := by
 have key : ∀ a b : Int, 0 ≤ a → 0 < b → 0 ≤ a.tdiv b ∧ a.tdiv b ≤ a := by
  intro a b ha hb
  rw [Int.tdiv_eq_ediv_of_nonneg ha]
  exact ⟨Int.ediv_nonneg ha (by omega), Int.ediv_le_self _ ha⟩
 constructor
 ·intro hx
  rcases Int.lt_or_gt_of_ne hy with h | h
  ·have := key x (-y) hx (by omega)
   rw [Int.tdiv_neg] at this
   omega
  ·have := key x y hx h
   omega
 ·intro hx
  rcases Int.lt_or_gt_of_ne hy with h | h
  ·have := key (-x) (-y) (by omega) (by omega)
   rw [Int.tdiv_neg, Int.neg_tdiv] at this
   omega
  ·have := key (-x) y (by omega) h
   rw [Int.neg_tdiv] at this
   omega
theorem fits64 (x y : Int) (hy : y ≠ 0) (h0 : -9223372036854775808 ≤ x) (h1 : x ≤ 9223372036854775807) (hn : x = -9223372036854775808 → y ≠ -1) :
  -9223372036854775808 ≤ x.tdiv y ∧ x.tdiv y ≤ 9223372036854775807 := by
 have hs := size x y hy
 by_cases hx : x = -9223372036854775808
 ·have hy1 := hn hx
  obtain ⟨p1, p2, p3, p4, p5⟩ := parts x y hy
  have hsd := side x y hy
  generalize x.tdiv y = q at *
  generalize x.tmod y = r at *
  refine ⟨by omega, ?_⟩
  rcases Int.lt_or_le 9223372036854775807 q with hq | hq
  ·exfalso
   rcases hsd.1 (by omega) with h | h
   ·omega
   ·have : q * y ≤ q * (-2) := Int.mul_le_mul_of_nonneg_left (by omega) (by omega)
    have := p5 h.2
    have := p3 (by omega)
    omega
  ·exact hq
 ·omega
def modV (x y : Int) : Int := if x.tmod y ≠ 0 ∧ (decide (x.tmod y < 0) != decide (y < 0)) = true then x.tmod y + y else x.tmod y
theorem modV_range (x y : Int) (hy : y ≠ 0) : (0 < y → 0 ≤ modV x y ∧ modV x y < y) ∧ (y < 0 → y < modV x y ∧ modV x y ≤ 0) := by
 obtain ⟨p1, p2, p3, p4, p5⟩ := parts x y hy
 unfold modV
 generalize x.tmod y = r at *
 constructor
 ·intro h
  have := p4 h
  split
  ·rename_i hc
   have h2 : decide (y < 0) = false := by simp; omega
   rw [h2] at hc
   simp at hc
   omega
  ·rename_i hc
   have h2 : decide (y < 0) = false := by simp; omega
   rw [h2] at hc
   simp at hc
   by_cases hr : r = 0
   ·omega
   ·have := hc hr; omega
 ·intro h
  have := p5 h
  split
  ·rename_i hc
   have h2 : decide (y < 0) = true := by simp; omega
   rw [h2] at hc
   simp at hc
   omega
  ·rename_i hc
   have h2 : decide (y < 0) = true := by simp; omega
   rw [h2] at hc
   simp at hc
   by_cases hr : r = 0
   ·omega
   ·have := hc hr; omega
end Go.Proofs.YtpiiemneelkpkaaGreatDoor.Div
namespace Go.Proofs.YtpiiemneelkpkaaGreatDoor.Run
open Go Go.Lib
def wd (s : ByteArray) (i : Nat) : Nat := (Utf8.decode s i).2
theorem wd_eq (s : ByteArray) (i : Nat) : wd s i = (Utf8.decode s i).2 := rfl
theorem wd_pos (s : ByteArray) (i : Nat) : 1 ≤ wd s i := width_pos s i
theorem wd_tail (s : ByteArray) (p i : Nat) : wd (s.extract p s.size) i = wd s (p + i) := by unfold wd; rw [tail_decode]
theorem tail_size (s : ByteArray) (p : Nat) : (s.extract p s.size).size = s.size - p := by simp
theorem wd_le (s : ByteArray) (i : Nat) (h : i < s.size) : i + wd s i ≤ s.size := by
 have h1 := width_le (s.extract i s.size) (by rw [tail_size]; omega)
 have h2 := wd_tail s i 0
 rw [Nat.add_zero] at h2
 unfold wd at h2 ⊢
 rw [h2, tail_size] at h1
 omega
def adv (s : ByteArray) : Nat → Nat → Nat
 | 0, i => i
 | n + 1, i => if i < s.size then adv s n (i + wd s i) else i
theorem adv_zero (s : ByteArray) (i : Nat) : adv s 0 i = i := rfl
theorem adv_succ (s : ByteArray) (n i : Nat) (h : i < s.size) : adv s (n + 1) i = adv s n (i + wd s i) := by rw [adv, if_pos h]
theorem adv_end (s : ByteArray) (n i : Nat) (h : ¬ i < s.size) : adv s n i = i := by
 cases n with
 | zero => rfl
 | succ n => rw [adv, if_neg h]
theorem adv_ge (s : ByteArray) : ∀ n i, i ≤ adv s n i
 | 0, i => Nat.le_refl _
 | n + 1, i => by
  by_cases h : i < s.size
  ·rw [adv_succ s n i h]; have := adv_ge s n (i + wd s i); omega
  ·rw [adv_end s _ i h]; exact Nat.le_refl _
theorem adv_le (s : ByteArray) : ∀ n i, i ≤ s.size → adv s n i ≤ s.size
 | 0, i, h => h
 | n + 1, i, h => by
  by_cases h1 : i < s.size
  ·rw [adv_succ s n i h1]; exact adv_le s n _ (wd_le s i h1)
  ·rw [adv_end s _ i h1]; exact h
theorem adv_add (s : ByteArray) : ∀ n m i, adv s (n + m) i = adv s m (adv s n i)
 | 0, m, i => by rw [Nat.zero_add]; rfl
 | n + 1, m, i => by
  by_cases h : i < s.size
  ·rw [Nat.succ_add, adv_succ s (n + m) i h, adv_succ s n i h, adv_add s n m]
  ·rw [adv_end s _ i h, adv_end s (n + 1) i h, adv_end s m i h]
theorem adv_next (s : ByteArray) (n i : Nat) (h : adv s n i < s.size) : adv s (n + 1) i = adv s n i + wd s (adv s n i) := by
 rw [adv_add s n 1 i, adv_succ s 0 _ h, adv_zero]
theorem adv_tail (s : ByteArray) (p : Nat) (hp : p ≤ s.size) : ∀ n i, p + adv (s.extract p s.size) n i = adv s n (p + i)
 | 0, i => rfl
 | n + 1, i => by
  have hs := tail_size s p
  by_cases h : p + i < s.size
  ·rw [adv_succ _ n i (by omega), adv_succ s n _ h, adv_tail s p hp n, wd_tail, Nat.add_assoc]
  ·rw [adv_end _ _ i (by omega), adv_end s _ _ h]
def cntF (s : ByteArray) : Nat → Nat → Nat
 | 0, _ => 0
 | f + 1, i => if i < s.size then cntF s f (i + wd s i) + 1 else 0
def cnt (s : ByteArray) (i : Nat) : Nat := cntF s s.size i
theorem cntF_more (s : ByteArray) : ∀ f i, s.size ≤ i + f → cntF s (f + 1) i = cntF s f i
 | 0, i, h => by unfold cntF; rw [if_neg (by omega)]
 | f + 1, i, h => by
  by_cases h1 : i < s.size
  ·have hw := wd_pos s i
   rw [cntF, if_pos h1, cntF_more s f _ (by omega)]
   conv => rhs; rw [cntF, if_pos h1]
  ·rw [cntF, if_neg h1]
   conv => rhs; rw [cntF, if_neg h1]
theorem cnt_end (s : ByteArray) (i : Nat) (h : ¬ i < s.size) : cnt s i = 0 := by
 unfold cnt
 cases hs : s.size with
 | zero => rfl
 | succ f => rw [cntF, if_neg h]
theorem cnt_step (s : ByteArray) (i : Nat) (h : i < s.size) : cnt s i = cnt s (i + wd s i) + 1 := by
 have hw := wd_pos s i
 have e : cnt s i = cntF s (s.size + 1) i := (cntF_more s s.size i (by omega)).symm
 rw [e, cntF, if_pos h]
 rfl
theorem cnt_le (s : ByteArray) : ∀ d i, s.size ≤ i + d → cnt s i ≤ s.size - i
 | 0, i, h => by rw [cnt_end s i (by omega)]; exact Nat.zero_le _
 | d + 1, i, h => by
  by_cases h1 : i < s.size
  ·have hw := wd_pos s i
   have := cnt_le s d (i + wd s i) (by omega)
   rw [cnt_step s i h1]; omega
  ·rw [cnt_end s i h1]; exact Nat.zero_le _
theorem cnt_le_size (s : ByteArray) : cnt s 0 ≤ s.size := by have := cnt_le s s.size 0 (by omega); omega
theorem adv_cnt (s : ByteArray) : ∀ d i, i ≤ s.size → s.size ≤ i + d → adv s (cnt s i) i = s.size
 | 0, i, h, h2 => by rw [cnt_end s i (by omega), adv_zero]; omega
 | d + 1, i, h, h2 => by
  by_cases h1 : i < s.size
  ·have hw := wd_pos s i
   rw [cnt_step s i h1, adv_succ s _ i h1]
   exact adv_cnt s d _ (wd_le s i h1) (by omega)
  ·rw [cnt_end s i h1, adv_zero]; omega
theorem adv_all (s : ByteArray) : adv s (cnt s 0) 0 = s.size := adv_cnt s s.size 0 (by omega) (by omega)
theorem adv_over (s : ByteArray) (n : Nat) (h : cnt s 0 ≤ n) : adv s n 0 = s.size := by
 obtain ⟨k, rfl⟩ : ∃ k, n = cnt s 0 + k := ⟨n - cnt s 0, by omega⟩
 rw [adv_add, adv_all, adv_end s k _ (by omega)]
end Go.Proofs.YtpiiemneelkpkaaGreatDoor.Run
namespace Go.Proofs.YtpiiemneelkpkaaGreatDoor.Tr
open Go Go.Lib
def sq : Bool → List UInt8 → List UInt8
 | _, [] => []
 | p, c :: r => cond (c == 32 && p) (sq true r) (c :: sq (c == 32) r)
def trimL (l : List UInt8) : List UInt8 := sq false (trimB l 32)
def nb : Bool → List UInt8 → Bool
 | p, [] => !p
 | p, c :: r => !(c == 32 && p) && nb (c == 32) r
theorem sq_nil (p : Bool) : sq p [] = [] := by cases p <;> rfl
theorem sq_blank (r : List UInt8) : sq true (32 :: r) = sq true r := rfl
theorem sq_keep (p : Bool) (c : UInt8) (r : List UInt8) (h : (c == 32 && p) = false) : sq p (c :: r) = c :: sq (c == 32) r := by rw [sq, h]; rfl
theorem head_dropWhile : ∀ (l : List UInt8), (l.dropWhile (· == 32)).head? ≠ some 32
 | [] => by simp
 | c :: r => by
  by_cases h : c = 32
  ·subst h; rw [List.dropWhile_cons_of_pos (by rfl)]; exact head_dropWhile r
  ·rw [List.dropWhile_cons_of_neg (by simpa using h)]; simpa using h
theorem last_dropWhile : ∀ (l : List UInt8), l.getLast? ≠ some 32 → (l.dropWhile (· == 32)).getLast? ≠ some 32
 | [], h => by simp
 | c :: r, h => by
  by_cases hc : c = 32
  ·subst hc
   rw [List.dropWhile_cons_of_pos (by rfl)]
   cases r with
   | nil => simp
   | cons d r => exact last_dropWhile (d :: r) (by simpa using h)
  ·rw [List.dropWhile_cons_of_neg (by simpa using hc)]; exact h
theorem trimB_head (l : List UInt8) : (trimB l 32).head? ≠ some 32 := head_dropWhile _
theorem trimB_last (l : List UInt8) : (trimB l 32).getLast? ≠ some 32 := by
 refine last_dropWhile _ ?_
 unfold trimRightB
 rw [List.getLast?_reverse]
 exact head_dropWhile _
theorem nb_sq : ∀ (l : List UInt8) (p : Bool), l.getLast? ≠ some 32 → (l = [] → p = false) → nb p (sq p l) = true
 | [], p, _, h => by rw [sq_nil, nb, h rfl]; rfl
 | c :: r, p, h, h2 => by
  have hr : r.getLast? ≠ some 32 := by
   cases r with
   | nil => simp
   | cons d r => simpa using h
  by_cases hc : (c == 32 && p) = true
  ·have hc1 : c = 32 := by simp at hc; exact hc.1
   have hp : p = true := by simp at hc; exact hc.2
   subst hc1 hp
   rw [sq_blank]
   exact nb_sq r true hr (by rintro rfl; simp at h)
  ·have h' : (c == 32 && p) = false := by simpa using hc
   rw [sq_keep p c r h', nb, h']
   simp only [Bool.not_false, Bool.true_and]
   exact nb_sq r _ hr (by rintro rfl; simpa using h)
theorem sq_any (l : List UInt8) (h : l.head? ≠ some 32) (p q : Bool) : sq p l = sq q l := by
 cases l with
 | nil => rw [sq_nil, sq_nil]
 | cons c r =>
  have hc : (c == 32) = false := by simpa using h
  rw [sq_keep p c r (by rw [hc]; rfl), sq_keep q c r (by rw [hc]; rfl)]
theorem nb_last : ∀ (l : List UInt8) (p : Bool), nb p l = true → l.getLast? ≠ some 32
 | [], _, _ => by simp
 | [c], p, h => by rw [nb, Bool.and_eq_true] at h; have := h.2; simpa [nb] using this
 | c :: d :: r, p, h => by
  rw [nb, Bool.and_eq_true] at h
  have := nb_last (d :: r) _ h.2
  simpa using this
theorem sq_length : ∀ (l : List UInt8) (p : Bool), (sq p l).length ≤ l.length
 | [], p => by rw [sq_nil]; exact Nat.le_refl _
 | c :: r, p => by
  rw [sq]
  cases (c == 32 && p)
  ·have := sq_length r (c == 32); simp; exact this
  ·have := sq_length r true; simp; omega
theorem dropWhile_length (l : List UInt8) : (l.dropWhile (· == 32)).length ≤ l.length := by
 have := (List.dropWhile_sublist (p := (· == (32 : UInt8))) (l := l)).length_le; exact this
theorem trimB_length (l : List UInt8) : (trimB l 32).length ≤ l.length := by
 unfold trimB trimRightB trimLeftB
 have h1 := dropWhile_length ((l.reverse.dropWhile (· == 32)).reverse)
 have h2 := dropWhile_length l.reverse
 simp only [List.length_reverse] at h1 h2
 omega
theorem trim_length (l : List UInt8) : (trimL l).length ≤ l.length := by
 have h1 := sq_length (trimB l 32) false; have h2 := trimB_length l; unfold trimL; omega
def lastB : Bool → List UInt8 → Bool
 | p, [] => p
 | _, c :: r => lastB (c == 32) r
theorem sq_snoc : ∀ (l : List UInt8) (p : Bool) (c : UInt8), sq p (l ++ [c]) = sq p l ++ cond (c == 32 && lastB p l) [] [c]
 | [], p, c => by
  rw [List.nil_append, sq_nil, lastB, sq]
  cases (c == 32 && p) <;> simp [sq_nil]
 | d :: r, p, c => by
  rw [List.cons_append, sq, sq, lastB]
  cases hd : (d == 32 && p)
  ·simp only [cond_false, sq_snoc r (d == 32) c, List.cons_append]
  ·have h32 : (d == 32) = true := by rw [Bool.and_eq_true] at hd; exact hd.1
   simp only [cond_true, sq_snoc r true c, h32]
theorem lastB_snoc : ∀ (l : List UInt8) (p : Bool) (c : UInt8), lastB p (l ++ [c]) = (c == 32)
 | [], _, _ => rfl
 | d :: r, _, c => by rw [List.cons_append, lastB, lastB_snoc r (d == 32) c]
def sqk (l : List UInt8) (k : Nat) : List UInt8 := sq false (l.take k)
theorem sqk_keep (l : List UInt8) (k : Nat) (h : k < l.length) (hc : l[k] ≠ 32) : sqk l (k + 1) = sqk l k ++ [l[k]] := by
 unfold sqk
 rw [List.take_succ_eq_append_getElem h, sq_snoc, show (l[k] == 32) = false by simpa using hc]
 rfl
theorem sqk_first (l : List UInt8) (k : Nat) (h : k + 1 < l.length) (hc : l[k] ≠ 32) : sqk l (k + 1 + 1) = sqk l (k + 1) ++ [l[k + 1]] := by
 unfold sqk
 rw [List.take_succ_eq_append_getElem h, sq_snoc, List.take_succ_eq_append_getElem (show k < l.length by omega), lastB_snoc, show (l[k] == 32) = false by simpa using hc, Bool.and_false]
 rfl
theorem sqk_skip (l : List UInt8) (k : Nat) (h : k + 1 < l.length) (hc : l[k] = 32) (hd : l[k + 1] = 32) : sqk l (k + 1 + 1) = sqk l (k + 1) := by
 unfold sqk
 rw [List.take_succ_eq_append_getElem h, sq_snoc, List.take_succ_eq_append_getElem (show k < l.length by omega), lastB_snoc, hc, hd]
 simp
theorem sqk_end (l : List UInt8) : sqk (trimB l 32) (trimB l 32).length = trimL l := by unfold sqk trimL; rw [List.take_length]
theorem sqk_length (l : List UInt8) (k : Nat) : (sqk l k).length ≤ k := by
 have := sq_length (l.take k) false
 have h2 := List.length_take_le k l
 unfold sqk; omega
theorem trimB_first (l : List UInt8) (h : 0 < (trimB l 32).length) : (trimB l 32)[0] ≠ 32 := by
 have := trimB_head l
 intro e
 rw [List.head?_eq_getElem?, List.getElem?_eq_getElem h, e] at this
 exact this rfl
end Go.Proofs.YtpiiemneelkpkaaGreatDoor.Tr
namespace Go.Proofs.YtpiiemneelkpkaaGreatDoor.Tr
open Go Go.Lib
def lastQ (p : Bool) (l : List UInt8) : Bool := match l.getLast? with
 | none => p
 | some d => d == 32
theorem lastQ_nil (p : Bool) : lastQ p [] = p := rfl
theorem lastQ_cons (p : Bool) (d : UInt8) (l : List UInt8) : lastQ p (d :: l) = lastQ (d == 32) l := by
 unfold lastQ
 rw [List.getLast?_cons]
 cases l.getLast? <;> rfl
theorem sq_snocQ : ∀ (l : List UInt8) (p : Bool) (c : UInt8), sq p (l ++ [c]) = sq p l ++ cond (c == 32 && lastQ p (sq p l)) [] [c]
 | [], p, c => by
  rw [sq_nil, lastQ_nil]
  show cond (c == 32 && p) (sq true []) (c :: sq (c == 32) []) = _
  rw [sq_nil, sq_nil]
  rfl
 | d :: r, p, c => by
  have h1 := sq_snocQ r true c
  have h2 := sq_snocQ r (d == 32) c
  show sq p (d :: (r ++ [c])) = _
  rw [sq, sq]
  cases h : (d == 32 && p)
  ·show d :: sq (d == 32) (r ++ [c]) = d :: sq (d == 32) r ++ cond (c == 32 && lastQ p (d :: sq (d == 32) r)) [] [c]
   rw [h2, lastQ_cons]
   rfl
  ·have hp : p = true := by simp at h; exact h.2
   subst hp
   exact h1
theorem sq_drop : ∀ l : List UInt8, sq true (l.dropWhile (· == 32)) = sq true l
 | [] => rfl
 | c :: r => by
  by_cases h : c = 32
  ·subst h; rw [List.dropWhile_cons_of_pos (by rfl), sq_drop r, sq_blank]
  ·rw [List.dropWhile_cons_of_neg (by simpa using h)]
theorem sq_blanks : ∀ (R : List UInt8), (∀ c ∈ R, c = 32) → sq true R = []
 | [], _ => rfl
 | c :: r, h => by
  have : c = 32 := h c (List.mem_cons_self ..)
  subst this
  rw [sq_blank]
  exact sq_blanks r fun x hx => h x (List.mem_cons_of_mem _ hx)
theorem sq_behind : ∀ (m : List UInt8) (p : Bool) (R : List UInt8), (∀ c ∈ R, c = 32) → m ≠ [] → m.getLast? ≠ some 32 → sq p (m ++ R) = sq p m ++ (if R = [] then [] else [32])
 | [], _, _, _, h, _ => absurd rfl h
 | [c], p, R, hR, _, hl => by
  have hc : (c == 32) = false := by simpa using hl
  show sq p (c :: R) = _
  rw [sq_keep p c R (by rw [hc]; rfl), sq_keep p c [] (by rw [hc]; rfl), hc, sq_nil]
  cases R with
  | nil => rw [sq_nil]; rfl
  | cons d r =>
   have hd : d = 32 := hR d (List.mem_cons_self ..)
   subst hd
   rw [sq_keep false 32 r rfl, if_neg (by simp)]
   have := sq_blanks r fun x hx => hR x (List.mem_cons_of_mem _ hx)
   show c :: 32 :: sq true r = _
   rw [this]
   rfl
 | c :: d :: r, p, R, hR, _, hl => by
  have hl2 : (d :: r).getLast? ≠ some 32 := by simpa using hl
  have ih := fun p => sq_behind (d :: r) p R hR (by simp) hl2
  show sq p (c :: ((d :: r) ++ R)) = _
  rw [sq, sq, ih, ih]
  cases (c == 32 && p) <;> rfl
theorem drop_all : ∀ (l : List UInt8), l.dropWhile (· == 32) = [] → ∀ c ∈ l, c = 32
 | [], _, c, h => by cases h
 | d :: r, e, c, h => by
  by_cases hd : d = 32
  ·subst hd
   rw [List.dropWhile_cons_of_pos (by rfl)] at e
   rcases List.mem_cons.1 h with h | h
   ·exact h
   ·exact drop_all r e c h
  ·rw [List.dropWhile_cons_of_neg (by simpa using hd)] at e
   cases e
def strike (l : List UInt8) : List UInt8 := if l.getLast? = some 32 then l.dropLast else l
theorem strike_off (x : List UInt8) : strike (x ++ [32]) = x := by
 unfold strike
 rw [List.getLast?_append]
 simp
theorem strike_none (x : List UInt8) (h : x.getLast? ≠ some 32) : strike x = x := if_neg h
theorem strike_sq (l : List UInt8) : strike (sq true l) = trimL l := by
 obtain ⟨R, hR, hl⟩ : ∃ R, (∀ c ∈ R, c = (32 : UInt8)) ∧ l = trimRightB l 32 ++ R := by
  refine ⟨(l.reverse.takeWhile (· == 32)).reverse, fun c hc => ?_, ?_⟩
  ·have := List.all_eq_true.1 (List.all_takeWhile (p := (· == (32 : UInt8))) (l := l.reverse)) c (List.mem_reverse.1 hc)
   simpa using this
  ·unfold trimRightB
   rw [← List.reverse_append, List.takeWhile_append_dropWhile, List.reverse_reverse]
 have hm : trimB l 32 = (trimRightB l 32).dropWhile (· == 32) := rfl
 have hlast := trimB_last l
 have hhead := trimB_head l
 unfold trimL
 by_cases he : trimB l 32 = []
 ·have e1 : sq true l = [] := by
   have : (trimRightB l 32).dropWhile (· == 32) = [] := by rw [← hm]; exact he
   rw [hl]
   apply sq_blanks
   intro c hc
   rcases List.mem_append.1 hc with h | h
   ·exact drop_all _ this c h
   ·exact hR c h
  rw [he, e1]
  rfl
 ·have e1 : sq true l = sq true (trimB l 32 ++ R) := by
   rw [← sq_drop l]
   congr 1
   rw [hl, List.dropWhile_append, ← hl, ← hm]
   rw [if_neg (by simpa using he)]
  rw [e1, sq_behind _ true R hR he hlast, sq_any _ hhead false true]
  have hn := nb_last _ _ (nb_sq (trimB l 32) true hlast (fun e => absurd e he))
  by_cases hr : R = []
  ·rw [if_pos hr, List.append_nil]
   exact strike_none _ hn
  ·rw [if_neg hr]
   exact strike_off _
end Go.Proofs.YtpiiemneelkpkaaGreatDoor.Tr
namespace Go.Proofs.YtpiiemneelkpkaaGreatDoor.Sw
open Go Go.Lib
set_option linter.unusedVariables false
section
variable (old wit : List UInt8)
def swF : Nat → List UInt8 → List UInt8
 | 0, _ => []
 | _ + 1, [] => []
 | n + 1, c :: r => if old.isPrefixOf (c :: r) then wit ++ swF n ((c :: r).drop old.length) else c :: swF n r
def swp (l : List UInt8) : List UInt8 := swF old wit l.length l
variable {old wit}
theorem swF_more (ho : old ≠ []) : ∀ (n : Nat) (l : List UInt8), l.length ≤ n → swF old wit (n + 1) l = swF old wit n l
 | 0, [], _ => rfl
 | 0, _ :: _, h => absurd h (by simp)
 | n + 1, [], _ => rfl
 | n + 1, c :: r, h => by
  have hl : 1 ≤ old.length := by cases old with
   | nil => exact absurd rfl ho
   | cons _ _ => simp
  simp only [List.length_cons] at h
  rw [swF, swF, swF_more ho n _ (by simp only [List.length_drop, List.length_cons]; omega), swF_more ho n r (by omega)]
theorem swF_enough (ho : old ≠ []) (l : List UInt8) : ∀ k, swF old wit (l.length + k) l = swp old wit l
 | 0 => rfl
 | k + 1 => by rw [← Nat.add_assoc, swF_more ho (l.length + k) l (by omega), swF_enough ho l k]
theorem swF_at (ho : old ≠ []) (l : List UInt8) (n : Nat) (h : l.length ≤ n) : swF old wit n l = swp old wit l := by
 obtain ⟨k, rfl⟩ : ∃ k, n = l.length + k := ⟨n - l.length, by omega⟩
 exact swF_enough ho l k
theorem swp_nil : swp old wit [] = [] := rfl
theorem swp_keep (ho : old ≠ []) (c : UInt8) (r : List UInt8) (h : old.isPrefixOf (c :: r) = false) : swp old wit (c :: r) = c :: swp old wit r := by
 show swF old wit (r.length + 1) (c :: r) = _
 rw [swF, if_neg (by rw [h]; exact Bool.false_ne_true)]
 rfl
theorem swp_hit (ho : old ≠ []) (l : List UInt8) (h : old.isPrefixOf l = true) : swp old wit l = wit ++ swp old wit (l.drop old.length) := by
 cases l with
 | nil =>
  cases old with
  | nil => exact absurd rfl ho
  | cons _ _ => simp at h
 | cons c r =>
  have hl : 1 ≤ old.length := by cases old with
   | nil => exact absurd rfl ho
   | cons _ _ => simp
  show swF old wit (r.length + 1) (c :: r) = _
  rw [swF, if_pos h, swF_at ho _ _ (by simp only [List.length_drop, List.length_cons]; omega)]
theorem swp_index (ho : old ≠ []) : ∀ (l : List UInt8), (index l old = -1 → swp old wit l = l) ∧ ∀ i : Nat, index l old = (i : Int) → swp old wit l = l.take i ++ (wit ++ swp old wit (l.drop (i + old.length)))
 | [] => by
  have he : old.isEmpty = false := by cases old with
   | nil => exact absurd rfl ho
   | cons _ _ => rfl
  refine ⟨fun _ => rfl, fun i h => ?_⟩
  unfold index at h
  rw [he] at h
  exact absurd h (by simp)
 | c :: r => by
  obtain ⟨h1, h2⟩ := swp_index ho r
  unfold index
  cases hp : old.isPrefixOf (c :: r)
  ·rw [if_neg Bool.false_ne_true]
   by_cases hn : index r old = -1
   ·rw [if_pos (by simpa using hn)]
    refine ⟨fun _ => by rw [swp_keep ho c r hp, h1 hn], fun i h => ?_⟩
    exact absurd h (by simp)
   ·rw [if_neg (by simpa using hn)]
    have hg := index_ge r old
    refine ⟨fun h => by omega, fun i h => ?_⟩
    obtain ⟨j, rfl⟩ : ∃ j, i = j + 1 := ⟨i - 1, by omega⟩
    rw [swp_keep ho c r hp, h2 j (by omega), show j + 1 + old.length = (j + old.length) + 1 by omega]
    rfl
  ·rw [if_pos rfl]
   refine ⟨fun h => absurd h (by decide), fun i h => ?_⟩
   obtain rfl : i = 0 := by omega
   rw [swp_hit ho _ hp]
   simp
end
end Go.Proofs.YtpiiemneelkpkaaGreatDoor.Sw
