/- Powers that fit 64 bits; greatest common divisors of 64 bits. Plain integers; no program. -/
namespace Go.Proofs.YtdbjmjeiaajdiaaDoor.PowG

def Fits (n : Int) : Prop := -9223372036854775808 ≤ n ∧ n ≤ 9223372036854775807
instance (n : Int) : Decidable (Fits n) := by unfold Fits; infer_instance

/-- A number of magnitude 2 or more: with another factor of magnitude 1 or more a product that did not fit does not fit. -/
theorem natAbs_fits {n : Int} (h : ¬ Fits n) : 9223372036854775808 ≤ n.natAbs := by unfold Fits at h; omega
theorem fits_of_lt {n : Int} (h : n.natAbs < 9223372036854775808) : Fits n := by unfold Fits; omega

theorem pow_natAbs_pos (x : Int) (k : Nat) (hx : 2 ≤ x.natAbs) : 1 ≤ (x ^ k).natAbs := by
  rw [Int.natAbs_pow]
  exact Nat.one_le_pow _ _ (by omega)

/-- A power that does not fit: no higher power of the same number fits. -/
theorem pow_over (x : Int) (k j : Nat) (hx : 2 ≤ x.natAbs) (h : ¬ Fits (x ^ k)) : ¬ Fits (x ^ (k + j)) := by
  rcases Nat.eq_zero_or_pos j with e | e
  · subst e; exact h
  · have h1 := natAbs_fits h
    have h2 : 2 ≤ (x ^ j).natAbs := by
      rw [Int.natAbs_pow]
      calc 2 ≤ x.natAbs := hx
        _ = x.natAbs ^ 1 := by rw [Nat.pow_one]
        _ ≤ x.natAbs ^ j := Nat.pow_le_pow_right (by omega) e
    intro hf
    have h3 : (x ^ (k + j)).natAbs = (x ^ k).natAbs * (x ^ j).natAbs := by rw [Int.pow_add, Int.natAbs_mul]
    have h4 : (x ^ k).natAbs * 2 ≤ (x ^ k).natAbs * (x ^ j).natAbs := Nat.mul_le_mul_left _ h2
    unfold Fits at hf
    omega

theorem pow_small (x : Int) (k : Nat) (hx : x.natAbs ≤ 1) : Fits (x ^ k) := by
  apply fits_of_lt
  rw [Int.natAbs_pow]
  have : x.natAbs ^ k ≤ 1 ^ k := Nat.pow_le_pow_left hx k
  rw [Nat.one_pow] at this
  omega

theorem pow_over' (x : Int) (k j : Nat) (h : ¬ Fits (x ^ k)) : ¬ Fits (x ^ (k + j)) := by
  rcases Nat.lt_or_ge x.natAbs 2 with hx | hx
  · exact absurd (pow_small x k (by omega)) h
  · exact pow_over x k j hx h

/-- What Pow answers: the power, where it fits. -/
def powN (x : Int) (k : Nat) : Int := if Fits (x ^ k) then x ^ k else 0
def powE (x : Int) (k : Nat) : Int := if Fits (x ^ k) then 0 else 13

theorem negone_pow (k : Nat) : (-1 : Int) ^ k = 1 - 2 * ((k : Int) % 2) := by
  induction k with
  | zero => rfl
  | succ k ih => rw [Int.pow_succ, ih]; omega
theorem one_pow (k : Nat) : (1 : Int) ^ k = 1 := by
  induction k with
  | zero => rfl
  | succ k ih => rw [Int.pow_succ, ih]; rfl
theorem zero_pow (k : Nat) (h : 1 ≤ k) : (0 : Int) ^ k = 0 := by
  match k, h with
  | k + 1, _ => rw [Int.pow_succ]; simp

/-! ### Greatest common divisors -/
theorem gcd_step (a b : Nat) : Nat.gcd a b = Nat.gcd b (a % b) := by rw [Nat.gcd_comm, Nat.gcd_rec, Nat.gcd_comm]
theorem gcd_le (a b M : Nat) (ha : a ≤ M) (hb : b ≤ M) : Nat.gcd a b ≤ M := by
  rcases Nat.eq_zero_or_pos a with h | h
  · subst h; rw [Nat.gcd_zero_left]; exact hb
  · exact Nat.le_trans (Nat.gcd_le_left _ h) ha
/-- A divisor of two magnitudes up to 2^63 that is 2^63 itself: each is 2^63 or 0. -/
theorem gcd_great (a b : Nat) (ha : a ≤ 9223372036854775808) (hb : b ≤ 9223372036854775808) (h : 9223372036854775807 < Nat.gcd a b) :
    (a = 9223372036854775808 ∨ a = 0) ∧ (b = 9223372036854775808 ∨ b = 0) := by
  constructor
  · rcases Nat.eq_zero_or_pos a with e | e
    · exact .inr e
    · have := Nat.gcd_le_left b e; omega
  · rcases Nat.eq_zero_or_pos b with e | e
    · exact .inr e
    · have := Nat.gcd_le_right a e; omega
end Go.Proofs.YtdbjmjeiaajdiaaDoor.PowG
