/- Quotient and rest of whole numbers, cut towards nought: the facts that the walks ask. Plain integers; no program. -/
namespace Go.Proofs.YtedcfddbfpgeaaaDoor.Div

/-- Quotient and rest make the number again; the rest is of the number's side and nearer to 0 than the divisor; the quotient's side. -/
theorem parts (x y : Int) (_hy : y ≠ 0) :
    x.tdiv y * y = x - x.tmod y ∧ (0 ≤ x → 0 ≤ x.tmod y) ∧ (x ≤ 0 → x.tmod y ≤ 0) ∧ (0 < y → x.tmod y < y ∧ -y < x.tmod y) ∧ (y < 0 → x.tmod y < -y ∧ y < x.tmod y) := by
  have e : y * x.tdiv y + x.tmod y = x := Int.mul_tdiv_add_tmod x y
  refine ⟨by rw [Int.mul_comm]; omega, ?_, ?_, ?_, ?_⟩
  · intro h; exact Int.tmod_nonneg y h
  · intro h
    have : 0 ≤ (-x).tmod y := Int.tmod_nonneg y (by omega)
    rw [Int.neg_tmod] at this
    omega
  · intro h
    have h1 : x.tmod y < y := Int.tmod_lt_of_pos x h
    have h2 : (-x).tmod y < y := Int.tmod_lt_of_pos (-x) h
    rw [Int.neg_tmod] at h2
    omega
  · intro h
    have h1 : x.tmod (-y) < -y := Int.tmod_lt_of_pos x (by omega)
    have h2 : (-x).tmod (-y) < -y := Int.tmod_lt_of_pos (-x) (by omega)
    rw [Int.neg_tmod] at h2
    rw [Int.tmod_neg] at h1 h2
    omega

/-- The quotient's side, and that it is not farther from 0 than the number. -/
theorem side (x y : Int) (hy : y ≠ 0) :
    (0 < x.tdiv y → (0 < x ∧ 0 < y) ∨ (x < 0 ∧ y < 0)) ∧ (x.tdiv y < 0 → (0 < x ∧ y < 0) ∨ (x < 0 ∧ 0 < y)) := by
  obtain ⟨h1, h2, h3, h4, h5⟩ := parts x y hy
  generalize x.tdiv y = q at *
  generalize x.tmod y = r at *
  constructor
  · intro hq
    rcases Int.lt_or_gt_of_ne hy with h | h
    · have : q * y ≤ 1 * y := Int.mul_le_mul_of_nonpos_right (by omega) (by omega)
      have := h5 h
      omega
    · have : 1 * y ≤ q * y := Int.mul_le_mul_of_nonneg_right (by omega) (by omega)
      have := h4 h
      omega
  · intro hq
    rcases Int.lt_or_gt_of_ne hy with h | h
    · have : (-1) * y ≤ q * y := Int.mul_le_mul_of_nonpos_right (by omega) (by omega)
      have := h5 h
      omega
    · have : q * y ≤ (-1) * y := Int.mul_le_mul_of_nonneg_right (by omega) (by omega)
      have := h4 h
      omega

theorem size (x y : Int) (hy : y ≠ 0) : (0 ≤ x → x.tdiv y ≤ x ∧ -x ≤ x.tdiv y) ∧ (x ≤ 0 → x ≤ x.tdiv y ∧ x.tdiv y ≤ -x) := by
  have key : ∀ a b : Int, 0 ≤ a → 0 < b → 0 ≤ a.tdiv b ∧ a.tdiv b ≤ a := by
    intro a b ha hb
    rw [Int.tdiv_eq_ediv_of_nonneg ha]
    exact ⟨Int.ediv_nonneg ha (by omega), Int.ediv_le_self _ ha⟩
  constructor
  · intro hx
    rcases Int.lt_or_gt_of_ne hy with h | h
    · have := key x (-y) hx (by omega)
      rw [Int.tdiv_neg] at this
      omega
    · have := key x y hx h
      omega
  · intro hx
    rcases Int.lt_or_gt_of_ne hy with h | h
    · have := key (-x) (-y) (by omega) (by omega)
      rw [Int.tdiv_neg, Int.neg_tdiv] at this
      omega
    · have := key (-x) y (by omega) h
      rw [Int.neg_tdiv] at this
      omega

/-- A quotient of 64 bits fits, but for the least number by -1. -/
theorem fits64 (x y : Int) (hy : y ≠ 0) (h0 : -9223372036854775808 ≤ x) (h1 : x ≤ 9223372036854775807) (hn : x = -9223372036854775808 → y ≠ -1) :
    -9223372036854775808 ≤ x.tdiv y ∧ x.tdiv y ≤ 9223372036854775807 := by
  have hs := size x y hy
  by_cases hx : x = -9223372036854775808
  · have hy1 := hn hx
    obtain ⟨p1, p2, p3, p4, p5⟩ := parts x y hy
    have hsd := side x y hy
    generalize x.tdiv y = q at *
    generalize x.tmod y = r at *
    refine ⟨by omega, ?_⟩
    rcases Int.lt_or_le 9223372036854775807 q with hq | hq
    · exfalso
      rcases hsd.1 (by omega) with h | h
      · omega
      · have : q * y ≤ q * (-2) := Int.mul_le_mul_of_nonneg_left (by omega) (by omega)
        have := p5 h.2
        have := p3 (by omega)
        omega
    · exact hq
  · omega

/-- What Mod leaves: the rest, or the rest and the divisor. -/
def modV (x y : Int) : Int := if x.tmod y ≠ 0 ∧ (decide (x.tmod y < 0) != decide (y < 0)) = true then x.tmod y + y else x.tmod y
theorem modV_range (x y : Int) (hy : y ≠ 0) : (0 < y → 0 ≤ modV x y ∧ modV x y < y) ∧ (y < 0 → y < modV x y ∧ modV x y ≤ 0) := by
  obtain ⟨p1, p2, p3, p4, p5⟩ := parts x y hy
  unfold modV
  generalize x.tmod y = r at *
  constructor
  · intro h
    have := p4 h
    split
    · rename_i hc
      have h2 : decide (y < 0) = false := by simp; omega
      rw [h2] at hc
      simp at hc
      omega
    · rename_i hc
      have h2 : decide (y < 0) = false := by simp; omega
      rw [h2] at hc
      simp at hc
      by_cases hr : r = 0
      · omega
      · have := hc hr; omega
  · intro h
    have := p5 h
    split
    · rename_i hc
      have h2 : decide (y < 0) = true := by simp; omega
      rw [h2] at hc
      simp at hc
      omega
    · rename_i hc
      have h2 : decide (y < 0) = true := by simp; omega
      rw [h2] at hc
      simp at hc
      by_cases hr : r = 0
      · omega
      · have := hc hr; omega

/-- .. of 32 bits. -/
theorem fits32 (x y : Int) (hy : y ≠ 0) (h0 : -2147483648 ≤ x) (h1 : x ≤ 2147483647) (hn : x = -2147483648 → y ≠ -1) :
    -2147483648 ≤ x.tdiv y ∧ x.tdiv y ≤ 2147483647 := by
  have hs := size x y hy
  by_cases hx : x = -2147483648
  · have hy1 := hn hx
    obtain ⟨p1, p2, p3, p4, p5⟩ := parts x y hy
    have hsd := side x y hy
    generalize x.tdiv y = q at *
    generalize x.tmod y = r at *
    refine ⟨by omega, ?_⟩
    rcases Int.lt_or_le 2147483647 q with hq | hq
    · exfalso
      rcases hsd.1 (by omega) with h | h
      · omega
      · have : q * y ≤ q * (-2) := Int.mul_le_mul_of_nonneg_left (by omega) (by omega)
        have := p5 h.2
        have := p3 (by omega)
        omega
    · exact hq
  · omega
end Go.Proofs.YtedcfddbfpgeaaaDoor.Div
