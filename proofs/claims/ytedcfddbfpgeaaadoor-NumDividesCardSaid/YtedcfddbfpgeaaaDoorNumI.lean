/- quadrillelaw1.NumDivides is true at every two numbers of 64 bits, in every world that holds the table of powers of ten and the error of the range. -/
import Derived.Test.YtedcfddbfpgeaaaDoorNumH
namespace Go.Proofs.YtedcfddbfpgeaaaDoor
open Go.RowKit
set_option linter.unusedVariables false

theorem wrap_in (n : Int) (h1 : -9223372036854775808 ≤ n) (h2 : n ≤ 9223372036854775807) : IntKind.i64.wrap n = n := by rw [IntKind.wrap_i64]; omega
theorem divides_any (x y : Int) (w : World) (hN : NumW w) (hx1 : -9223372036854775808 ≤ x) (hx2 : x ≤ 9223372036854775807) (hy1 : -9223372036854775808 ≤ y) (hy2 : y ≤ 9223372036854775807) :
    Calls Tryd.prog 8 #[.int .i64 x, .int .i64 y] w fun e w' => e = .returned (.bool true) ∧ Below w.heap.size w w' := by
  by_cases h0 : y = 0
  · subst h0
    exact divides_zero x w hN
  by_cases h1 : x = -9223372036854775808 ∧ y = -1
  · obtain ⟨rfl, rfl⟩ := h1
    exact divides_over w hN
  have hne : x = -9223372036854775808 → y ≠ -1 := fun e e2 => h1 ⟨e, e2⟩
  obtain ⟨p1, p2, p3, p4, p5⟩ := Div.parts x y h0
  obtain ⟨s1, s2⟩ := Div.side x y h0
  have hm : Div.modV x y = if x.tmod y ≠ 0 ∧ (decide (x.tmod y < 0) != decide (y < 0)) = true then x.tmod y + y else x.tmod y := rfl
  obtain ⟨q, hq⟩ : ∃ q, x.tdiv y = q := ⟨_, rfl⟩
  obtain ⟨r, hr⟩ : ∃ r, x.tmod y = r := ⟨_, rfl⟩
  obtain ⟨m, hmm⟩ : ∃ m, Div.modV x y = m := ⟨_, rfl⟩
  have hQ := fun w => quo_ok x y q w h0 hne hx1 hx2 hq
  have hM := fun w => mod_ok x y m w h0 hy1 hy2 hmm
  rw [hq, hr] at p1
  rw [hr] at p2 p3 p4 p5
  rw [hq] at s1 s2
  rw [hmm, hr] at hm
  have w1 : IntKind.i64.wrap (q * y) = x - r := by
    rw [p1]
    rcases Int.lt_or_le x 0 with hx | hx
    · have := p3 (by omega)
      rcases Int.lt_or_gt_of_ne h0 with h | h
      · have := p5 h
        by_cases hz : x < r
        · exact wrap_in _ (by omega) (by omega)
        · have : q * y = x - r := p1
          exact wrap_in _ (by omega) (by omega)
      · have := p4 h
        exact wrap_in _ (by omega) (by omega)
    · have := p2 hx
      exact wrap_in _ (by omega) (by omega)
  have w2 : IntKind.i64.wrap (x - (x - r)) = r := by
    rw [show x - (x - r) = r by omega]
    rcases Int.lt_or_gt_of_ne h0 with h | h
    · have := p5 h
      rcases Int.lt_or_le x 0 with hx | hx
      · have := p3 (by omega); exact wrap_in _ (by omega) (by omega)
      · have := p2 hx
        by_cases hc : r ≤ 9223372036854775807
        · exact wrap_in _ (by omega) hc
        · omega
    · have := p4 h
      exact wrap_in _ (by omega) (by omega)
  have hxl : (x == -9223372036854775808) = false ∨ ((x == -9223372036854775808) = true ∧ (y == -1) = false) := by
    by_cases e : x = -9223372036854775808
    · exact .inr ⟨by simpa using e, by simpa using hne e⟩
    · exact .inl (by simpa using e)
  have hrr : (0 < y → -y < r ∧ r < y) ∧ (y < 0 → y < r ∧ r < -y) := ⟨fun h => ⟨(p4 h).2, (p4 h).1⟩, fun h => ⟨(p5 h).2, (p5 h).1⟩⟩
  clear hx1 hx2 h1 hne hq hr hmm
  have r1 : r < y ∨ r < -y := by omega
  have r2 : y < r ∨ -y < r := by omega
  rcases Int.lt_or_gt_of_ne h0 with h | h
  · have hy : decide (y < 0) = true := by simp; omega
    rw [hy] at hm
    rcases Int.lt_trichotomy r 0 with hr0 | hr0 | hr0
    · have hd : decide (r < 0) = true := by simp; omega
      have hmr : m = r := by rw [hm, hd]; simp
      have hx0 : x < 0 := by
        rcases Int.lt_or_le x 0 with e | e
        · exact e
        · have := p2 e; omega
      rcases Int.lt_trichotomy q 0 with hq0 | hq0 | hq0
      · have := s2 hq0; omega
      · exact divides_10 x y q m r _ w hN hQ hM w1 w2 hy1 hy2 r1 r2 h hx0 hq0 hr0 hmr hxl hrr
      · exact divides_11 x y q m r _ w hN hQ hM w1 w2 hy1 hy2 r1 r2 h hx0 hq0 hr0 hmr hxl hrr
    · have hmr : m = r := by rw [hm, hr0]; simp
      rcases Int.lt_trichotomy q 0 with hq0 | hq0 | hq0
      · have := s2 hq0
        exact divides_9 x y q m r _ w hN hQ hM w1 w2 hy1 hy2 r1 r2 h (by omega) hq0 hr0 hmr hxl hrr
      · exact divides_7 x y q m r _ w hN hQ hM w1 w2 hy1 hy2 r1 r2 h (by rw [hq0, Int.zero_mul] at p1; omega) hq0 hr0 hmr hxl hrr
      · have := s1 hq0
        exact divides_8 x y q m r _ w hN hQ hM w1 w2 hy1 hy2 r1 r2 h (by omega) hq0 hr0 hmr hxl hrr
    · have hd : decide (r < 0) = false := by simp; omega
      have hmr : m = r + y := by rw [hm, hd, if_pos ⟨by omega, by decide⟩]
      have hx0 : 0 < x := by
        rcases Int.lt_or_le 0 x with e | e
        · exact e
        · have := p3 e; omega
      rcases Int.lt_trichotomy q 0 with hq0 | hq0 | hq0
      · exact divides_13 x y q m r _ w hN hQ hM w1 w2 hy1 hy2 r1 r2 h hx0 hq0 hr0 hmr hxl hrr
      · exact divides_12 x y q m r _ w hN hQ hM w1 w2 hy1 hy2 r1 r2 h hx0 hq0 hr0 hmr hxl hrr
      · have := s1 hq0; omega
  · have hy : decide (y < 0) = false := by simp; omega
    rw [hy] at hm
    rcases Int.lt_trichotomy r 0 with hr0 | hr0 | hr0
    · have hd : decide (r < 0) = true := by simp; omega
      have hmr : m = r + y := by rw [hm, hd, if_pos ⟨by omega, by decide⟩]
      have hx0 : x < 0 := by
        rcases Int.lt_or_le x 0 with e | e
        · exact e
        · have := p2 e; omega
      rcases Int.lt_trichotomy q 0 with hq0 | hq0 | hq0
      · exact divides_6 x y q m r _ w hN hQ hM w1 w2 hy1 hy2 r1 r2 h hx0 hq0 hr0 hmr hxl hrr
      · exact divides_5 x y q m r _ w hN hQ hM w1 w2 hy1 hy2 r1 r2 h hx0 hq0 hr0 hmr hxl hrr
      · have := s1 hq0; omega
    · have hmr : m = r := by rw [hm, hr0]; simp
      rcases Int.lt_trichotomy q 0 with hq0 | hq0 | hq0
      · have := s2 hq0
        exact divides_2 x y q m r _ w hN hQ hM w1 w2 hy1 hy2 r1 r2 h (by omega) hq0 hr0 hmr hxl hrr
      · exact divides_0 x y q m r _ w hN hQ hM w1 w2 hy1 hy2 r1 r2 h (by rw [hq0, Int.zero_mul] at p1; omega) hq0 hr0 hmr hxl hrr
      · have := s1 hq0
        exact divides_1 x y q m r _ w hN hQ hM w1 w2 hy1 hy2 r1 r2 h (by omega) hq0 hr0 hmr hxl hrr
    · have hd : decide (r < 0) = false := by simp; omega
      have hmr : m = r := by rw [hm, hd]; simp
      have hx0 : 0 < x := by
        rcases Int.lt_or_le 0 x with e | e
        · exact e
        · have := p3 e; omega
      rcases Int.lt_trichotomy q 0 with hq0 | hq0 | hq0
      · have := s2 hq0; omega
      · exact divides_3 x y q m r _ w hN hQ hM w1 w2 hy1 hy2 r1 r2 h hx0 hq0 hr0 hmr hxl hrr
      · exact divides_4 x y q m r _ w hN hQ hM w1 w2 hy1 hy2 r1 r2 h hx0 hq0 hr0 hmr hxl hrr
end Go.Proofs.YtedcfddbfpgeaaaDoor
