/- quadrillelaw4.ValueShown for every value. -/
import Derived.Test.YtdbjmjeiaajdiaaDoorValL
import Derived.Test.YtdbjmjeiaajdiaaDoorValR
namespace Go.Proofs.YtdbjmjeiaajdiaaDoor
open Go.RowKit
set_option linter.unusedVariables false
theorem Val.empty_of {t : ByteArray} (h : Val.isE t = true) : t = ⟨#[]⟩ := by
  unfold Val.isE at h
  rw [Lib.toList_data] at h
  have h2 : t.data.toList = [] := by simpa using h
  exact ByteArray.ext (Array.ext' h2)
theorem Val.emp_may (k n : Int) : Val.isE ⟨#[]⟩ = true := by decide +kernel
/-- A number's text is, as a cell, the number. -/
theorem Val.lit_itoa (n : Int) (h0 : -9223372036854775808 ≤ n) (h1 : n ≤ 9223372036854775807) : Val.lit ⟨(Lib.itoa n).toArray⟩ = (⟨1, n, ⟨#[]⟩⟩, true) := by
  have hr := Dec.read_itoa n h0 h1
  have hd : (⟨(Lib.itoa n).toArray⟩ : ByteArray).data.toList = Lib.itoa n := by simp
  have hh : ∃ c r, Lib.itoa n = c :: r ∧ (c = 45 ∨ Dec.dig c = true) := by
    unfold Lib.itoa
    split
    · exact ⟨45, _, rfl, .inl rfl⟩
    · have := Dec.dec_dig n.natAbs
      cases hl : Lib.decDigits n.natAbs with
      | nil => exact absurd hl (Dec.dec_ne _)
      | cons c r =>
        rw [hl] at this
        simp only [List.all_cons, Bool.and_eq_true] at this
        have e : n.toNat = n.natAbs := by omega
        first
          | exact ⟨c, r, hl, .inr this.1⟩
          | exact ⟨c, r, by rw [e]; exact hl, .inr this.1⟩
  obtain ⟨c, r, hl, hc⟩ := hh
  have c61 : ¬ c = 61 := by
    rintro rfl
    rcases hc with h | h
    · exact absurd h (by decide)
    · exact absurd h (by decide)
  have c39 : ¬ c = 39 := by
    rintro rfl
    rcases hc with h | h
    · exact absurd h (by decide)
    · exact absurd h (by decide)
  unfold Val.lit Val.isE
  rw [Lib.toList_data, hd, hr, hl]
  have e61 : ((c :: r : List UInt8).head? == some 61) = false := by simpa using c61
  have e39 : ((c :: r : List UInt8).head? == some 39) = false := by simpa using c39
  rw [e61, e39]
  rfl
theorem Val.lit_quote (t : ByteArray) (h : t.size ≤ 32767) : Val.lit (⟨#[39]⟩ ++ t) = (⟨3, 0, t⟩, true) := by
  have hd : (⟨#[39]⟩ ++ t : ByteArray).data.toList = 39 :: t.data.toList := by
    rw [ByteArray.data_append]
    simp
  have ht : Val.tl (⟨#[39]⟩ ++ t) = t := by
    unfold Val.tl
    rw [hd]
    exact ByteArray.ext (Array.ext' (by simp))
  have hm : Val.mayB ⟨3, 0, t⟩ = true := by
    show (true && decide (t.size ≤ 32767)) = true
    rw [decide_eq_true h]
    rfl
  unfold Val.lit Val.isE
  rw [ht, Val.good_of hm, Lib.toList_data, hd]
  rfl
theorem shown_any (v : Val.V) (w : World) (hv : VB v) (hN : NumW w) : Calls Tryd.prog 4 #[vv v] w fun e w' => e = .returned (.bool true) ∧ Below w.heap.size w w' := by
  have HB : ∀ w', Below w.heap.size w w' → Calls Tryd.prog 6 #[] w' fun e w'' => e = .returned (.bool true) ∧ Below w'.heap.size w' w'' := fun w' hb => begun4 w' (hN.below hb)
  have H1 : ∀ w', Below w.heap.size w w' → _ := fun w' hb => show_any v w' hv (hN.below hb)
  have H2 : ∀ w', Below w.heap.size w w' → _ := fun w' hb => vmay_any v w'
  have H3 : ∀ w', Below w.heap.size w w' → _ := fun w' hb => astext_any v w' hv (hN.below hb)
  have HL : ∀ s : ByteArray, s.size ≤ 140737488351232 → ∀ w', Below w.heap.size w w' → Calls Tryd.prog 11 #[.string s] w' fun e w'' => e = .returned (.tuple #[vv (Val.lit s).1, .bool (Val.lit s).2]) ∧ Below w'.heap.size w' w'' := fun s hs w' hb => lit_any s w' hs (hN.below hb)
  cases hm : Val.mayB v with
  | false =>
    rw [hm] at H2
    unfold Val.show at H1
    rw [Val.good_not hm] at H1
    rcases Val.isC_cases v.k v.n v.t with ⟨h, h1, h2, h3⟩ | ⟨h, _⟩ | ⟨h, _⟩ | ⟨h, _⟩
    · rw [show Val.isC v = true from h] at H1
      obtain ⟨k, n, t⟩ := v
      simp only at h1 h2 h3
      subst h1 h2
      obtain rfl := Val.empty_of (t := t) (by unfold Val.isE; rw [h3]; rfl)
      exact shown_c w HB H1 H2
    all_goals
      rw [show Val.isC v = false from h] at H1
      obtain ⟨k, n, t⟩ := v
      exact shown_x k n t w HB H1 H2
  | true =>
    rw [hm] at H2
    have hg := Val.good_of hm
    have hc := Val.may_cases hm
    have hC : Val.isC v = false := by
      unfold Val.isC
      rcases hc with ⟨a, b⟩ | ⟨a, b⟩ | ⟨a, b⟩ | ⟨a, b⟩ | ⟨a, b, c, d⟩
      · rw [a]; rfl
      · rw [a]; rfl
      · rw [a]; rfl
      · rw [a]; rfl
      · rw [show (v.n == 7) = false by rw [beq_eq_false_iff_ne]; omega]; simp
    unfold Val.show at H1
    rw [hC, hg] at H1
    unfold Val.asText at H3
    rw [hg] at H3
    clear hm hg hC
    obtain ⟨k, n, t⟩ := v
    simp only at hc
    rcases hc with ⟨rfl, rfl, h⟩ | ⟨rfl, h⟩ | ⟨rfl, hn, h⟩ | ⟨rfl, rfl, h⟩ | ⟨rfl, hn0, hn6, h⟩
    · obtain rfl := Val.empty_of h
      have L := HL ⟨#[]⟩ (by decide)
      rw [show Val.lit ⟨#[]⟩ = (⟨0, 0, ⟨#[]⟩⟩, true) by kernel_rfl] at L
      exact shown_b w HB H1 H2 H3 L
    · obtain rfl := Val.empty_of h
      have hl := Dec.itoa_len n hv.n0 hv.n1
      have hz : (⟨(Lib.itoa n).toArray⟩ : ByteArray).size ≤ 140737488351232 := by
        rw [Lib.size_eq]
        simp
        omega
      have L := HL ⟨(Lib.itoa n).toArray⟩ hz
      rw [Val.lit_itoa n hv.n0 hv.n1] at L
      exact shown_i n _ w HB H1 H2 H3 L
    · obtain rfl := Val.empty_of h
      rcases hn with rfl | rfl
      · have L := HL ⟨#[70, 65, 76, 83, 69]⟩ (by decide)
        rw [show Val.lit ⟨#[70, 65, 76, 83, 69]⟩ = (⟨2, 0, ⟨#[]⟩⟩, true) by kernel_rfl] at L
        exact shown_l0 w HB H1 H2 H3 L
      · have L := HL ⟨#[84, 82, 85, 69]⟩ (by decide)
        rw [show Val.lit ⟨#[84, 82, 85, 69]⟩ = (⟨2, 1, ⟨#[]⟩⟩, true) by kernel_rfl] at L
        exact shown_l1 w HB H1 H2 H3 L
    · have hs := hv.sz
      have L := HL t hs
      have L2 := HL (⟨#[39]⟩ ++ t) (by
        rw [ByteArray.size_append]
        have : (⟨#[39]⟩ : ByteArray).size = 1 := rfl
        omega)
      rw [Val.lit_quote t h] at L2
      generalize Val.lit t = g at L
      obtain ⟨⟨a1, a2, a3⟩, ok⟩ := g
      exact shown_t t a1 a2 a3 ok w h HB H1 H2 H3 L L2
    · obtain rfl := Val.empty_of h
      obtain rfl | rfl | rfl | rfl | rfl | rfl : n = 1 ∨ n = 2 ∨ n = 3 ∨ n = 4 ∨ n = 5 ∨ n = 6 := by omega
      · have L := HL ⟨#[35, 78, 65, 77, 69, 63]⟩ (by decide)
        rw [show Val.lit ⟨#[35, 78, 65, 77, 69, 63]⟩ = (⟨4, 1, ⟨#[]⟩⟩, true) by kernel_rfl] at L
        exact shown_e1 w HB H1 H2 H3 L
      · have L := HL ⟨#[35, 78, 85, 77, 33]⟩ (by decide)
        rw [show Val.lit ⟨#[35, 78, 85, 77, 33]⟩ = (⟨4, 2, ⟨#[]⟩⟩, true) by kernel_rfl] at L
        exact shown_e2 w HB H1 H2 H3 L
      · have L := HL ⟨#[35, 82, 69, 70, 33]⟩ (by decide)
        rw [show Val.lit ⟨#[35, 82, 69, 70, 33]⟩ = (⟨4, 3, ⟨#[]⟩⟩, true) by kernel_rfl] at L
        exact shown_e3 w HB H1 H2 H3 L
      · have L := HL ⟨#[35, 86, 65, 76, 85, 69, 33]⟩ (by decide)
        rw [show Val.lit ⟨#[35, 86, 65, 76, 85, 69, 33]⟩ = (⟨4, 4, ⟨#[]⟩⟩, true) by kernel_rfl] at L
        exact shown_e4 w HB H1 H2 H3 L
      · have L := HL ⟨#[35, 68, 73, 86, 47, 48, 33]⟩ (by decide)
        rw [show Val.lit ⟨#[35, 68, 73, 86, 47, 48, 33]⟩ = (⟨4, 5, ⟨#[]⟩⟩, true) by kernel_rfl] at L
        exact shown_e5 w HB H1 H2 H3 L
      · have L := HL ⟨#[35, 78, 47, 65]⟩ (by decide)
        rw [show Val.lit ⟨#[35, 78, 47, 65]⟩ = (⟨4, 6, ⟨#[]⟩⟩, true) by kernel_rfl] at L
        exact shown_e6 w HB H1 H2 H3 L
end Go.Proofs.YtdbjmjeiaajdiaaDoor
