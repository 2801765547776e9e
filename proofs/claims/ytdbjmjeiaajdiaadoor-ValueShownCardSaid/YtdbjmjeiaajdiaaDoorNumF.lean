/- The contract of whole.Read at every text of at most 2^47 bytes: what the plain function Dec.readS answers. Of what was there nothing turns. -/
import Derived.Test.YtdbjmjeiaajdiaaDoorNumE
import Derived.Lib.IndexBytes
namespace Go.Proofs.YtdbjmjeiaajdiaaDoor
open Go.RowKit
set_option linter.unusedVariables false

theorem all_dig {d : ByteArray} (h : d.data.toList.all Dec.dig = true) : ∀ j (h : j < d.size), 48 ≤ (d[j]'h).toNat ∧ (d[j]'h).toNat ≤ 57 := by
  intro j hj
  have hm : d[j] ∈ d.data.toList := List.getElem_mem (by simpa using hj)
  exact Dec.dig_iff.1 (List.all_eq_true.1 h _ hm)
theorem not_all_dig {d : ByteArray} (h : d.data.toList.all Dec.dig = false) : ∃ j, ∃ h : j < d.size, ¬ (48 ≤ (d[j]'h).toNat ∧ (d[j]'h).toNat ≤ 57) := by
  obtain ⟨c, hm, hc⟩ := List.all_eq_false.1 h
  obtain ⟨j, hj, e⟩ := List.getElem_of_mem hm
  refine ⟨j, by simpa using hj, fun hd => hc ?_⟩
  have e2 : d[j]'(by simpa using hj) = c := e
  rw [e2] at hd
  exact Dec.dig_iff.2 hd

/-- ParseInt at a text of the form. -/
theorem parse_ok (s : ByteArray) (hs : s.size ≤ 140737488351232) (v : Int) (h : Lib.parseIntB 64 s.data.toList = .ok v) (w : World) :
    Calls Tryd.prog 63 #[.string s, .int .i64 10, .int .i64 64] w fun e w' => e = .returned (.tuple #[.int .i64 v, .nilIface]) ∧ Below w.heap.size w w' :=
  (Tryd.strconv_ParseInt_10_at64_ok s (by omega) v h w).mono fun e w' ⟨he, hw⟩ => ⟨he, by
    rcases hw with rfl | ⟨t, rfl⟩
    · exact Below.refl _ _
    · exact Lib.bytesWorld_below _ _ _⟩
theorem parse_range (s : ByteArray) (hs : s.size ≤ 140737488351232) (h : Lib.parseIntB 64 s.data.toList = .range) (w : World) (hN : NumW w) :
    Calls Tryd.prog 63 #[.string s, .int .i64 10, .int .i64 64] w fun e w' => ∃ (x : Int) (t : TypeId) (N : Nat), e = .returned (.tuple #[.int .i64 x, .iface t (.pointer (some ⟨N, 0, none⟩))]) ∧ Below w.heap.size w w' := by
  obtain ⟨te, pe, hc⟩ := hN.rng
  exact (Tryd.strconv_ParseInt_10_at64_range s (by omega) h _ w hc (.inr ⟨te, pe, rfl⟩)).mono fun e w' ⟨N, he, _, _, hb⟩ => ⟨_, _, N, he, hb⟩

/-- READ. -/
theorem read_any (s : ByteArray) (x y : Int) (w : World) (hs : s.size ≤ 140737488351232) (hN : NumW w) (h : Dec.readS s.data.toList = (x, y)) :
    Calls Tryd.prog 31 #[.string s] w fun e w' => e = .returned (.tuple #[.int .i64 x, .int .i64 y]) ∧ Below w.heap.size w w' := by
  have hsz := Lib.size_eq s
  have htl := Lib.toList_data s
  rcases hl : s.data.toList with _ | ⟨c, r⟩
  · rw [hl] at h htl
    obtain ⟨rfl, rfl⟩ : x = 0 ∧ y = 12 := by
      have : Dec.readS [] = (0, 12) := by decide
      rw [this] at h
      simp only [Prod.mk.injEq] at h
      exact ⟨h.1.symm, h.2.symm⟩
    exact read_empty w s htl
  · have e0 : s.toList.isEmpty = false := by rw [htl, hl]; rfl
    have e1 : ¬ s.toList = [] := by rw [htl, hl]; simp
    have hz : 0 < s.size := by rw [hsz, hl]; simp
    have hc : s[0] = c := by
      have := get_list s 0 hz
      rw [← this]
      simp [hl]
    rw [hl] at h
    -- what the one reading answers, by the form
    by_cases h45 : c = 45
    · subst h45
      have t45 : (((s[0]'hz).toNat : Int) == 45) = true := by rw [hc]; decide
      obtain ⟨d, hd⟩ : ∃ d, s.extract 1 s.size = d := ⟨_, rfl⟩
      have hdl : d.data.toList = r := by rw [← hd, Lib.extract_to_end, hl]; rfl
      have hdsz : s.size - 1 = d.size := by rw [Lib.size_eq d, hdl, hsz, hl]; simp
      have hdtl := Lib.toList_data d
      rw [hdl] at hdtl
      rcases r with _ | ⟨b, r'⟩
      · obtain ⟨rfl, rfl⟩ : x = 0 ∧ y = 12 := by
          have : Dec.readS [45] = (0, 12) := by decide
          rw [this] at h
          simp only [Prod.mk.injEq] at h
          exact ⟨h.1.symm, h.2.symm⟩
        exact read_m_none s d w e0 e1 hz t45 hd hdsz hdtl
      · have f0 : d.toList.isEmpty = false := by rw [hdtl]; rfl
        have f1 : ¬ d.toList = [] := by rw [hdtl]; simp
        have hdz : 0 < d.size := by rw [Lib.size_eq d, hdl]; simp
        have hb : d[0] = b := by
          have := get_list d 0 hdz
          rw [← this]
          simp [hdl]
        have hs48 : (s.toList == [48]) = false := by rw [htl, hl]; simp
        by_cases h48 : b = 48
        · -- an idle 0 behind the sign
          have t48 : (((d[0]'hdz).toNat : Int) == 48) = true := by rw [hb, h48]; decide
          obtain ⟨rfl, rfl⟩ : x = 0 ∧ y = 12 := by
            have hf : Dec.isForm (45 :: b :: r') = false := by
              subst h48
              unfold Dec.isForm Dec.body Dec.form
              simp
            unfold Dec.readS at h
            rw [hf] at h
            simp only [Bool.false_eq_true, if_false, Prod.mk.injEq] at h
            exact ⟨h.1.symm, h.2.symm⟩
          exact read_m_idle s d w e0 e1 hz t45 hd hdsz f0 f1 hdz t48 hs48
        · have t48 : (((d[0]'hdz).toNat : Int) == 48) = false := by
            rw [hb, beq_eq_false_iff_ne]
            intro e
            exact h48 (Dec.toNat_inj (by have : (48 : UInt8).toNat = 48 := rfl
                                         omega))
          by_cases hall : (b :: r').all Dec.dig = true
          · have hf : Dec.isForm (45 :: b :: r') = true := Dec.isForm_minus (by unfold Dec.form; rw [hall]; simp [h48]) (by simp [h48])
            unfold Dec.readS at h
            rw [if_pos hf] at h
            rcases Dec.parse_of_form hf with ⟨v, hv⟩ | hv
            · rw [hv] at h
              simp only [Prod.mk.injEq] at h
              obtain ⟨rfl, rfl⟩ := h
              exact read_m_ok s d w e0 e1 hz t45 hd hdsz f0 f1 hdz (.inl t48) (all_dig (by rw [hdl]; exact hall)) (by omega) v (fun w => parse_ok s hs v (by rw [hl]; exact hv) w)
            · rw [hv] at h
              simp only [Prod.mk.injEq] at h
              obtain ⟨rfl, rfl⟩ := h
              exact read_m_range s d w e0 e1 hz t45 hd hdsz f0 f1 hdz (.inl t48) (all_dig (by rw [hdl]; exact hall)) (by omega) (parse_range s hs (by rw [hl]; exact hv) w hN)
          · have hall' : (b :: r').all Dec.dig = false := by simpa using hall
            obtain ⟨rfl, rfl⟩ : x = 0 ∧ y = 12 := by
              have hf : Dec.isForm (45 :: b :: r') = false := by
                unfold Dec.isForm Dec.body Dec.form
                simp only [List.head?_cons, beq_self_eq_true, cond_true, List.tail_cons, hall', Bool.false_and]
              unfold Dec.readS at h
              rw [hf] at h
              simp only [Bool.false_eq_true, if_false, Prod.mk.injEq] at h
              exact ⟨h.1.symm, h.2.symm⟩
            exact read_m_bad s d w e0 e1 hz t45 hd hdsz f0 f1 hdz (.inl t48) (not_all_dig (by rw [hdl]; exact hall')) (by omega)
    · have h45n : c.toNat ≠ 45 := fun e => h45 (Dec.toNat_inj (by have : (45 : UInt8).toNat = 45 := rfl
                                                                  omega))
      have t45 : (((s[0]'hz).toNat : Int) == 45) = false := by rw [hc, beq_eq_false_iff_ne]; omega
      have hbody : Dec.body (c :: r) = c :: r := by
        have : (c == 45) = false := by simpa using h45
        unfold Dec.body
        simp [this]
      have hform : Dec.isForm (c :: r) = Dec.form (c :: r) := by
        have : (c == 45) = false := by simpa using h45
        unfold Dec.isForm
        rw [hbody]
        simp [this]
      by_cases h48 : c = 48 ∧ r ≠ []
      · have t48 : (((s[0]'hz).toNat : Int) == 48) = true := by rw [hc, h48.1]; decide
        have hs48 : (s.toList == [48]) = false := by rw [htl, hl]; simp [h48.2]
        obtain ⟨rfl, rfl⟩ : x = 0 ∧ y = 12 := by
          have hf : Dec.isForm (c :: r) = false := by
            rw [hform, h48.1]
            unfold Dec.form
            simp [h48.2]
          unfold Dec.readS at h
          rw [hf] at h
          simp only [Bool.false_eq_true, if_false, Prod.mk.injEq] at h
          exact ⟨h.1.symm, h.2.symm⟩
        exact read_p_idle s w e0 e1 hz t45 t48 hs48
      · have t48 : (((s[0]'hz).toNat : Int) == 48) = false ∨ ((((s[0]'hz).toNat : Int) == 48) = true ∧ (s.toList == [48]) = true) := by
          by_cases e : c = 48
          · right
            have hr : r = [] := by
              by_cases e2 : r = []
              · exact e2
              · exact absurd ⟨e, e2⟩ h48
            exact ⟨by rw [hc, e]; decide, by rw [htl, hl, e, hr]; decide⟩
          · left
            rw [hc, beq_eq_false_iff_ne]
            intro e2
            exact e (Dec.toNat_inj (by have : (48 : UInt8).toNat = 48 := rfl
                                       omega))
        by_cases hall : (c :: r).all Dec.dig = true
        · have hf : Dec.isForm (c :: r) = true := by
            rw [hform]
            unfold Dec.form
            rw [hall]
            by_cases e : c = 48
            · have hr : r = [] := by
                by_cases e2 : r = []
                · exact e2
                · exact absurd ⟨e, e2⟩ h48
              subst e hr
              rfl
            · simp [e]
          unfold Dec.readS at h
          rw [if_pos hf] at h
          rcases Dec.parse_of_form hf with ⟨v, hv⟩ | hv
          · rw [hv] at h
            simp only [Prod.mk.injEq] at h
            obtain ⟨rfl, rfl⟩ := h
            exact read_p_ok s w e0 e1 hz t45 t48 (all_dig (by rw [hl]; exact hall)) hs v (fun w => parse_ok s hs v (by rw [hl]; exact hv) w)
          · rw [hv] at h
            simp only [Prod.mk.injEq] at h
            obtain ⟨rfl, rfl⟩ := h
            exact read_p_range s w e0 e1 hz t45 t48 (all_dig (by rw [hl]; exact hall)) hs (parse_range s hs (by rw [hl]; exact hv) w hN)
        · have hall' : (c :: r).all Dec.dig = false := by simpa using hall
          obtain ⟨rfl, rfl⟩ : x = 0 ∧ y = 12 := by
            have hf : Dec.isForm (c :: r) = false := by
              rw [hform]
              unfold Dec.form
              rw [hall']
              rfl
            unfold Dec.readS at h
            rw [hf] at h
            simp only [Bool.false_eq_true, if_false, Prod.mk.injEq] at h
            exact ⟨h.1.symm, h.2.symm⟩
          exact read_p_bad s w e0 e1 hz t45 t48 (not_all_dig (by rw [hl]; exact hall')) hs
end Go.Proofs.YtdbjmjeiaajdiaaDoor
