/- The contract of quadrilleref1.Read, whole: it answers what whole.Read answers. -/
import Derived.Test.YtdbjmjeiaajdiaaDoorRefE
namespace Go.Proofs.YtdbjmjeiaajdiaaDoor
open Go.RowKit
set_option linter.unusedVariables false
theorem cond_fitE (v : Int) : (cond (Ref.fitB v) 0 13 : Int) = Ref.fitE v := by
  unfold Ref.fitB Ref.fitE
  by_cases h : PowG.Fits v
  · rw [decide_eq_true h, if_pos h]; rfl
  · rw [decide_eq_false h, if_neg h]; rfl
theorem told_read (neg : Bool) (D : Nat) (x y : Int) (w : World) (hx : Ref.fitV (Ref.val neg D) = x) (hy : Ref.fitE (Ref.val neg D) = y) :
    Calls Tryd.prog 95 #[.agg #[.bool neg, .bool false, .int .u64 (D : Int)]] w fun e w' => e = .returned (.tuple #[.int .i64 x, .int .i64 y]) ∧ Below w.heap.size w w' := by
  have := told_any neg false D x (Ref.fitB (Ref.val neg D)) w hx (by unfold Ref.rB; rfl)
  rw [cond_fitE, hy] at this
  exact this
/-- READ. -/
theorem rread_any (s : ByteArray) (x y : Int) (w : World) (hs : s.size ≤ 140737488351232) (h : Dec.readS s.data.toList = (x, y)) :
    Calls Tryd.prog 54 #[.string s] w fun e w' => e = .returned (.tuple #[.int .i64 x, .int .i64 y]) ∧ Below w.heap.size w w' := by
  have hsz := Lib.size_eq s
  have htl := Lib.toList_data s
  rcases hl : s.data.toList with _ | ⟨c, r⟩
  · rw [hl] at h hsz
    obtain ⟨rfl, rfl⟩ : x = 0 ∧ y = 12 := by
      have : Dec.readS [] = (0, 12) := by decide
      rw [this] at h
      simp only [Prod.mk.injEq] at h
      exact ⟨h.1.symm, h.2.symm⟩
    exact rread_empty s w hsz
  · have hz : 0 < s.size := by rw [hsz, hl]; simp
    have hc : s[0] = c := by
      have := get_list s 0 hz
      rw [← this]
      simp [hl]
    rw [hl] at h
    by_cases h45 : c = 45
    · subst h45
      have t45 : (((s[0]'hz).toNat : Int) == 45) = true := by rw [hc]; decide
      obtain ⟨d, hd⟩ : ∃ d, s.extract 1 s.size = d := ⟨_, rfl⟩
      have hdl : d.data.toList = r := by rw [← hd, Lib.extract_to_end, hl]; rfl
      have hdsz : s.size - 1 = d.size := by rw [Lib.size_eq d, hdl, hsz, hl]; simp
      rcases r with _ | ⟨b, r'⟩
      · obtain ⟨rfl, rfl⟩ : x = 0 ∧ y = 12 := by
          have : Dec.readS [45] = (0, 12) := by decide
          rw [this] at h
          simp only [Prod.mk.injEq] at h
          exact ⟨h.1.symm, h.2.symm⟩
        exact rread_m_none s d w hz t45 hd hdsz (by rw [Lib.size_eq d, hdl]; rfl)
      · have hdz : 0 < d.size := by rw [Lib.size_eq d, hdl]; simp
        have hb : d[0] = b := by
          have := get_list d 0 hdz
          rw [← this]
          simp [hdl]
        have hs48 : (s.toList == [48]) = false := by rw [htl, hl]; simp
        by_cases h48 : b = 48
        · have t48 : (((d[0]'hdz).toNat : Int) == 48) = true := by rw [hb, h48]; decide
          obtain ⟨rfl, rfl⟩ : x = 0 ∧ y = 12 := by
            have hf : Dec.isForm (45 :: b :: r') = false := by
              subst h48
              unfold Dec.isForm Dec.body Dec.form
              simp
            rw [Ref.read_not hf] at h
            simp only [Prod.mk.injEq] at h
            exact ⟨h.1.symm, h.2.symm⟩
          exact rread_m_idle s d w hz t45 hd hdsz hdz t48 hs48
        · have t48 : (((d[0]'hdz).toNat : Int) == 48) = false := by
            rw [hb, beq_eq_false_iff_ne]
            intro e
            exact h48 (Dec.toNat_inj (by have : (48 : UInt8).toNat = 48 := rfl
                                         omega))
          by_cases hall : (b :: r').all Dec.dig = true
          · have hf : Dec.isForm (45 :: b :: r') = true := Dec.isForm_minus (by unfold Dec.form; rw [hall]; simp [h48]) (by simp [h48])
            have hbody : Dec.body (45 :: b :: r') = b :: r' := by unfold Dec.body; simp
            by_cases hfar : 19 < d.size
            · have := Ref.read_far hf (by rw [hbody, ← hdl, ← Lib.size_eq]; exact hfar)
              rw [this] at h
              simp only [Prod.mk.injEq] at h
              obtain ⟨rfl, rfl⟩ := h
              exact rread_m_far s d w hz t45 hd hdsz hdz (.inl t48) (all_dig (by rw [hdl]; exact hall)) (by omega) hfar
            · have := Ref.read_near hf
              rw [hbody] at this
              rw [this] at h
              simp only [List.head?_cons, beq_self_eq_true, Prod.mk.injEq] at h
              exact rread_m_near s d w hz t45 hd hdsz hdz (.inl t48) (all_dig (by rw [hdl]; exact hall)) (by omega) _ rfl x y (fun w => told_read true _ x y w (by rw [hdl]; exact h.1) (by rw [hdl]; exact h.2))
          · have hall' : (b :: r').all Dec.dig = false := by simpa using hall
            obtain ⟨rfl, rfl⟩ : x = 0 ∧ y = 12 := by
              have hf : Dec.isForm (45 :: b :: r') = false := by
                unfold Dec.isForm Dec.body Dec.form
                simp only [List.head?_cons, beq_self_eq_true, cond_true, List.tail_cons, hall', Bool.false_and]
              rw [Ref.read_not hf] at h
              simp only [Prod.mk.injEq] at h
              exact ⟨h.1.symm, h.2.symm⟩
            exact rread_m_bad s d w hz t45 hd hdsz hdz (.inl t48) (not_all_dig (by rw [hdl]; exact hall')) (by omega)
    · have h45n : c.toNat ≠ 45 := fun e => h45 (Dec.toNat_inj (by have : (45 : UInt8).toNat = 45 := rfl
                                                                  omega))
      have t45 : (((s[0]'hz).toNat : Int) == 45) = false := by rw [hc, beq_eq_false_iff_ne]; omega
      have hc45 : (c == 45) = false := by simpa using h45
      have hbody : Dec.body (c :: r) = c :: r := by
        unfold Dec.body
        simp [hc45]
      have hform : Dec.isForm (c :: r) = Dec.form (c :: r) := by
        unfold Dec.isForm
        rw [hbody]
        simp [hc45]
      by_cases h48 : c = 48 ∧ r ≠ []
      · have t48 : (((s[0]'hz).toNat : Int) == 48) = true := by rw [hc, h48.1]; decide
        have hs48 : (s.toList == [48]) = false := by rw [htl, hl]; simp [h48.2]
        obtain ⟨rfl, rfl⟩ : x = 0 ∧ y = 12 := by
          have hf : Dec.isForm (c :: r) = false := by
            rw [hform, h48.1]
            unfold Dec.form
            simp [h48.2]
          rw [Ref.read_not hf] at h
          simp only [Prod.mk.injEq] at h
          exact ⟨h.1.symm, h.2.symm⟩
        exact rread_p_idle s w hz t45 t48 hs48
      · have t48 : (((s[0]'hz).toNat : Int) == 48) = false ∨ ((((s[0]'hz).toNat : Int) == 48) = true ∧ (s.toList == [48]) = true) := by
          by_cases e : c = 48
          · right
            have hr : r = [] := by
              by_cases e2 : r = []
              · exact e2
              · exact absurd ⟨e, e2⟩ h48
            exact ⟨by rw [hc, e]; decide, by rw [htl, hl, e, hr]; decide⟩
          · left
            rw [hc, beq_eq_false_iff_ne]
            intro e2
            exact e (Dec.toNat_inj (by have : (48 : UInt8).toNat = 48 := rfl
                                       omega))
        by_cases hall : (c :: r).all Dec.dig = true
        · have hf : Dec.isForm (c :: r) = true := by
            rw [hform]
            unfold Dec.form
            rw [hall]
            by_cases e : c = 48
            · have hr : r = [] := by
                by_cases e2 : r = []
                · exact e2
                · exact absurd ⟨e, e2⟩ h48
              subst e hr
              rfl
            · simp [e]
          by_cases hfar : 19 < s.size
          · have := Ref.read_far hf (by rw [hbody, ← hl, ← Lib.size_eq]; exact hfar)
            rw [this] at h
            simp only [Prod.mk.injEq] at h
            obtain ⟨rfl, rfl⟩ := h
            exact rread_p_far s w hz t45 t48 (all_dig (by rw [hl]; exact hall)) hs hfar
          · have := Ref.read_near hf
            rw [hbody] at this
            rw [this] at h
            simp only [List.head?_cons, Prod.mk.injEq] at h
            have hh : ((some c : Option UInt8) == some 45) = false := by simpa using h45
            rw [hh] at h
            exact rread_p_near s w hz t45 t48 (all_dig (by rw [hl]; exact hall)) (by omega) _ rfl x y (fun w => told_read false _ x y w (by rw [hl]; exact h.1) (by rw [hl]; exact h.2))
        · have hall' : (c :: r).all Dec.dig = false := by simpa using hall
          obtain ⟨rfl, rfl⟩ : x = 0 ∧ y = 12 := by
            have hf : Dec.isForm (c :: r) = false := by
              rw [hform]
              unfold Dec.form
              rw [hall']
              rfl
            rw [Ref.read_not hf] at h
            simp only [Prod.mk.injEq] at h
            exact ⟨h.1.symm, h.2.symm⟩
          exact rread_p_bad s w hz t45 t48 (not_all_dig (by rw [hl]; exact hall')) hs
end Go.Proofs.YtdbjmjeiaajdiaaDoor
