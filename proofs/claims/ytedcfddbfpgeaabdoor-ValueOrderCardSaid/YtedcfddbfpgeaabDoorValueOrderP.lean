/- quadrillelaw4.ValueOrder for every three values. -/
import Derived.Test.YtedcfddbfpgeaabDoorValP
namespace Go.Proofs.YtedcfddbfpgeaabDoor
open Go.RowKit
set_option linter.unusedVariables false
theorem Val.cmpG_neg (g h : Val.V) : Val.cmpG h g = -Val.cmpG g h := Val.cmpT_neg _ _
theorem Val.cmpG_self (g : Val.V) : Val.cmpG g g = 0 := Val.cmpT_self _
theorem Val.cmpG_range (g h : Val.V) : Val.cmpG g h = -1 ∨ Val.cmpG g h = 0 ∨ Val.cmpG g h = 1 := by
  rcases Val.cmpT_cases (Val.asV g h) (Val.asV h g) with ⟨h, _⟩ | ⟨h, _⟩ | ⟨h, _⟩
  · exact .inl h
  · exact .inr (.inl h)
  · exact .inr (.inr h)
theorem Val.as_solid {g : Val.V} (h : Val.V) (hk : ¬ g.k = 0) : Val.asV g h = g := by
  unfold Val.asV
  rw [show (g.k == 0) = false by simpa using hk]
  rfl
theorem Val.cmpG_solid {g h : Val.V} (hg : ¬ g.k = 0) (hh : ¬ h.k = 0) : Val.cmpG g h = Val.cmpT g h := by
  unfold Val.cmpG
  rw [Val.as_solid h hg, Val.as_solid g hh]
theorem Val.place_inj {i j : Int} (hi : 1 ≤ i) (hi4 : i ≤ 4) (hj : 1 ≤ j) (hj4 : j ≤ 4) (h : Val.placeOf i = Val.placeOf j) : i = j := by
  obtain rfl | rfl | rfl | rfl : i = 1 ∨ i = 2 ∨ i = 3 ∨ i = 4 := by omega
  all_goals
    obtain rfl | rfl | rfl | rfl : j = 1 ∨ j = 2 ∨ j = 3 ∨ j = 4 := by omega
  all_goals first | rfl | exact absurd h (by decide)
theorem wrap_neg {x x' : Int} (h : x' = -x) (hx : x = -1 ∨ x = 0 ∨ x = 1) : IntKind.i64.wrap (-x') = x := by
  subst h
  rcases hx with rfl | rfl | rfl <;> decide
/-- Of solid values that may be: the answer is 0 just of the same. -/
theorem Val.cmpT_zero {g h : Val.V} (mg : Val.mayB g = true) (mh : Val.mayB h = true) (hg : ¬ g.k = 0) (hh : ¬ h.k = 0) : Val.cmpT g h = 0 ↔ g = h := by
  have kg : 1 ≤ g.k ∧ g.k ≤ 4 := by
    rcases Val.may_cases mg with ⟨a, b⟩ | ⟨a, b⟩ | ⟨a, b⟩ | ⟨a, b⟩ | ⟨a, b, c, d⟩ <;> omega
  have kh : 1 ≤ h.k ∧ h.k ≤ 4 := by
    rcases Val.may_cases mh with ⟨a, b⟩ | ⟨a, b⟩ | ⟨a, b⟩ | ⟨a, b⟩ | ⟨a, b, c, d⟩ <;> omega
  constructor
  · intro e
    rcases Val.cmpT_cases g h with ⟨e2, _⟩ | ⟨_, p, n, t⟩ | ⟨e2, _⟩
    · omega
    · have hk := Val.place_inj kg.1 kg.2 kh.1 kh.2 p
      have ht := (Val.cb_zero _ _).1 t
      obtain ⟨gk, gn, gt⟩ := g
      obtain ⟨hk', hn, ht'⟩ := h
      simp only at hk n ht
      subst hk n
      have : gt = ht' := ByteArray.ext (Array.ext' ht)
      rw [this]
    · omega
  · rintro rfl
    exact Val.cmpT_self g
theorem order_any (a b c : Val.V) (w : World) (va : VB a) (vb : VB b) (vc : VB c) (hN : NumW w) : Calls Tryd.prog 6 #[vv a, vv b, vv c] w fun e w' => e = .returned (.bool true) ∧ Below w.heap.size w w' := by
  have HB : ∀ w', Below w.heap.size w w' → Calls Tryd.prog 8 #[] w' fun e w'' => e = .returned (.bool true) ∧ Below w'.heap.size w' w'' := fun w' hb => begun4 w' (hN.below hb)
  have K1 : ∀ w', Below w.heap.size w w' → _ := fun w' _ => vcompare_any a b w'
  have K2 : ∀ w', Below w.heap.size w w' → _ := fun w' _ => vcompare_any b c w'
  have K3 : ∀ w', Below w.heap.size w w' → _ := fun w' _ => vcompare_any a c w'
  have K4 : ∀ w', Below w.heap.size w w' → _ := fun w' _ => vcompare_any b a w'
  have K5 : ∀ w', Below w.heap.size w w' → _ := fun w' _ => vcompare_any a a w'
  rw [Val.cmpG_self] at K5
  have hx := Val.cmpG_range (Val.good a) (Val.good b)
  have hn := Val.cmpG_neg (Val.good a) (Val.good b)
  have e0 := wrap_neg hn hx
  have c1 : decide (Val.cmpG (Val.good a) (Val.good b) < -1) = false := decide_eq_false (by omega)
  have c2 : decide (1 < Val.cmpG (Val.good a) (Val.good b)) = false := decide_eq_false (by omega)
  have M1 : ∀ w', Below w.heap.size w w' → _ := fun w' _ => vmay_any a w'
  have M2 : ∀ w', Below w.heap.size w w' → _ := fun w' _ => vmay_any b w'
  have M3 : ∀ w', Below w.heap.size w w' → _ := fun w' _ => vmay_any c w'
  have Q1 : ∀ w', Below w.heap.size w w' → _ := fun w' _ => same_any a b w'
  cases ma : Val.mayB a with
  | false =>
    rw [ma] at M1
    obtain ⟨ak, an, at'⟩ := a
    obtain ⟨bk, bn, bt⟩ := b
    obtain ⟨ck, cn, ct⟩ := c
    exact order_a1 ak an bk bn ck cn at' bt ct _ _ _ _ w e0 c1 c2 HB K1 K2 K3 K4 K5 M1
  | true =>
  rw [ma] at M1
  cases mb : Val.mayB b with
  | false =>
    rw [mb] at M2
    obtain ⟨ak, an, at'⟩ := a
    obtain ⟨bk, bn, bt⟩ := b
    obtain ⟨ck, cn, ct⟩ := c
    exact order_a2 ak an bk bn ck cn at' bt ct _ _ _ _ w e0 c1 c2 HB K1 K2 K3 K4 K5 M1 M2
  | true =>
  rw [mb] at M2
  cases mc : Val.mayB c with
  | false =>
    rw [mc] at M3
    obtain ⟨ak, an, at'⟩ := a
    obtain ⟨bk, bn, bt⟩ := b
    obtain ⟨ck, cn, ct⟩ := c
    exact order_a3 ak an bk bn ck cn at' bt ct _ _ _ _ w e0 c1 c2 HB K1 K2 K3 K4 K5 M1 M2 M3
  | true =>
  rw [mc] at M3
  by_cases ka : a.k = 0
  · by_cases kb4 : b.k = 4
    · obtain ⟨ak, an, at'⟩ := a
      obtain ⟨bk, bn, bt⟩ := b
      obtain ⟨ck, cn, ct⟩ := c
      simp only at ka kb4
      subst ka kb4
      exact order_c4 an bn ck cn at' bt ct _ _ _ _ w e0 c1 c2 HB K1 K2 K3 K4 K5 M1 M2 M3
    by_cases kb0 : b.k = 0
    · obtain ⟨ak, an, at'⟩ := a
      obtain ⟨bk, bn, bt⟩ := b
      obtain ⟨ck, cn, ct⟩ := c
      simp only at ka kb0
      subst ka kb0
      exact order_c0 an bn ck cn at' bt ct _ _ _ _ w e0 c1 c2 HB K1 K2 K3 K4 K5 M1 M2 M3
    have K6 : ∀ w', Below w.heap.size w w' → Calls Tryd.prog 16 #[vv ⟨b.k, 0, ⟨#[]⟩⟩, vv b] w' fun e w'' => e = .returned (.int .i64 (Val.cmpG (Val.good a) (Val.good b))) ∧ Below w'.heap.size w' w'' := fun w' _ => by
      have h := vcompare_any ⟨b.k, 0, ⟨#[]⟩⟩ b w'
      have he : Val.isE ⟨#[]⟩ = true := by decide +kernel
      have hs : (⟨#[]⟩ : ByteArray).size = 0 := rfl
      have hm : Val.mayB ⟨b.k, 0, ⟨#[]⟩⟩ = true := by
        rcases Val.may_cases mb with ⟨p, q⟩ | ⟨p, q⟩ | ⟨p, q⟩ | ⟨p, q⟩ | ⟨p, q⟩
        · exact absurd p kb0
        · rw [p]; exact he
        · rw [p]; exact he
        · rw [p]; rfl
        · exact absurd p kb4
      rw [Val.good_of hm, Val.good_of mb] at h
      rw [Val.good_of ma, Val.good_of mb]
      have e1 : Val.asV a b = ⟨b.k, 0, a.t⟩ := by
        rcases Val.may_cases ma with ⟨p, q, r⟩ | ⟨p, q⟩ | ⟨p, q⟩ | ⟨p, q⟩ | ⟨p, q⟩
        · unfold Val.asV
          rw [show (a.k == 0) = true by simpa using ka, show (b.k != 4) = true by simpa using kb4, q]
          rfl
        all_goals omega
      have e2 : a.t.data.toList = [] := by
        rcases Val.may_cases ma with ⟨p, q, r⟩ | ⟨p, q⟩ | ⟨p, q⟩ | ⟨p, q⟩ | ⟨p, q⟩
        · unfold Val.isE at r
          rw [Lib.toList_data] at r
          simpa using r
        all_goals omega
      have e3 : Val.cmpG a b = Val.cmpG ⟨b.k, 0, ⟨#[]⟩⟩ b := by
        unfold Val.cmpG
        rw [e1, Val.as_solid a kb0, Val.as_solid (g := ⟨b.k, 0, ⟨#[]⟩⟩) b kb0, Val.as_solid _ kb0]
        unfold Val.cmpT
        rw [e2]
      rw [e3]
      exact h
    obtain ⟨ak, an, at'⟩ := a
    obtain ⟨bk, bn, bt⟩ := b
    obtain ⟨ck, cn, ct⟩ := c
    simp only at ka kb4 kb0
    subst ka
    exact order_b an bk bn ck cn at' bt ct _ _ _ _ w e0 c1 c2 (by simpa using kb4) (by simpa using kb0) HB K1 K2 K3 K4 K5 M1 M2 M3 K6
  by_cases kb : b.k = 0
  · obtain ⟨ak, an, at'⟩ := a
    obtain ⟨bk, bn, bt⟩ := b
    obtain ⟨ck, cn, ct⟩ := c
    simp only at ka kb
    subst kb
    exact order_cb ak an bn ck cn at' bt ct _ _ _ _ w e0 c1 c2 (by simpa using ka) HB K1 K2 K3 K4 K5 M1 M2 M3
  by_cases kc : c.k = 0
  · obtain ⟨ak, an, at'⟩ := a
    obtain ⟨bk, bn, bt⟩ := b
    obtain ⟨ck, cn, ct⟩ := c
    simp only at ka kb kc
    subst kc
    exact order_cc ak an bk bn cn at' bt ct _ _ _ _ w e0 c1 c2 (by simpa using ka) (by simpa using kb) HB K1 K2 K3 K4 K5 M1 M2 M3
  by_cases hab : a = b
  · subst hab
    have q1 : Val.same a a = true := by unfold Val.same; simp
    rw [q1] at Q1
    obtain ⟨ak, an, at'⟩ := a
    obtain ⟨ck, cn, ct⟩ := c
    simp only at ka kc
    have z0 : IntKind.i64.wrap (-0) = 0 := by decide
    exact order_e ak an ck cn at' ct _ w z0 (by simpa using ka) (by simpa using kc) HB K5 K2 K3 K5 K5 M1 M2 M3 Q1
  have hz : ¬ Val.cmpT a b = 0 := fun h => hab ((Val.cmpT_zero ma mb ka kb).1 h)
  have tr := Val.cmpT_trans a b c
  have r2 := Val.cmpG_range (Val.good b) (Val.good c)
  have r3 := Val.cmpG_range (Val.good a) (Val.good c)
  have hq : ¬ (a.k = b.k ∧ a.n = b.n ∧ a.t.toList = b.t.toList) := by
    rintro ⟨p, q, r⟩
    rw [Lib.toList_data, Lib.toList_data] at r
    have : a.t = b.t := ByteArray.ext (Array.ext' r)
    apply hab
    obtain ⟨ak, an, at'⟩ := a
    obtain ⟨bk, bn, bt⟩ := b
    simp only at p q this
    subst p q this
    rfl
  have q1 : Val.same a b = false := by
    unfold Val.same
    by_cases h1 : a.k = b.k
    · by_cases h2 : a.n = b.n
      · have h3 : ¬ a.t.toList = b.t.toList := fun h => hq ⟨h1, h2, h⟩
        simp [h1, h2, h3]
      · simp [h1, h2]
    · simp [h1]
  rw [q1] at Q1
  rw [Val.good_of ma, Val.good_of mb] at K1 K4 hx hn e0 c1 c2
  rw [Val.good_of mb, Val.good_of mc] at K2 r2
  rw [Val.good_of ma, Val.good_of mc] at K3 r3
  rw [Val.cmpG_solid ka kb] at K1 hx hn e0 c1 c2
  rw [Val.cmpG_solid kb ka] at K4 hn e0
  rw [Val.cmpG_solid kb kc] at K2 r2
  rw [Val.cmpG_solid ka kc] at K3 r3
  generalize Val.cmpT a b = x at *
  generalize Val.cmpT b c = y at *
  generalize Val.cmpT a c = z at *
  generalize Val.cmpT b a = x' at *
  have hx0 : (x == 0) = false := by simpa using hz
  have hfin : 0 < x ∨ (x < 0 ∧ 0 < y) ∨ (x < 0 ∧ y ≤ 0 ∧ z < 0) := by omega
  clear hx hn hz tr r2 r3 q1
  obtain ⟨ak, an, at'⟩ := a
  obtain ⟨bk, bn, bt⟩ := b
  obtain ⟨ck, cn, ct⟩ := c
  simp only at ka kb kc hq
  by_cases h1 : ak = bk
  · subst h1
    by_cases h2 : an = bn
    · subst h2
      exact order_dt ak an ck cn at' bt ct x y z x' w e0 c1 c2 (by simpa using ka) (by simpa using kc) (fun h => hq ⟨rfl, rfl, h⟩) hx0 hfin HB K1 K2 K3 K4 K5 M1 M2 M3 Q1
    · exact order_dn ak an bn ck cn at' bt ct x y z x' w e0 c1 c2 (by simpa using ka) (by simpa using kc) h2 hx0 hfin HB K1 K2 K3 K4 K5 M1 M2 M3 Q1
  · exact order_dk ak an bk bn ck cn at' bt ct x y z x' w e0 c1 c2 (by simpa using ka) (by simpa using kb) (by simpa using kc) h1 hx0 hfin HB K1 K2 K3 K4 K5 M1 M2 M3 Q1
end Go.Proofs.YtedcfddbfpgeaabDoor
