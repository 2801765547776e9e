import Derived.Test.YtpiiemneelkpkaaGreatDoorValG
import Derived.Test.YtpiiemneelkpkaaGreatDoorGvr
namespace Go.Proofs.YtpiiemneelkpkaaGreatDoor
open Go
set_option linter.unusedVariables false
theorem Val.bl_lt : ∀ a b : List UInt8, Op.bytesLess a b = decide (Lib.compareBytes a b = -1)
 | [], [] => rfl
 | [], _ :: _ => rfl
 | _ :: _, [] => rfl
 | a :: p, b :: q => by
  have ih := Val.bl_lt p q
  unfold Op.bytesLess Lib.compareBytes
  by_cases h1 : a < b
  ·rw [if_pos h1, decide_eq_true h1]; rfl
  ·rw [if_neg h1, decide_eq_false h1]
   by_cases h2 : b < a
   ·rw [if_pos h2]
    have hne : (a == b) = false := by
     rw [beq_eq_false_iff_ne]
     rintro rfl
     exact h1 h2
    rw [hne]; rfl
   ·rw [if_neg h2]
    have : a = b := Dec.toNat_inj (by rw [Val.u8_lt] at h1 h2; omega)
    subst this
    rw [ih]
    simp
theorem Val.rcmp_eq (p q n m : Int) (t s : ByteArray) (h : p = q → (n = 0 ∧ m = 0) ∨ (t.data.toList = [] ∧ s.data.toList = [])) : Val.rcmp p q n m t s = Val.orI (Val.cmpI p q) (Val.cmpI n m) (Lib.compareBytes t.data.toList s.data.toList) := by
 unfold Val.rcmp
 rw [Lib.toList_data, Lib.toList_data, Val.bl_lt]
 rcases Int.lt_trichotomy p q with h1 | h1 | h1
 ·have e : Val.cmpI p q = -1 := by unfold Val.cmpI; rw [decide_eq_true h1]; rfl
  rw [decide_eq_true h1, e]; rfl
 ·subst h1
  have e : Val.cmpI p p = 0 := by unfold Val.cmpI; rw [decide_eq_false (Int.lt_irrefl p)]; rfl
  rw [e, decide_eq_false (Int.lt_irrefl p), beq_self_eq_true]
  rcases h rfl with ⟨rfl, rfl⟩ | ⟨e1, e2⟩
  ·have hr := Val.cb_range t.data.toList s.data.toList
   have hz := Val.cb_zero t.data.toList s.data.toList
   show cond (decide (Lib.compareBytes t.data.toList s.data.toList = -1)) (-1) (cond (!decide (Lib.compareBytes t.data.toList s.data.toList = -1) && !(t.data.toList == s.data.toList)) 1 0) = Lib.compareBytes t.data.toList s.data.toList
   by_cases hc : Lib.compareBytes t.data.toList s.data.toList = -1
   ·rw [decide_eq_true hc, hc]; rfl
   ·rw [decide_eq_false hc]
    by_cases h0 : t.data.toList = s.data.toList
    ·rw [hz.2 h0, show (t.data.toList == s.data.toList) = true by simpa using h0]; rfl
    ·have h1 : ¬ Lib.compareBytes t.data.toList s.data.toList = 0 := fun x => h0 (hz.1 x)
     have h2 : Lib.compareBytes t.data.toList s.data.toList = 1 := by omega
     rw [h2, show (t.data.toList == s.data.toList) = false by simpa using h0]; rfl
  ·rw [e1, e2]
   have c0 : Lib.compareBytes [] [] = 0 := rfl
   rw [c0]
   rcases Int.lt_trichotomy n m with h1 | h1 | h1
   ·have e : Val.cmpI n m = -1 := by unfold Val.cmpI; rw [decide_eq_true h1]; rfl
    rw [e, decide_eq_true h1]; rfl
   ·subst h1
    have e : Val.cmpI n n = 0 := by unfold Val.cmpI; rw [decide_eq_false (Int.lt_irrefl n)]; rfl
    rw [e, decide_eq_false (Int.lt_irrefl n)]; rfl
   ·have e : Val.cmpI n m = 1 := by unfold Val.cmpI; rw [decide_eq_false (by omega), decide_eq_true h1]; rfl
    rw [e, decide_eq_false (show ¬ n < m by omega), decide_eq_true h1]; rfl
 ·have e : Val.cmpI p q = 1 := by unfold Val.cmpI; rw [decide_eq_false (by omega), decide_eq_true h1]; rfl
  rw [e, decide_eq_false (show ¬ p < q by omega), decide_eq_true h1, show (p == q) = false by rw [beq_eq_false_iff_ne]; omega]; rfl
theorem Val.isE_nil {t : ByteArray} (h : Val.isE t = true) : t.data.toList = [] := by
 unfold Val.isE at h
 rw [Lib.toList_data] at h
 simpa using h
theorem Val.kinds5 {v : Val.V} (h : Val.mayB v = true) : (v.k = 0 ∧ v.n = 0 ∧ v.t.data.toList = []) ∨ (v.k = 1 ∧ v.t.data.toList = []) ∨ (v.k = 2 ∧ v.t.data.toList = []) ∨ (v.k = 3 ∧ v.n = 0) ∨ (v.k = 4 ∧ v.t.data.toList = []) := by
 rcases Val.may_cases h with ⟨a, b, c⟩ | ⟨a, b⟩ | ⟨a, b, c⟩ | ⟨a, b, c⟩ | ⟨a, b, c, d⟩
 ·exact .inl ⟨a, b, Val.isE_nil c⟩
 ·exact .inr (.inl ⟨a, Val.isE_nil b⟩)
 ·exact .inr (.inr (.inl ⟨a, Val.isE_nil c⟩))
 ·exact .inr (.inr (.inr (.inl ⟨a, b⟩)))
 ·exact .inr (.inr (.inr (.inr ⟨a, Val.isE_nil d⟩)))
theorem Val.rcmp_same (a b : Val.V) : Val.rcmpG (Val.good a) (Val.good b) = Val.cmpG (Val.good a) (Val.good b) := by
 have ha := Val.kinds5 (Val.good_may a)
 have hb := Val.kinds5 (Val.good_may b)
 generalize Val.good a = g at *
 generalize Val.good b = h at *
 unfold Val.rcmpG Val.cmpG Val.cmpT
 refine Val.rcmp_eq _ _ _ _ _ _ fun hp => ?_
 obtain ⟨gk, gn, gt⟩ := g
 obtain ⟨hk, hn, ht⟩ := h
 simp only at ha hb
 show (gn = 0 ∧ hn = 0) ∨ (gt.data.toList = [] ∧ ht.data.toList = [])
 rcases ha with ⟨rfl, a1, a2⟩ | ⟨rfl, a2⟩ | ⟨rfl, a2⟩ | ⟨rfl, a1⟩ | ⟨rfl, a2⟩ <;> rcases hb with ⟨rfl, b1, b2⟩ | ⟨rfl, b2⟩ | ⟨rfl, b2⟩ | ⟨rfl, b1⟩ | ⟨rfl, b2⟩
 all_goals first
  | exact .inr ⟨a2, b2⟩
  | exact .inl ⟨a1, b1⟩
  | (exfalso; simp [Val.asV, Val.placeOf] at hp)
end Go.Proofs.YtpiiemneelkpkaaGreatDoor
