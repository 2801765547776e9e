import Derived.Test.YtpiiemneelkpkaaGreatDoorValD
/- Of values that may be and may not. -/
namespace Go.Proofs.YtpiiemneelkpkaaGreatDoor
open Go.RowKit
set_option linter.unusedVariables false
theorem Val.good_of {v : Val.V} (h : Val.mayB v = true) : Val.good v = v := by
  unfold Val.good
  rw [h]
  rfl
theorem Val.good_not {v : Val.V} (h : Val.mayB v = false) : Val.good v = Val.err 4 := by
  unfold Val.good
  rw [h]
  rfl
end Go.Proofs.YtpiiemneelkpkaaGreatDoor
/- The order of values, in plain Lean. -/
namespace Go.Proofs.YtpiiemneelkpkaaGreatDoor
open Go.RowKit
set_option linter.unusedVariables false
theorem Val.cmpI_cases (a b : Int) : (Val.cmpI a b = -1 ∧ a < b) ∨ (Val.cmpI a b = 0 ∧ a = b) ∨ (Val.cmpI a b = 1 ∧ b < a) := by
  unfold Val.cmpI
  by_cases h1 : a < b
  · rw [decide_eq_true h1]; exact .inl ⟨rfl, h1⟩
  · rw [decide_eq_false h1]
    by_cases h2 : b < a
    · rw [decide_eq_true h2]; exact .inr (.inr ⟨rfl, h2⟩)
    · rw [decide_eq_false h2]; exact .inr (.inl ⟨rfl, by omega⟩)
theorem Val.cb_range : ∀ a b : List UInt8, Lib.compareBytes a b = -1 ∨ Lib.compareBytes a b = 0 ∨ Lib.compareBytes a b = 1
  | [], [] => .inr (.inl rfl)
  | [], _ :: _ => .inl rfl
  | _ :: _, [] => .inr (.inr rfl)
  | a :: p, b :: q => by
    unfold Lib.compareBytes
    split
    · exact .inl rfl
    · split
      · exact .inr (.inr rfl)
      · exact Val.cb_range p q
theorem Val.u8_lt (a b : UInt8) : a < b ↔ a.toNat < b.toNat := UInt8.lt_iff_toNat_lt
theorem Val.cb_neg : ∀ a b : List UInt8, Lib.compareBytes b a = -Lib.compareBytes a b
  | [], [] => rfl
  | [], _ :: _ => rfl
  | _ :: _, [] => rfl
  | a :: p, b :: q => by
    unfold Lib.compareBytes
    by_cases h1 : a < b
    · have h2 : ¬ b < a := by
        rw [Val.u8_lt] at h1 ⊢
        omega
      rw [if_neg h2, if_pos h1, if_pos h1]
      try rfl
    · by_cases h2 : b < a
      · rw [if_pos h2, if_neg h1, if_pos h2]
        try rfl
      · rw [if_neg h2, if_neg h1, if_neg h1, if_neg h2]; exact Val.cb_neg p q
theorem Val.cb_zero : ∀ a b : List UInt8, Lib.compareBytes a b = 0 ↔ a = b
  | [], [] => ⟨fun _ => rfl, fun _ => rfl⟩
  | [], _ :: _ => ⟨fun h => by simp [Lib.compareBytes] at h, fun h => by cases h⟩
  | _ :: _, [] => ⟨fun h => by simp [Lib.compareBytes] at h, fun h => by cases h⟩
  | a :: p, b :: q => by
    unfold Lib.compareBytes
    by_cases h1 : a < b
    · rw [if_pos h1]
      refine ⟨fun h => absurd h (by decide), fun h => ?_⟩
      injection h with h h'
      subst h
      rw [Val.u8_lt] at h1
      omega
    · by_cases h2 : b < a
      · rw [if_neg h1, if_pos h2]
        refine ⟨fun h => absurd h (by decide), fun h => ?_⟩
        injection h with h h'
        subst h
        exact absurd h2 h1
      · rw [if_neg h1, if_neg h2, Val.cb_zero p q]
        have : a = b := Dec.toNat_inj (by rw [Val.u8_lt] at h1 h2; omega)
        subst this
        simp
theorem Val.cb_lt : ∀ a b c : List UInt8, Lib.compareBytes a b = -1 → Lib.compareBytes b c = -1 → Lib.compareBytes a c = -1
  | [], _ :: _, [], _, h => by simp [Lib.compareBytes] at h
  | [], _, _ :: _, _, _ => rfl
  | [], [], [], h, _ => absurd h (by decide)
  | _ :: _, [], _, h, _ => by simp [Lib.compareBytes] at h
  | _ :: _, _ :: _, [], _, h => by simp [Lib.compareBytes] at h
  | a :: p, b :: q, c :: r, h, k => by
    unfold Lib.compareBytes at h k ⊢
    by_cases h1 : a < b
    · by_cases k1 : b < c
      · rw [if_pos (by rw [Val.u8_lt] at *; omega)]
      · rw [if_neg k1] at k
        by_cases k2 : c < b
        · rw [if_pos k2] at k; exact absurd k (by decide)
        · rw [if_pos (by rw [Val.u8_lt] at *; omega)]
    · rw [if_neg h1] at h
      by_cases h2 : b < a
      · rw [if_pos h2] at h; exact absurd h (by decide)
      · rw [if_neg h2] at h
        by_cases k1 : b < c
        · rw [if_pos (by rw [Val.u8_lt] at *; omega)]
        · rw [if_neg k1] at k
          by_cases k2 : c < b
          · rw [if_pos k2] at k; exact absurd k (by decide)
          · rw [if_neg k2] at k
            rw [if_neg (by rw [Val.u8_lt] at *; omega), if_neg (by rw [Val.u8_lt] at *; omega)]
            exact Val.cb_lt p q r h k
theorem Val.orI_cases (x y z : Int) : (x ≠ 0 ∧ Val.orI x y z = x) ∨ (x = 0 ∧ y ≠ 0 ∧ Val.orI x y z = y) ∨ (x = 0 ∧ y = 0 ∧ Val.orI x y z = z) := by
  unfold Val.orI
  by_cases h1 : x = 0
  · rw [show (x != 0) = false by simpa using h1]
    by_cases h2 : y = 0
    · rw [show (y != 0) = false by simpa using h2]; exact .inr (.inr ⟨h1, h2, rfl⟩)
    · rw [show (y != 0) = true by simpa using h2]; exact .inr (.inl ⟨h1, h2, rfl⟩)
  · rw [show (x != 0) = true by simpa using h1]; exact .inl ⟨h1, rfl⟩
/-- What Compare's answer is, in words. -/
theorem Val.cmpT_cases (x y : Val.V) :
    (Val.cmpT x y = -1 ∧ (Val.placeOf x.k < Val.placeOf y.k ∨ (Val.placeOf x.k = Val.placeOf y.k ∧ (x.n < y.n ∨ (x.n = y.n ∧ Lib.compareBytes x.t.data.toList y.t.data.toList = -1))))) ∨
    (Val.cmpT x y = 0 ∧ Val.placeOf x.k = Val.placeOf y.k ∧ x.n = y.n ∧ Lib.compareBytes x.t.data.toList y.t.data.toList = 0) ∨
    (Val.cmpT x y = 1 ∧ (Val.placeOf y.k < Val.placeOf x.k ∨ (Val.placeOf x.k = Val.placeOf y.k ∧ (y.n < x.n ∨ (x.n = y.n ∧ Lib.compareBytes x.t.data.toList y.t.data.toList = 1))))) := by
  unfold Val.cmpT
  have h1 := Val.cmpI_cases (Val.placeOf x.k) (Val.placeOf y.k)
  have h2 := Val.cmpI_cases x.n y.n
  have h3 := Val.cb_range x.t.data.toList y.t.data.toList
  have h4 := Val.orI_cases (Val.cmpI (Val.placeOf x.k) (Val.placeOf y.k)) (Val.cmpI x.n y.n) (Lib.compareBytes x.t.data.toList y.t.data.toList)
  omega
theorem Val.cmpT_neg (x y : Val.V) : Val.cmpT y x = -Val.cmpT x y := by
  have h1 := Val.cmpT_cases x y
  have h2 := Val.cmpT_cases y x
  have h3 := Val.cb_neg x.t.data.toList y.t.data.toList
  omega
theorem Val.cmpT_self (x : Val.V) : Val.cmpT x x = 0 := by
  have h1 := Val.cmpT_neg x x
  omega
theorem Val.cmpT_trans (x y z : Val.V) (h : Val.cmpT x y ≤ 0) (k : Val.cmpT y z ≤ 0) : Val.cmpT x z ≤ 0 ∧ (Val.cmpT x z = 0 ↔ Val.cmpT x y = 0 ∧ Val.cmpT y z = 0) := by
  have h1 := Val.cmpT_cases x y
  have h2 := Val.cmpT_cases y z
  have h3 := Val.cmpT_cases x z
  have e1 := Val.cb_zero x.t.data.toList y.t.data.toList
  have e2 := Val.cb_zero y.t.data.toList z.t.data.toList
  have l := Val.cb_lt x.t.data.toList y.t.data.toList z.t.data.toList
  have r := Val.cb_range x.t.data.toList z.t.data.toList
  have key : ∀ u v : Int, Lib.compareBytes x.t.data.toList y.t.data.toList = u → Lib.compareBytes y.t.data.toList z.t.data.toList = v → (u = 0 → Lib.compareBytes x.t.data.toList z.t.data.toList = v) ∧ (v = 0 → Lib.compareBytes x.t.data.toList z.t.data.toList = u) := by
    rintro u v rfl rfl
    refine ⟨fun h => ?_, fun h => ?_⟩
    · rw [e1.1 h]
    · rw [e2.1 h]
  obtain ⟨k1, k2⟩ := key _ _ rfl rfl
  clear key e1 e2
  generalize Lib.compareBytes x.t.data.toList y.t.data.toList = u at *
  generalize Lib.compareBytes y.t.data.toList z.t.data.toList = v at *
  generalize Lib.compareBytes x.t.data.toList z.t.data.toList = o at *
  generalize Val.cmpT x y = a at *
  generalize Val.cmpT y z = b at *
  generalize Val.cmpT x z = c at *
  omega
end Go.Proofs.YtpiiemneelkpkaaGreatDoor
