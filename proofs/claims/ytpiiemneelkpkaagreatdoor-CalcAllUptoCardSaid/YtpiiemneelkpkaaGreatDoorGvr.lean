import Derived.Test.YtpiiemneelkpkaaGreatDoorValD
namespace Go.Proofs.YtpiiemneelkpkaaGreatDoor
open Go.RowKit
set_option linter.unusedVariables false
theorem Val.cb_range : ∀ a b : List UInt8, Lib.compareBytes a b = -1 ∨ Lib.compareBytes a b = 0 ∨ Lib.compareBytes a b = 1
 | [], [] => .inr (.inl rfl)
 | [], _ :: _ => .inl rfl
 | _ :: _, [] => .inr (.inr rfl)
 | a :: p, b :: q => by
  unfold Lib.compareBytes
  split
  ·exact .inl rfl
  ·split
   ·exact .inr (.inr rfl)
   ·exact Val.cb_range p q
theorem Val.u8_lt (a b : UInt8) : a < b ↔ a.toNat < b.toNat := UInt8.lt_iff_toNat_lt
theorem Val.cb_zero : ∀ a b : List UInt8, Lib.compareBytes a b = 0 ↔ a = b
 | [], [] => ⟨fun _ => rfl, fun _ => rfl⟩
 | [], _ :: _ => ⟨fun h => by simp [Lib.compareBytes] at h, fun h => by cases h⟩
 | _ :: _, [] => ⟨fun h => by simp [Lib.compareBytes] at h, fun h => by cases h⟩
 | a :: p, b :: q => by
  unfold Lib.compareBytes
  by_cases h1 : a < b
  ·rw [if_pos h1]
   refine ⟨fun h => absurd h (by decide), fun h => ?_⟩
   injection h with h h'
   subst h
   rw [Val.u8_lt] at h1
   omega
  ·by_cases h2 : b < a
   ·rw [if_neg h1, if_pos h2]
    refine ⟨fun h => absurd h (by decide), fun h => ?_⟩
    injection h with h h'
    subst h
    exact absurd h2 h1
   ·rw [if_neg h1, if_neg h2, Val.cb_zero p q]
    have : a = b := Dec.toNat_inj (by rw [Val.u8_lt] at h1 h2; omega)
    subst this
    simp
end Go.Proofs.YtpiiemneelkpkaaGreatDoor
