import Derived.Test.YtpiiemneelkpkaaGreatDoorCalRi
import Derived.Test.YtpiiemneelkpkaaGreatDoorCalEr
set_option maxRecDepth 100000
namespace Go.Proofs.YtpiiemneelkpkaaGreatDoor
open Go.RowKit
set_option linter.unusedVariables false
set_option linter.unusedSimpArgs false
namespace Cal
theorem codR_at (s : ByteArray) (v : Nat → Val.V) (k : Nat) : codR s v k = codeAt s v k := by
 unfold codR codeAt look1 chA
 cases (s.data.toList.getD k 0).toNat == 110 <;> cases (s.data.toList.getD k 0).toNat == 116 <;> cases (s.data.toList.getD k 0).toNat == 98 <;> rfl
def rowE (f n : Nat) (v : Nat → Val.V) : Int := match first (fun k => codeAt (how f) v k != 0) n with
 | some k => codeAt (how f) v k
 | none => 0
def rowV (f n : Nat) (v : Nat → Val.V) : Val.V := match first (fun k => codeAt (how f) v k != 0) n with
 | some k => bad (codeAt (how f) v k)
 | none => work f (inAt (how f) v n)
theorem rowV_e (f n : Nat) (v : Nat → Val.V) (h : rowE f n v ≠ 0) : rowV f n v = bad (rowE f n v) := by
 unfold rowE at h ⊢
 unfold rowV
 cases e : first (fun k => codeAt (how f) v k != 0) n with
 | some k => rfl
 | none => rw [e] at h; exact absurd rfl h
theorem rowV_z (f n : Nat) (v : Nat → Val.V) (h : rowE f n v = 0) : rowV f n v = work f (inAt (how f) v n) := by
 unfold rowE at h
 unfold rowV
 rcases first_or (fun k => codeAt (how f) v k != 0) n with ⟨k, h1, h2, h3, h4⟩ | ⟨h3, h4⟩
 ·rw [h3] at h
  simp [h] at h2
 ·rw [h3]
theorem rowE_hit (f n : Nat) (v : Nat → Val.V) (m : Nat) (hm : m < n) (hj : ∀ j, j < m → codR (how f) v j = 0) (h : (codR (how f) v m != 0) = true) : codR (how f) v m = rowE f n v := by
 unfold rowE
 rcases first_or (fun k => codeAt (how f) v k != 0) n with ⟨k, h1, h2, h3, h4⟩ | ⟨h3, h4⟩
 ·rw [h3]
  have : k = m := by
   rcases Nat.lt_trichotomy k m with h5 | h5 | h5
   ·have := hj k h5
    rw [codR_at] at this
    simp [this] at h2
   ·exact h5
   ·have := h4 m h5
    rw [← codR_at] at this
    rw [h] at this
    cases this
  subst this
  exact codR_at _ _ _
 ·have := h4 m hm
  rw [← codR_at] at this
  rw [h] at this
  cases this
theorem rowE_none (f n : Nat) (v : Nat → Val.V) (h : ∀ m, m < n → codR (how f) v m = 0) : rowE f n v = 0 := by
 unfold rowE
 rcases first_or (fun k => codeAt (how f) v k != 0) n with ⟨k, h1, h2, h3, h4⟩ | ⟨h3, h4⟩
 ·rw [h3]
  show codeAt (how f) v k = 0
  rw [← codR_at]; exact h k h1
 ·rw [h3]
end Cal
theorem look_any (f n : Nat) (v : Nat → Val.V) (a : Option Addr) (cap : Nat) (w : World) (h1 : 1 ≤ f) (h2 : f < 36) (hx : (n : Int) ≤ (infoV f).1.2.2.2) (hc : HCellP w a n v) (hvb : ∀ k, k < n → VB (v k)) :
  Hid (∀ u, Below w.heap.size w u → Calls Tryz.prog 81 #[.int .i64 (f : Int), .slice a n cap] u (LookPost u n (Cal.how f) v (Cal.rowE f n v))) := by
 have hsz := (info_scalar f h2 h1).2.1
 exact Lib.hid fun u hu => look_walk f n (Cal.how f) v a cap _ u (Lib.hid fun w => looks_any f h1 h2 w) (by omega) (Cal.how_small f h2) (Lib.hid (hc.below rfl hu)) (Lib.hid hvb) (Lib.hid (Cal.rowE_hit f n v)) (Lib.hid (Cal.rowE_none f n v))
theorem row_any (f n : Nat) (v : Nat → Val.V) (a : Option Addr) (cap : Nat) (w : World) (h1 : 1 ≤ f) (h2 : f < 36) (hn : (infoV f).1.2.2.1 ≤ (n : Int)) (hx : (n : Int) ≤ (infoV f).1.2.2.2) (hc : HCellP w a n v) (hvb : ∀ k, k < n → VB (v k)) :
  Ret 52 #[.int .i64 (f : Int), .slice a n cap] w (vv (Cal.rowV f n v)) := by
 have HL := look_any f n v a cap w h1 h2 hx hc hvb
 by_cases hz : Cal.rowE f n v = 0
 rotate_left
 ·rw [Cal.rowV_e f n v hz]
  exact row_e f n (Cal.how f) v a cap _ w HL (bne_iff_ne.2 hz)
 rw [Cal.rowV_z f n v hz]
 clear hc
 generalize Cal.rowE f n v = rz at *
 obtain rfl | rfl | rfl | rfl | rfl | rfl | rfl | rfl | rfl | rfl | rfl | rfl | rfl | rfl | rfl | rfl | rfl | rfl | rfl | rfl | rfl | rfl | rfl | rfl | rfl | rfl | rfl | rfl | rfl | rfl | rfl | rfl | rfl | rfl | rfl : f = 1 ∨ f = 2 ∨ f = 3 ∨ f = 4 ∨ f = 5 ∨ f = 6 ∨ f = 7 ∨ f = 8 ∨ f = 9 ∨ f = 10 ∨ f = 11 ∨ f = 12 ∨ f = 13 ∨ f = 14 ∨ f = 15 ∨ f = 16 ∨ f = 17 ∨ f = 18 ∨ f = 19 ∨ f = 20 ∨ f = 21 ∨ f = 22 ∨ f = 23 ∨ f = 24 ∨ f = 25 ∨ f = 26 ∨ f = 27 ∨ f = 28 ∨ f = 29 ∨ f = 30 ∨ f = 31 ∨ f = 32 ∨ f = 33 ∨ f = 34 ∨ f = 35 := by omega
 ·have hn : (1 : Int) ≤ (n : Int) := hn
  have hx : (n : Int) ≤ 1 := hx
  obtain rfl : n = 1 := by omega
  exact row_numbers 1 _ _ _ 1 ⟨#[110]⟩ v a cap rz w HL hz rfl rfl rfl rfl rfl rfl (Lib.hid fun u => (looks_1 u).mono fun _ _ ⟨he, hw⟩ => ⟨he, hw ▸ Below.refl _ _⟩) (by decide) (by decide) (Lib.hid fun u B nsv tsv bsv vsv hR => rnum_1 u B v nsv tsv bsv vsv hR hvb)
 ·have hn : (1 : Int) ≤ (n : Int) := hn
  have hx : (n : Int) ≤ 1 := hx
  obtain rfl : n = 1 := by omega
  exact row_numbers 2 _ _ _ 1 ⟨#[110]⟩ v a cap rz w HL hz rfl rfl rfl rfl rfl rfl (Lib.hid fun u => (looks_2 u).mono fun _ _ ⟨he, hw⟩ => ⟨he, hw ▸ Below.refl _ _⟩) (by decide) (by decide) (Lib.hid fun u B nsv tsv bsv vsv hR => rnum_2 u B v nsv tsv bsv vsv hR hvb)
 ·have hn : (2 : Int) ≤ (n : Int) := hn
  have hx : (n : Int) ≤ 2 := hx
  obtain rfl : n = 2 := by omega
  exact row_numbers 3 _ _ _ 2 ⟨#[110, 110]⟩ v a cap rz w HL hz rfl rfl rfl rfl rfl rfl (Lib.hid fun u => (looks_3 u).mono fun _ _ ⟨he, hw⟩ => ⟨he, hw ▸ Below.refl _ _⟩) (by decide) (by decide) (Lib.hid fun u B nsv tsv bsv vsv hR => rnum_3 u B v nsv tsv bsv vsv hR hvb)
 ·have hn : (2 : Int) ≤ (n : Int) := hn
  have hx : (n : Int) ≤ 2 := hx
  obtain rfl : n = 2 := by omega
  exact row_numbers 4 _ _ _ 2 ⟨#[110, 110]⟩ v a cap rz w HL hz rfl rfl rfl rfl rfl rfl (Lib.hid fun u => (looks_4 u).mono fun _ _ ⟨he, hw⟩ => ⟨he, hw ▸ Below.refl _ _⟩) (by decide) (by decide) (Lib.hid fun u B nsv tsv bsv vsv hR => rnum_4 u B v nsv tsv bsv vsv hR hvb)
 ·have hn : (2 : Int) ≤ (n : Int) := hn
  have hx : (n : Int) ≤ 2 := hx
  obtain rfl : n = 2 := by omega
  exact row_numbers 5 _ _ _ 2 ⟨#[110, 110]⟩ v a cap rz w HL hz rfl rfl rfl rfl rfl rfl (Lib.hid fun u => (looks_5 u).mono fun _ _ ⟨he, hw⟩ => ⟨he, hw ▸ Below.refl _ _⟩) (by decide) (by decide) (Lib.hid fun u B nsv tsv bsv vsv hR => rnum_5 u B v nsv tsv bsv vsv hR hvb)
 ·have hn : (2 : Int) ≤ (n : Int) := hn
  have hx : (n : Int) ≤ 2 := hx
  obtain rfl : n = 2 := by omega
  exact row_numbers 6 _ _ _ 2 ⟨#[110, 110]⟩ v a cap rz w HL hz rfl rfl rfl rfl rfl rfl (Lib.hid fun u => (looks_6 u).mono fun _ _ ⟨he, hw⟩ => ⟨he, hw ▸ Below.refl _ _⟩) (by decide) (by decide) (Lib.hid fun u B nsv tsv bsv vsv hR => rnum_6 u B v nsv tsv bsv vsv hR hvb)
 ·have hn : (2 : Int) ≤ (n : Int) := hn
  have hx : (n : Int) ≤ 2 := hx
  obtain rfl : n = 2 := by omega
  exact row_numbers 7 _ _ _ 2 ⟨#[110, 110]⟩ v a cap rz w HL hz rfl rfl rfl rfl rfl rfl (Lib.hid fun u => (looks_7 u).mono fun _ _ ⟨he, hw⟩ => ⟨he, hw ▸ Below.refl _ _⟩) (by decide) (by decide) (Lib.hid fun u B nsv tsv bsv vsv hR => rnum_7 u B v nsv tsv bsv vsv hR hvb)
 ·have hn : (1 : Int) ≤ (n : Int) := hn
  have hx : (n : Int) ≤ 1 := hx
  obtain rfl : n = 1 := by omega
  exact row_numbers 8 _ _ _ 1 ⟨#[110]⟩ v a cap rz w HL hz rfl rfl rfl rfl rfl rfl (Lib.hid fun u => (looks_8 u).mono fun _ _ ⟨he, hw⟩ => ⟨he, hw ▸ Below.refl _ _⟩) (by decide) (by decide) (Lib.hid fun u B nsv tsv bsv vsv hR => rnum_8 u B v nsv tsv bsv vsv hR hvb)
 ·have hn : (1 : Int) ≤ (n : Int) := hn
  have hx : (n : Int) ≤ 1 := hx
  obtain rfl : n = 1 := by omega
  exact row_numbers 9 _ _ _ 1 ⟨#[110]⟩ v a cap rz w HL hz rfl rfl rfl rfl rfl rfl (Lib.hid fun u => (looks_9 u).mono fun _ _ ⟨he, hw⟩ => ⟨he, hw ▸ Below.refl _ _⟩) (by decide) (by decide) (Lib.hid fun u B nsv tsv bsv vsv hR => rnum_9 u B v nsv tsv bsv vsv hR hvb)
 ·have hn : (1 : Int) ≤ (n : Int) := hn
  have hx : (n : Int) ≤ 1 := hx
  obtain rfl : n = 1 := by omega
  exact row_numbers 10 _ _ _ 1 ⟨#[110]⟩ v a cap rz w HL hz rfl rfl rfl rfl rfl rfl (Lib.hid fun u => (looks_10 u).mono fun _ _ ⟨he, hw⟩ => ⟨he, hw ▸ Below.refl _ _⟩) (by decide) (by decide) (Lib.hid fun u B nsv tsv bsv vsv hR => rnum_10 u B v nsv tsv bsv vsv hR hvb)
 ·have hn : (2 : Int) ≤ (n : Int) := hn
  have hx : (n : Int) ≤ 2 := hx
  obtain rfl : n = 2 := by omega
  exact row_numbers 11 _ _ _ 2 ⟨#[110, 110]⟩ v a cap rz w HL hz rfl rfl rfl rfl rfl rfl (Lib.hid fun u => (looks_11 u).mono fun _ _ ⟨he, hw⟩ => ⟨he, hw ▸ Below.refl _ _⟩) (by decide) (by decide) (Lib.hid fun u B nsv tsv bsv vsv hR => rnum_11 u B v nsv tsv bsv vsv hR hvb)
 ·have hn : (2 : Int) ≤ (n : Int) := hn
  have hx : (n : Int) ≤ 2 := hx
  obtain rfl : n = 2 := by omega
  exact row_numbers 12 _ _ _ 2 ⟨#[110, 110]⟩ v a cap rz w HL hz rfl rfl rfl rfl rfl rfl (Lib.hid fun u => (looks_12 u).mono fun _ _ ⟨he, hw⟩ => ⟨he, hw ▸ Below.refl _ _⟩) (by decide) (by decide) (Lib.hid fun u B nsv tsv bsv vsv hR => rnum_12 u B v nsv tsv bsv vsv hR hvb)
 ·have hn : (2 : Int) ≤ (n : Int) := hn
  have hx : (n : Int) ≤ 2 := hx
  obtain rfl : n = 2 := by omega
  exact row_numbers 13 _ _ _ 2 ⟨#[110, 110]⟩ v a cap rz w HL hz rfl rfl rfl rfl rfl rfl (Lib.hid fun u => (looks_13 u).mono fun _ _ ⟨he, hw⟩ => ⟨he, hw ▸ Below.refl _ _⟩) (by decide) (by decide) (Lib.hid fun u B nsv tsv bsv vsv hR => rnum_13 u B v nsv tsv bsv vsv hR hvb)
 ·have hn : (1 : Int) ≤ (n : Int) := hn
  have hx : (n : Int) ≤ 1 := hx
  obtain rfl : n = 1 := by omega
  show Calls _ _ _ _ fun e w' => e = .returned (vv (Cal.tru (!Cal.truA ⟨#[98]⟩ v 0))) ∧ _
  exact row_14 _ _ _ 1 ⟨#[98]⟩ v a cap rz w HL hz (by decide) (by decide) (Lib.hid fun u => rboolS_any _ u)
 ·have hn : (3 : Int) ≤ (n : Int) := hn
  have hx : (n : Int) ≤ 3 := hx
  obtain rfl : n = 3 := by omega
  exact row_numbers 15 _ _ _ 3 ⟨#[110, 110, 110]⟩ v a cap rz w HL hz rfl rfl rfl rfl rfl rfl (Lib.hid fun u => (looks_15 u).mono fun _ _ ⟨he, hw⟩ => ⟨he, hw ▸ Below.refl _ _⟩) (by decide) (by decide) (Lib.hid fun u B nsv tsv bsv vsv hR => rnum_15 u B v nsv tsv bsv vsv hR hvb)
 ·have hn : (1 : Int) ≤ (n : Int) := hn
  have hx : (n : Int) ≤ 1 := hx
  obtain rfl : n = 1 := by omega
  exact row_texts 16 _ _ _ 1 ⟨#[116]⟩ v a cap rz w HL hz rfl rfl rfl rfl rfl rfl (Lib.hid fun u => (looks_16 u).mono fun _ _ ⟨he, hw⟩ => ⟨he, hw ▸ Below.refl _ _⟩) (by decide) (by decide) (Lib.hid fun u B nsv tsv bsv vsv hR => rtxt_16 u B v nsv tsv bsv vsv hR hvb)
 ·have hn : (1 : Int) ≤ (n : Int) := hn
  have hx : (n : Int) ≤ 2 := hx
  obtain rfl | rfl : n = 1 ∨ n = 2 := by omega
  ·exact row_texts 17 _ _ _ 1 ⟨#[116, 110]⟩ v a cap rz w HL hz rfl rfl rfl rfl rfl rfl (Lib.hid fun u => (looks_17 u).mono fun _ _ ⟨he, hw⟩ => ⟨he, hw ▸ Below.refl _ _⟩) (by decide) (by decide) (Lib.hid fun u B nsv tsv bsv vsv hR => rtxt_17a u B v nsv tsv bsv vsv hR hvb)
  ·exact row_texts 17 _ _ _ 2 ⟨#[116, 110]⟩ v a cap rz w HL hz rfl rfl rfl rfl rfl rfl (Lib.hid fun u => (looks_17 u).mono fun _ _ ⟨he, hw⟩ => ⟨he, hw ▸ Below.refl _ _⟩) (by decide) (by decide) (Lib.hid fun u B nsv tsv bsv vsv hR => rtxt_17b u B v nsv tsv bsv vsv hR hvb)
 ·have hn : (1 : Int) ≤ (n : Int) := hn
  have hx : (n : Int) ≤ 2 := hx
  obtain rfl | rfl : n = 1 ∨ n = 2 := by omega
  ·exact row_texts 18 _ _ _ 1 ⟨#[116, 110]⟩ v a cap rz w HL hz rfl rfl rfl rfl rfl rfl (Lib.hid fun u => (looks_18 u).mono fun _ _ ⟨he, hw⟩ => ⟨he, hw ▸ Below.refl _ _⟩) (by decide) (by decide) (Lib.hid fun u B nsv tsv bsv vsv hR => rtxt_18a u B v nsv tsv bsv vsv hR hvb)
  ·exact row_texts 18 _ _ _ 2 ⟨#[116, 110]⟩ v a cap rz w HL hz rfl rfl rfl rfl rfl rfl (Lib.hid fun u => (looks_18 u).mono fun _ _ ⟨he, hw⟩ => ⟨he, hw ▸ Below.refl _ _⟩) (by decide) (by decide) (Lib.hid fun u B nsv tsv bsv vsv hR => rtxt_18b u B v nsv tsv bsv vsv hR hvb)
 ·have hn : (3 : Int) ≤ (n : Int) := hn
  have hx : (n : Int) ≤ 3 := hx
  obtain rfl : n = 3 := by omega
  exact row_texts 19 _ _ _ 3 ⟨#[116, 110, 110]⟩ v a cap rz w HL hz rfl rfl rfl rfl rfl rfl (Lib.hid fun u => (looks_19 u).mono fun _ _ ⟨he, hw⟩ => ⟨he, hw ▸ Below.refl _ _⟩) (by decide) (by decide) (Lib.hid fun u B nsv tsv bsv vsv hR => rtxt_19 u B v nsv tsv bsv vsv hR hvb)
 ·have hn : (1 : Int) ≤ (n : Int) := hn
  have hx : (n : Int) ≤ 1 := hx
  obtain rfl : n = 1 := by omega
  exact row_texts 20 _ _ _ 1 ⟨#[116]⟩ v a cap rz w HL hz rfl rfl rfl rfl rfl rfl (Lib.hid fun u => (looks_20 u).mono fun _ _ ⟨he, hw⟩ => ⟨he, hw ▸ Below.refl _ _⟩) (by decide) (by decide) (Lib.hid fun u B nsv tsv bsv vsv hR => rtxt_20 u B v nsv tsv bsv vsv hR hvb)
 ·have hn : (1 : Int) ≤ (n : Int) := hn
  have hx : (n : Int) ≤ 1 := hx
  obtain rfl : n = 1 := by omega
  exact row_texts 21 _ _ _ 1 ⟨#[116]⟩ v a cap rz w HL hz rfl rfl rfl rfl rfl rfl (Lib.hid fun u => (looks_21 u).mono fun _ _ ⟨he, hw⟩ => ⟨he, hw ▸ Below.refl _ _⟩) (by decide) (by decide) (Lib.hid fun u B nsv tsv bsv vsv hR => rtxt_21 u B v nsv tsv bsv vsv hR hvb)
 ·have hn : (1 : Int) ≤ (n : Int) := hn
  have hx : (n : Int) ≤ 1 := hx
  obtain rfl : n = 1 := by omega
  exact row_texts 22 _ _ _ 1 ⟨#[116]⟩ v a cap rz w HL hz rfl rfl rfl rfl rfl rfl (Lib.hid fun u => (looks_22 u).mono fun _ _ ⟨he, hw⟩ => ⟨he, hw ▸ Below.refl _ _⟩) (by decide) (by decide) (Lib.hid fun u B nsv tsv bsv vsv hR => rtxt_22 u B v nsv tsv bsv vsv hR hvb)
 ·have hn : (1 : Int) ≤ (n : Int) := hn
  have hx : (n : Int) ≤ 1 := hx
  obtain rfl : n = 1 := by omega
  exact row_texts 23 _ _ _ 1 ⟨#[116]⟩ v a cap rz w HL hz rfl rfl rfl rfl rfl rfl (Lib.hid fun u => (looks_23 u).mono fun _ _ ⟨he, hw⟩ => ⟨he, hw ▸ Below.refl _ _⟩) (by decide) (by decide) (Lib.hid fun u B nsv tsv bsv vsv hR => rtxt_23 u B v nsv tsv bsv vsv hR hvb)
 ·have hn : (2 : Int) ≤ (n : Int) := hn
  have hx : (n : Int) ≤ 3 := hx
  obtain rfl | rfl : n = 2 ∨ n = 3 := by omega
  ·exact row_texts 24 _ _ _ 2 ⟨#[116, 116, 110]⟩ v a cap rz w HL hz rfl rfl rfl rfl rfl rfl (Lib.hid fun u => (looks_24 u).mono fun _ _ ⟨he, hw⟩ => ⟨he, hw ▸ Below.refl _ _⟩) (by decide) (by decide) (Lib.hid fun u B nsv tsv bsv vsv hR => rtxt_24a u B v nsv tsv bsv vsv hR hvb)
  ·exact row_texts 24 _ _ _ 3 ⟨#[116, 116, 110]⟩ v a cap rz w HL hz rfl rfl rfl rfl rfl rfl (Lib.hid fun u => (looks_24 u).mono fun _ _ ⟨he, hw⟩ => ⟨he, hw ▸ Below.refl _ _⟩) (by decide) (by decide) (Lib.hid fun u B nsv tsv bsv vsv hR => rtxt_24b u B v nsv tsv bsv vsv hR hvb)
 ·have hn : (3 : Int) ≤ (n : Int) := hn
  have hx : (n : Int) ≤ 3 := hx
  obtain rfl : n = 3 := by omega
  exact row_texts 25 _ _ _ 3 ⟨#[116, 116, 116]⟩ v a cap rz w HL hz rfl rfl rfl rfl rfl rfl (Lib.hid fun u => (looks_25 u).mono fun _ _ ⟨he, hw⟩ => ⟨he, hw ▸ Below.refl _ _⟩) (by decide) (by decide) (Lib.hid fun u B nsv tsv bsv vsv hR => rtxt_25 u B v nsv tsv bsv vsv hR hvb)
 ·have hn : (4 : Int) ≤ (n : Int) := hn
  have hx : (n : Int) ≤ 4 := hx
  obtain rfl : n = 4 := by omega
  exact row_texts 26 _ _ _ 4 ⟨#[116, 110, 110, 116]⟩ v a cap rz w HL hz rfl rfl rfl rfl rfl rfl (Lib.hid fun u => (looks_26 u).mono fun _ _ ⟨he, hw⟩ => ⟨he, hw ▸ Below.refl _ _⟩) (by decide) (by decide) (Lib.hid fun u B nsv tsv bsv vsv hR => rtxt_26 u B v nsv tsv bsv vsv hR hvb)
 ·have hn : (2 : Int) ≤ (n : Int) := hn
  have hx : (n : Int) ≤ 2 := hx
  obtain rfl : n = 2 := by omega
  exact row_texts 27 _ _ _ 2 ⟨#[116, 110]⟩ v a cap rz w HL hz rfl rfl rfl rfl rfl rfl (Lib.hid fun u => (looks_27 u).mono fun _ _ ⟨he, hw⟩ => ⟨he, hw ▸ Below.refl _ _⟩) (by decide) (by decide) (Lib.hid fun u B nsv tsv bsv vsv hR => rtxt_27 u B v nsv tsv bsv vsv hR hvb)
 ·have hn : (2 : Int) ≤ (n : Int) := hn
  have hx : (n : Int) ≤ 2 := hx
  obtain rfl : n = 2 := by omega
  exact row_texts 28 _ _ _ 2 ⟨#[116, 116]⟩ v a cap rz w HL hz rfl rfl rfl rfl rfl rfl (Lib.hid fun u => (looks_28 u).mono fun _ _ ⟨he, hw⟩ => ⟨he, hw ▸ Below.refl _ _⟩) (by decide) (by decide) (Lib.hid fun u B nsv tsv bsv vsv hR => rtxt_28 u B v nsv tsv bsv vsv hR hvb)
 ·have hn : (1 : Int) ≤ (n : Int) := hn
  have hx : (n : Int) ≤ 1 := hx
  obtain rfl : n = 1 := by omega
  exact row_texts 29 _ _ _ 1 ⟨#[116]⟩ v a cap rz w HL hz rfl rfl rfl rfl rfl rfl (Lib.hid fun u => (looks_29 u).mono fun _ _ ⟨he, hw⟩ => ⟨he, hw ▸ Below.refl _ _⟩) (by decide) (by decide) (Lib.hid fun u B nsv tsv bsv vsv hR => rtxt_29 u B v nsv tsv bsv vsv hR hvb)
 ·have hn : (1 : Int) ≤ (n : Int) := hn
  have hx : (n : Int) ≤ 1 := hx
  obtain rfl : n = 1 := by omega
  show Calls _ _ _ _ fun e w' => e = .returned (vv (Cal.spelt (Cal.charV (Cal.numA ⟨#[110]⟩ v 0)).1 (Cal.charV (Cal.numA ⟨#[110]⟩ v 0)).2)) ∧ _
  exact row_30 _ _ _ _ _ 1 ⟨#[110]⟩ v a cap rz w HL hz (by decide) (by decide) (Lib.hid fun u => uchar _ u) (Lib.hid fun u => rtext14_any _ _ u)
 ·have hn : (1 : Int) ≤ (n : Int) := hn
  have hx : (n : Int) ≤ 1 := hx
  obtain rfl : n = 1 := by omega
  exact row_31 1 ⟨#[110]⟩ v a cap rz w HL hz (by decide) (by decide)
 ·have hn : (1 : Int) ≤ (n : Int) := hn
  have hx : (n : Int) ≤ 1 := hx
  obtain rfl : n = 1 := by omega
  exact row_texts 32 _ _ _ 1 ⟨#[116]⟩ v a cap rz w HL hz rfl rfl rfl rfl rfl rfl (Lib.hid fun u => (looks_32 u).mono fun _ _ ⟨he, hw⟩ => ⟨he, hw ▸ Below.refl _ _⟩) (by decide) (by decide) (Lib.hid fun u B nsv tsv bsv vsv hR => rtxt_32 u B v nsv tsv bsv vsv hR hvb)
 ·have hn : (1 : Int) ≤ (n : Int) := hn
  have hx : (n : Int) ≤ 1 := hx
  obtain rfl : n = 1 := by omega
  show Calls _ _ _ _ fun e w' => e = .returned (vv (cond ((v 0).k == 1 || (v 0).k == 2) (Cal.num (v 0).n) (Cal.num 0))) ∧ _
  cases t0 : ((v 0).k == 1) with
  | true => exact row_33_i 1 ⟨#[118]⟩ v a cap rz w HL hz (by decide) (by decide) t0
  | false =>
   cases t1 : ((v 0).k == 2) with
   | true => exact row_33_b 1 ⟨#[118]⟩ v a cap rz w HL hz (by decide) (by decide) t0 t1
   | false => exact row_33_o 1 ⟨#[118]⟩ v a cap rz w HL hz (by decide) (by decide) t0 t1
 ·have hn : (1 : Int) ≤ (n : Int) := hn
  have hx : (n : Int) ≤ 1 := hx
  obtain rfl : n = 1 := by omega
  show Calls _ _ _ _ fun e w' => e = .returned (vv (cond ((v 0).k == 3) (v 0) (Cal.txt Cal.cE))) ∧ _
  cases t0 : ((v 0).k == 3) with
  | true => exact row_34_t 1 ⟨#[118]⟩ v a cap rz w HL hz (by decide) (by decide) t0
  | false =>
   rw [txt_spelt Cal.cE (by decide)]
   exact row_34_o _ _ _ 1 ⟨#[118]⟩ v a cap rz w HL hz (by decide) (by decide) t0 (Lib.hid fun u => rtextS_any _ u)
 ·have hn : (0 : Int) ≤ (n : Int) := hn
  have hx : (n : Int) ≤ 0 := hx
  obtain rfl : n = 0 := by omega
  exact row_35 0 ⟨#[]⟩ v a cap rz w HL hz
end Go.Proofs.YtpiiemneelkpkaaGreatDoor
