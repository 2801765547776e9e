/- Contracts of runes.Char and runes.Find; what a rune's form is decoded to. -/
import Derived.Test.YtdbjmjeiaajdiaaDoorRunB
import Derived.Test.YtdbjmjeiaajdiaaDoorShRun
import Derived.Lib.TrimUEq
namespace Go.Proofs.YtdbjmjeiaajdiaaDoor
open Go.RowKit
set_option linter.unusedVariables false

theorem valid_iff {n : Int} : Lib.validRune n = true ↔ (0 ≤ n ∧ n < 55296) ∨ (57343 < n ∧ n ≤ 1114111) := by
  unfold Lib.validRune
  simp
theorem enc_valid {n : Int} (h : Lib.validRune n = true) : Utf8.valid n = true := by
  have := valid_iff.1 h
  unfold Utf8.valid
  simp
  omega
theorem ofNat_small (k : Nat) (h : k < 256) : (UInt8.ofNat k).toNat = k := by simp [UInt8.toNat_ofNat']; omega

theorem enc_bytes {n : Int} (h : Lib.validRune n = true) :
    (n < 128 ∧ (Utf8.encode n).data.toList = [UInt8.ofNat n.toNat]) ∨
    (128 ≤ n ∧ n < 2048 ∧ (Utf8.encode n).data.toList = [UInt8.ofNat (192 + n.toNat / 64), UInt8.ofNat (128 + n.toNat % 64)]) ∨
    (2048 ≤ n ∧ n < 65536 ∧ (Utf8.encode n).data.toList = [UInt8.ofNat (224 + n.toNat / 4096), UInt8.ofNat (128 + n.toNat / 64 % 64), UInt8.ofNat (128 + n.toNat % 64)]) ∨
    (65536 ≤ n ∧ n ≤ 1114111 ∧ (Utf8.encode n).data.toList = [UInt8.ofNat (240 + n.toNat / 262144), UInt8.ofNat (128 + n.toNat / 4096 % 64), UInt8.ofNat (128 + n.toNat / 64 % 64), UInt8.ofNat (128 + n.toNat % 64)]) := by
  have hv := valid_iff.1 h
  unfold Utf8.encode
  rw [enc_valid h]
  simp only [if_true]
  by_cases h1 : n < 128
  · left
    rw [if_pos (by omega)]
    exact ⟨h1, rfl⟩
  · right
    rw [if_neg (by omega)]
    by_cases h2 : n < 2048
    · left
      rw [if_pos (by omega)]
      exact ⟨by omega, h2, rfl⟩
    · right
      rw [if_neg (by omega)]
      by_cases h3 : n < 65536
      · left
        rw [if_pos (by omega)]
        exact ⟨by omega, h3, rfl⟩
      · right
        rw [if_neg (by omega)]
        exact ⟨by omega, by omega, rfl⟩

theorem decN1 (m b0 b1 b2 b3 : Nat) (h : b0 < 128) : Lib.decodeN m b0 b1 b2 b3 = (b0, 1) := by unfold Lib.decodeN; rw [if_pos h]
theorem decN2 (k m b2 b3 : Nat) (h1 : 128 ≤ k) (h2 : k < 2048) (hm : 1 < m) : Lib.decodeN m (192 + k / 64) (128 + k % 64) b2 b3 = (k, 2) := by
  unfold Lib.decodeN
  rw [if_neg (by omega), if_pos ⟨by omega, hm, by omega⟩, if_pos (by omega)]
  apply Prod.ext <;> simp only <;> omega
theorem decN3 (k m b3 : Nat) (h1 : 2048 ≤ k) (h2 : k < 65536) (hs : k < 55296 ∨ 57344 ≤ k) (hm : 2 < m) : Lib.decodeN m (224 + k / 4096) (128 + k / 64 % 64) (128 + k % 64) b3 = (k, 3) := by
  unfold Lib.decodeN
  have e : (224 + k / 4096) % 16 * 4096 + (128 + k / 64 % 64) % 64 * 64 + (128 + k % 64) % 64 = k := by omega
  rw [if_neg (by omega), if_neg (by omega), if_pos ⟨by omega, ⟨by omega, by omega⟩, hm, by omega⟩, e, if_pos ⟨by omega, by omega⟩]
theorem decN4 (k m : Nat) (h1 : 65536 ≤ k) (h2 : k ≤ 1114111) (hm : 3 < m) : Lib.decodeN m (240 + k / 262144) (128 + k / 4096 % 64) (128 + k / 64 % 64) (128 + k % 64) = (k, 4) := by
  unfold Lib.decodeN
  have e : (240 + k / 262144) % 8 * 262144 + (128 + k / 4096 % 64) % 64 * 4096 + (128 + k / 64 % 64) % 64 * 64 + (128 + k % 64) % 64 = k := by omega
  rw [if_neg (by omega), if_neg (by omega), if_neg (by omega), if_pos ⟨by omega, ⟨by omega, by omega⟩, ⟨by omega, by omega⟩, hm, by omega⟩, e, if_pos ⟨by omega, by omega⟩]

/-- A text that begins with a rune's form: that rune stands at its head, as wide as its form. -/
theorem dec_enc {n : Int} (h : Lib.validRune n = true) (s : ByteArray) (t : List UInt8) (hs : s.data.toList = (Utf8.encode n).data.toList ++ t) :
    Utf8.decode s 0 = (n.toNat, (Utf8.encode n).data.toList.length) := by
  have hv := valid_iff.1 h
  rw [Lib.decode_N, hs]
  rcases enc_bytes h with ⟨h1, e⟩ | ⟨h1, h2, e⟩ | ⟨h1, h2, e⟩ | ⟨h1, h2, e⟩
  · rw [e]
    simp only [List.cons_append, List.nil_append, List.getD_cons_zero]
    rw [ofNat_small _ (by omega), decN1 _ _ _ _ _ (by omega)]
    rfl
  · rw [e]
    simp only [List.cons_append, List.nil_append, List.getD_cons_zero, List.getD_cons_succ, Nat.zero_add]
    rw [ofNat_small _ (by omega), ofNat_small _ (by omega), decN2 _ _ _ _ (by omega) (by omega) (by simp)]
    rfl
  · rw [e]
    simp only [List.cons_append, List.nil_append, List.getD_cons_zero, List.getD_cons_succ, Nat.zero_add]
    rw [ofNat_small _ (by omega), ofNat_small _ (by omega), ofNat_small _ (by omega), decN3 _ _ _ (by omega) (by omega) (by omega) (by simp)]
    rfl
  · rw [e]
    simp only [List.cons_append, List.nil_append, List.getD_cons_zero, List.getD_cons_succ, Nat.zero_add]
    rw [ofNat_small _ (by omega), ofNat_small _ (by omega), ofNat_small _ (by omega), ofNat_small _ (by omega), decN4 _ _ (by omega) (by omega) (by simp)]
    rfl
theorem enc_size {n : Int} (h : Lib.validRune n = true) : 1 ≤ (Utf8.encode n).size ∧ (Utf8.encode n).size ≤ 4 := by
  rw [Lib.size_eq]
  rcases enc_bytes h with ⟨h1, e⟩ | ⟨h1, h2, e⟩ | ⟨h1, h2, e⟩ | ⟨h1, h2, e⟩ <;> rw [e] <;> simp

/-! ### Char -/
theorem char_ok (n : Int) (w : World) (h0 : 0 ≤ n) (h1 : n ≤ 1114111) (hv : Lib.validRune n = true) :
    Calls Tryd.prog 36 #[.int .i64 n] w fun e w' => e = .returned (.tuple #[.string (Utf8.encode n), .int .i64 0]) ∧ w = w' := by
  have H := Lib.hid (fun w => Tryd.utf8_ValidRune n w)
  rw [hv] at H
  clear hv
  go_enter Tryd.func36, Tryd.ntmps36
  go_wp2_with (fail)
  refine (H.out _).mono ?_
  rintro e w' ⟨rfl, rfl⟩
  go_wp2
  go_ret2
  exact ⟨rfl, rfl⟩
theorem char_far (n : Int) (w : World) (h : n < 0 ∨ 1114111 < n) :
    Calls Tryd.prog 36 #[.int .i64 n] w fun e w' => e = .returned (.tuple #[.string ⟨#[]⟩, .int .i64 1]) ∧ w = w' := by
  rcases h with h | h
  · go_enter Tryd.func36, Tryd.ntmps36
    go_wp2_with (fail)
    go_ret2
    exact ⟨rfl, rfl⟩
  · have h' : 0 ≤ n := by omega
    go_enter Tryd.func36, Tryd.ntmps36
    go_wp2_with (fail)
    go_ret2
    exact ⟨rfl, rfl⟩
theorem char_bad (n : Int) (w : World) (h0 : 0 ≤ n) (h1 : n ≤ 1114111) (hv : Lib.validRune n = false) :
    Calls Tryd.prog 36 #[.int .i64 n] w fun e w' => e = .returned (.tuple #[.string ⟨#[]⟩, .int .i64 1]) ∧ w = w' := by
  have H := Lib.hid (fun w => Tryd.utf8_ValidRune n w)
  rw [hv] at H
  clear hv
  go_enter Tryd.func36, Tryd.ntmps36
  go_wp2_with (fail)
  refine (H.out _).mono ?_
  rintro e w' ⟨rfl, rfl⟩
  go_wp2
  go_ret2
  exact ⟨rfl, rfl⟩
end Go.Proofs.YtdbjmjeiaajdiaaDoor
