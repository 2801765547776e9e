import Derived.Test.YtpiiemneelkpkaaGreatDoorGrv
import Derived.Deep.QuietTactic
import Derived.BigQuiet
namespace Go.Proofs.YtpiiemneelkpkaaGreatDoor
open Go.RowKit
set_option linter.unusedVariables false
theorem below_drewQ (B : Nat) (w : World) (n : Nat) : Below B w (w.drewN n) := ⟨rfl, rfl, rfl, Nat.le_refl _, fun _ _ => rfl⟩
theorem get_bang (s : ByteArray) (i : Nat) (h : i < s.size) : s.get! i = s[i] := by
 rw [← Lib.getD_get!', List.getD_eq_getElem?_getD, List.getElem?_eq_getElem (by rw [← Lib.size_eq]; exact h)]
 rfl
theorem ix_1 (s : ByteArray) (i b : Nat) (h : i + 1 < s.size) (e : s[i + 1].toNat = b) (w : World) : (Instr.index 9 (.string s) (.int .i64 ((i : Int) + 1))).run Tryz.prog w = .ok (.int .u8 (b : Int)) w := by
 have h1 : 0 ≤ (i : Int) + 1 ∧ (i : Int) + 1 < (s.size : Int) := by omega
 have h2 : ((i : Int) + 1).toNat = i + 1 := by omega
 simp [go_sem, h1, h2, e]
theorem ix_2 (s : ByteArray) (i b : Nat) (h : i + 2 < s.size) (e : s[i + 2].toNat = b) (w : World) : (Instr.index 9 (.string s) (.int .i64 ((i : Int) + 2))).run Tryz.prog w = .ok (.int .u8 (b : Int)) w := by
 have h1 : 0 ≤ (i : Int) + 2 ∧ (i : Int) + 2 < (s.size : Int) := by omega
 have h2 : ((i : Int) + 2).toNat = i + 2 := by omega
 simp [go_sem, h1, h2, e]
theorem ix_3 (s : ByteArray) (i b : Nat) (h : i + 3 < s.size) (e : s[i + 3].toNat = b) (w : World) : (Instr.index 9 (.string s) (.int .i64 ((i : Int) + 3))).run Tryz.prog w = .ok (.int .u8 (b : Int)) w := by
 have h1 : 0 ≤ (i : Int) + 3 ∧ (i : Int) + 3 < (s.size : Int) := by omega
 have h2 : ((i : Int) + 3).toNat = i + 3 := by omega
 simp [go_sem, h1, h2, e]
def tailB (s : ByteArray) (i lo hi : Nat) : Bool := decide (i < s.size) && (decide (lo ≤ (s.get! i).toNat) && decide ((s.get! i).toNat ≤ hi))
theorem tail_far (s : ByteArray) (i lo hi : Nat) (w : World) (h : ¬ i < s.size) : Calls Tryz.prog 217 #[.string s, .int .i64 (i : Int), .int .u8 (lo : Int), .int .u8 (hi : Int)] w fun e w' => e = .returned (.bool false) ∧ w = w' := by
 go_enter Tryz.func217, Tryz.ntmps217
 go_wp2
 go_ret
 exact ⟨rfl, rfl⟩
theorem tail_lo (s : ByteArray) (i lo hi : Nat) (w : World) (h : i < s.size) (t1 : decide (lo ≤ s[i].toNat) = false) : Calls Tryz.prog 217 #[.string s, .int .i64 (i : Int), .int .u8 (lo : Int), .int .u8 (hi : Int)] w fun e w' => e = .returned (.bool false) ∧ w = w' := by
 go_enter Tryz.func217, Tryz.ntmps217
 go_wp2
 go_ret
 exact ⟨rfl, rfl⟩
theorem tail_hi (s : ByteArray) (i lo hi : Nat) (w : World) (h : i < s.size) (t1 : decide (lo ≤ s[i].toNat) = true) (t2 : decide (s[i].toNat ≤ hi) = false) : Calls Tryz.prog 217 #[.string s, .int .i64 (i : Int), .int .u8 (lo : Int), .int .u8 (hi : Int)] w fun e w' => e = .returned (.bool false) ∧ w = w' := by
 go_enter Tryz.func217, Tryz.ntmps217
 go_wp2
 go_ret
 exact ⟨rfl, rfl⟩
theorem tail_ok (s : ByteArray) (i lo hi : Nat) (w : World) (h : i < s.size) (t1 : decide (lo ≤ s[i].toNat) = true) (t2 : decide (s[i].toNat ≤ hi) = true) : Calls Tryz.prog 217 #[.string s, .int .i64 (i : Int), .int .u8 (lo : Int), .int .u8 (hi : Int)] w fun e w' => e = .returned (.bool true) ∧ w = w' := by
 go_enter Tryz.func217, Tryz.ntmps217
 go_wp2
 go_ret
 exact ⟨rfl, rfl⟩
theorem tail_any (s : ByteArray) (i lo hi : Nat) (w : World) : Calls Tryz.prog 217 #[.string s, .int .i64 (i : Int), .int .u8 (lo : Int), .int .u8 (hi : Int)] w fun e w' => e = .returned (.bool (tailB s i lo hi)) ∧ w = w' := by
 unfold tailB
 by_cases h : i < s.size
 ·rw [decide_eq_true h, get_bang s i h]
  by_cases h1 : lo ≤ s[i].toNat
  ·rw [decide_eq_true h1]
   by_cases h2 : s[i].toNat ≤ hi
   ·rw [decide_eq_true h2]
    exact tail_ok s i lo hi w h (decide_eq_true h1) (decide_eq_true h2)
   ·rw [decide_eq_false h2]
    exact tail_hi s i lo hi w h (decide_eq_true h1) (decide_eq_false h2)
  ·rw [decide_eq_false h1]
   exact tail_lo s i lo hi w h (decide_eq_false h1)
 ·rw [decide_eq_false h]
  exact tail_far s i lo hi w h
theorem rune_1 (s : ByteArray) (i b0 : Nat) (w : World) (hs : s.size ≤ 140737488351232) (hi : i < s.size) (e0 : s[i].toNat = b0) (hb0 : b0 ≤ 255) (q1 : decide ((b0 : Int) < 128) = true) : Ret 194 #[.string s, .int .i64 (i : Int)] w (.tuple #[.int .i64 (b0 : Int), .int .i64 1]) := by
 go_enter Tryz.func194, Tryz.ntmps194
 go_wp2
 go_ret2
 exact ⟨rfl, Below.refl _ _⟩
theorem rune_0a (s : ByteArray) (i b0 : Nat) (w : World) (hs : s.size ≤ 140737488351232) (hi : i < s.size) (e0 : s[i].toNat = b0) (hb0 : b0 ≤ 255) (q1 : decide ((b0 : Int) < 128) = false) (q2 : decide ((194 : Int) ≤ (b0 : Int)) = false) (q4 : decide ((224 : Int) ≤ (b0 : Int)) = false) (q6 : decide ((240 : Int) ≤ (b0 : Int)) = false) : Ret 194 #[.string s, .int .i64 (i : Int)] w (.tuple #[.int .i64 65533, .int .i64 1]) := by
 go_enter Tryz.func194, Tryz.ntmps194
 go_wp2
 go_ret2
 exact ⟨rfl, Below.refl _ _⟩
theorem rune_0b (s : ByteArray) (i b0 : Nat) (w : World) (hs : s.size ≤ 140737488351232) (hi : i < s.size) (e0 : s[i].toNat = b0) (hb0 : b0 ≤ 255) (q1 : decide ((b0 : Int) < 128) = false) (q2 : decide ((194 : Int) ≤ (b0 : Int)) = true) (q3 : decide ((b0 : Int) ≤ 223) = false) (q4 : decide ((224 : Int) ≤ (b0 : Int)) = true) (q5 : decide ((b0 : Int) ≤ 239) = false) (q6 : decide ((240 : Int) ≤ (b0 : Int)) = true) (q7 : decide ((b0 : Int) ≤ 244) = false) : Ret 194 #[.string s, .int .i64 (i : Int)] w (.tuple #[.int .i64 65533, .int .i64 1]) := by
 go_enter Tryz.func194, Tryz.ntmps194
 go_wp2
 go_ret2
 exact ⟨rfl, Below.refl _ _⟩
theorem rune_2y (s : ByteArray) (i b0 b1 x0 x1 : Nat) (w : World) (hs : s.size ≤ 140737488351232) (hi : i < s.size) (e0 : s[i].toNat = b0) (hb0 : b0 ≤ 255) (q1 : decide ((b0 : Int) < 128) = false) (q2 : decide ((194 : Int) ≤ (b0 : Int)) = true) (q3 : decide ((b0 : Int) ≤ 223) = true) (h1 : i + 1 < s.size) (e1 : s[i + 1].toNat = b1) (hb1 : b1 ≤ 255) (tl0 : tailB s (i + 1) 128 191 = true) (m0 : (b0 : Int).tmod 32 = (x0 : Int)) (lm0 : x0 < 32) (m1 : (b1 : Int).tmod 64 = (x1 : Int)) (lm1 : x1 < 64) : Ret 194 #[.string s, .int .i64 (i : Int)] w (.tuple #[.int .i64 ((x0 * 64 + x1 : Nat) : Int), .int .i64 2]) := by
 have H0 : Hid (∀ w x, x = ((i + 1 : Nat) : Int) → Calls Tryz.prog 217 #[.string s, .int .i64 x, .int .u8 128, .int .u8 191] w fun e w' => e = .returned (.bool true) ∧ w = w') := Lib.hid (fun w x hx => by
  rw [hx, ← tl0]
  exact tail_any s (i + 1) 128 191 w)
 clear tl0
 have hix1 := ix_1 s i b1 h1 e1
 go_enter Tryz.func194, Tryz.ntmps194
 go_wp2_with (fail)
 refine (H0.out _ _ (by omega)).mono ?_
 rintro e w0 ⟨rfl, rfl⟩
 go_wp2
 go_ret2
 exact ⟨rfl, Below.refl _ _⟩
theorem rune_2n (s : ByteArray) (i b0 : Nat) (w : World) (hs : s.size ≤ 140737488351232) (hi : i < s.size) (e0 : s[i].toNat = b0) (hb0 : b0 ≤ 255) (q1 : decide ((b0 : Int) < 128) = false) (q2 : decide ((194 : Int) ≤ (b0 : Int)) = true) (q3 : decide ((b0 : Int) ≤ 223) = true) (q4 : decide ((224 : Int) ≤ (b0 : Int)) = false) (q6 : decide ((240 : Int) ≤ (b0 : Int)) = false) (tl0 : tailB s (i + 1) 128 191 = false) : Ret 194 #[.string s, .int .i64 (i : Int)] w (.tuple #[.int .i64 65533, .int .i64 1]) := by
 have H0 : Hid (∀ w x, x = ((i + 1 : Nat) : Int) → Calls Tryz.prog 217 #[.string s, .int .i64 x, .int .u8 128, .int .u8 191] w fun e w' => e = .returned (.bool false) ∧ w = w') := Lib.hid (fun w x hx => by
  rw [hx, ← tl0]
  exact tail_any s (i + 1) 128 191 w)
 clear tl0
 go_enter Tryz.func194, Tryz.ntmps194
 go_wp2_with (fail)
 refine (H0.out _ _ (by omega)).mono ?_
 rintro e w0 ⟨rfl, rfl⟩
 go_wp2
 go_ret2
 exact ⟨rfl, Below.refl _ _⟩
theorem rune_3na (s : ByteArray) (i b0 : Nat) (w : World) (hs : s.size ≤ 140737488351232) (hi : i < s.size) (e0 : s[i].toNat = b0) (hb0 : b0 ≤ 255) (q1 : decide ((b0 : Int) < 128) = false) (q2 : decide ((194 : Int) ≤ (b0 : Int)) = true) (q3 : decide ((b0 : Int) ≤ 223) = false) (q4 : decide ((224 : Int) ≤ (b0 : Int)) = true) (q5 : decide ((b0 : Int) ≤ 239) = true) (q6 : decide ((240 : Int) ≤ (b0 : Int)) = false) (f1 : ((b0 : Int) == 224) = true) (f2 : ((b0 : Int) == 237) = false) (tl0 : tailB s (i + 1) 160 191 = false) : Ret 194 #[.string s, .int .i64 (i : Int)] w (.tuple #[.int .i64 65533, .int .i64 1]) := by
 have H0 : Hid (∀ w x, x = ((i + 1 : Nat) : Int) → Calls Tryz.prog 217 #[.string s, .int .i64 x, .int .u8 160, .int .u8 191] w fun e w' => e = .returned (.bool false) ∧ w = w') := Lib.hid (fun w x hx => by
  rw [hx, ← tl0]
  exact tail_any s (i + 1) 160 191 w)
 clear tl0
 go_enter Tryz.func194, Tryz.ntmps194
 go_wp2_with (fail)
 refine (H0.out _ _ (by omega)).mono ?_
 rintro e w0 ⟨rfl, rfl⟩
 go_wp2
 go_ret2
 exact ⟨rfl, Below.refl _ _⟩
theorem rune_3ma (s : ByteArray) (i b0 : Nat) (w : World) (hs : s.size ≤ 140737488351232) (hi : i < s.size) (e0 : s[i].toNat = b0) (hb0 : b0 ≤ 255) (q1 : decide ((b0 : Int) < 128) = false) (q2 : decide ((194 : Int) ≤ (b0 : Int)) = true) (q3 : decide ((b0 : Int) ≤ 223) = false) (q4 : decide ((224 : Int) ≤ (b0 : Int)) = true) (q5 : decide ((b0 : Int) ≤ 239) = true) (q6 : decide ((240 : Int) ≤ (b0 : Int)) = false) (f1 : ((b0 : Int) == 224) = true) (f2 : ((b0 : Int) == 237) = false) (tl0 : tailB s (i + 1) 160 191 = true) (tl1 : tailB s (i + 2) 128 191 = false) : Ret 194 #[.string s, .int .i64 (i : Int)] w (.tuple #[.int .i64 65533, .int .i64 1]) := by
 have H0 : Hid (∀ w x, x = ((i + 1 : Nat) : Int) → Calls Tryz.prog 217 #[.string s, .int .i64 x, .int .u8 160, .int .u8 191] w fun e w' => e = .returned (.bool true) ∧ w = w') := Lib.hid (fun w x hx => by
  rw [hx, ← tl0]
  exact tail_any s (i + 1) 160 191 w)
 have H1 : Hid (∀ w x, x = ((i + 2 : Nat) : Int) → Calls Tryz.prog 217 #[.string s, .int .i64 x, .int .u8 128, .int .u8 191] w fun e w' => e = .returned (.bool false) ∧ w = w') := Lib.hid (fun w x hx => by
  rw [hx, ← tl1]
  exact tail_any s (i + 2) 128 191 w)
 clear tl0 tl1
 go_enter Tryz.func194, Tryz.ntmps194
 go_wp2_with (fail)
 refine (H0.out _ _ (by omega)).mono ?_
 rintro e w0 ⟨rfl, rfl⟩
 go_wp2_with (fail)
 refine (H1.out _ _ (by omega)).mono ?_
 rintro e w1 ⟨rfl, rfl⟩
 go_wp2
 go_ret2
 exact ⟨rfl, Below.refl _ _⟩
theorem rune_3ya (s : ByteArray) (i b0 b1 b2 x0 x1 x2 : Nat) (w : World) (hs : s.size ≤ 140737488351232) (hi : i < s.size) (e0 : s[i].toNat = b0) (hb0 : b0 ≤ 255) (q1 : decide ((b0 : Int) < 128) = false) (q2 : decide ((194 : Int) ≤ (b0 : Int)) = true) (q3 : decide ((b0 : Int) ≤ 223) = false) (q4 : decide ((224 : Int) ≤ (b0 : Int)) = true) (q5 : decide ((b0 : Int) ≤ 239) = true) (h1 : i + 1 < s.size) (e1 : s[i + 1].toNat = b1) (hb1 : b1 ≤ 255) (h2 : i + 2 < s.size) (e2 : s[i + 2].toNat = b2) (hb2 : b2 ≤ 255) (f1 : ((b0 : Int) == 224) = true) (f2 : ((b0 : Int) == 237) = false) (tl0 : tailB s (i + 1) 160 191 = true) (tl1 : tailB s (i + 2) 128 191 = true) (m0 : (b0 : Int).tmod 16 = (x0 : Int)) (lm0 : x0 < 16) (m1 : (b1 : Int).tmod 64 = (x1 : Int)) (lm1 : x1 < 64) (m2 : (b2 : Int).tmod 64 = (x2 : Int)) (lm2 : x2 < 64) : Ret 194 #[.string s, .int .i64 (i : Int)] w (.tuple #[.int .i64 ((x0 * 4096 + x1 * 64 + x2 : Nat) : Int), .int .i64 3]) := by
 have H0 : Hid (∀ w x, x = ((i + 1 : Nat) : Int) → Calls Tryz.prog 217 #[.string s, .int .i64 x, .int .u8 160, .int .u8 191] w fun e w' => e = .returned (.bool true) ∧ w = w') := Lib.hid (fun w x hx => by
  rw [hx, ← tl0]
  exact tail_any s (i + 1) 160 191 w)
 have H1 : Hid (∀ w x, x = ((i + 2 : Nat) : Int) → Calls Tryz.prog 217 #[.string s, .int .i64 x, .int .u8 128, .int .u8 191] w fun e w' => e = .returned (.bool true) ∧ w = w') := Lib.hid (fun w x hx => by
  rw [hx, ← tl1]
  exact tail_any s (i + 2) 128 191 w)
 clear tl0 tl1
 have hix1 := ix_1 s i b1 h1 e1
 have hix2 := ix_2 s i b2 h2 e2
 go_enter Tryz.func194, Tryz.ntmps194
 go_wp2_with (fail)
 refine (H0.out _ _ (by omega)).mono ?_
 rintro e w0 ⟨rfl, rfl⟩
 go_wp2_with (fail)
 refine (H1.out _ _ (by omega)).mono ?_
 rintro e w1 ⟨rfl, rfl⟩
 go_wp2
 go_region
 go_wp2
 go_ret2
 exact ⟨by simp, below_drewQ _ _ _⟩
theorem rune_3nb (s : ByteArray) (i b0 : Nat) (w : World) (hs : s.size ≤ 140737488351232) (hi : i < s.size) (e0 : s[i].toNat = b0) (hb0 : b0 ≤ 255) (q1 : decide ((b0 : Int) < 128) = false) (q2 : decide ((194 : Int) ≤ (b0 : Int)) = true) (q3 : decide ((b0 : Int) ≤ 223) = false) (q4 : decide ((224 : Int) ≤ (b0 : Int)) = true) (q5 : decide ((b0 : Int) ≤ 239) = true) (q6 : decide ((240 : Int) ≤ (b0 : Int)) = false) (f1 : ((b0 : Int) == 224) = false) (f2 : ((b0 : Int) == 237) = true) (tl0 : tailB s (i + 1) 128 159 = false) : Ret 194 #[.string s, .int .i64 (i : Int)] w (.tuple #[.int .i64 65533, .int .i64 1]) := by
 have H0 : Hid (∀ w x, x = ((i + 1 : Nat) : Int) → Calls Tryz.prog 217 #[.string s, .int .i64 x, .int .u8 128, .int .u8 159] w fun e w' => e = .returned (.bool false) ∧ w = w') := Lib.hid (fun w x hx => by
  rw [hx, ← tl0]
  exact tail_any s (i + 1) 128 159 w)
 clear tl0
 go_enter Tryz.func194, Tryz.ntmps194
 go_wp2_with (fail)
 refine (H0.out _ _ (by omega)).mono ?_
 rintro e w0 ⟨rfl, rfl⟩
 go_wp2
 go_ret2
 exact ⟨rfl, Below.refl _ _⟩
theorem rune_3mb (s : ByteArray) (i b0 : Nat) (w : World) (hs : s.size ≤ 140737488351232) (hi : i < s.size) (e0 : s[i].toNat = b0) (hb0 : b0 ≤ 255) (q1 : decide ((b0 : Int) < 128) = false) (q2 : decide ((194 : Int) ≤ (b0 : Int)) = true) (q3 : decide ((b0 : Int) ≤ 223) = false) (q4 : decide ((224 : Int) ≤ (b0 : Int)) = true) (q5 : decide ((b0 : Int) ≤ 239) = true) (q6 : decide ((240 : Int) ≤ (b0 : Int)) = false) (f1 : ((b0 : Int) == 224) = false) (f2 : ((b0 : Int) == 237) = true) (tl0 : tailB s (i + 1) 128 159 = true) (tl1 : tailB s (i + 2) 128 191 = false) : Ret 194 #[.string s, .int .i64 (i : Int)] w (.tuple #[.int .i64 65533, .int .i64 1]) := by
 have H0 : Hid (∀ w x, x = ((i + 1 : Nat) : Int) → Calls Tryz.prog 217 #[.string s, .int .i64 x, .int .u8 128, .int .u8 159] w fun e w' => e = .returned (.bool true) ∧ w = w') := Lib.hid (fun w x hx => by
  rw [hx, ← tl0]
  exact tail_any s (i + 1) 128 159 w)
 have H1 : Hid (∀ w x, x = ((i + 2 : Nat) : Int) → Calls Tryz.prog 217 #[.string s, .int .i64 x, .int .u8 128, .int .u8 191] w fun e w' => e = .returned (.bool false) ∧ w = w') := Lib.hid (fun w x hx => by
  rw [hx, ← tl1]
  exact tail_any s (i + 2) 128 191 w)
 clear tl0 tl1
 go_enter Tryz.func194, Tryz.ntmps194
 go_wp2_with (fail)
 refine (H0.out _ _ (by omega)).mono ?_
 rintro e w0 ⟨rfl, rfl⟩
 go_wp2_with (fail)
 refine (H1.out _ _ (by omega)).mono ?_
 rintro e w1 ⟨rfl, rfl⟩
 go_wp2
 go_ret2
 exact ⟨rfl, Below.refl _ _⟩
theorem rune_3yb (s : ByteArray) (i b0 b1 b2 x0 x1 x2 : Nat) (w : World) (hs : s.size ≤ 140737488351232) (hi : i < s.size) (e0 : s[i].toNat = b0) (hb0 : b0 ≤ 255) (q1 : decide ((b0 : Int) < 128) = false) (q2 : decide ((194 : Int) ≤ (b0 : Int)) = true) (q3 : decide ((b0 : Int) ≤ 223) = false) (q4 : decide ((224 : Int) ≤ (b0 : Int)) = true) (q5 : decide ((b0 : Int) ≤ 239) = true) (h1 : i + 1 < s.size) (e1 : s[i + 1].toNat = b1) (hb1 : b1 ≤ 255) (h2 : i + 2 < s.size) (e2 : s[i + 2].toNat = b2) (hb2 : b2 ≤ 255) (f1 : ((b0 : Int) == 224) = false) (f2 : ((b0 : Int) == 237) = true) (tl0 : tailB s (i + 1) 128 159 = true) (tl1 : tailB s (i + 2) 128 191 = true) (m0 : (b0 : Int).tmod 16 = (x0 : Int)) (lm0 : x0 < 16) (m1 : (b1 : Int).tmod 64 = (x1 : Int)) (lm1 : x1 < 64) (m2 : (b2 : Int).tmod 64 = (x2 : Int)) (lm2 : x2 < 64) : Ret 194 #[.string s, .int .i64 (i : Int)] w (.tuple #[.int .i64 ((x0 * 4096 + x1 * 64 + x2 : Nat) : Int), .int .i64 3]) := by
 have H0 : Hid (∀ w x, x = ((i + 1 : Nat) : Int) → Calls Tryz.prog 217 #[.string s, .int .i64 x, .int .u8 128, .int .u8 159] w fun e w' => e = .returned (.bool true) ∧ w = w') := Lib.hid (fun w x hx => by
  rw [hx, ← tl0]
  exact tail_any s (i + 1) 128 159 w)
 have H1 : Hid (∀ w x, x = ((i + 2 : Nat) : Int) → Calls Tryz.prog 217 #[.string s, .int .i64 x, .int .u8 128, .int .u8 191] w fun e w' => e = .returned (.bool true) ∧ w = w') := Lib.hid (fun w x hx => by
  rw [hx, ← tl1]
  exact tail_any s (i + 2) 128 191 w)
 clear tl0 tl1
 have hix1 := ix_1 s i b1 h1 e1
 have hix2 := ix_2 s i b2 h2 e2
 go_enter Tryz.func194, Tryz.ntmps194
 go_wp2_with (fail)
 refine (H0.out _ _ (by omega)).mono ?_
 rintro e w0 ⟨rfl, rfl⟩
 go_wp2_with (fail)
 refine (H1.out _ _ (by omega)).mono ?_
 rintro e w1 ⟨rfl, rfl⟩
 go_wp2
 go_region
 go_wp2
 go_ret2
 exact ⟨by simp, below_drewQ _ _ _⟩
theorem rune_3nc (s : ByteArray) (i b0 : Nat) (w : World) (hs : s.size ≤ 140737488351232) (hi : i < s.size) (e0 : s[i].toNat = b0) (hb0 : b0 ≤ 255) (q1 : decide ((b0 : Int) < 128) = false) (q2 : decide ((194 : Int) ≤ (b0 : Int)) = true) (q3 : decide ((b0 : Int) ≤ 223) = false) (q4 : decide ((224 : Int) ≤ (b0 : Int)) = true) (q5 : decide ((b0 : Int) ≤ 239) = true) (q6 : decide ((240 : Int) ≤ (b0 : Int)) = false) (f1 : ((b0 : Int) == 224) = false) (f2 : ((b0 : Int) == 237) = false) (tl0 : tailB s (i + 1) 128 191 = false) : Ret 194 #[.string s, .int .i64 (i : Int)] w (.tuple #[.int .i64 65533, .int .i64 1]) := by
 have H0 : Hid (∀ w x, x = ((i + 1 : Nat) : Int) → Calls Tryz.prog 217 #[.string s, .int .i64 x, .int .u8 128, .int .u8 191] w fun e w' => e = .returned (.bool false) ∧ w = w') := Lib.hid (fun w x hx => by
  rw [hx, ← tl0]
  exact tail_any s (i + 1) 128 191 w)
 clear tl0
 go_enter Tryz.func194, Tryz.ntmps194
 go_wp2_with (fail)
 refine (H0.out _ _ (by omega)).mono ?_
 rintro e w0 ⟨rfl, rfl⟩
 go_wp2
 go_ret2
 exact ⟨rfl, Below.refl _ _⟩
theorem rune_3mc (s : ByteArray) (i b0 : Nat) (w : World) (hs : s.size ≤ 140737488351232) (hi : i < s.size) (e0 : s[i].toNat = b0) (hb0 : b0 ≤ 255) (q1 : decide ((b0 : Int) < 128) = false) (q2 : decide ((194 : Int) ≤ (b0 : Int)) = true) (q3 : decide ((b0 : Int) ≤ 223) = false) (q4 : decide ((224 : Int) ≤ (b0 : Int)) = true) (q5 : decide ((b0 : Int) ≤ 239) = true) (q6 : decide ((240 : Int) ≤ (b0 : Int)) = false) (f1 : ((b0 : Int) == 224) = false) (f2 : ((b0 : Int) == 237) = false) (tl0 : tailB s (i + 1) 128 191 = true) (tl1 : tailB s (i + 2) 128 191 = false) : Ret 194 #[.string s, .int .i64 (i : Int)] w (.tuple #[.int .i64 65533, .int .i64 1]) := by
 have H0 : Hid (∀ w x, x = ((i + 1 : Nat) : Int) → Calls Tryz.prog 217 #[.string s, .int .i64 x, .int .u8 128, .int .u8 191] w fun e w' => e = .returned (.bool true) ∧ w = w') := Lib.hid (fun w x hx => by
  rw [hx, ← tl0]
  exact tail_any s (i + 1) 128 191 w)
 have H1 : Hid (∀ w x, x = ((i + 2 : Nat) : Int) → Calls Tryz.prog 217 #[.string s, .int .i64 x, .int .u8 128, .int .u8 191] w fun e w' => e = .returned (.bool false) ∧ w = w') := Lib.hid (fun w x hx => by
  rw [hx, ← tl1]
  exact tail_any s (i + 2) 128 191 w)
 clear tl0 tl1
 go_enter Tryz.func194, Tryz.ntmps194
 go_wp2_with (fail)
 refine (H0.out _ _ (by omega)).mono ?_
 rintro e w0 ⟨rfl, rfl⟩
 go_wp2_with (fail)
 refine (H1.out _ _ (by omega)).mono ?_
 rintro e w1 ⟨rfl, rfl⟩
 go_wp2
 go_ret2
 exact ⟨rfl, Below.refl _ _⟩
theorem rune_3yc (s : ByteArray) (i b0 b1 b2 x0 x1 x2 : Nat) (w : World) (hs : s.size ≤ 140737488351232) (hi : i < s.size) (e0 : s[i].toNat = b0) (hb0 : b0 ≤ 255) (q1 : decide ((b0 : Int) < 128) = false) (q2 : decide ((194 : Int) ≤ (b0 : Int)) = true) (q3 : decide ((b0 : Int) ≤ 223) = false) (q4 : decide ((224 : Int) ≤ (b0 : Int)) = true) (q5 : decide ((b0 : Int) ≤ 239) = true) (h1 : i + 1 < s.size) (e1 : s[i + 1].toNat = b1) (hb1 : b1 ≤ 255) (h2 : i + 2 < s.size) (e2 : s[i + 2].toNat = b2) (hb2 : b2 ≤ 255) (f1 : ((b0 : Int) == 224) = false) (f2 : ((b0 : Int) == 237) = false) (tl0 : tailB s (i + 1) 128 191 = true) (tl1 : tailB s (i + 2) 128 191 = true) (m0 : (b0 : Int).tmod 16 = (x0 : Int)) (lm0 : x0 < 16) (m1 : (b1 : Int).tmod 64 = (x1 : Int)) (lm1 : x1 < 64) (m2 : (b2 : Int).tmod 64 = (x2 : Int)) (lm2 : x2 < 64) : Ret 194 #[.string s, .int .i64 (i : Int)] w (.tuple #[.int .i64 ((x0 * 4096 + x1 * 64 + x2 : Nat) : Int), .int .i64 3]) := by
 have H0 : Hid (∀ w x, x = ((i + 1 : Nat) : Int) → Calls Tryz.prog 217 #[.string s, .int .i64 x, .int .u8 128, .int .u8 191] w fun e w' => e = .returned (.bool true) ∧ w = w') := Lib.hid (fun w x hx => by
  rw [hx, ← tl0]
  exact tail_any s (i + 1) 128 191 w)
 have H1 : Hid (∀ w x, x = ((i + 2 : Nat) : Int) → Calls Tryz.prog 217 #[.string s, .int .i64 x, .int .u8 128, .int .u8 191] w fun e w' => e = .returned (.bool true) ∧ w = w') := Lib.hid (fun w x hx => by
  rw [hx, ← tl1]
  exact tail_any s (i + 2) 128 191 w)
 clear tl0 tl1
 have hix1 := ix_1 s i b1 h1 e1
 have hix2 := ix_2 s i b2 h2 e2
 go_enter Tryz.func194, Tryz.ntmps194
 go_wp2_with (fail)
 refine (H0.out _ _ (by omega)).mono ?_
 rintro e w0 ⟨rfl, rfl⟩
 go_wp2_with (fail)
 refine (H1.out _ _ (by omega)).mono ?_
 rintro e w1 ⟨rfl, rfl⟩
 go_wp2
 go_region
 go_wp2
 go_ret2
 exact ⟨by simp, below_drewQ _ _ _⟩
theorem rune_4na (s : ByteArray) (i b0 : Nat) (w : World) (hs : s.size ≤ 140737488351232) (hi : i < s.size) (e0 : s[i].toNat = b0) (hb0 : b0 ≤ 255) (q1 : decide ((b0 : Int) < 128) = false) (q2 : decide ((194 : Int) ≤ (b0 : Int)) = true) (q3 : decide ((b0 : Int) ≤ 223) = false) (q4 : decide ((224 : Int) ≤ (b0 : Int)) = true) (q5 : decide ((b0 : Int) ≤ 239) = false) (q6 : decide ((240 : Int) ≤ (b0 : Int)) = true) (q7 : decide ((b0 : Int) ≤ 244) = true) (f1 : ((b0 : Int) == 240) = true) (f2 : ((b0 : Int) == 244) = false) (tl0 : tailB s (i + 1) 144 191 = false) : Ret 194 #[.string s, .int .i64 (i : Int)] w (.tuple #[.int .i64 65533, .int .i64 1]) := by
 have H0 : Hid (∀ w x, x = ((i + 1 : Nat) : Int) → Calls Tryz.prog 217 #[.string s, .int .i64 x, .int .u8 144, .int .u8 191] w fun e w' => e = .returned (.bool false) ∧ w = w') := Lib.hid (fun w x hx => by
  rw [hx, ← tl0]
  exact tail_any s (i + 1) 144 191 w)
 clear tl0
 go_enter Tryz.func194, Tryz.ntmps194
 go_wp2_with (fail)
 refine (H0.out _ _ (by omega)).mono ?_
 rintro e w0 ⟨rfl, rfl⟩
 go_wp2
 go_ret2
 exact ⟨rfl, Below.refl _ _⟩
theorem rune_4ma (s : ByteArray) (i b0 : Nat) (w : World) (hs : s.size ≤ 140737488351232) (hi : i < s.size) (e0 : s[i].toNat = b0) (hb0 : b0 ≤ 255) (q1 : decide ((b0 : Int) < 128) = false) (q2 : decide ((194 : Int) ≤ (b0 : Int)) = true) (q3 : decide ((b0 : Int) ≤ 223) = false) (q4 : decide ((224 : Int) ≤ (b0 : Int)) = true) (q5 : decide ((b0 : Int) ≤ 239) = false) (q6 : decide ((240 : Int) ≤ (b0 : Int)) = true) (q7 : decide ((b0 : Int) ≤ 244) = true) (f1 : ((b0 : Int) == 240) = true) (f2 : ((b0 : Int) == 244) = false) (tl0 : tailB s (i + 1) 144 191 = true) (tl1 : tailB s (i + 2) 128 191 = false) : Ret 194 #[.string s, .int .i64 (i : Int)] w (.tuple #[.int .i64 65533, .int .i64 1]) := by
 have H0 : Hid (∀ w x, x = ((i + 1 : Nat) : Int) → Calls Tryz.prog 217 #[.string s, .int .i64 x, .int .u8 144, .int .u8 191] w fun e w' => e = .returned (.bool true) ∧ w = w') := Lib.hid (fun w x hx => by
  rw [hx, ← tl0]
  exact tail_any s (i + 1) 144 191 w)
 have H1 : Hid (∀ w x, x = ((i + 2 : Nat) : Int) → Calls Tryz.prog 217 #[.string s, .int .i64 x, .int .u8 128, .int .u8 191] w fun e w' => e = .returned (.bool false) ∧ w = w') := Lib.hid (fun w x hx => by
  rw [hx, ← tl1]
  exact tail_any s (i + 2) 128 191 w)
 clear tl0 tl1
 go_enter Tryz.func194, Tryz.ntmps194
 go_wp2_with (fail)
 refine (H0.out _ _ (by omega)).mono ?_
 rintro e w0 ⟨rfl, rfl⟩
 go_wp2_with (fail)
 refine (H1.out _ _ (by omega)).mono ?_
 rintro e w1 ⟨rfl, rfl⟩
 go_wp2
 go_ret2
 exact ⟨rfl, Below.refl _ _⟩
theorem rune_4oa (s : ByteArray) (i b0 : Nat) (w : World) (hs : s.size ≤ 140737488351232) (hi : i < s.size) (e0 : s[i].toNat = b0) (hb0 : b0 ≤ 255) (q1 : decide ((b0 : Int) < 128) = false) (q2 : decide ((194 : Int) ≤ (b0 : Int)) = true) (q3 : decide ((b0 : Int) ≤ 223) = false) (q4 : decide ((224 : Int) ≤ (b0 : Int)) = true) (q5 : decide ((b0 : Int) ≤ 239) = false) (q6 : decide ((240 : Int) ≤ (b0 : Int)) = true) (q7 : decide ((b0 : Int) ≤ 244) = true) (f1 : ((b0 : Int) == 240) = true) (f2 : ((b0 : Int) == 244) = false) (tl0 : tailB s (i + 1) 144 191 = true) (tl1 : tailB s (i + 2) 128 191 = true) (tl2 : tailB s (i + 3) 128 191 = false) : Ret 194 #[.string s, .int .i64 (i : Int)] w (.tuple #[.int .i64 65533, .int .i64 1]) := by
 have H0 : Hid (∀ w x, x = ((i + 1 : Nat) : Int) → Calls Tryz.prog 217 #[.string s, .int .i64 x, .int .u8 144, .int .u8 191] w fun e w' => e = .returned (.bool true) ∧ w = w') := Lib.hid (fun w x hx => by
  rw [hx, ← tl0]
  exact tail_any s (i + 1) 144 191 w)
 have H1 : Hid (∀ w x, x = ((i + 2 : Nat) : Int) → Calls Tryz.prog 217 #[.string s, .int .i64 x, .int .u8 128, .int .u8 191] w fun e w' => e = .returned (.bool true) ∧ w = w') := Lib.hid (fun w x hx => by
  rw [hx, ← tl1]
  exact tail_any s (i + 2) 128 191 w)
 have H2 : Hid (∀ w x, x = ((i + 3 : Nat) : Int) → Calls Tryz.prog 217 #[.string s, .int .i64 x, .int .u8 128, .int .u8 191] w fun e w' => e = .returned (.bool false) ∧ w = w') := Lib.hid (fun w x hx => by
  rw [hx, ← tl2]
  exact tail_any s (i + 3) 128 191 w)
 clear tl0 tl1 tl2
 go_enter Tryz.func194, Tryz.ntmps194
 go_wp2_with (fail)
 refine (H0.out _ _ (by omega)).mono ?_
 rintro e w0 ⟨rfl, rfl⟩
 go_wp2_with (fail)
 refine (H1.out _ _ (by omega)).mono ?_
 rintro e w1 ⟨rfl, rfl⟩
 go_wp2_with (fail)
 refine (H2.out _ _ (by omega)).mono ?_
 rintro e w2 ⟨rfl, rfl⟩
 go_wp2
 go_ret2
 exact ⟨rfl, Below.refl _ _⟩
theorem rune_4ya (s : ByteArray) (i b0 b1 b2 b3 x0 x1 x2 x3 : Nat) (w : World) (hs : s.size ≤ 140737488351232) (hi : i < s.size) (e0 : s[i].toNat = b0) (hb0 : b0 ≤ 255) (q1 : decide ((b0 : Int) < 128) = false) (q2 : decide ((194 : Int) ≤ (b0 : Int)) = true) (q3 : decide ((b0 : Int) ≤ 223) = false) (q4 : decide ((224 : Int) ≤ (b0 : Int)) = true) (q5 : decide ((b0 : Int) ≤ 239) = false) (q6 : decide ((240 : Int) ≤ (b0 : Int)) = true) (q7 : decide ((b0 : Int) ≤ 244) = true) (h1 : i + 1 < s.size) (e1 : s[i + 1].toNat = b1) (hb1 : b1 ≤ 255) (h2 : i + 2 < s.size) (e2 : s[i + 2].toNat = b2) (hb2 : b2 ≤ 255) (h3 : i + 3 < s.size) (e3 : s[i + 3].toNat = b3) (hb3 : b3 ≤ 255) (f1 : ((b0 : Int) == 240) = true) (f2 : ((b0 : Int) == 244) = false) (tl0 : tailB s (i + 1) 144 191 = true) (tl1 : tailB s (i + 2) 128 191 = true) (tl2 : tailB s (i + 3) 128 191 = true) (m0 : (b0 : Int).tmod 8 = (x0 : Int)) (lm0 : x0 < 8) (m1 : (b1 : Int).tmod 64 = (x1 : Int)) (lm1 : x1 < 64) (m2 : (b2 : Int).tmod 64 = (x2 : Int)) (lm2 : x2 < 64) (m3 : (b3 : Int).tmod 64 = (x3 : Int)) (lm3 : x3 < 64) : Ret 194 #[.string s, .int .i64 (i : Int)] w (.tuple #[.int .i64 ((x0 * 262144 + x1 * 4096 + x2 * 64 + x3 : Nat) : Int), .int .i64 4]) := by
 have H0 : Hid (∀ w x, x = ((i + 1 : Nat) : Int) → Calls Tryz.prog 217 #[.string s, .int .i64 x, .int .u8 144, .int .u8 191] w fun e w' => e = .returned (.bool true) ∧ w = w') := Lib.hid (fun w x hx => by
  rw [hx, ← tl0]
  exact tail_any s (i + 1) 144 191 w)
 have H1 : Hid (∀ w x, x = ((i + 2 : Nat) : Int) → Calls Tryz.prog 217 #[.string s, .int .i64 x, .int .u8 128, .int .u8 191] w fun e w' => e = .returned (.bool true) ∧ w = w') := Lib.hid (fun w x hx => by
  rw [hx, ← tl1]
  exact tail_any s (i + 2) 128 191 w)
 have H2 : Hid (∀ w x, x = ((i + 3 : Nat) : Int) → Calls Tryz.prog 217 #[.string s, .int .i64 x, .int .u8 128, .int .u8 191] w fun e w' => e = .returned (.bool true) ∧ w = w') := Lib.hid (fun w x hx => by
  rw [hx, ← tl2]
  exact tail_any s (i + 3) 128 191 w)
 clear tl0 tl1 tl2
 have hix1 := ix_1 s i b1 h1 e1
 have hix2 := ix_2 s i b2 h2 e2
 have hix3 := ix_3 s i b3 h3 e3
 go_enter Tryz.func194, Tryz.ntmps194
 go_wp2_with (fail)
 refine (H0.out _ _ (by omega)).mono ?_
 rintro e w0 ⟨rfl, rfl⟩
 go_wp2_with (fail)
 refine (H1.out _ _ (by omega)).mono ?_
 rintro e w1 ⟨rfl, rfl⟩
 go_wp2_with (fail)
 refine (H2.out _ _ (by omega)).mono ?_
 rintro e w2 ⟨rfl, rfl⟩
 go_wp2
 go_region
 go_wp2
 go_ret2
 exact ⟨by simp, below_drewQ _ _ _⟩
theorem rune_4nb (s : ByteArray) (i b0 : Nat) (w : World) (hs : s.size ≤ 140737488351232) (hi : i < s.size) (e0 : s[i].toNat = b0) (hb0 : b0 ≤ 255) (q1 : decide ((b0 : Int) < 128) = false) (q2 : decide ((194 : Int) ≤ (b0 : Int)) = true) (q3 : decide ((b0 : Int) ≤ 223) = false) (q4 : decide ((224 : Int) ≤ (b0 : Int)) = true) (q5 : decide ((b0 : Int) ≤ 239) = false) (q6 : decide ((240 : Int) ≤ (b0 : Int)) = true) (q7 : decide ((b0 : Int) ≤ 244) = true) (f1 : ((b0 : Int) == 240) = false) (f2 : ((b0 : Int) == 244) = true) (tl0 : tailB s (i + 1) 128 143 = false) : Ret 194 #[.string s, .int .i64 (i : Int)] w (.tuple #[.int .i64 65533, .int .i64 1]) := by
 have H0 : Hid (∀ w x, x = ((i + 1 : Nat) : Int) → Calls Tryz.prog 217 #[.string s, .int .i64 x, .int .u8 128, .int .u8 143] w fun e w' => e = .returned (.bool false) ∧ w = w') := Lib.hid (fun w x hx => by
  rw [hx, ← tl0]
  exact tail_any s (i + 1) 128 143 w)
 clear tl0
 go_enter Tryz.func194, Tryz.ntmps194
 go_wp2_with (fail)
 refine (H0.out _ _ (by omega)).mono ?_
 rintro e w0 ⟨rfl, rfl⟩
 go_wp2
 go_ret2
 exact ⟨rfl, Below.refl _ _⟩
theorem rune_4mb (s : ByteArray) (i b0 : Nat) (w : World) (hs : s.size ≤ 140737488351232) (hi : i < s.size) (e0 : s[i].toNat = b0) (hb0 : b0 ≤ 255) (q1 : decide ((b0 : Int) < 128) = false) (q2 : decide ((194 : Int) ≤ (b0 : Int)) = true) (q3 : decide ((b0 : Int) ≤ 223) = false) (q4 : decide ((224 : Int) ≤ (b0 : Int)) = true) (q5 : decide ((b0 : Int) ≤ 239) = false) (q6 : decide ((240 : Int) ≤ (b0 : Int)) = true) (q7 : decide ((b0 : Int) ≤ 244) = true) (f1 : ((b0 : Int) == 240) = false) (f2 : ((b0 : Int) == 244) = true) (tl0 : tailB s (i + 1) 128 143 = true) (tl1 : tailB s (i + 2) 128 191 = false) : Ret 194 #[.string s, .int .i64 (i : Int)] w (.tuple #[.int .i64 65533, .int .i64 1]) := by
 have H0 : Hid (∀ w x, x = ((i + 1 : Nat) : Int) → Calls Tryz.prog 217 #[.string s, .int .i64 x, .int .u8 128, .int .u8 143] w fun e w' => e = .returned (.bool true) ∧ w = w') := Lib.hid (fun w x hx => by
  rw [hx, ← tl0]
  exact tail_any s (i + 1) 128 143 w)
 have H1 : Hid (∀ w x, x = ((i + 2 : Nat) : Int) → Calls Tryz.prog 217 #[.string s, .int .i64 x, .int .u8 128, .int .u8 191] w fun e w' => e = .returned (.bool false) ∧ w = w') := Lib.hid (fun w x hx => by
  rw [hx, ← tl1]
  exact tail_any s (i + 2) 128 191 w)
 clear tl0 tl1
 go_enter Tryz.func194, Tryz.ntmps194
 go_wp2_with (fail)
 refine (H0.out _ _ (by omega)).mono ?_
 rintro e w0 ⟨rfl, rfl⟩
 go_wp2_with (fail)
 refine (H1.out _ _ (by omega)).mono ?_
 rintro e w1 ⟨rfl, rfl⟩
 go_wp2
 go_ret2
 exact ⟨rfl, Below.refl _ _⟩
theorem rune_4ob (s : ByteArray) (i b0 : Nat) (w : World) (hs : s.size ≤ 140737488351232) (hi : i < s.size) (e0 : s[i].toNat = b0) (hb0 : b0 ≤ 255) (q1 : decide ((b0 : Int) < 128) = false) (q2 : decide ((194 : Int) ≤ (b0 : Int)) = true) (q3 : decide ((b0 : Int) ≤ 223) = false) (q4 : decide ((224 : Int) ≤ (b0 : Int)) = true) (q5 : decide ((b0 : Int) ≤ 239) = false) (q6 : decide ((240 : Int) ≤ (b0 : Int)) = true) (q7 : decide ((b0 : Int) ≤ 244) = true) (f1 : ((b0 : Int) == 240) = false) (f2 : ((b0 : Int) == 244) = true) (tl0 : tailB s (i + 1) 128 143 = true) (tl1 : tailB s (i + 2) 128 191 = true) (tl2 : tailB s (i + 3) 128 191 = false) : Ret 194 #[.string s, .int .i64 (i : Int)] w (.tuple #[.int .i64 65533, .int .i64 1]) := by
 have H0 : Hid (∀ w x, x = ((i + 1 : Nat) : Int) → Calls Tryz.prog 217 #[.string s, .int .i64 x, .int .u8 128, .int .u8 143] w fun e w' => e = .returned (.bool true) ∧ w = w') := Lib.hid (fun w x hx => by
  rw [hx, ← tl0]
  exact tail_any s (i + 1) 128 143 w)
 have H1 : Hid (∀ w x, x = ((i + 2 : Nat) : Int) → Calls Tryz.prog 217 #[.string s, .int .i64 x, .int .u8 128, .int .u8 191] w fun e w' => e = .returned (.bool true) ∧ w = w') := Lib.hid (fun w x hx => by
  rw [hx, ← tl1]
  exact tail_any s (i + 2) 128 191 w)
 have H2 : Hid (∀ w x, x = ((i + 3 : Nat) : Int) → Calls Tryz.prog 217 #[.string s, .int .i64 x, .int .u8 128, .int .u8 191] w fun e w' => e = .returned (.bool false) ∧ w = w') := Lib.hid (fun w x hx => by
  rw [hx, ← tl2]
  exact tail_any s (i + 3) 128 191 w)
 clear tl0 tl1 tl2
 go_enter Tryz.func194, Tryz.ntmps194
 go_wp2_with (fail)
 refine (H0.out _ _ (by omega)).mono ?_
 rintro e w0 ⟨rfl, rfl⟩
 go_wp2_with (fail)
 refine (H1.out _ _ (by omega)).mono ?_
 rintro e w1 ⟨rfl, rfl⟩
 go_wp2_with (fail)
 refine (H2.out _ _ (by omega)).mono ?_
 rintro e w2 ⟨rfl, rfl⟩
 go_wp2
 go_ret2
 exact ⟨rfl, Below.refl _ _⟩
theorem rune_4yb (s : ByteArray) (i b0 b1 b2 b3 x0 x1 x2 x3 : Nat) (w : World) (hs : s.size ≤ 140737488351232) (hi : i < s.size) (e0 : s[i].toNat = b0) (hb0 : b0 ≤ 255) (q1 : decide ((b0 : Int) < 128) = false) (q2 : decide ((194 : Int) ≤ (b0 : Int)) = true) (q3 : decide ((b0 : Int) ≤ 223) = false) (q4 : decide ((224 : Int) ≤ (b0 : Int)) = true) (q5 : decide ((b0 : Int) ≤ 239) = false) (q6 : decide ((240 : Int) ≤ (b0 : Int)) = true) (q7 : decide ((b0 : Int) ≤ 244) = true) (h1 : i + 1 < s.size) (e1 : s[i + 1].toNat = b1) (hb1 : b1 ≤ 255) (h2 : i + 2 < s.size) (e2 : s[i + 2].toNat = b2) (hb2 : b2 ≤ 255) (h3 : i + 3 < s.size) (e3 : s[i + 3].toNat = b3) (hb3 : b3 ≤ 255) (f1 : ((b0 : Int) == 240) = false) (f2 : ((b0 : Int) == 244) = true) (tl0 : tailB s (i + 1) 128 143 = true) (tl1 : tailB s (i + 2) 128 191 = true) (tl2 : tailB s (i + 3) 128 191 = true) (m0 : (b0 : Int).tmod 8 = (x0 : Int)) (lm0 : x0 < 8) (m1 : (b1 : Int).tmod 64 = (x1 : Int)) (lm1 : x1 < 64) (m2 : (b2 : Int).tmod 64 = (x2 : Int)) (lm2 : x2 < 64) (m3 : (b3 : Int).tmod 64 = (x3 : Int)) (lm3 : x3 < 64) : Ret 194 #[.string s, .int .i64 (i : Int)] w (.tuple #[.int .i64 ((x0 * 262144 + x1 * 4096 + x2 * 64 + x3 : Nat) : Int), .int .i64 4]) := by
 have H0 : Hid (∀ w x, x = ((i + 1 : Nat) : Int) → Calls Tryz.prog 217 #[.string s, .int .i64 x, .int .u8 128, .int .u8 143] w fun e w' => e = .returned (.bool true) ∧ w = w') := Lib.hid (fun w x hx => by
  rw [hx, ← tl0]
  exact tail_any s (i + 1) 128 143 w)
 have H1 : Hid (∀ w x, x = ((i + 2 : Nat) : Int) → Calls Tryz.prog 217 #[.string s, .int .i64 x, .int .u8 128, .int .u8 191] w fun e w' => e = .returned (.bool true) ∧ w = w') := Lib.hid (fun w x hx => by
  rw [hx, ← tl1]
  exact tail_any s (i + 2) 128 191 w)
 have H2 : Hid (∀ w x, x = ((i + 3 : Nat) : Int) → Calls Tryz.prog 217 #[.string s, .int .i64 x, .int .u8 128, .int .u8 191] w fun e w' => e = .returned (.bool true) ∧ w = w') := Lib.hid (fun w x hx => by
  rw [hx, ← tl2]
  exact tail_any s (i + 3) 128 191 w)
 clear tl0 tl1 tl2
 have hix1 := ix_1 s i b1 h1 e1
 have hix2 := ix_2 s i b2 h2 e2
 have hix3 := ix_3 s i b3 h3 e3
 go_enter Tryz.func194, Tryz.ntmps194
 go_wp2_with (fail)
 refine (H0.out _ _ (by omega)).mono ?_
 rintro e w0 ⟨rfl, rfl⟩
 go_wp2_with (fail)
 refine (H1.out _ _ (by omega)).mono ?_
 rintro e w1 ⟨rfl, rfl⟩
 go_wp2_with (fail)
 refine (H2.out _ _ (by omega)).mono ?_
 rintro e w2 ⟨rfl, rfl⟩
 go_wp2
 go_region
 go_wp2
 go_ret2
 exact ⟨by simp, below_drewQ _ _ _⟩
theorem rune_4nc (s : ByteArray) (i b0 : Nat) (w : World) (hs : s.size ≤ 140737488351232) (hi : i < s.size) (e0 : s[i].toNat = b0) (hb0 : b0 ≤ 255) (q1 : decide ((b0 : Int) < 128) = false) (q2 : decide ((194 : Int) ≤ (b0 : Int)) = true) (q3 : decide ((b0 : Int) ≤ 223) = false) (q4 : decide ((224 : Int) ≤ (b0 : Int)) = true) (q5 : decide ((b0 : Int) ≤ 239) = false) (q6 : decide ((240 : Int) ≤ (b0 : Int)) = true) (q7 : decide ((b0 : Int) ≤ 244) = true) (f1 : ((b0 : Int) == 240) = false) (f2 : ((b0 : Int) == 244) = false) (tl0 : tailB s (i + 1) 128 191 = false) : Ret 194 #[.string s, .int .i64 (i : Int)] w (.tuple #[.int .i64 65533, .int .i64 1]) := by
 have H0 : Hid (∀ w x, x = ((i + 1 : Nat) : Int) → Calls Tryz.prog 217 #[.string s, .int .i64 x, .int .u8 128, .int .u8 191] w fun e w' => e = .returned (.bool false) ∧ w = w') := Lib.hid (fun w x hx => by
  rw [hx, ← tl0]
  exact tail_any s (i + 1) 128 191 w)
 clear tl0
 go_enter Tryz.func194, Tryz.ntmps194
 go_wp2_with (fail)
 refine (H0.out _ _ (by omega)).mono ?_
 rintro e w0 ⟨rfl, rfl⟩
 go_wp2
 go_ret2
 exact ⟨rfl, Below.refl _ _⟩
theorem rune_4mc (s : ByteArray) (i b0 : Nat) (w : World) (hs : s.size ≤ 140737488351232) (hi : i < s.size) (e0 : s[i].toNat = b0) (hb0 : b0 ≤ 255) (q1 : decide ((b0 : Int) < 128) = false) (q2 : decide ((194 : Int) ≤ (b0 : Int)) = true) (q3 : decide ((b0 : Int) ≤ 223) = false) (q4 : decide ((224 : Int) ≤ (b0 : Int)) = true) (q5 : decide ((b0 : Int) ≤ 239) = false) (q6 : decide ((240 : Int) ≤ (b0 : Int)) = true) (q7 : decide ((b0 : Int) ≤ 244) = true) (f1 : ((b0 : Int) == 240) = false) (f2 : ((b0 : Int) == 244) = false) (tl0 : tailB s (i + 1) 128 191 = true) (tl1 : tailB s (i + 2) 128 191 = false) : Ret 194 #[.string s, .int .i64 (i : Int)] w (.tuple #[.int .i64 65533, .int .i64 1]) := by
 have H0 : Hid (∀ w x, x = ((i + 1 : Nat) : Int) → Calls Tryz.prog 217 #[.string s, .int .i64 x, .int .u8 128, .int .u8 191] w fun e w' => e = .returned (.bool true) ∧ w = w') := Lib.hid (fun w x hx => by
  rw [hx, ← tl0]
  exact tail_any s (i + 1) 128 191 w)
 have H1 : Hid (∀ w x, x = ((i + 2 : Nat) : Int) → Calls Tryz.prog 217 #[.string s, .int .i64 x, .int .u8 128, .int .u8 191] w fun e w' => e = .returned (.bool false) ∧ w = w') := Lib.hid (fun w x hx => by
  rw [hx, ← tl1]
  exact tail_any s (i + 2) 128 191 w)
 clear tl0 tl1
 go_enter Tryz.func194, Tryz.ntmps194
 go_wp2_with (fail)
 refine (H0.out _ _ (by omega)).mono ?_
 rintro e w0 ⟨rfl, rfl⟩
 go_wp2_with (fail)
 refine (H1.out _ _ (by omega)).mono ?_
 rintro e w1 ⟨rfl, rfl⟩
 go_wp2
 go_ret2
 exact ⟨rfl, Below.refl _ _⟩
theorem rune_4oc (s : ByteArray) (i b0 : Nat) (w : World) (hs : s.size ≤ 140737488351232) (hi : i < s.size) (e0 : s[i].toNat = b0) (hb0 : b0 ≤ 255) (q1 : decide ((b0 : Int) < 128) = false) (q2 : decide ((194 : Int) ≤ (b0 : Int)) = true) (q3 : decide ((b0 : Int) ≤ 223) = false) (q4 : decide ((224 : Int) ≤ (b0 : Int)) = true) (q5 : decide ((b0 : Int) ≤ 239) = false) (q6 : decide ((240 : Int) ≤ (b0 : Int)) = true) (q7 : decide ((b0 : Int) ≤ 244) = true) (f1 : ((b0 : Int) == 240) = false) (f2 : ((b0 : Int) == 244) = false) (tl0 : tailB s (i + 1) 128 191 = true) (tl1 : tailB s (i + 2) 128 191 = true) (tl2 : tailB s (i + 3) 128 191 = false) : Ret 194 #[.string s, .int .i64 (i : Int)] w (.tuple #[.int .i64 65533, .int .i64 1]) := by
 have H0 : Hid (∀ w x, x = ((i + 1 : Nat) : Int) → Calls Tryz.prog 217 #[.string s, .int .i64 x, .int .u8 128, .int .u8 191] w fun e w' => e = .returned (.bool true) ∧ w = w') := Lib.hid (fun w x hx => by
  rw [hx, ← tl0]
  exact tail_any s (i + 1) 128 191 w)
 have H1 : Hid (∀ w x, x = ((i + 2 : Nat) : Int) → Calls Tryz.prog 217 #[.string s, .int .i64 x, .int .u8 128, .int .u8 191] w fun e w' => e = .returned (.bool true) ∧ w = w') := Lib.hid (fun w x hx => by
  rw [hx, ← tl1]
  exact tail_any s (i + 2) 128 191 w)
 have H2 : Hid (∀ w x, x = ((i + 3 : Nat) : Int) → Calls Tryz.prog 217 #[.string s, .int .i64 x, .int .u8 128, .int .u8 191] w fun e w' => e = .returned (.bool false) ∧ w = w') := Lib.hid (fun w x hx => by
  rw [hx, ← tl2]
  exact tail_any s (i + 3) 128 191 w)
 clear tl0 tl1 tl2
 go_enter Tryz.func194, Tryz.ntmps194
 go_wp2_with (fail)
 refine (H0.out _ _ (by omega)).mono ?_
 rintro e w0 ⟨rfl, rfl⟩
 go_wp2_with (fail)
 refine (H1.out _ _ (by omega)).mono ?_
 rintro e w1 ⟨rfl, rfl⟩
 go_wp2_with (fail)
 refine (H2.out _ _ (by omega)).mono ?_
 rintro e w2 ⟨rfl, rfl⟩
 go_wp2
 go_ret2
 exact ⟨rfl, Below.refl _ _⟩
theorem rune_4yc (s : ByteArray) (i b0 b1 b2 b3 x0 x1 x2 x3 : Nat) (w : World) (hs : s.size ≤ 140737488351232) (hi : i < s.size) (e0 : s[i].toNat = b0) (hb0 : b0 ≤ 255) (q1 : decide ((b0 : Int) < 128) = false) (q2 : decide ((194 : Int) ≤ (b0 : Int)) = true) (q3 : decide ((b0 : Int) ≤ 223) = false) (q4 : decide ((224 : Int) ≤ (b0 : Int)) = true) (q5 : decide ((b0 : Int) ≤ 239) = false) (q6 : decide ((240 : Int) ≤ (b0 : Int)) = true) (q7 : decide ((b0 : Int) ≤ 244) = true) (h1 : i + 1 < s.size) (e1 : s[i + 1].toNat = b1) (hb1 : b1 ≤ 255) (h2 : i + 2 < s.size) (e2 : s[i + 2].toNat = b2) (hb2 : b2 ≤ 255) (h3 : i + 3 < s.size) (e3 : s[i + 3].toNat = b3) (hb3 : b3 ≤ 255) (f1 : ((b0 : Int) == 240) = false) (f2 : ((b0 : Int) == 244) = false) (tl0 : tailB s (i + 1) 128 191 = true) (tl1 : tailB s (i + 2) 128 191 = true) (tl2 : tailB s (i + 3) 128 191 = true) (m0 : (b0 : Int).tmod 8 = (x0 : Int)) (lm0 : x0 < 8) (m1 : (b1 : Int).tmod 64 = (x1 : Int)) (lm1 : x1 < 64) (m2 : (b2 : Int).tmod 64 = (x2 : Int)) (lm2 : x2 < 64) (m3 : (b3 : Int).tmod 64 = (x3 : Int)) (lm3 : x3 < 64) : Ret 194 #[.string s, .int .i64 (i : Int)] w (.tuple #[.int .i64 ((x0 * 262144 + x1 * 4096 + x2 * 64 + x3 : Nat) : Int), .int .i64 4]) := by
 have H0 : Hid (∀ w x, x = ((i + 1 : Nat) : Int) → Calls Tryz.prog 217 #[.string s, .int .i64 x, .int .u8 128, .int .u8 191] w fun e w' => e = .returned (.bool true) ∧ w = w') := Lib.hid (fun w x hx => by
  rw [hx, ← tl0]
  exact tail_any s (i + 1) 128 191 w)
 have H1 : Hid (∀ w x, x = ((i + 2 : Nat) : Int) → Calls Tryz.prog 217 #[.string s, .int .i64 x, .int .u8 128, .int .u8 191] w fun e w' => e = .returned (.bool true) ∧ w = w') := Lib.hid (fun w x hx => by
  rw [hx, ← tl1]
  exact tail_any s (i + 2) 128 191 w)
 have H2 : Hid (∀ w x, x = ((i + 3 : Nat) : Int) → Calls Tryz.prog 217 #[.string s, .int .i64 x, .int .u8 128, .int .u8 191] w fun e w' => e = .returned (.bool true) ∧ w = w') := Lib.hid (fun w x hx => by
  rw [hx, ← tl2]
  exact tail_any s (i + 3) 128 191 w)
 clear tl0 tl1 tl2
 have hix1 := ix_1 s i b1 h1 e1
 have hix2 := ix_2 s i b2 h2 e2
 have hix3 := ix_3 s i b3 h3 e3
 go_enter Tryz.func194, Tryz.ntmps194
 go_wp2_with (fail)
 refine (H0.out _ _ (by omega)).mono ?_
 rintro e w0 ⟨rfl, rfl⟩
 go_wp2_with (fail)
 refine (H1.out _ _ (by omega)).mono ?_
 rintro e w1 ⟨rfl, rfl⟩
 go_wp2_with (fail)
 refine (H2.out _ _ (by omega)).mono ?_
 rintro e w2 ⟨rfl, rfl⟩
 go_wp2
 go_region
 go_wp2
 go_ret2
 exact ⟨by simp, below_drewQ _ _ _⟩
theorem tmod_n (b m : Nat) : (b : Int).tmod (m : Int) = ((b % m : Nat) : Int) := by
 rw [Int.tmod_eq_emod_of_nonneg (by omega)]
 push_cast
 rfl
theorem tail_iff {s : ByteArray} {i lo hi : Nat} (h : tailB s i lo hi = true) : i < s.size ∧ lo ≤ (s.get! i).toNat ∧ (s.get! i).toNat ≤ hi := by
 unfold tailB at h
 simpa using h
theorem tail_not {s : ByteArray} {i lo hi : Nat} (h : tailB s i lo hi = false) : ¬ (i < s.size ∧ lo ≤ (s.get! i).toNat ∧ (s.get! i).toNat ≤ hi) := by
 unfold tailB at h
 intro ⟨a, b, c⟩
 rw [decide_eq_true a, decide_eq_true b, decide_eq_true c] at h
 cases h
set_option maxHeartbeats 1000000 in
theorem rune_any (s : ByteArray) (i : Nat) (w : World) (hs : s.size ≤ 140737488351232) (hi : i < s.size) : Ret 194 #[.string s, .int .i64 (i : Int)] w (.tuple #[.int .i64 (((Utf8.decode s i).1 : Nat) : Int), .int .i64 ((Run.wd s i : Nat) : Int)]) := by
 unfold Run.wd
 rw [Lib.decode_at]
 have e0 : s[i].toNat = (s.get! i).toNat := by rw [get_bang s i hi]
 have k0 : (s.get! i).toNat ≤ 255 := by have := (s.get! i).toNat_lt; omega
 have E : ∀ k, i + k < s.size → ∃ h : i + k < s.size, s[i + k].toNat = (s.get! (i + k)).toNat ∧ (s.get! (i + k)).toNat ≤ 255 := fun k h => ⟨h, by rw [get_bang s (i + k) h], by have := (s.get! (i + k)).toNat_lt; omega⟩
 have bad : ∀ n b0 b1 b2 b3, Lib.decodeN n b0 b1 b2 b3 = (65533, 1) → (Lib.decodeN n b0 b1 b2 b3).1 = 65533 ∧ (Lib.decodeN n b0 b1 b2 b3).2 = 1 := fun n b0 b1 b2 b3 h => by rw [h]; exact ⟨rfl, rfl⟩
 generalize hb0 : (s.get! i).toNat = b0 at *
 by_cases h1 : b0 < 128
 ·rw [decN1 _ _ _ _ _ h1]
  exact rune_1 s i b0 w hs hi e0 k0 (decide_eq_true (by omega))
 by_cases h2 : b0 < 194
 ·have D : Lib.decodeN (s.size - i) b0 (s.get! (i + 1)).toNat (s.get! (i + 2)).toNat (s.get! (i + 3)).toNat = (65533, 1) := by
   unfold Lib.decodeN
   split
   ·omega
   ·split
    ·rw [if_neg (by omega)]
    ·rw [if_neg (by omega), if_neg (by omega)]
  rw [D]
  exact rune_0a s i b0 w hs hi e0 k0 (decide_eq_false (by omega)) (decide_eq_false (by omega)) (decide_eq_false (by omega)) (decide_eq_false (by omega))
 by_cases h3 : 244 < b0
 ·have D : Lib.decodeN (s.size - i) b0 (s.get! (i + 1)).toNat (s.get! (i + 2)).toNat (s.get! (i + 3)).toNat = (65533, 1) := by
   unfold Lib.decodeN
   rw [if_neg (by omega), if_neg (by omega), if_neg (by omega)]
   split
   ·rw [if_neg (by omega)]
   ·rfl
  rw [D]
  exact rune_0b s i b0 w hs hi e0 k0 (decide_eq_false (by omega)) (decide_eq_true (by omega)) (decide_eq_false (by omega)) (decide_eq_true (by omega)) (decide_eq_false (by omega)) (decide_eq_true (by omega)) (decide_eq_false (by omega))
 by_cases h4 : b0 ≤ 223
 ·cases t1 : tailB s (i + 1) 128 191 with
  | true =>
   obtain ⟨g1, g2, g3⟩ := tail_iff t1
   obtain ⟨r1, e1, k1⟩ := E 1 g1
   generalize (s.get! (i + 1)).toNat = b1 at *
   have D : Lib.decodeN (s.size - i) b0 b1 (s.get! (i + 2)).toNat (s.get! (i + 3)).toNat = (b0 % 32 * 64 + b1 % 64, 2) := by
    unfold Lib.decodeN
    rw [if_neg (by omega), if_pos ⟨by omega, by omega, by omega⟩, if_pos (by omega)]
   rw [D]
   exact rune_2y s i b0 b1 (b0 % 32) (b1 % 64) w hs hi e0 k0 (decide_eq_false (by omega)) (decide_eq_true (by omega)) (decide_eq_true (by omega)) r1 e1 k1 t1 (tmod_n b0 32) (by omega) (tmod_n b1 64) (by omega)
  | false =>
   have g := tail_not t1
   generalize (s.get! (i + 1)).toNat = b1 at *
   have D : Lib.decodeN (s.size - i) b0 b1 (s.get! (i + 2)).toNat (s.get! (i + 3)).toNat = (65533, 1) := by
    unfold Lib.decodeN
    rw [if_neg (by omega), if_neg (by omega), if_neg (by omega), if_neg (by omega)]
   rw [D]
   exact rune_2n s i b0 w hs hi e0 k0 (decide_eq_false (by omega)) (decide_eq_true (by omega)) (decide_eq_true (by omega)) (decide_eq_false (by omega)) (decide_eq_false (by omega)) t1
 by_cases h5 : b0 ≤ 239
 ·by_cases hA : b0 = 224
  ·subst hA
   cases t1 : tailB s (i + 1) 160 191 with
   | false =>
    have g := tail_not t1
    generalize (s.get! (i + 1)).toNat = b1 at *
    generalize (s.get! (i + 2)).toNat = b2 at *
    have D : Lib.decodeN (s.size - i) 224 b1 b2 (s.get! (i + 3)).toNat = (65533, 1) := by
     unfold Lib.decodeN
     rw [if_neg (by omega), if_neg (by omega)]
     split
     ·rw [if_neg (by omega)]
     ·rw [if_neg (by omega)]
    rw [D]
    exact rune_3na s i 224 w hs hi e0 k0 (decide_eq_false (by omega)) (decide_eq_true (by omega)) (decide_eq_false (by omega)) (decide_eq_true (by omega)) (decide_eq_true (by omega)) (decide_eq_false (by omega)) rfl rfl t1
   | true =>
    obtain ⟨g1, g2, g3⟩ := tail_iff t1
    cases t2 : tailB s (i + 2) 128 191 with
    | false =>
     have g := tail_not t2
     generalize (s.get! (i + 1)).toNat = b1 at *
     generalize (s.get! (i + 2)).toNat = b2 at *
     have D : Lib.decodeN (s.size - i) 224 b1 b2 (s.get! (i + 3)).toNat = (65533, 1) := by
      unfold Lib.decodeN
      rw [if_neg (by omega), if_neg (by omega), if_neg (by omega), if_neg (by omega)]
     rw [D]
     exact rune_3ma s i 224 w hs hi e0 k0 (decide_eq_false (by omega)) (decide_eq_true (by omega)) (decide_eq_false (by omega)) (decide_eq_true (by omega)) (decide_eq_true (by omega)) (decide_eq_false (by omega)) rfl rfl t1 t2
    | true =>
     obtain ⟨g4, g5, g6⟩ := tail_iff t2
     obtain ⟨r1, e1, k1⟩ := E 1 g1
     obtain ⟨r2, e2, k2⟩ := E 2 g4
     generalize (s.get! (i + 1)).toNat = b1 at *
     generalize (s.get! (i + 2)).toNat = b2 at *
     have D : Lib.decodeN (s.size - i) 224 b1 b2 (s.get! (i + 3)).toNat = (224 % 16 * 4096 + b1 % 64 * 64 + b2 % 64, 3) := by
      unfold Lib.decodeN
      rw [if_neg (by omega), if_neg (by omega), if_pos ⟨by omega, ⟨by omega, by omega⟩, by omega, by omega⟩, if_pos (by omega)]
     rw [D]
     exact rune_3ya s i 224 b1 b2 (224 % 16) (b1 % 64) (b2 % 64) w hs hi e0 k0 (decide_eq_false (by omega)) (decide_eq_true (by omega)) (decide_eq_false (by omega)) (decide_eq_true (by omega)) (decide_eq_true (by omega)) r1 e1 k1 r2 e2 k2 rfl rfl t1 t2 (tmod_n 224 16) (by omega) (tmod_n b1 64) (by omega) (tmod_n b2 64) (by omega)
  by_cases hB : b0 = 237
  ·subst hB
   cases t1 : tailB s (i + 1) 128 159 with
   | false =>
    have g := tail_not t1
    generalize (s.get! (i + 1)).toNat = b1 at *
    generalize (s.get! (i + 2)).toNat = b2 at *
    have D : Lib.decodeN (s.size - i) 237 b1 b2 (s.get! (i + 3)).toNat = (65533, 1) := by
     unfold Lib.decodeN
     rw [if_neg (by omega), if_neg (by omega)]
     split
     ·rw [if_neg (by omega)]
     ·rw [if_neg (by omega)]
    rw [D]
    exact rune_3nb s i 237 w hs hi e0 k0 (decide_eq_false (by omega)) (decide_eq_true (by omega)) (decide_eq_false (by omega)) (decide_eq_true (by omega)) (decide_eq_true (by omega)) (decide_eq_false (by omega)) rfl rfl t1
   | true =>
    obtain ⟨g1, g2, g3⟩ := tail_iff t1
    cases t2 : tailB s (i + 2) 128 191 with
    | false =>
     have g := tail_not t2
     generalize (s.get! (i + 1)).toNat = b1 at *
     generalize (s.get! (i + 2)).toNat = b2 at *
     have D : Lib.decodeN (s.size - i) 237 b1 b2 (s.get! (i + 3)).toNat = (65533, 1) := by
      unfold Lib.decodeN
      rw [if_neg (by omega), if_neg (by omega), if_neg (by omega), if_neg (by omega)]
     rw [D]
     exact rune_3mb s i 237 w hs hi e0 k0 (decide_eq_false (by omega)) (decide_eq_true (by omega)) (decide_eq_false (by omega)) (decide_eq_true (by omega)) (decide_eq_true (by omega)) (decide_eq_false (by omega)) rfl rfl t1 t2
    | true =>
     obtain ⟨g4, g5, g6⟩ := tail_iff t2
     obtain ⟨r1, e1, k1⟩ := E 1 g1
     obtain ⟨r2, e2, k2⟩ := E 2 g4
     generalize (s.get! (i + 1)).toNat = b1 at *
     generalize (s.get! (i + 2)).toNat = b2 at *
     have D : Lib.decodeN (s.size - i) 237 b1 b2 (s.get! (i + 3)).toNat = (237 % 16 * 4096 + b1 % 64 * 64 + b2 % 64, 3) := by
      unfold Lib.decodeN
      rw [if_neg (by omega), if_neg (by omega), if_pos ⟨by omega, ⟨by omega, by omega⟩, by omega, by omega⟩, if_pos (by omega)]
     rw [D]
     exact rune_3yb s i 237 b1 b2 (237 % 16) (b1 % 64) (b2 % 64) w hs hi e0 k0 (decide_eq_false (by omega)) (decide_eq_true (by omega)) (decide_eq_false (by omega)) (decide_eq_true (by omega)) (decide_eq_true (by omega)) r1 e1 k1 r2 e2 k2 rfl rfl t1 t2 (tmod_n 237 16) (by omega) (tmod_n b1 64) (by omega) (tmod_n b2 64) (by omega)
  cases t1 : tailB s (i + 1) 128 191 with
  | false =>
   have g := tail_not t1
   generalize (s.get! (i + 1)).toNat = b1 at *
   generalize (s.get! (i + 2)).toNat = b2 at *
   have D : Lib.decodeN (s.size - i) b0 b1 b2 (s.get! (i + 3)).toNat = (65533, 1) := by
    unfold Lib.decodeN
    rw [if_neg (by omega), if_neg (by omega)]
    split
    ·rw [if_neg (by omega)]
    ·rw [if_neg (by omega)]
   rw [D]
   exact rune_3nc s i b0 w hs hi e0 k0 (decide_eq_false (by omega)) (decide_eq_true (by omega)) (decide_eq_false (by omega)) (decide_eq_true (by omega)) (decide_eq_true (by omega)) (decide_eq_false (by omega)) (by rw [beq_eq_false_iff_ne]; omega) (by rw [beq_eq_false_iff_ne]; omega) t1
  | true =>
   obtain ⟨g1, g2, g3⟩ := tail_iff t1
   cases t2 : tailB s (i + 2) 128 191 with
   | false =>
    have g := tail_not t2
    generalize (s.get! (i + 1)).toNat = b1 at *
    generalize (s.get! (i + 2)).toNat = b2 at *
    have D : Lib.decodeN (s.size - i) b0 b1 b2 (s.get! (i + 3)).toNat = (65533, 1) := by
     unfold Lib.decodeN
     rw [if_neg (by omega), if_neg (by omega), if_neg (by omega), if_neg (by omega)]
    rw [D]
    exact rune_3mc s i b0 w hs hi e0 k0 (decide_eq_false (by omega)) (decide_eq_true (by omega)) (decide_eq_false (by omega)) (decide_eq_true (by omega)) (decide_eq_true (by omega)) (decide_eq_false (by omega)) (by rw [beq_eq_false_iff_ne]; omega) (by rw [beq_eq_false_iff_ne]; omega) t1 t2
   | true =>
    obtain ⟨g4, g5, g6⟩ := tail_iff t2
    obtain ⟨r1, e1, k1⟩ := E 1 g1
    obtain ⟨r2, e2, k2⟩ := E 2 g4
    generalize (s.get! (i + 1)).toNat = b1 at *
    generalize (s.get! (i + 2)).toNat = b2 at *
    have D : Lib.decodeN (s.size - i) b0 b1 b2 (s.get! (i + 3)).toNat = (b0 % 16 * 4096 + b1 % 64 * 64 + b2 % 64, 3) := by
     unfold Lib.decodeN
     rw [if_neg (by omega), if_neg (by omega), if_pos ⟨by omega, ⟨by omega, by omega⟩, by omega, by omega⟩, if_pos (by omega)]
    rw [D]
    exact rune_3yc s i b0 b1 b2 (b0 % 16) (b1 % 64) (b2 % 64) w hs hi e0 k0 (decide_eq_false (by omega)) (decide_eq_true (by omega)) (decide_eq_false (by omega)) (decide_eq_true (by omega)) (decide_eq_true (by omega)) r1 e1 k1 r2 e2 k2 (by rw [beq_eq_false_iff_ne]; omega) (by rw [beq_eq_false_iff_ne]; omega) t1 t2 (tmod_n b0 16) (by omega) (tmod_n b1 64) (by omega) (tmod_n b2 64) (by omega)
 by_cases hA : b0 = 240
 ·subst hA
  cases t1 : tailB s (i + 1) 144 191 with
  | false =>
   have g := tail_not t1
   generalize (s.get! (i + 1)).toNat = b1 at *
   generalize (s.get! (i + 2)).toNat = b2 at *
   generalize (s.get! (i + 3)).toNat = b3 at *
   have D : Lib.decodeN (s.size - i) 240 b1 b2 b3 = (65533, 1) := by
    unfold Lib.decodeN
    rw [if_neg (by omega), if_neg (by omega), if_neg (by omega)]
    split
    ·rw [if_neg (by omega)]
    ·rfl
   rw [D]
   exact rune_4na s i 240 w hs hi e0 k0 (decide_eq_false (by omega)) (decide_eq_true (by omega)) (decide_eq_false (by omega)) (decide_eq_true (by omega)) (decide_eq_false (by omega)) (decide_eq_true (by omega)) (decide_eq_true (by omega)) rfl rfl t1
  | true =>
   obtain ⟨g1, g2, g3⟩ := tail_iff t1
   cases t2 : tailB s (i + 2) 128 191 with
   | false =>
    have g := tail_not t2
    generalize (s.get! (i + 1)).toNat = b1 at *
    generalize (s.get! (i + 2)).toNat = b2 at *
    generalize (s.get! (i + 3)).toNat = b3 at *
    have D : Lib.decodeN (s.size - i) 240 b1 b2 b3 = (65533, 1) := by
     unfold Lib.decodeN
     rw [if_neg (by omega), if_neg (by omega), if_neg (by omega), if_neg (by omega)]
    rw [D]
    exact rune_4ma s i 240 w hs hi e0 k0 (decide_eq_false (by omega)) (decide_eq_true (by omega)) (decide_eq_false (by omega)) (decide_eq_true (by omega)) (decide_eq_false (by omega)) (decide_eq_true (by omega)) (decide_eq_true (by omega)) rfl rfl t1 t2
   | true =>
    obtain ⟨g4, g5, g6⟩ := tail_iff t2
    cases t3 : tailB s (i + 3) 128 191 with
    | false =>
     have g := tail_not t3
     generalize (s.get! (i + 1)).toNat = b1 at *
     generalize (s.get! (i + 2)).toNat = b2 at *
     generalize (s.get! (i + 3)).toNat = b3 at *
     have D : Lib.decodeN (s.size - i) 240 b1 b2 b3 = (65533, 1) := by
      unfold Lib.decodeN
      rw [if_neg (by omega), if_neg (by omega), if_neg (by omega), if_neg (by omega)]
     rw [D]
     exact rune_4oa s i 240 w hs hi e0 k0 (decide_eq_false (by omega)) (decide_eq_true (by omega)) (decide_eq_false (by omega)) (decide_eq_true (by omega)) (decide_eq_false (by omega)) (decide_eq_true (by omega)) (decide_eq_true (by omega)) rfl rfl t1 t2 t3
    | true =>
     obtain ⟨g7, g8, g9⟩ := tail_iff t3
     obtain ⟨r1, e1, k1⟩ := E 1 g1
     obtain ⟨r2, e2, k2⟩ := E 2 g4
     obtain ⟨r3, e3, k3⟩ := E 3 g7
     generalize (s.get! (i + 1)).toNat = b1 at *
     generalize (s.get! (i + 2)).toNat = b2 at *
     generalize (s.get! (i + 3)).toNat = b3 at *
     have D : Lib.decodeN (s.size - i) 240 b1 b2 b3 = (240 % 8 * 262144 + b1 % 64 * 4096 + b2 % 64 * 64 + b3 % 64, 4) := by
      unfold Lib.decodeN
      rw [if_neg (by omega), if_neg (by omega), if_neg (by omega), if_pos ⟨by omega, ⟨by omega, by omega⟩, ⟨by omega, by omega⟩, by omega, by omega⟩, if_pos (by omega)]
     rw [D]
     exact rune_4ya s i 240 b1 b2 b3 (240 % 8) (b1 % 64) (b2 % 64) (b3 % 64) w hs hi e0 k0 (decide_eq_false (by omega)) (decide_eq_true (by omega)) (decide_eq_false (by omega)) (decide_eq_true (by omega)) (decide_eq_false (by omega)) (decide_eq_true (by omega)) (decide_eq_true (by omega)) r1 e1 k1 r2 e2 k2 r3 e3 k3 rfl rfl t1 t2 t3 (tmod_n 240 8) (by omega) (tmod_n b1 64) (by omega) (tmod_n b2 64) (by omega) (tmod_n b3 64) (by omega)
 by_cases hB : b0 = 244
 ·subst hB
  cases t1 : tailB s (i + 1) 128 143 with
  | false =>
   have g := tail_not t1
   generalize (s.get! (i + 1)).toNat = b1 at *
   generalize (s.get! (i + 2)).toNat = b2 at *
   generalize (s.get! (i + 3)).toNat = b3 at *
   have D : Lib.decodeN (s.size - i) 244 b1 b2 b3 = (65533, 1) := by
    unfold Lib.decodeN
    rw [if_neg (by omega), if_neg (by omega), if_neg (by omega)]
    split
    ·rw [if_neg (by omega)]
    ·rfl
   rw [D]
   exact rune_4nb s i 244 w hs hi e0 k0 (decide_eq_false (by omega)) (decide_eq_true (by omega)) (decide_eq_false (by omega)) (decide_eq_true (by omega)) (decide_eq_false (by omega)) (decide_eq_true (by omega)) (decide_eq_true (by omega)) rfl rfl t1
  | true =>
   obtain ⟨g1, g2, g3⟩ := tail_iff t1
   cases t2 : tailB s (i + 2) 128 191 with
   | false =>
    have g := tail_not t2
    generalize (s.get! (i + 1)).toNat = b1 at *
    generalize (s.get! (i + 2)).toNat = b2 at *
    generalize (s.get! (i + 3)).toNat = b3 at *
    have D : Lib.decodeN (s.size - i) 244 b1 b2 b3 = (65533, 1) := by
     unfold Lib.decodeN
     rw [if_neg (by omega), if_neg (by omega), if_neg (by omega), if_neg (by omega)]
    rw [D]
    exact rune_4mb s i 244 w hs hi e0 k0 (decide_eq_false (by omega)) (decide_eq_true (by omega)) (decide_eq_false (by omega)) (decide_eq_true (by omega)) (decide_eq_false (by omega)) (decide_eq_true (by omega)) (decide_eq_true (by omega)) rfl rfl t1 t2
   | true =>
    obtain ⟨g4, g5, g6⟩ := tail_iff t2
    cases t3 : tailB s (i + 3) 128 191 with
    | false =>
     have g := tail_not t3
     generalize (s.get! (i + 1)).toNat = b1 at *
     generalize (s.get! (i + 2)).toNat = b2 at *
     generalize (s.get! (i + 3)).toNat = b3 at *
     have D : Lib.decodeN (s.size - i) 244 b1 b2 b3 = (65533, 1) := by
      unfold Lib.decodeN
      rw [if_neg (by omega), if_neg (by omega), if_neg (by omega), if_neg (by omega)]
     rw [D]
     exact rune_4ob s i 244 w hs hi e0 k0 (decide_eq_false (by omega)) (decide_eq_true (by omega)) (decide_eq_false (by omega)) (decide_eq_true (by omega)) (decide_eq_false (by omega)) (decide_eq_true (by omega)) (decide_eq_true (by omega)) rfl rfl t1 t2 t3
    | true =>
     obtain ⟨g7, g8, g9⟩ := tail_iff t3
     obtain ⟨r1, e1, k1⟩ := E 1 g1
     obtain ⟨r2, e2, k2⟩ := E 2 g4
     obtain ⟨r3, e3, k3⟩ := E 3 g7
     generalize (s.get! (i + 1)).toNat = b1 at *
     generalize (s.get! (i + 2)).toNat = b2 at *
     generalize (s.get! (i + 3)).toNat = b3 at *
     have D : Lib.decodeN (s.size - i) 244 b1 b2 b3 = (244 % 8 * 262144 + b1 % 64 * 4096 + b2 % 64 * 64 + b3 % 64, 4) := by
      unfold Lib.decodeN
      rw [if_neg (by omega), if_neg (by omega), if_neg (by omega), if_pos ⟨by omega, ⟨by omega, by omega⟩, ⟨by omega, by omega⟩, by omega, by omega⟩, if_pos (by omega)]
     rw [D]
     exact rune_4yb s i 244 b1 b2 b3 (244 % 8) (b1 % 64) (b2 % 64) (b3 % 64) w hs hi e0 k0 (decide_eq_false (by omega)) (decide_eq_true (by omega)) (decide_eq_false (by omega)) (decide_eq_true (by omega)) (decide_eq_false (by omega)) (decide_eq_true (by omega)) (decide_eq_true (by omega)) r1 e1 k1 r2 e2 k2 r3 e3 k3 rfl rfl t1 t2 t3 (tmod_n 244 8) (by omega) (tmod_n b1 64) (by omega) (tmod_n b2 64) (by omega) (tmod_n b3 64) (by omega)
 cases t1 : tailB s (i + 1) 128 191 with
 | false =>
  have g := tail_not t1
  generalize (s.get! (i + 1)).toNat = b1 at *
  generalize (s.get! (i + 2)).toNat = b2 at *
  generalize (s.get! (i + 3)).toNat = b3 at *
  have D : Lib.decodeN (s.size - i) b0 b1 b2 b3 = (65533, 1) := by
   unfold Lib.decodeN
   rw [if_neg (by omega), if_neg (by omega), if_neg (by omega)]
   split
   ·rw [if_neg (by omega)]
   ·rfl
  rw [D]
  exact rune_4nc s i b0 w hs hi e0 k0 (decide_eq_false (by omega)) (decide_eq_true (by omega)) (decide_eq_false (by omega)) (decide_eq_true (by omega)) (decide_eq_false (by omega)) (decide_eq_true (by omega)) (decide_eq_true (by omega)) (by rw [beq_eq_false_iff_ne]; omega) (by rw [beq_eq_false_iff_ne]; omega) t1
 | true =>
  obtain ⟨g1, g2, g3⟩ := tail_iff t1
  cases t2 : tailB s (i + 2) 128 191 with
  | false =>
   have g := tail_not t2
   generalize (s.get! (i + 1)).toNat = b1 at *
   generalize (s.get! (i + 2)).toNat = b2 at *
   generalize (s.get! (i + 3)).toNat = b3 at *
   have D : Lib.decodeN (s.size - i) b0 b1 b2 b3 = (65533, 1) := by
    unfold Lib.decodeN
    rw [if_neg (by omega), if_neg (by omega), if_neg (by omega), if_neg (by omega)]
   rw [D]
   exact rune_4mc s i b0 w hs hi e0 k0 (decide_eq_false (by omega)) (decide_eq_true (by omega)) (decide_eq_false (by omega)) (decide_eq_true (by omega)) (decide_eq_false (by omega)) (decide_eq_true (by omega)) (decide_eq_true (by omega)) (by rw [beq_eq_false_iff_ne]; omega) (by rw [beq_eq_false_iff_ne]; omega) t1 t2
  | true =>
   obtain ⟨g4, g5, g6⟩ := tail_iff t2
   cases t3 : tailB s (i + 3) 128 191 with
   | false =>
    have g := tail_not t3
    generalize (s.get! (i + 1)).toNat = b1 at *
    generalize (s.get! (i + 2)).toNat = b2 at *
    generalize (s.get! (i + 3)).toNat = b3 at *
    have D : Lib.decodeN (s.size - i) b0 b1 b2 b3 = (65533, 1) := by
     unfold Lib.decodeN
     rw [if_neg (by omega), if_neg (by omega), if_neg (by omega), if_neg (by omega)]
    rw [D]
    exact rune_4oc s i b0 w hs hi e0 k0 (decide_eq_false (by omega)) (decide_eq_true (by omega)) (decide_eq_false (by omega)) (decide_eq_true (by omega)) (decide_eq_false (by omega)) (decide_eq_true (by omega)) (decide_eq_true (by omega)) (by rw [beq_eq_false_iff_ne]; omega) (by rw [beq_eq_false_iff_ne]; omega) t1 t2 t3
   | true =>
    obtain ⟨g7, g8, g9⟩ := tail_iff t3
    obtain ⟨r1, e1, k1⟩ := E 1 g1
    obtain ⟨r2, e2, k2⟩ := E 2 g4
    obtain ⟨r3, e3, k3⟩ := E 3 g7
    generalize (s.get! (i + 1)).toNat = b1 at *
    generalize (s.get! (i + 2)).toNat = b2 at *
    generalize (s.get! (i + 3)).toNat = b3 at *
    have D : Lib.decodeN (s.size - i) b0 b1 b2 b3 = (b0 % 8 * 262144 + b1 % 64 * 4096 + b2 % 64 * 64 + b3 % 64, 4) := by
     unfold Lib.decodeN
     rw [if_neg (by omega), if_neg (by omega), if_neg (by omega), if_pos ⟨by omega, ⟨by omega, by omega⟩, ⟨by omega, by omega⟩, by omega, by omega⟩, if_pos (by omega)]
    rw [D]
    exact rune_4yc s i b0 b1 b2 b3 (b0 % 8) (b1 % 64) (b2 % 64) (b3 % 64) w hs hi e0 k0 (decide_eq_false (by omega)) (decide_eq_true (by omega)) (decide_eq_false (by omega)) (decide_eq_true (by omega)) (decide_eq_false (by omega)) (decide_eq_true (by omega)) (decide_eq_true (by omega)) r1 e1 k1 r2 e2 k2 r3 e3 k3 (by rw [beq_eq_false_iff_ne]; omega) (by rw [beq_eq_false_iff_ne]; omega) t1 t2 t3 (tmod_n b0 8) (by omega) (tmod_n b1 64) (by omega) (tmod_n b2 64) (by omega) (tmod_n b3 64) (by omega)
end Go.Proofs.YtpiiemneelkpkaaGreatDoor
