import Derived.Test.YtpiiemneelkpkaaGreatDoorGru
import Derived.Test.YtpiiemneelkpkaaGreatDoorGsh
import Derived.Lib.TrimUEq
namespace Go.Proofs.YtpiiemneelkpkaaGreatDoor
open Go.RowKit
set_option linter.unusedVariables false
theorem valid_iff {n : Int} : Lib.validRune n = true ↔ (0 ≤ n ∧ n < 55296) ∨ (57343 < n ∧ n ≤ 1114111) := by
 unfold Lib.validRune
 simp
theorem enc_valid {n : Int} (h : Lib.validRune n = true) : Utf8.valid n = true := by
 have := valid_iff.1 h
 unfold Utf8.valid
 simp
 omega
theorem ofNat_small (k : Nat) (h : k < 256) : (UInt8.ofNat k).toNat = k := by simp [UInt8.toNat_ofNat']; omega
theorem enc_bytes {n : Int} (h : Lib.validRune n = true) :
  (n < 128 ∧ (Utf8.encode n).data.toList = [UInt8.ofNat n.toNat]) ∨
  (128 ≤ n ∧ n < 2048 ∧ (Utf8.encode n).data.toList = [UInt8.ofNat (192 + n.toNat / 64), UInt8.ofNat (128 + n.toNat % 64)]) ∨
  (2048 ≤ n ∧ n < 65536 ∧ (Utf8.encode n).data.toList = [UInt8.ofNat (224 + n.toNat / 4096), UInt8.ofNat (128 + n.toNat / 64 % 64), UInt8.ofNat (128 + n.toNat % 64)]) ∨
  (65536 ≤ n ∧ n ≤ 1114111 ∧ (Utf8.encode n).data.toList = [UInt8.ofNat (240 + n.toNat / 262144), UInt8.ofNat (128 + n.toNat / 4096 % 64), UInt8.ofNat (128 + n.toNat / 64 % 64), UInt8.ofNat (128 + n.toNat % 64)]) := by
 have hv := valid_iff.1 h
 unfold Utf8.encode
 rw [enc_valid h]
 simp only [if_true]
 by_cases h1 : n < 128
 ·left
  rw [if_pos (by omega)]
  exact ⟨h1, rfl⟩
 ·right
  rw [if_neg (by omega)]
  by_cases h2 : n < 2048
  ·left
   rw [if_pos (by omega)]
   exact ⟨by omega, h2, rfl⟩
  ·right
   rw [if_neg (by omega)]
   by_cases h3 : n < 65536
   ·left
    rw [if_pos (by omega)]
    exact ⟨by omega, h3, rfl⟩
   ·right
    rw [if_neg (by omega)]
    exact ⟨by omega, by omega, rfl⟩
theorem decN1 (m b0 b1 b2 b3 : Nat) (h : b0 < 128) : Lib.decodeN m b0 b1 b2 b3 = (b0, 1) := by unfold Lib.decodeN; rw [if_pos h]
theorem char_ok (n : Int) (w : World) (h0 : 0 ≤ n) (h1 : n ≤ 1114111) (hv : Lib.validRune n = true) :
  Calls Tryz.prog 147 #[.int .i64 n] w fun e w' => e = .returned (.tuple #[.string (Utf8.encode n), .int .i64 0]) ∧ w = w' := by
 have H := Lib.hid (fun w => Tryz.utf8_ValidRune n w)
 rw [hv] at H
 clear hv
 go_enter Tryz.func147, Tryz.ntmps147
 go_wp2_with (fail)
 refine (H.out _).mono ?_
 rintro e w' ⟨rfl, rfl⟩
 go_wp2
 go_ret2
 exact ⟨rfl, rfl⟩
theorem char_far (n : Int) (w : World) (h : n < 0 ∨ 1114111 < n) :
  Calls Tryz.prog 147 #[.int .i64 n] w fun e w' => e = .returned (.tuple #[.string ⟨#[]⟩, .int .i64 1]) ∧ w = w' := by
 rcases h with h | h
 ·go_enter Tryz.func147, Tryz.ntmps147
  go_wp2_with (fail)
  go_ret2
  exact ⟨rfl, rfl⟩
 ·have h' : 0 ≤ n := by omega
  go_enter Tryz.func147, Tryz.ntmps147
  go_wp2_with (fail)
  go_ret2
  exact ⟨rfl, rfl⟩
theorem char_bad (n : Int) (w : World) (h0 : 0 ≤ n) (h1 : n ≤ 1114111) (hv : Lib.validRune n = false) :
  Calls Tryz.prog 147 #[.int .i64 n] w fun e w' => e = .returned (.tuple #[.string ⟨#[]⟩, .int .i64 1]) ∧ w = w' := by
 have H := Lib.hid (fun w => Tryz.utf8_ValidRune n w)
 rw [hv] at H
 clear hv
 go_enter Tryz.func147, Tryz.ntmps147
 go_wp2_with (fail)
 refine (H.out _).mono ?_
 rintro e w' ⟨rfl, rfl⟩
 go_wp2
 go_ret2
 exact ⟨rfl, rfl⟩
end Go.Proofs.YtpiiemneelkpkaaGreatDoor
namespace Go.Proofs.YtpiiemneelkpkaaGreatDoor
open Go.RowKit
set_option linter.unusedVariables false
def Has (what s : ByteArray) (k : Nat) : Bool := Lib.hasPrefix (s.data.toList.drop (Run.adv s k 0)) what.data.toList
theorem find_arg (what s : ByteArray) (f : Int) (w : World) (hs : s.size ≤ 140737488351232) (hf : f < 1 ∨ (Run.cnt s 0 : Int) + 1 < f) :
  Ret 137 #[.string what, .string s, .int .i64 f] w (.tuple #[.int .i64 0, .int .i64 1]) := by
 have hcl := Run.cnt_le_size s
 have HL := Lib.hid (fun w => len_any s w hs)
 by_cases h1 : f < 1
 ·clear hf
  go_enter Tryz.func137, Tryz.ntmps137
  go_wp2_with (fail)
  go_ret2
  exact ⟨rfl, Below.refl _ _⟩
 ·have h2 : (Run.cnt s 0 : Int) + 1 < f := by omega
  have h3 : 1 ≤ f := by omega
  generalize Run.cnt s 0 = c at *
  clear hf h1
  go_enter Tryz.func137, Tryz.ntmps137
  go_wp2_with (fail)
  refine (HL.out _).mono ?_
  rintro e w1 ⟨rfl, hb1⟩
  go_wp2_with (fail)
  go_ret2
  exact ⟨rfl, hb1⟩
set_option maxHeartbeats 1000000 in
theorem find_walk (what s : ByteArray) (f : Nat) (a b : Int) (w : World) (hs : s.size ≤ 140737488351232) (hf1 : 1 ≤ f) (hf2 : f ≤ Run.cnt s 0 + 1)
  (hfound : ∀ k, k < Run.cnt s 0 → f ≤ k + 1 → Has what s k = true → (∀ j, j < k → f ≤ j + 1 → Has what s j = false) → a = (k : Int) + 1 ∧ b = 0)
  (hnone : (∀ j, j < Run.cnt s 0 → f ≤ j + 1 → Has what s j = false) → (what.toList.isEmpty = true ∧ a = (Run.cnt s 0 : Int) + 1 ∧ b = 0) ∨ (what.toList.isEmpty = false ∧ ¬ what.toList = [] ∧ a = 0 ∧ b = 3)) :
  Ret 137 #[.string what, .string s, .int .i64 (f : Int)] w (.tuple #[.int .i64 a, .int .i64 b]) := by
 have hcl := Run.cnt_le_size s
 have HL := Lib.hid (fun w => len_any s w hs)
 have HF := Lib.hid hfound
 have HN := Lib.hid hnone
 clear hfound hnone
 obtain ⟨c, hc⟩ : ∃ c, Run.cnt s 0 = c := ⟨_, rfl⟩
 have HC := Lib.hid hc
 rw [hc] at hcl hf2 HL HF HN
 clear hc
 go_enter Tryz.func137, Tryz.ntmps137
 go_wp2_with (fail)
 refine (HL.out _).mono ?_
 rintro e w1 ⟨rfl, hb1⟩
 go_wp2
 go_loopw [8] (fun p wr => ∃ (pos k : Nat), p = .int .i64 (k : Int) ∧ pos ≤ s.size ∧ Hid (pos = Run.adv s k 0) ∧ k ≤ c ∧ Hid (k + Run.cnt s pos = c) ∧ Hid (∀ j, j < k → f ≤ j + 1 → Has what s j = false) ∧ wr.heap[w1.heap.size]? = some (.stringIter s pos) ∧ Below w.heap.size w wr) (fun _ wr => s.size - wr.iterPos w1.heap.size)
 case atStart =>
  exact ⟨0, 0, rfl, by omega, Lib.hid rfl, by omega, Lib.hid (by rw [HC.out]; omega), Lib.hid (fun j h => absurd h (by omega)), by simpa using World.iter_heap w1 s 0, hb1.trans (((Below.refl _ w1).alloc (Nat.le_refl _) _).mono hb1.size)⟩
 case round =>
  obtain ⟨pos, k, rfl, hpos, HP, hk, HK, HJ, hit, hbw⟩ := hrel
  have hsz : w1.heap.size < wr.heap.size := (Array.getElem?_eq_some_iff.1 hit).1
  have hsz1 := hb1.size
  by_cases hp : pos < s.size
  ·have hnx : ∀ ty, (Instr.next (.pointer (some ⟨w1.heap.size, 0, none⟩)) true ty).run Tryz.prog wr = _ := fun ty => Lib.run_next_any_at wr w1.heap.size s pos ty hit hp
   have hwd := Run.wd_pos s pos
   have hwl := Run.wd_le s pos hp
   have hd1 := decode_le s pos
   have hit2 := Lib.iterAt_heap wr w1.heap.size s pos (pos + (Utf8.decode s pos).2) hit
   have hbw2 := Lib.below_iterAt hbw (k := w1.heap.size) hsz1 s (pos + (Utf8.decode s pos).2)
   rw [← Run.wd_eq] at hit2 hbw2 hnx
   have hkc : k + 1 ≤ c := by have := HK.out; rw [Run.cnt_step s pos hp] at this; omega
   have HK2 : Hid (k + 1 + Run.cnt s (pos + Run.wd s pos) = c) := by have := HK.out; rw [Run.cnt_step s pos hp] at this; exact Lib.hid (by omega)
   have HP2 : Hid (pos + Run.wd s pos = Run.adv s (k + 1) 0) := by
    have := HP.out
    have h2 := Run.adv_next s k 0 (by omega)
    rw [← this] at h2
    exact Lib.hid h2.symm
   have HS := Lib.hid (fun w => Tryz.strings_HasPrefix (s.extract pos s.size) what w)
   have HHas : Hid (Lib.hasPrefix (s.extract pos s.size).data.toList what.data.toList = Has what s k) := by
    unfold Has
    rw [← HP.out, Lib.extract_to_end]
    exact Lib.hid rfl
   generalize Run.wd s pos = d at *
   generalize wr.iterAt w1.heap.size s (pos + d) = W1 at *
   generalize (Utf8.decode s pos).1 = r at *
   clear HK HP
   by_cases hfk : f ≤ k + 1
   ·by_cases hh : Has what s k = true
    ·rw [HHas.out, hh] at HS
     have HE := Lib.hid (HF.out k (by omega) hfk hh HJ.out)
     clear HHas hh
     go_wp2_with (fail)
     refine (HS.out _).mono ?_
     rintro e w' ⟨rfl, rfl⟩
     go_wp2
     go_ret2
     rw [HE.out.1, HE.out.2]
     exact ⟨rfl, hbw2⟩
    ·have hh' : Has what s k = false := by simpa using hh
     rw [HHas.out, hh'] at HS
     have HJ2 : Hid (∀ j, j < k + 1 → f ≤ j + 1 → Has what s j = false) := by
      refine Lib.hid (fun j hj hfj => ?_)
      by_cases e : j = k
      ·rw [e]; exact hh'
      ·exact HJ.out j (by omega) hfj
     clear HHas hh hh' HJ
     go_wp2_with (fail)
     refine (HS.out _).mono ?_
     rintro e w' ⟨rfl, rfl⟩
     go_wp2
     go_roundw
     case rel => exact ⟨pos + d, k + 1, by go_num, hwl, HP2, hkc, HK2, HJ2, hit2, hbw2⟩
     case measure =>
      simp only [World.iterPos, hit2, hit]
      omega
   ·have HJ2 : Hid (∀ j, j < k + 1 → f ≤ j + 1 → Has what s j = false) := Lib.hid (fun j hj hfj => absurd hfj (by omega))
    have t1 : decide ((f : Int) ≤ (k : Int) + 1) = false := by simp; omega
    clear HHas HJ
    go_wp2
    go_roundw
    case rel => exact ⟨pos + d, k + 1, by go_num, hwl, HP2, hkc, HK2, HJ2, hit2, hbw2⟩
    case measure =>
     simp only [World.iterPos, hit2, hit]
     omega
  ·have hnx : ∀ ty, (Instr.next (.pointer (some ⟨w1.heap.size, 0, none⟩)) true ty).run Tryz.prog wr = _ := fun ty => Lib.run_next_end_at wr w1.heap.size s pos ty hit hp
   obtain rfl : k = c := by have := HK.out; rw [Run.cnt_end s pos hp] at this; omega
   have HE := HN.out HJ.out
   clear HK HJ HP
   rcases HE with ⟨t1, ha, hb⟩ | ⟨t1, t2, ha, hb⟩
   ·have t2 : what.toList = [] := by simpa using t1
    have HE := Lib.hid (And.intro ha hb)
    clear ha hb
    go_wp2
    go_ret2
    rw [HE.out.1, HE.out.2]
    exact ⟨rfl, hbw⟩
   ·have HE := Lib.hid (And.intro ha hb)
    clear ha hb
    go_wp2
    go_ret2
    rw [HE.out.1, HE.out.2]
    exact ⟨rfl, hbw⟩
end Go.Proofs.YtpiiemneelkpkaaGreatDoor
