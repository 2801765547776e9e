import Derived.Test.YtpiiemneelkpkaaGreatDoorGpl
import Derived.WalkSpells
import Derived.WalkLawsBesides
import Derived.WalkSmall
import Derived.Lib.Hide
import Derived.Lib.OthersKept
import Derived.Laws.RangeAny
import Derived.Test.YtpiiemneelkpkaaGreatDoorBox
namespace Go.Proofs.YtpiiemneelkpkaaGreatDoor
open Go.RowKit
set_option linter.unusedVariables false
set_option maxHeartbeats 400000 in
theorem len_any (s : ByteArray) (w : World) (hs : s.size ≤ 140737488351232) :
  Ret 123 #[.string s] w (.int .i64 (Run.cnt s 0 : Int)) := by
 have hcl := Run.cnt_le_size s
 go_enter Tryz.func123, Tryz.ntmps123
 go_wp2
 go_loopw [3] (fun n wr => ∃ (pos k : Nat), n = .int .i64 (k : Int) ∧ pos ≤ s.size ∧ Hid (k + Run.cnt s pos = Run.cnt s 0) ∧ k ≤ 140737488351232 ∧ wr.heap[w.heap.size]? = some (.stringIter s pos) ∧ Below w.heap.size w wr) (fun _ wr => s.size - wr.iterPos w.heap.size)
 case atStart =>
  exact ⟨0, 0, rfl, by omega, Lib.hid (by omega), by omega, by simpa using World.iter_heap w s 0, (Below.refl _ w).alloc (Nat.le_refl _) _⟩
 case round =>
  obtain ⟨pos, k, rfl, hpos, HK, hk, hit, hbw⟩ := hrel
  have hsz : w.heap.size < wr.heap.size := (Array.getElem?_eq_some_iff.1 hit).1
  by_cases hp : pos < s.size
  ·have hnx : ∀ ty, (Instr.next (.pointer (some ⟨w.heap.size, 0, none⟩)) true ty).run Tryz.prog wr = _ := fun ty => Lib.run_next_any_at wr w.heap.size s pos ty hit hp
   have hwd := Run.wd_pos s pos
   have hwl := Run.wd_le s pos hp
   have hd1 := decode_le s pos
   have hit2 := Lib.iterAt_heap wr w.heap.size s pos (pos + (Utf8.decode s pos).2) hit
   have hbw2 := Lib.below_iterAt hbw (k := w.heap.size) (Nat.le_refl _) s (pos + (Utf8.decode s pos).2)
   have HK2 : Hid (k + 1 + Run.cnt s (pos + Run.wd s pos) = Run.cnt s 0) := by have := HK.out; rw [Run.cnt_step s pos hp] at this; exact Lib.hid (by omega)
   have hk2 : k + 1 ≤ 140737488351232 := by have := HK2.out; omega
   rw [← Run.wd_eq] at hit2 hbw2 hnx
   generalize Run.wd s pos = d at *
   generalize wr.iterAt w.heap.size s (pos + d) = W1 at *
   generalize (Utf8.decode s pos).1 = r at *
   clear HK
   go_wp2
   go_roundw
   case rel => exact ⟨pos + d, k + 1, by go_num, hwl, HK2, hk2, hit2, hbw2⟩
   case measure =>
    simp only [World.iterPos, hit2, hit]
    omega
  ·have hnx : ∀ ty, (Instr.next (.pointer (some ⟨w.heap.size, 0, none⟩)) true ty).run Tryz.prog wr = _ := fun ty => Lib.run_next_end_at wr w.heap.size s pos ty hit hp
   have HE : Hid (k = Run.cnt s 0) := by have := HK.out; rw [Run.cnt_end s pos hp] at this; exact Lib.hid (by omega)
   clear HK
   go_wp2
   go_ret
   exact ⟨by rw [← HE.out]; rfl, hbw⟩
set_option maxHeartbeats 400000 in
theorem byteAt_any (s : ByteArray) (n q : Nat) (w : World) (hs : s.size ≤ 140737488351232) (hn : n ≤ 9223372036854775807) (hq : Run.adv s n 0 = q) :
  Ret 176 #[.string s, .int .i64 (n : Int)] w (.int .i64 (q : Int)) := by
 have HQ := Lib.hid hq
 clear hq
 go_enter Tryz.func176, Tryz.ntmps176
 go_wp2
 go_loopw [1] (fun v wr => ∃ (pos k : Nat), v = .int .i64 (k : Int) ∧ pos ≤ s.size ∧ Hid (Run.adv s k pos = q) ∧ k ≤ 9223372036854775807 ∧ wr.heap[w.heap.size]? = some (.stringIter s pos) ∧ Below w.heap.size w wr) (fun _ wr => s.size - wr.iterPos w.heap.size)
 case atStart =>
  exact ⟨0, n, rfl, by omega, HQ, by omega, by simpa using World.iter_heap w s 0, (Below.refl _ w).alloc (Nat.le_refl _) _⟩
 case round =>
  obtain ⟨pos, k, rfl, hpos, HK, hk, hit, hbw⟩ := hrel
  have hsz : w.heap.size < wr.heap.size := (Array.getElem?_eq_some_iff.1 hit).1
  by_cases hp : pos < s.size
  ·have hnx : ∀ ty, (Instr.next (.pointer (some ⟨w.heap.size, 0, none⟩)) true ty).run Tryz.prog wr = _ := fun ty => Lib.run_next_any_at wr w.heap.size s pos ty hit hp
   have hwd := Run.wd_pos s pos
   have hwl := Run.wd_le s pos hp
   have hd1 := decode_le s pos
   have hit2 := Lib.iterAt_heap wr w.heap.size s pos (pos + (Utf8.decode s pos).2) hit
   have hbw2 := Lib.below_iterAt hbw (k := w.heap.size) (Nat.le_refl _) s (pos + (Utf8.decode s pos).2)
   rw [← Run.wd_eq] at hit2 hbw2 hnx
   by_cases hk0 : k = 0
   ·subst hk0
    have HE : Hid (pos = q) := HK
    generalize Run.wd s pos = d at *
    generalize wr.iterAt w.heap.size s (pos + d) = W1 at *
    generalize (Utf8.decode s pos).1 = r at *
    clear HK
    go_wp2
    go_ret
    exact ⟨by rw [← HE.out]; rfl, hbw2⟩
   ·obtain ⟨j, rfl⟩ : ∃ j, k = j + 1 := ⟨k - 1, by omega⟩
    have HK2 : Hid (Run.adv s j (pos + Run.wd s pos) = q) := by have := HK.out; rw [Run.adv_succ s j pos hp] at this; exact this
    generalize Run.wd s pos = d at *
    generalize wr.iterAt w.heap.size s (pos + d) = W1 at *
    generalize (Utf8.decode s pos).1 = r at *
    clear HK hk0
    have t0 : (((j + 1 : Nat) : Int) == 0) = false := by rw [beq_eq_false_iff_ne]; omega
    go_wp2
    go_roundw
    case rel => exact ⟨pos + d, j, by first | rfl | go_num, hwl, HK2, by omega, hit2, hbw2⟩
    case measure =>
     simp only [World.iterPos, hit2, hit]
     omega
  ·have hnx : ∀ ty, (Instr.next (.pointer (some ⟨w.heap.size, 0, none⟩)) true ty).run Tryz.prog wr = _ := fun ty => Lib.run_next_end_at wr w.heap.size s pos ty hit hp
   have HE : Hid (s.size = q) := by have := HK.out; rw [Run.adv_end s k pos hp] at this; exact Lib.hid (by omega)
   clear HK
   go_wp2
   go_ret
   exact ⟨by rw [← HE.out]; rfl, hbw⟩
end Go.Proofs.YtpiiemneelkpkaaGreatDoor
namespace Go.Proofs.YtpiiemneelkpkaaGreatDoor
open Go.RowKit
set_option linter.unusedVariables false
set_option maxHeartbeats 400000 in
theorem left_any (s : ByteArray) (n q : Nat) (w : World) (hs : s.size ≤ 140737488351232) (hn : n ≤ 9223372036854775807) (hq : Run.adv s n 0 = q) :
  Ret 125 #[.string s, .int .i64 (n : Int)] w (.tuple #[.string (s.extract 0 q), .int .i64 0]) := by
 have hql : q ≤ s.size := by rw [← hq]; exact Run.adv_le s n 0 (by omega)
 have HB := Lib.hid (fun w => byteAt_any s n q w hs hn hq)
 clear hq
 go_enter Tryz.func125, Tryz.ntmps125
 go_wp2_with (fail)
 refine (HB.out _).mono ?_
 rintro e w1 ⟨rfl, hb⟩
 go_wp2
 go_ret2
 exact ⟨rfl, hb⟩
set_option maxHeartbeats 400000 in
theorem right_any (s : ByteArray) (n p : Nat) (w : World) (hs : s.size ≤ 140737488351232) (hn : n ≤ 9223372036854775807) (hp : Run.adv s (Run.cnt s 0 - n) 0 = p) :
  Ret 128 #[.string s, .int .i64 (n : Int)] w (.tuple #[.string (s.extract p s.size), .int .i64 0]) := by
 have hpl : p ≤ s.size := by rw [← hp]; exact Run.adv_le s _ 0 (by omega)
 have hcl := Run.cnt_le_size s
 have HL := Lib.hid (fun w => len_any s w hs)
 have HB := Lib.hid (fun w => byteAt_any s _ p w hs (by omega) hp)
 generalize Run.cnt s 0 = c at *
 clear hp
 by_cases h : n ≤ c
 ·obtain ⟨m, hm⟩ : ∃ m, c - n = m := ⟨_, rfl⟩
  rw [hm] at HB
  have e1 : (c : Int) - (n : Int) = (m : Int) := by omega
  have e2 : ¬ (m : Int) < 0 := by omega
  have hm1 : m ≤ 140737488351232 := by omega
  clear hm h
  go_enter Tryz.func128, Tryz.ntmps128
  go_wp2_with (fail)
  refine (HL.out _).mono ?_
  rintro e w1 ⟨rfl, hb1⟩
  go_wp2_with (fail)
  refine (HB.out _).mono ?_
  rintro e w2 ⟨rfl, hb2⟩
  go_wp2
  go_ret2
  exact ⟨rfl, hb1.trans (hb2.mono hb1.size)⟩
 ·rw [show c - n = 0 by omega] at HB
  have e1 : (c : Int) - (n : Int) < 0 := by omega
  clear h
  go_enter Tryz.func128, Tryz.ntmps128
  go_wp2_with (fail)
  refine (HL.out _).mono ?_
  rintro e w1 ⟨rfl, hb1⟩
  go_wp2_with (fail)
  refine (HB.out _).mono ?_
  rintro e w2 ⟨rfl, hb2⟩
  go_wp2
  go_ret2
  exact ⟨rfl, hb1.trans (hb2.mono hb1.size)⟩
set_option maxHeartbeats 400000 in
theorem mid_any (s t : ByteArray) (m n p q : Nat) (w : World) (hs : s.size ≤ 140737488351232) (hm : m ≤ 9223372036854775806) (hn : n ≤ 9223372036854775807) (hp : Run.adv s m 0 = p) (ht : s.extract p s.size = t) (hq : Run.adv t n 0 = q) :
  Ret 130 #[.string s, .int .i64 ((m : Int) + 1), .int .i64 (n : Int)] w (.tuple #[.string (t.extract 0 q), .int .i64 0]) := by
 have hpl : p ≤ s.size := by rw [← hp]; exact Run.adv_le s m 0 (by omega)
 have hts : t.size ≤ 140737488351232 := by rw [← ht, Run.tail_size]; omega
 have hql : q ≤ t.size := by rw [← hq]; exact Run.adv_le t n 0 (by omega)
 have H1 := Lib.hid (fun w => byteAt_any s m p w hs (by omega) hp)
 have H2 := Lib.hid (fun w => byteAt_any t n q w hts hn hq)
 clear hp hq
 go_enter Tryz.func130, Tryz.ntmps130
 go_wp2_with (fail)
 have e1 : (m : Int) + 1 - 1 = (m : Int) := by omega
 try rw [e1]
 refine (H1.out _).mono ?_
 rintro e w1 ⟨rfl, hb1⟩
 go_wp2_with (fail)
 refine (H2.out _).mono ?_
 rintro e w2 ⟨rfl, hb2⟩
 go_wp2
 go_ret2
 exact ⟨rfl, hb1.trans (hb2.mono hb1.size)⟩
set_option maxHeartbeats 400000 in
theorem code_any (s : ByteArray) (r : Nat) (w : World) (hs : s.size ≤ 140737488351232) (hz : 0 < s.size) (hr : (Utf8.decode s 0).1 = r) :
  Ret 145 #[.string s] w (.tuple #[.int .i64 (r : Int), .int .i64 0]) := by
 have hrl := decode_le s 0
 rw [hr] at hrl
 go_enter Tryz.func145, Tryz.ntmps145
 go_wp2
 have hit : (w.iter s 0).heap[w.heap.size]? = some (.stringIter s 0) := by simpa using World.iter_heap w s 0
 have hnx : ∀ ty, (Instr.next (.pointer (some ⟨w.heap.size, 0, none⟩)) true ty).run Tryz.prog (w.iter s 0) = _ := fun ty => Lib.run_next_any_at (w.iter s 0) w.heap.size s 0 ty hit hz
 have hb : Below w.heap.size w (w.iter s 0) := (Below.refl _ w).alloc (Nat.le_refl _) _
 have hb2 := Lib.below_iterAt hb (k := w.heap.size) (Nat.le_refl _) s (0 + (Utf8.decode s 0).2)
 rw [hr] at hnx
 generalize w.iter s 0 = W0 at *
 generalize W0.iterAt w.heap.size s (0 + (Utf8.decode s 0).2) = W1 at *
 refine wp_loop_rounds 1 ?_
 rw [rounds_succ]
 go_wp2
 go_ret2
 exact ⟨rfl, hb2⟩
end Go.Proofs.YtpiiemneelkpkaaGreatDoor
