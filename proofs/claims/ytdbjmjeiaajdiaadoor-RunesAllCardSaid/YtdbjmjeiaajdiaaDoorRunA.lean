/- Contracts of runes.Len, byteAt, Left, Right, Mid, Code: at every text of at most 2^47 bytes. Of what was there nothing turns. -/
import Derived.Test.YtdbjmjeiaajdiaaDoorProg
import Derived.Test.YtdbjmjeiaajdiaaDoorRun
import Derived.WalkKit
import Derived.WalkSpells
import Derived.WalkLawsBesides
import Derived.WalkSmall
import Derived.Lib.Hide
import Derived.Lib.OthersKept
import Derived.Laws.RangeAny
namespace Go.Proofs.YtdbjmjeiaajdiaaDoor
open Go.RowKit
set_option linter.unusedVariables false

set_option maxHeartbeats 400000 in
theorem len_any (s : ByteArray) (w : World) (hs : s.size ≤ 140737488351232) :
    Calls Tryd.prog 38 #[.string s] w fun e w' => e = .returned (.int .i64 (Run.cnt s 0 : Int)) ∧ Below w.heap.size w w' := by
  have hcl := Run.cnt_le_size s
  go_enter Tryd.func38, Tryd.ntmps38
  go_wp2
  go_loopw [3] (fun n wr => ∃ (pos k : Nat), n = .int .i64 (k : Int) ∧ pos ≤ s.size ∧ Hid (k + Run.cnt s pos = Run.cnt s 0) ∧ k ≤ 140737488351232 ∧ wr.heap[w.heap.size]? = some (.stringIter s pos) ∧ Below w.heap.size w wr) (fun _ wr => s.size - wr.iterPos w.heap.size)
  case atStart =>
    exact ⟨0, 0, rfl, by omega, Lib.hid (by omega), by omega, by simpa using World.iter_heap w s 0, (Below.refl _ w).alloc (Nat.le_refl _) _⟩
  case round =>
    obtain ⟨pos, k, rfl, hpos, HK, hk, hit, hbw⟩ := hrel
    have hsz : w.heap.size < wr.heap.size := (Array.getElem?_eq_some_iff.1 hit).1
    by_cases hp : pos < s.size
    · have hnx : ∀ ty, (Instr.next (.pointer (some ⟨w.heap.size, 0, none⟩)) true ty).run Tryd.prog wr = _ := fun ty => Lib.run_next_any_at wr w.heap.size s pos ty hit hp
      have hwd := Run.wd_pos s pos
      have hwl := Run.wd_le s pos hp
      have hd1 := decode_le s pos
      have hit2 := Lib.iterAt_heap wr w.heap.size s pos (pos + (Utf8.decode s pos).2) hit
      have hbw2 := Lib.below_iterAt hbw (k := w.heap.size) (Nat.le_refl _) s (pos + (Utf8.decode s pos).2)
      have HK2 : Hid (k + 1 + Run.cnt s (pos + Run.wd s pos) = Run.cnt s 0) := by have := HK.out; rw [Run.cnt_step s pos hp] at this; exact Lib.hid (by omega)
      have hk2 : k + 1 ≤ 140737488351232 := by have := HK2.out; omega
      rw [← Run.wd_eq] at hit2 hbw2 hnx
      generalize Run.wd s pos = d at *
      generalize wr.iterAt w.heap.size s (pos + d) = W1 at *
      generalize (Utf8.decode s pos).1 = r at *
      clear HK
      go_wp2
      go_roundw
      case rel => exact ⟨pos + d, k + 1, by go_num, hwl, HK2, hk2, hit2, hbw2⟩
      case measure =>
        simp only [World.iterPos, hit2, hit]
        omega
    · have hnx : ∀ ty, (Instr.next (.pointer (some ⟨w.heap.size, 0, none⟩)) true ty).run Tryd.prog wr = _ := fun ty => Lib.run_next_end_at wr w.heap.size s pos ty hit hp
      have HE : Hid (k = Run.cnt s 0) := by have := HK.out; rw [Run.cnt_end s pos hp] at this; exact Lib.hid (by omega)
      clear HK
      go_wp2
      go_ret
      exact ⟨by rw [← HE.out]; rfl, hbw⟩

set_option maxHeartbeats 400000 in
theorem byteAt_any (s : ByteArray) (n q : Nat) (w : World) (hs : s.size ≤ 140737488351232) (hn : n ≤ 9223372036854775807) (hq : Run.adv s n 0 = q) :
    Calls Tryd.prog 65 #[.string s, .int .i64 (n : Int)] w fun e w' => e = .returned (.int .i64 (q : Int)) ∧ Below w.heap.size w w' := by
  have HQ := Lib.hid hq
  clear hq
  go_enter Tryd.func65, Tryd.ntmps65
  go_wp2
  go_loopw [1] (fun v wr => ∃ (pos k : Nat), v = .int .i64 (k : Int) ∧ pos ≤ s.size ∧ Hid (Run.adv s k pos = q) ∧ k ≤ 9223372036854775807 ∧ wr.heap[w.heap.size]? = some (.stringIter s pos) ∧ Below w.heap.size w wr) (fun _ wr => s.size - wr.iterPos w.heap.size)
  case atStart =>
    exact ⟨0, n, rfl, by omega, HQ, by omega, by simpa using World.iter_heap w s 0, (Below.refl _ w).alloc (Nat.le_refl _) _⟩
  case round =>
    obtain ⟨pos, k, rfl, hpos, HK, hk, hit, hbw⟩ := hrel
    have hsz : w.heap.size < wr.heap.size := (Array.getElem?_eq_some_iff.1 hit).1
    by_cases hp : pos < s.size
    · have hnx : ∀ ty, (Instr.next (.pointer (some ⟨w.heap.size, 0, none⟩)) true ty).run Tryd.prog wr = _ := fun ty => Lib.run_next_any_at wr w.heap.size s pos ty hit hp
      have hwd := Run.wd_pos s pos
      have hwl := Run.wd_le s pos hp
      have hd1 := decode_le s pos
      have hit2 := Lib.iterAt_heap wr w.heap.size s pos (pos + (Utf8.decode s pos).2) hit
      have hbw2 := Lib.below_iterAt hbw (k := w.heap.size) (Nat.le_refl _) s (pos + (Utf8.decode s pos).2)
      rw [← Run.wd_eq] at hit2 hbw2 hnx
      by_cases hk0 : k = 0
      · subst hk0
        have HE : Hid (pos = q) := HK
        generalize Run.wd s pos = d at *
        generalize wr.iterAt w.heap.size s (pos + d) = W1 at *
        generalize (Utf8.decode s pos).1 = r at *
        clear HK
        go_wp2
        go_ret
        exact ⟨by rw [← HE.out]; rfl, hbw2⟩
      · obtain ⟨j, rfl⟩ : ∃ j, k = j + 1 := ⟨k - 1, by omega⟩
        have HK2 : Hid (Run.adv s j (pos + Run.wd s pos) = q) := by have := HK.out; rw [Run.adv_succ s j pos hp] at this; exact this
        generalize Run.wd s pos = d at *
        generalize wr.iterAt w.heap.size s (pos + d) = W1 at *
        generalize (Utf8.decode s pos).1 = r at *
        clear HK hk0
        have t0 : (((j + 1 : Nat) : Int) == 0) = false := by rw [beq_eq_false_iff_ne]; omega
        go_wp2
        go_roundw
        case rel => exact ⟨pos + d, j, by first | rfl | go_num, hwl, HK2, by omega, hit2, hbw2⟩
        case measure =>
          simp only [World.iterPos, hit2, hit]
          omega
    · have hnx : ∀ ty, (Instr.next (.pointer (some ⟨w.heap.size, 0, none⟩)) true ty).run Tryd.prog wr = _ := fun ty => Lib.run_next_end_at wr w.heap.size s pos ty hit hp
      have HE : Hid (s.size = q) := by have := HK.out; rw [Run.adv_end s k pos hp] at this; exact Lib.hid (by omega)
      clear HK
      go_wp2
      go_ret
      exact ⟨by rw [← HE.out]; rfl, hbw⟩
end Go.Proofs.YtdbjmjeiaajdiaaDoor
