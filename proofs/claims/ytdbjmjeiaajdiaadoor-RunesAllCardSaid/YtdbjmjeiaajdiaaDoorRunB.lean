/- Contracts of runes.Left, Right, Mid, Code: at every text of at most 2^47 bytes, at numbers that may be. Of what was there nothing turns. -/
import Derived.Test.YtdbjmjeiaajdiaaDoorRunA
namespace Go.Proofs.YtdbjmjeiaajdiaaDoor
open Go.RowKit
set_option linter.unusedVariables false

set_option maxHeartbeats 400000 in
theorem left_any (s : ByteArray) (n q : Nat) (w : World) (hs : s.size ≤ 140737488351232) (hn : n ≤ 9223372036854775807) (hq : Run.adv s n 0 = q) :
    Calls Tryd.prog 33 #[.string s, .int .i64 (n : Int)] w fun e w' => e = .returned (.tuple #[.string (s.extract 0 q), .int .i64 0]) ∧ Below w.heap.size w w' := by
  have hql : q ≤ s.size := by rw [← hq]; exact Run.adv_le s n 0 (by omega)
  have HB := Lib.hid (fun w => byteAt_any s n q w hs hn hq)
  clear hq
  go_enter Tryd.func33, Tryd.ntmps33
  go_wp2_with (fail)
  refine (HB.out _).mono ?_
  rintro e w1 ⟨rfl, hb⟩
  go_wp2
  go_ret2
  exact ⟨rfl, hb⟩
set_option maxHeartbeats 400000 in
theorem right_any (s : ByteArray) (n p : Nat) (w : World) (hs : s.size ≤ 140737488351232) (hn : n ≤ 9223372036854775807) (hp : Run.adv s (Run.cnt s 0 - n) 0 = p) :
    Calls Tryd.prog 73 #[.string s, .int .i64 (n : Int)] w fun e w' => e = .returned (.tuple #[.string (s.extract p s.size), .int .i64 0]) ∧ Below w.heap.size w w' := by
  have hpl : p ≤ s.size := by rw [← hp]; exact Run.adv_le s _ 0 (by omega)
  have hcl := Run.cnt_le_size s
  have HL := Lib.hid (fun w => len_any s w hs)
  have HB := Lib.hid (fun w => byteAt_any s _ p w hs (by omega) hp)
  generalize Run.cnt s 0 = c at *
  clear hp
  by_cases h : n ≤ c
  · obtain ⟨m, hm⟩ : ∃ m, c - n = m := ⟨_, rfl⟩
    rw [hm] at HB
    have e1 : (c : Int) - (n : Int) = (m : Int) := by omega
    have e2 : ¬ (m : Int) < 0 := by omega
    have hm1 : m ≤ 140737488351232 := by omega
    clear hm h
    go_enter Tryd.func73, Tryd.ntmps73
    go_wp2_with (fail)
    refine (HL.out _).mono ?_
    rintro e w1 ⟨rfl, hb1⟩
    go_wp2_with (fail)
    refine (HB.out _).mono ?_
    rintro e w2 ⟨rfl, hb2⟩
    go_wp2
    go_ret2
    exact ⟨rfl, hb1.trans (hb2.mono hb1.size)⟩
  · rw [show c - n = 0 by omega] at HB
    have e1 : (c : Int) - (n : Int) < 0 := by omega
    clear h
    go_enter Tryd.func73, Tryd.ntmps73
    go_wp2_with (fail)
    refine (HL.out _).mono ?_
    rintro e w1 ⟨rfl, hb1⟩
    go_wp2_with (fail)
    refine (HB.out _).mono ?_
    rintro e w2 ⟨rfl, hb2⟩
    go_wp2
    go_ret2
    exact ⟨rfl, hb1.trans (hb2.mono hb1.size)⟩
set_option maxHeartbeats 400000 in
theorem mid_any (s t : ByteArray) (m n p q : Nat) (w : World) (hs : s.size ≤ 140737488351232) (hm : m ≤ 9223372036854775806) (hn : n ≤ 9223372036854775807) (hp : Run.adv s m 0 = p) (ht : s.extract p s.size = t) (hq : Run.adv t n 0 = q) :
    Calls Tryd.prog 74 #[.string s, .int .i64 ((m : Int) + 1), .int .i64 (n : Int)] w fun e w' => e = .returned (.tuple #[.string (t.extract 0 q), .int .i64 0]) ∧ Below w.heap.size w w' := by
  have hpl : p ≤ s.size := by rw [← hp]; exact Run.adv_le s m 0 (by omega)
  have hts : t.size ≤ 140737488351232 := by rw [← ht, Run.tail_size]; omega
  have hql : q ≤ t.size := by rw [← hq]; exact Run.adv_le t n 0 (by omega)
  have H1 := Lib.hid (fun w => byteAt_any s m p w hs (by omega) hp)
  have H2 := Lib.hid (fun w => byteAt_any t n q w hts hn hq)
  clear hp hq
  go_enter Tryd.func74, Tryd.ntmps74
  go_wp2_with (fail)
  have e1 : (m : Int) + 1 - 1 = (m : Int) := by omega
  try rw [e1]
  refine (H1.out _).mono ?_
  rintro e w1 ⟨rfl, hb1⟩
  go_wp2_with (fail)
  refine (H2.out _).mono ?_
  rintro e w2 ⟨rfl, hb2⟩
  go_wp2
  go_ret2
  exact ⟨rfl, hb1.trans (hb2.mono hb1.size)⟩

set_option maxHeartbeats 400000 in
theorem code_any (s : ByteArray) (r : Nat) (w : World) (hs : s.size ≤ 140737488351232) (hz : 0 < s.size) (hr : (Utf8.decode s 0).1 = r) :
    Calls Tryd.prog 35 #[.string s] w fun e w' => e = .returned (.tuple #[.int .i64 (r : Int), .int .i64 0]) ∧ Below w.heap.size w w' := by
  have hrl := decode_le s 0
  rw [hr] at hrl
  go_enter Tryd.func35, Tryd.ntmps35
  go_wp2
  have hit : (w.iter s 0).heap[w.heap.size]? = some (.stringIter s 0) := by simpa using World.iter_heap w s 0
  have hnx : ∀ ty, (Instr.next (.pointer (some ⟨w.heap.size, 0, none⟩)) true ty).run Tryd.prog (w.iter s 0) = _ := fun ty => Lib.run_next_any_at (w.iter s 0) w.heap.size s 0 ty hit hz
  have hb : Below w.heap.size w (w.iter s 0) := (Below.refl _ w).alloc (Nat.le_refl _) _
  have hb2 := Lib.below_iterAt hb (k := w.heap.size) (Nat.le_refl _) s (0 + (Utf8.decode s 0).2)
  rw [hr] at hnx
  generalize w.iter s 0 = W0 at *
  generalize W0.iterAt w.heap.size s (0 + (Utf8.decode s 0).2) = W1 at *
  refine wp_loop_rounds 1 ?_
  rw [rounds_succ]
  go_wp2
  go_ret2
  exact ⟨rfl, hb2⟩
end Go.Proofs.YtdbjmjeiaajdiaaDoor
