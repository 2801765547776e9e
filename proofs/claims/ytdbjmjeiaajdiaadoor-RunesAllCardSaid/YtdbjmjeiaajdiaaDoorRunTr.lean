/- The contract of runes.Trim at every text of at most 2^47 bytes. -/
import Derived.Test.YtdbjmjeiaajdiaaDoorRunT
import Derived.Test.YtdbjmjeiaajdiaaDoorShTrim
import Derived.Test.YtdbjmjeiaajdiaaDoorShWb
namespace Go.Proofs.YtdbjmjeiaajdiaaDoor
open Go.RowKit
set_option linter.unusedVariables false
theorem upper_any (s : ByteArray) (w : World) (hs : s.size ≤ 140737488351232) : Calls Tryd.prog 75 #[.string s] w fun e w' => e = .returned (.string (eachS upB s)) ∧ Below w.heap.size w w' := by
  have H := Lib.hid (fun w => up_each s w hs)
  go_enter Tryd.func75, Tryd.ntmps75
  go_wp2_with (fail)
  refine (H.out _).mono ?_
  rintro e w1 ⟨rfl, hb⟩
  go_wp2
  go_ret
  exact ⟨rfl, hb⟩
theorem lower_any (s : ByteArray) (w : World) (hs : s.size ≤ 140737488351232) : Calls Tryd.prog 76 #[.string s] w fun e w' => e = .returned (.string (eachS lowB s)) ∧ Below w.heap.size w w' := by
  have H := Lib.hid (fun w => low_each s w hs)
  go_enter Tryd.func76, Tryd.ntmps76
  go_wp2_with (fail)
  refine (H.out _).mono ?_
  rintro e w1 ⟨rfl, hb⟩
  go_wp2
  go_ret
  exact ⟨rfl, hb⟩
/-- A text, trimmed. -/
def trimS (s : ByteArray) : ByteArray := ⟨(Tr.trimL s.data.toList).toArray⟩
theorem blank_of (c : UInt8) (h : (c.toNat : Int) = 32) : c = 32 := UInt8.toNat_inj.1 (by rw [show c.toNat = 32 by omega]; rfl)
theorem get_list (s : ByteArray) (k : Nat) (h : k < s.size) : s.data.toList[k]'(by simpa using h) = s[k] := rfl
set_option maxHeartbeats 1000000 in
theorem trim_any (s : ByteArray) (w : World) (hs : s.size ≤ 140737488351232) : Calls Tryd.prog 77 #[.string s] w fun e w' => e = .returned (.string (trimS s)) ∧ Below w.heap.size w w' := by
  have H1 := Lib.hid (fun w => Tryd.strings_Trim_one s 32 (by decide) w (by omega))
  have HE : Hid (∀ l, l = Tr.trimL s.data.toList → (⟨l.toArray⟩ : ByteArray) = trimS s) := Lib.hid (fun l h => by rw [h]; rfl)
  have hul : (Lib.trimB s.data.toList 32).length ≤ s.size := by have := Tr.trimB_length s.data.toList; rw [Lib.size_eq]; exact this
  have HF := Lib.hid (Tr.trimB_first s.data.toList)
  have HEnd := Lib.hid (Tr.sqk_end s.data.toList)
  obtain ⟨u, hu⟩ : ∃ u : ByteArray, u = ⟨(Lib.trimB s.data.toList 32).toArray⟩ := ⟨_, rfl⟩
  have hud : Lib.trimB s.data.toList 32 = u.data.toList := by rw [hu]
  rw [← hu] at H1
  rw [hud] at hul HF HEnd
  have hus : u.size ≤ 140737488351232 := by rw [Lib.size_eq]; omega
  have HUL : Hid (u.data.toList.length = u.size) := Lib.hid (Lib.size_eq u).symm
  clear hu hud hul
  go_enter Tryd.func77, Tryd.ntmps77
  go_wp2_with (fail)
  refine (H1.out _).mono ?_
  rintro e w1 ⟨rfl, hw1⟩
  have hb1 : Below w.heap.size w w1 := by
    rcases hw1 with rfl | rfl
    · exact Below.refl _ _
    · exact (Below.refl _ _).drew
  clear hw1
  go_wp2
  have hB0 := Lib.fresh_isBuilder 111 5 w1
  have hb2 : Below w.heap.size w (w1.alloc (.cells #[.pointer none, .slice none 0 0] 111)) := hb1.alloc hb1.size _
  have hz2 : w1.heap.size < (w1.alloc (.cells #[.pointer none, .slice none 0 0] 111)).heap.size := by simp
  generalize w1.alloc (.cells #[.pointer none, .slice none 0 0] 111) = W0 at *
  go_loopw [9] (fun i wr => ∃ k : Nat, k ≤ u.size ∧ i = .int .i64 (k : Int) ∧ Hid (Lib.IsBuilder 111 5 w1.heap.size w1.heap.size (Lib.byteCells (Tr.sqk u.data.toList k)) wr) ∧ Below w.heap.size w wr ∧ w1.heap.size ≤ wr.heap.size) (fun i _ => u.size - (intOf i).toNat)
  case atStart => exact ⟨0, Nat.zero_le _, rfl, Lib.hid hB0, hb2, by omega⟩
  case round =>
    obtain ⟨k, hk, rfl, HB, hb, hz⟩ := hrel
    by_cases hlt : k < u.size
    · by_cases hc : u[k] = 32
      · obtain ⟨m, rfl⟩ : ∃ m, k = m + 1 := by
          refine ⟨k - 1, ?_⟩
          rcases Nat.eq_zero_or_pos k with e | e
          · exfalso; subst e
            exact HF.out (by rw [HUL.out]; exact hlt) hc
          · omega
        by_cases hd : u[m] = 32
        · have HS : Hid (Tr.sqk u.data.toList (m + 1 + 1) = Tr.sqk u.data.toList (m + 1)) := Lib.hid (Tr.sqk_skip _ m (by rw [HUL.out]; omega) hd hc)
          have t1 : ((u[m + 1].toNat : Int) != 32) = false := by rw [hc]; rfl
          have t2 : ((u[m].toNat : Int) != 32) = false := by rw [hd]; rfl
          clear hc hd
          go_wp2
          go_roundw
          case rel => exact ⟨m + 1 + 1, by omega, by go_num, Lib.hid (by rw [HS.out]; exact HB.out), hb, hz⟩
          case measure => simp [intOf]; omega
        · have HS : Hid (Tr.sqk u.data.toList (m + 1 + 1) = Tr.sqk u.data.toList (m + 1) ++ [u.data.toList[m + 1]'(by rw [HUL.out]; omega)]) := Lib.hid (Tr.sqk_first _ m (by rw [HUL.out]; omega) hd)
          have t1 : ((u[m + 1].toNat : Int) != 32) = false := by rw [hc]; rfl
          have t2 : ((u[m].toNat : Int) != 32) = true := by rw [bne_iff_ne]; intro e; exact hd (blank_of _ e)
          clear hc hd
          have hlen := Tr.sqk_length u.data.toList (m + 1)
          have HW := Lib.hid (fun w hB hl hz => writeByte_any w1.heap.size w1.heap.size (Lib.byteCells (Tr.sqk u.data.toList (m + 1))) (u[m + 1].toNat : Int) w hB hl hz)
          have HL : Hid ((Lib.byteCells (Tr.sqk u.data.toList (m + 1))).length + 1 ≤ 140737488355328) := Lib.hid (by rw [Lib.byteCells_length]; omega)
          have HS2 : Hid (Lib.byteCells (Tr.sqk u.data.toList (m + 1)) ++ [.int .u8 (u[m + 1].toNat : Int)] = Lib.byteCells (Tr.sqk u.data.toList (m + 1 + 1))) := Lib.hid (by rw [HS.out]; simp [Lib.byteCells]; rfl)
          clear hlen
          go_wp2_with (fail)
          refine (HW.out _ HB.out HL.out hz).mono ?_
          rintro e w2 ⟨rfl, hB2, hb3⟩
          rw [HS2.out] at hB2
          have HB2 := Lib.hid hB2
          clear hB2
          have hz2 := hb3.size
          have hb4 := hb.trans (hb3.mono (by have := hb1.size; omega))
          clear hb3
          go_wp2
          go_roundw
          case rel => exact ⟨m + 1 + 1, by omega, by go_num, Lib.hid (.inr HB2.out), hb4, by omega⟩
          case measure => simp [intOf]; omega
      · have HS : Hid (Tr.sqk u.data.toList (k + 1) = Tr.sqk u.data.toList k ++ [u.data.toList[k]'(by rw [HUL.out]; omega)]) := Lib.hid (Tr.sqk_keep _ k (by rw [HUL.out]; omega) hc)
        have t1 : ((u[k].toNat : Int) != 32) = true := by rw [bne_iff_ne]; intro e; exact hc (blank_of _ e)
        clear hc
        have hlen := Tr.sqk_length u.data.toList (k)
        have HW := Lib.hid (fun w hB hl hz => writeByte_any w1.heap.size w1.heap.size (Lib.byteCells (Tr.sqk u.data.toList (k))) (u[k].toNat : Int) w hB hl hz)
        have HL : Hid ((Lib.byteCells (Tr.sqk u.data.toList (k))).length + 1 ≤ 140737488355328) := Lib.hid (by rw [Lib.byteCells_length]; omega)
        have HS2 : Hid (Lib.byteCells (Tr.sqk u.data.toList (k)) ++ [.int .u8 (u[k].toNat : Int)] = Lib.byteCells (Tr.sqk u.data.toList (k + 1))) := Lib.hid (by rw [HS.out]; simp [Lib.byteCells]; rfl)
        clear hlen
        go_wp2_with (fail)
        refine (HW.out _ HB.out HL.out hz).mono ?_
        rintro e w2 ⟨rfl, hB2, hb3⟩
        rw [HS2.out] at hB2
        have HB2 := Lib.hid hB2
        clear hB2
        have hz2 := hb3.size
        have hb4 := hb.trans (hb3.mono (by have := hb1.size; omega))
        clear hb3
        go_wp2
        go_roundw
        case rel => exact ⟨k + 1, by omega, by go_num, Lib.hid (.inr HB2.out), hb4, by omega⟩
        case measure => simp [intOf]; omega
    · obtain rfl : k = u.size := by omega
      have hs2 := HB.out
      rw [← HUL.out, HEnd.out] at hs2
      have H2 := Lib.hid (fun w hB hB2 => Tryd.Builder_String_any w1.heap.size w1.heap.size (Tr.trimL s.data.toList) w hB hB2)
      go_wp2_with (fail)
      refine (H2.out _ hs2 (by omega)).mono ?_
      rintro e w2 ⟨rfl, hb3⟩
      rw [HE.out _ rfl]
      go_wp2
      go_ret
      exact ⟨rfl, hb.trans (hb3.mono (by have := hb1.size; omega))⟩
end Go.Proofs.YtdbjmjeiaajdiaaDoor
