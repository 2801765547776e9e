/- The contracts of runes.Upper and runes.Lower at every text of at most 2^47 bytes. -/
import Derived.Test.YtdbjmjeiaajdiaaDoorRunE
import Derived.Test.YtdbjmjeiaajdiaaDoorTrimP
namespace Go.Proofs.YtdbjmjeiaajdiaaDoor
open Go.RowKit
set_option linter.unusedVariables false
theorem cell_drew (w : World) (a : Addr) : w.drew.cell? a = w.cell? a := by unfold World.drew; rfl
theorem frozen_drew (w : World) (a : Addr) : w.drew.frozen? a = w.frozen? a := by unfold World.drew; rfl
theorem addr_add0 (b j : Nat) : (⟨b, 0, none⟩ : Addr).add j = ⟨b, j, none⟩ := by
  unfold Addr.add
  by_cases h : j = 0
  · subst h; rfl
  · simp [h]
def upB (c : UInt8) : UInt8 := cond (decide (97 ≤ c.toNat) && decide (c.toNat ≤ 122)) (UInt8.ofNat (c.toNat - 32)) c
def lowB (c : UInt8) : UInt8 := cond (decide (65 ≤ c.toNat) && decide (c.toNat ≤ 90)) (UInt8.ofNat (c.toNat + 32)) c
/-- A text, each byte changed. -/
def eachS (g : UInt8 → UInt8) (s : ByteArray) : ByteArray := ⟨(s.data.toList.map g).toArray⟩
theorem eachS_size (g : UInt8 → UInt8) (s : ByteArray) : (eachS g s).size = s.size := by
  unfold eachS; rw [Lib.size_eq, Lib.size_eq]; simp
/-- The byte at a place behind k rounds. -/
def bv (g : UInt8 → UInt8) (s : ByteArray) (k j : Nat) : Nat := if j < k then (g (s.data.toList.getD j 0)).toNat else (s.data.toList.getD j 0).toNat
theorem bv_end (g : UInt8 → UInt8) (s : ByteArray) (j : Nat) (h : j < (s.data.toList.map g).length) : bv g s s.size j = ((s.data.toList.map g)[j]).toNat := by
  have hj : j < s.data.toList.length := by simpa using h
  have hj2 : j < s.size := by rw [Lib.size_eq]; exact hj
  unfold bv
  rw [if_pos hj2, List.getElem_map, List.getD_eq_getElem?_getD, List.getElem?_eq_getElem hj]
  rfl
theorem bv_lt (g : UInt8 → UInt8) (s : ByteArray) (k j : Nat) : bv g s k j < 256 := by
  unfold bv; split
  · exact UInt8.toNat_lt _
  · exact UInt8.toNat_lt _
theorem bv_here (g : UInt8 → UInt8) (s : ByteArray) (k : Nat) : bv g s k k = (s.data.toList.getD k 0).toNat := by unfold bv; rw [if_neg (by omega)]
theorem bv_next (g : UInt8 → UInt8) (s : ByteArray) (k : Nat) : bv g s (k + 1) k = (g (s.data.toList.getD k 0)).toNat := by unfold bv; rw [if_pos (by omega)]
theorem bv_other (g : UInt8 → UInt8) (s : ByteArray) (k j : Nat) (h : j ≠ k) : bv g s (k + 1) j = bv g s k j := by
  unfold bv
  by_cases h1 : j < k
  · rw [if_pos h1, if_pos (by omega)]
  · rw [if_neg h1, if_neg (by omega)]

theorem up1_any (c : UInt8) (w : World) : Calls Tryd.prog 104 #[.int .u8 (c.toNat : Int)] w fun e w' => e = .returned (.int .u8 ((upB c).toNat : Int)) ∧ w = w' := by
  have hc := UInt8.toNat_lt c
  unfold upB
  by_cases h1 : 97 ≤ c.toNat
  · by_cases h2 : c.toNat ≤ 122
    · have t1 : decide ((97 : Int) ≤ (c.toNat : Int)) = true := by simp; omega
      have t2 : decide ((c.toNat : Int) ≤ 122) = true := by simp; omega
      have e1 : IntKind.u8.wrap ((c.toNat : Int) - 32) = ((UInt8.ofNat (c.toNat - 32)).toNat : Int) := by
        rw [UInt8.toNat_ofNat']
        simp [IntKind.wrap, IntKind.bits, IntKind.signed]
        try omega
      rw [decide_eq_true h1, decide_eq_true h2]
      simp only [Bool.and_self, cond_true]
      generalize c.toNat = n at *
      generalize ((UInt8.ofNat (n - 32)).toNat : Int) = m at *
      go_enter Tryd.func104, Tryd.ntmps104
      go_wp2
      go_ret
      exact ⟨rfl, rfl⟩
    · have t1 : decide ((97 : Int) ≤ (c.toNat : Int)) = true := by simp; omega
      have t2 : decide ((c.toNat : Int) ≤ 122) = false := by simp; omega
      rw [decide_eq_true h1, decide_eq_false h2]
      simp only [Bool.and_false, cond_false]
      generalize c.toNat = n at *
      clear h2
      go_enter Tryd.func104, Tryd.ntmps104
      go_wp2
      go_ret
      exact ⟨rfl, rfl⟩
  · have t1 : decide ((97 : Int) ≤ (c.toNat : Int)) = false := by simp; omega
    rw [decide_eq_false h1]
    simp only [Bool.false_and, cond_false]
    generalize c.toNat = n at *
    clear h1
    go_enter Tryd.func104, Tryd.ntmps104
    go_wp2
    go_ret
    exact ⟨rfl, rfl⟩

set_option maxHeartbeats 1000000 in
theorem up_each (s : ByteArray) (w : World) (hs : s.size ≤ 140737488351232) : Calls Tryd.prog 103 #[.string s, .func (.func 104) #[] #[]] w fun e w' => e = .returned (.string (eachS upB s)) ∧ Below w.heap.size w w' := by
  have hcv := fun (w : World) => run_bytes_of_string (P := Tryd.prog) w 9 88 5 s Tryd.underlying9 Tryd.underlying88 Tryd.underlying5
  have H1 := Lib.hid (fun c w => up1_any c w)
  have hsz : (s.data.toList.map upB).length = s.size := by rw [List.length_map, Lib.size_eq]
  have HS := Lib.hid hsz
  clear hsz
  go_enter Tryd.func103, Tryd.ntmps103
  go_wp2
  clear hcv
  have hc0 : ∀ j, j < s.size → ((w.alloc (Obj.cells (bytesRow s (grownCap w s.size 0 5)) 5 ((bytesRow s (grownCap w s.size 0 5)).size, (bytesRow s (grownCap w s.size 0 5)).size + 1))).drew).cell? ⟨w.heap.size, j, none⟩ = some (.int .u8 (bv upB s 0 j : Int)) := by
    intro j hj
    rw [cell_drew, World.cell?_alloc_mark, bytesRow_at s _ j hj]
    unfold bv
    rw [if_neg (by omega), List.getD_eq_getElem?_getD, List.getElem?_eq_getElem (by simpa using hj)]
    rfl
  have hf0 : ∀ j, j < s.size → ((w.alloc (Obj.cells (bytesRow s (grownCap w s.size 0 5)) 5 ((bytesRow s (grownCap w s.size 0 5)).size, (bytesRow s (grownCap w s.size 0 5)).size + 1))).drew).frozen? ⟨w.heap.size, j, none⟩ = false := by
    intro j hj
    rw [frozen_drew, World.frozen?_alloc_mark]
    have hsz : s.size ≤ (bytesRow s (grownCap w s.size 0 5)).size := by unfold bytesRow; simp
    rw [decide_eq_false (by omega)]; rfl
  have hb0 : Below w.heap.size w ((w.alloc (Obj.cells (bytesRow s (grownCap w s.size 0 5)) 5 ((bytesRow s (grownCap w s.size 0 5)).size, (bytesRow s (grownCap w s.size 0 5)).size + 1))).drew) := ((Below.refl _ w).alloc (Nat.le_refl _) _).drew
  generalize (w.alloc (Obj.cells (bytesRow s (grownCap w s.size 0 5)) 5 ((bytesRow s (grownCap w s.size 0 5)).size, (bytesRow s (grownCap w s.size 0 5)).size + 1))).drew = W0 at *
  generalize grownCap w s.size 0 5 = cap at *
  have HC0 := Lib.hid hc0
  have HF0 := Lib.hid hf0
  clear hc0 hf0
  go_loopw [11] (fun i wr => ∃ k : Nat, k ≤ s.size ∧ i = .int .i64 (k : Int) ∧ Hid (∀ j, j < s.size → wr.cell? ⟨w.heap.size, j, none⟩ = some (.int .u8 (bv upB s k j : Int))) ∧ Hid (∀ j, j < s.size → wr.frozen? ⟨w.heap.size, j, none⟩ = false) ∧ Below w.heap.size w wr) (fun i _ => s.size - (intOf i).toNat)
  case atStart => exact ⟨0, Nat.zero_le _, rfl, HC0, HF0, hb0⟩
  case round =>
    obtain ⟨k, hk, rfl, HC, HF, hb⟩ := hrel
    by_cases hlt : k < s.size
    · have hc := HC.out k hlt
      have hf := HF.out k hlt
      rw [bv_here] at hc
      have HN := Lib.hid (bv_next upB s k)
      generalize s.data.toList.getD k 0 = c at *
      go_wp2_with (fail)
      refine (H1.out _ _).mono ?_
      rintro e w' ⟨rfl, rfl⟩
      go_wp2
      go_roundw
      case rel =>
        refine ⟨k + 1, by omega, by go_num, Lib.hid fun j hj => ?_, Lib.hid fun j hj => ?_, hb.setCell (p := ⟨w.heap.size, k, none⟩) (Nat.le_refl _) _⟩
        · by_cases e : j = k
          · subst e
            rw [HN.out]
            exact World.cell?_setCell_same' _ _ _ (by rw [hc]; rfl)
          · rw [bv_other _ _ _ _ e]
            exact (World.cell?_setCell_other _ _ _ _ (by intro e2; apply e; have := congrArg Addr.off e2; simpa using this.symm)).trans (HC.out j hj)
        · rw [World.frozen?_setCell]; exact HF.out j hj
      case measure => simp [intOf]; omega
    · obtain rfl : k = s.size := by omega
      have hcv := run_convert_bytes_back (P := Tryd.prog) wr 88 9 5 ⟨w.heap.size, 0, none⟩ cap (s.data.toList.map upB) Tryd.underlying88 Tryd.underlying5 Tryd.underlying9 (fun j hj => by
        have h2 : j < s.size := by rw [HS.out] at hj; exact hj
        have := HC.out j h2
        rw [bv_end _ _ j hj] at this
        rw [addr_add0]; exact this)
      rw [HS.out] at hcv
      go_wp2
      go_ret
      exact ⟨rfl, hb⟩

theorem low1_any (c : UInt8) (w : World) : Calls Tryd.prog 105 #[.int .u8 (c.toNat : Int)] w fun e w' => e = .returned (.int .u8 ((lowB c).toNat : Int)) ∧ w = w' := by
  have hc := UInt8.toNat_lt c
  unfold lowB
  by_cases h1 : 65 ≤ c.toNat
  · by_cases h2 : c.toNat ≤ 90
    · have t1 : decide ((65 : Int) ≤ (c.toNat : Int)) = true := by simp; omega
      have t2 : decide ((c.toNat : Int) ≤ 90) = true := by simp; omega
      have e1 : IntKind.u8.wrap ((c.toNat : Int) + 32) = ((UInt8.ofNat (c.toNat + 32)).toNat : Int) := by
        rw [UInt8.toNat_ofNat']
        simp [IntKind.wrap, IntKind.bits, IntKind.signed]
        try omega
      rw [decide_eq_true h1, decide_eq_true h2]
      simp only [Bool.and_self, cond_true]
      generalize c.toNat = n at *
      generalize ((UInt8.ofNat (n + 32)).toNat : Int) = m at *
      go_enter Tryd.func105, Tryd.ntmps105
      go_wp2
      go_ret
      exact ⟨rfl, rfl⟩
    · have t1 : decide ((65 : Int) ≤ (c.toNat : Int)) = true := by simp; omega
      have t2 : decide ((c.toNat : Int) ≤ 90) = false := by simp; omega
      rw [decide_eq_true h1, decide_eq_false h2]
      simp only [Bool.and_false, cond_false]
      generalize c.toNat = n at *
      clear h2
      go_enter Tryd.func105, Tryd.ntmps105
      go_wp2
      go_ret
      exact ⟨rfl, rfl⟩
  · have t1 : decide ((65 : Int) ≤ (c.toNat : Int)) = false := by simp; omega
    rw [decide_eq_false h1]
    simp only [Bool.false_and, cond_false]
    generalize c.toNat = n at *
    clear h1
    go_enter Tryd.func105, Tryd.ntmps105
    go_wp2
    go_ret
    exact ⟨rfl, rfl⟩

set_option maxHeartbeats 1000000 in
theorem low_each (s : ByteArray) (w : World) (hs : s.size ≤ 140737488351232) : Calls Tryd.prog 103 #[.string s, .func (.func 105) #[] #[]] w fun e w' => e = .returned (.string (eachS lowB s)) ∧ Below w.heap.size w w' := by
  have hcv := fun (w : World) => run_bytes_of_string (P := Tryd.prog) w 9 88 5 s Tryd.underlying9 Tryd.underlying88 Tryd.underlying5
  have H1 := Lib.hid (fun c w => low1_any c w)
  have hsz : (s.data.toList.map lowB).length = s.size := by rw [List.length_map, Lib.size_eq]
  have HS := Lib.hid hsz
  clear hsz
  go_enter Tryd.func103, Tryd.ntmps103
  go_wp2
  clear hcv
  have hc0 : ∀ j, j < s.size → ((w.alloc (Obj.cells (bytesRow s (grownCap w s.size 0 5)) 5 ((bytesRow s (grownCap w s.size 0 5)).size, (bytesRow s (grownCap w s.size 0 5)).size + 1))).drew).cell? ⟨w.heap.size, j, none⟩ = some (.int .u8 (bv lowB s 0 j : Int)) := by
    intro j hj
    rw [cell_drew, World.cell?_alloc_mark, bytesRow_at s _ j hj]
    unfold bv
    rw [if_neg (by omega), List.getD_eq_getElem?_getD, List.getElem?_eq_getElem (by simpa using hj)]
    rfl
  have hf0 : ∀ j, j < s.size → ((w.alloc (Obj.cells (bytesRow s (grownCap w s.size 0 5)) 5 ((bytesRow s (grownCap w s.size 0 5)).size, (bytesRow s (grownCap w s.size 0 5)).size + 1))).drew).frozen? ⟨w.heap.size, j, none⟩ = false := by
    intro j hj
    rw [frozen_drew, World.frozen?_alloc_mark]
    have hsz : s.size ≤ (bytesRow s (grownCap w s.size 0 5)).size := by unfold bytesRow; simp
    rw [decide_eq_false (by omega)]; rfl
  have hb0 : Below w.heap.size w ((w.alloc (Obj.cells (bytesRow s (grownCap w s.size 0 5)) 5 ((bytesRow s (grownCap w s.size 0 5)).size, (bytesRow s (grownCap w s.size 0 5)).size + 1))).drew) := ((Below.refl _ w).alloc (Nat.le_refl _) _).drew
  generalize (w.alloc (Obj.cells (bytesRow s (grownCap w s.size 0 5)) 5 ((bytesRow s (grownCap w s.size 0 5)).size, (bytesRow s (grownCap w s.size 0 5)).size + 1))).drew = W0 at *
  generalize grownCap w s.size 0 5 = cap at *
  have HC0 := Lib.hid hc0
  have HF0 := Lib.hid hf0
  clear hc0 hf0
  go_loopw [11] (fun i wr => ∃ k : Nat, k ≤ s.size ∧ i = .int .i64 (k : Int) ∧ Hid (∀ j, j < s.size → wr.cell? ⟨w.heap.size, j, none⟩ = some (.int .u8 (bv lowB s k j : Int))) ∧ Hid (∀ j, j < s.size → wr.frozen? ⟨w.heap.size, j, none⟩ = false) ∧ Below w.heap.size w wr) (fun i _ => s.size - (intOf i).toNat)
  case atStart => exact ⟨0, Nat.zero_le _, rfl, HC0, HF0, hb0⟩
  case round =>
    obtain ⟨k, hk, rfl, HC, HF, hb⟩ := hrel
    by_cases hlt : k < s.size
    · have hc := HC.out k hlt
      have hf := HF.out k hlt
      rw [bv_here] at hc
      have HN := Lib.hid (bv_next lowB s k)
      generalize s.data.toList.getD k 0 = c at *
      go_wp2_with (fail)
      refine (H1.out _ _).mono ?_
      rintro e w' ⟨rfl, rfl⟩
      go_wp2
      go_roundw
      case rel =>
        refine ⟨k + 1, by omega, by go_num, Lib.hid fun j hj => ?_, Lib.hid fun j hj => ?_, hb.setCell (p := ⟨w.heap.size, k, none⟩) (Nat.le_refl _) _⟩
        · by_cases e : j = k
          · subst e
            rw [HN.out]
            exact World.cell?_setCell_same' _ _ _ (by rw [hc]; rfl)
          · rw [bv_other _ _ _ _ e]
            exact (World.cell?_setCell_other _ _ _ _ (by intro e2; apply e; have := congrArg Addr.off e2; simpa using this.symm)).trans (HC.out j hj)
        · rw [World.frozen?_setCell]; exact HF.out j hj
      case measure => simp [intOf]; omega
    · obtain rfl : k = s.size := by omega
      have hcv := run_convert_bytes_back (P := Tryd.prog) wr 88 9 5 ⟨w.heap.size, 0, none⟩ cap (s.data.toList.map lowB) Tryd.underlying88 Tryd.underlying5 Tryd.underlying9 (fun j hj => by
        have h2 : j < s.size := by rw [HS.out] at hj; exact hj
        have := HC.out j h2
        rw [bv_end _ _ j hj] at this
        rw [addr_add0]; exact this)
      rw [HS.out] at hcv
      go_wp2
      go_ret
      exact ⟨rfl, hb⟩
end Go.Proofs.YtdbjmjeiaajdiaaDoor
