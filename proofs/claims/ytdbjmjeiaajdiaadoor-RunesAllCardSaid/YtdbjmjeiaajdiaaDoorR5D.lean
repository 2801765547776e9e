/- The contracts of quadrilleref5.Upper and Lower. -/
import Derived.Test.YtdbjmjeiaajdiaaDoorRunT
namespace Go.Proofs.YtdbjmjeiaajdiaaDoor
open Go.RowKit
set_option linter.unusedVariables false

theorem upB_in (c : UInt8) (h1 : 97 ≤ c.toNat) (h2 : c.toNat ≤ 122) : (upB c).toNat = c.toNat - 32 := by
  have hc := UInt8.toNat_lt c
  unfold upB
  rw [decide_eq_true h1, decide_eq_true h2]
  show (UInt8.ofNat (c.toNat - 32)).toNat = _
  rw [UInt8.toNat_ofNat']
  omega
theorem upB_out (c : UInt8) (h : ¬ (97 ≤ c.toNat ∧ c.toNat ≤ 122)) : (upB c).toNat = c.toNat := by
  unfold upB
  by_cases h1 : 97 ≤ c.toNat
  · rw [decide_eq_true h1, decide_eq_false (fun h2 => h ⟨h1, h2⟩)]; rfl
  · rw [decide_eq_false h1]; rfl
set_option maxHeartbeats 1000000 in
theorem rup_any (s : ByteArray) (w : World) (hs : s.size ≤ 140737488351232) : Calls Tryd.prog 83 #[.string s] w fun e w' => e = .returned (.string (eachS upB s)) ∧ Below w.heap.size w w' := by
  have hcv := fun (w : World) => run_bytes_of_string (P := Tryd.prog) w 9 88 5 s Tryd.underlying9 Tryd.underlying88 Tryd.underlying5
  have hsz : (s.data.toList.map upB).length = s.size := by rw [List.length_map, Lib.size_eq]
  have HS := Lib.hid hsz
  clear hsz
  go_enter Tryd.func83, Tryd.ntmps83
  go_wp2
  clear hcv
  have hc0 : ∀ j, j < s.size → ((w.alloc (Obj.cells (bytesRow s (grownCap w s.size 0 5)) 5 ((bytesRow s (grownCap w s.size 0 5)).size, (bytesRow s (grownCap w s.size 0 5)).size + 1))).drew).cell? ⟨w.heap.size, j, none⟩ = some (.int .u8 (bv upB s 0 j : Int)) := by
    intro j hj
    rw [cell_drew, World.cell?_alloc_mark, bytesRow_at s _ j hj]
    unfold bv
    rw [if_neg (by omega), List.getD_eq_getElem?_getD, List.getElem?_eq_getElem (by simpa using hj)]
    rfl
  have hf0 : ∀ j, j < s.size → ((w.alloc (Obj.cells (bytesRow s (grownCap w s.size 0 5)) 5 ((bytesRow s (grownCap w s.size 0 5)).size, (bytesRow s (grownCap w s.size 0 5)).size + 1))).drew).frozen? ⟨w.heap.size, j, none⟩ = false := by
    intro j hj
    rw [frozen_drew, World.frozen?_alloc_mark]
    have hsz : s.size ≤ (bytesRow s (grownCap w s.size 0 5)).size := by unfold bytesRow; simp
    rw [decide_eq_false (by omega)]; rfl
  have hb0 : Below w.heap.size w ((w.alloc (Obj.cells (bytesRow s (grownCap w s.size 0 5)) 5 ((bytesRow s (grownCap w s.size 0 5)).size, (bytesRow s (grownCap w s.size 0 5)).size + 1))).drew) := ((Below.refl _ w).alloc (Nat.le_refl _) _).drew
  generalize ((w.alloc (Obj.cells (bytesRow s (grownCap w s.size 0 5)) 5 ((bytesRow s (grownCap w s.size 0 5)).size, (bytesRow s (grownCap w s.size 0 5)).size + 1))).drew) = W0 at *
  generalize grownCap w s.size 0 5 = cap at *
  have HC0 := Lib.hid hc0
  have HF0 := Lib.hid hf0
  clear hc0 hf0
  go_loopw [4] (fun i wr => ∃ k : Nat, k ≤ s.size ∧ i = .int .i64 (k : Int) ∧ Hid (∀ j, j < s.size → wr.cell? ⟨w.heap.size, j, none⟩ = some (.int .u8 (bv upB s k j : Int))) ∧ Hid (∀ j, j < s.size → wr.frozen? ⟨w.heap.size, j, none⟩ = false) ∧ Below w.heap.size w wr) (fun i _ => s.size - (intOf i).toNat)
  case atStart => exact ⟨0, Nat.zero_le _, rfl, HC0, HF0, hb0⟩
  case round =>
    obtain ⟨k, hk, rfl, HC, HF, hb⟩ := hrel
    by_cases hlt : k < s.size
    · have hc := HC.out k hlt
      have hf := HF.out k hlt
      rw [bv_here] at hc
      have HN0 := bv_next upB s k
      have hcl := UInt8.toNat_lt (s.data.toList.getD k 0)
      have HI := upB_in (s.data.toList.getD k 0)
      have HO := upB_out (s.data.toList.getD k 0)
      rw [← HN0] at HI HO
      clear HN0
      generalize (s.data.toList.getD k 0).toNat = c at *
      obtain ⟨v, hv⟩ : ∃ v, bv upB s (k + 1) k = v := ⟨_, rfl⟩
      rw [hv] at HI HO
      have HN := Lib.hid hv
      clear hv
      by_cases hin : 97 ≤ c ∧ c ≤ 122
      · have t1 : decide ((97 : Int) ≤ (c : Int)) = true := decide_eq_true (by omega)
        have t2 : decide ((c : Int) ≤ 122) = true := decide_eq_true (by omega)
        have hv2 : (c : Int) - 32 = (v : Int) := by have := HI hin.1 hin.2; omega
        have hv3 : v ≤ 255 := by omega
        clear HI HO hin
        go_wp2
        go_roundw
        case rel =>
          refine ⟨k + 1, by omega, by go_num, Lib.hid fun j hj => ?_, Lib.hid fun j hj => ?_, hb.setCell (p := ⟨w.heap.size, k, none⟩) (Nat.le_refl _) _⟩
          · by_cases e : j = k
            · subst e
              rw [HN.out]
              exact World.cell?_setCell_same' _ _ _ (by rw [hc]; rfl)
            · rw [bv_other _ _ _ _ e]
              exact (World.cell?_setCell_other _ _ _ _ (by intro e2; apply e; have := congrArg Addr.off e2; simpa using this.symm)).trans (HC.out j hj)
          · rw [World.frozen?_setCell]; exact HF.out j hj
        case measure => simp [intOf]; omega
      · have hv2 : v = c := HO hin
        subst hv2
        have t3 : decide ((97 : Int) ≤ (v : Int)) = false ∨ (decide ((97 : Int) ≤ (v : Int)) = true ∧ decide ((v : Int) ≤ 122) = false) := by
          by_cases h : 97 ≤ v
          · exact .inr ⟨decide_eq_true (by omega), decide_eq_false (by omega)⟩
          · exact .inl (decide_eq_false (by omega))
        clear HI HO hin
        rcases t3 with t1 | ⟨t1, t2⟩
        all_goals
        go_wp2
        go_roundw
        case rel =>
          refine ⟨k + 1, by omega, by go_num, Lib.hid fun j hj => ?_, HF, hb⟩
          by_cases e : j = k
          · subst e
            rw [HN.out]
            exact hc
          · rw [bv_other _ _ _ _ e]
            exact HC.out j hj
        case measure => simp [intOf]; omega
    · obtain rfl : k = s.size := by omega
      have hcv := run_convert_bytes_back (P := Tryd.prog) wr 88 9 5 ⟨w.heap.size, 0, none⟩ cap (s.data.toList.map upB) Tryd.underlying88 Tryd.underlying5 Tryd.underlying9 (fun j hj => by
        have h2 : j < s.size := by rw [HS.out] at hj; exact hj
        have := HC.out j h2
        rw [bv_end _ _ j hj] at this
        rw [addr_add0]; exact this)
      rw [HS.out] at hcv
      go_wp2
      go_ret
      exact ⟨rfl, hb⟩

theorem lowB_in (c : UInt8) (h1 : 65 ≤ c.toNat) (h2 : c.toNat ≤ 90) : (lowB c).toNat = c.toNat + 32 := by
  have hc := UInt8.toNat_lt c
  unfold lowB
  rw [decide_eq_true h1, decide_eq_true h2]
  show (UInt8.ofNat (c.toNat + 32)).toNat = _
  rw [UInt8.toNat_ofNat']
  omega
theorem lowB_out (c : UInt8) (h : ¬ (65 ≤ c.toNat ∧ c.toNat ≤ 90)) : (lowB c).toNat = c.toNat := by
  unfold lowB
  by_cases h1 : 65 ≤ c.toNat
  · rw [decide_eq_true h1, decide_eq_false (fun h2 => h ⟨h1, h2⟩)]; rfl
  · rw [decide_eq_false h1]; rfl
set_option maxHeartbeats 1000000 in
theorem rlow_any (s : ByteArray) (w : World) (hs : s.size ≤ 140737488351232) : Calls Tryd.prog 84 #[.string s] w fun e w' => e = .returned (.string (eachS lowB s)) ∧ Below w.heap.size w w' := by
  have hcv := fun (w : World) => run_bytes_of_string (P := Tryd.prog) w 9 88 5 s Tryd.underlying9 Tryd.underlying88 Tryd.underlying5
  have hsz : (s.data.toList.map lowB).length = s.size := by rw [List.length_map, Lib.size_eq]
  have HS := Lib.hid hsz
  clear hsz
  go_enter Tryd.func84, Tryd.ntmps84
  go_wp2
  clear hcv
  have hc0 : ∀ j, j < s.size → ((w.alloc (Obj.cells (bytesRow s (grownCap w s.size 0 5)) 5 ((bytesRow s (grownCap w s.size 0 5)).size, (bytesRow s (grownCap w s.size 0 5)).size + 1))).drew).cell? ⟨w.heap.size, j, none⟩ = some (.int .u8 (bv lowB s 0 j : Int)) := by
    intro j hj
    rw [cell_drew, World.cell?_alloc_mark, bytesRow_at s _ j hj]
    unfold bv
    rw [if_neg (by omega), List.getD_eq_getElem?_getD, List.getElem?_eq_getElem (by simpa using hj)]
    rfl
  have hf0 : ∀ j, j < s.size → ((w.alloc (Obj.cells (bytesRow s (grownCap w s.size 0 5)) 5 ((bytesRow s (grownCap w s.size 0 5)).size, (bytesRow s (grownCap w s.size 0 5)).size + 1))).drew).frozen? ⟨w.heap.size, j, none⟩ = false := by
    intro j hj
    rw [frozen_drew, World.frozen?_alloc_mark]
    have hsz : s.size ≤ (bytesRow s (grownCap w s.size 0 5)).size := by unfold bytesRow; simp
    rw [decide_eq_false (by omega)]; rfl
  have hb0 : Below w.heap.size w ((w.alloc (Obj.cells (bytesRow s (grownCap w s.size 0 5)) 5 ((bytesRow s (grownCap w s.size 0 5)).size, (bytesRow s (grownCap w s.size 0 5)).size + 1))).drew) := ((Below.refl _ w).alloc (Nat.le_refl _) _).drew
  generalize ((w.alloc (Obj.cells (bytesRow s (grownCap w s.size 0 5)) 5 ((bytesRow s (grownCap w s.size 0 5)).size, (bytesRow s (grownCap w s.size 0 5)).size + 1))).drew) = W0 at *
  generalize grownCap w s.size 0 5 = cap at *
  have HC0 := Lib.hid hc0
  have HF0 := Lib.hid hf0
  clear hc0 hf0
  go_loopw [4] (fun i wr => ∃ k : Nat, k ≤ s.size ∧ i = .int .i64 (k : Int) ∧ Hid (∀ j, j < s.size → wr.cell? ⟨w.heap.size, j, none⟩ = some (.int .u8 (bv lowB s k j : Int))) ∧ Hid (∀ j, j < s.size → wr.frozen? ⟨w.heap.size, j, none⟩ = false) ∧ Below w.heap.size w wr) (fun i _ => s.size - (intOf i).toNat)
  case atStart => exact ⟨0, Nat.zero_le _, rfl, HC0, HF0, hb0⟩
  case round =>
    obtain ⟨k, hk, rfl, HC, HF, hb⟩ := hrel
    by_cases hlt : k < s.size
    · have hc := HC.out k hlt
      have hf := HF.out k hlt
      rw [bv_here] at hc
      have HN0 := bv_next lowB s k
      have hcl := UInt8.toNat_lt (s.data.toList.getD k 0)
      have HI := lowB_in (s.data.toList.getD k 0)
      have HO := lowB_out (s.data.toList.getD k 0)
      rw [← HN0] at HI HO
      clear HN0
      generalize (s.data.toList.getD k 0).toNat = c at *
      obtain ⟨v, hv⟩ : ∃ v, bv lowB s (k + 1) k = v := ⟨_, rfl⟩
      rw [hv] at HI HO
      have HN := Lib.hid hv
      clear hv
      by_cases hin : 65 ≤ c ∧ c ≤ 90
      · have t1 : decide ((65 : Int) ≤ (c : Int)) = true := decide_eq_true (by omega)
        have t2 : decide ((c : Int) ≤ 90) = true := decide_eq_true (by omega)
        have hv2 : (c : Int) + 32 = (v : Int) := by have := HI hin.1 hin.2; omega
        have hv3 : v ≤ 255 := by omega
        clear HI HO hin
        go_wp2
        go_roundw
        case rel =>
          refine ⟨k + 1, by omega, by go_num, Lib.hid fun j hj => ?_, Lib.hid fun j hj => ?_, hb.setCell (p := ⟨w.heap.size, k, none⟩) (Nat.le_refl _) _⟩
          · by_cases e : j = k
            · subst e
              rw [HN.out]
              exact World.cell?_setCell_same' _ _ _ (by rw [hc]; rfl)
            · rw [bv_other _ _ _ _ e]
              exact (World.cell?_setCell_other _ _ _ _ (by intro e2; apply e; have := congrArg Addr.off e2; simpa using this.symm)).trans (HC.out j hj)
          · rw [World.frozen?_setCell]; exact HF.out j hj
        case measure => simp [intOf]; omega
      · have hv2 : v = c := HO hin
        subst hv2
        have t3 : decide ((65 : Int) ≤ (v : Int)) = false ∨ (decide ((65 : Int) ≤ (v : Int)) = true ∧ decide ((v : Int) ≤ 90) = false) := by
          by_cases h : 65 ≤ v
          · exact .inr ⟨decide_eq_true (by omega), decide_eq_false (by omega)⟩
          · exact .inl (decide_eq_false (by omega))
        clear HI HO hin
        rcases t3 with t1 | ⟨t1, t2⟩
        all_goals
        go_wp2
        go_roundw
        case rel =>
          refine ⟨k + 1, by omega, by go_num, Lib.hid fun j hj => ?_, HF, hb⟩
          by_cases e : j = k
          · subst e
            rw [HN.out]
            exact hc
          · rw [bv_other _ _ _ _ e]
            exact HC.out j hj
        case measure => simp [intOf]; omega
    · obtain rfl : k = s.size := by omega
      have hcv := run_convert_bytes_back (P := Tryd.prog) wr 88 9 5 ⟨w.heap.size, 0, none⟩ cap (s.data.toList.map lowB) Tryd.underlying88 Tryd.underlying5 Tryd.underlying9 (fun j hj => by
        have h2 : j < s.size := by rw [HS.out] at hj; exact hj
        have := HC.out j h2
        rw [bv_end _ _ j hj] at this
        rw [addr_add0]; exact this)
      rw [HS.out] at hcv
      go_wp2
      go_ret
      exact ⟨rfl, hb⟩
end Go.Proofs.YtdbjmjeiaajdiaaDoor
