/- The contract of quadrilleref1.Read at every text of at most 2^47 bytes. -/
import Derived.Test.YtdbjmjeiaajdiaaDoorRefD
import Derived.Test.YtdbjmjeiaajdiaaDoorNumF
namespace Go.Proofs.YtdbjmjeiaajdiaaDoor
open Go.RowKit
set_option linter.unusedVariables false
theorem rread_empty (s : ByteArray) (w : World) (hz : s.size = 0) : Calls Tryd.prog 54 #[.string s] w fun e w' => e = .returned (.tuple #[.int .i64 0, .int .i64 12]) ∧ Below w.heap.size w w' := by
  have t1 : decide ((0 : Int) < (s.size : Int)) = false := decide_eq_false (by omega)
  have t2 : ¬ 0 < s.size := by omega
  have t3 : ((s.size : Int) == 0) = true := by rw [beq_iff_eq]; omega
  have t4 : (s.size == 0) = true := by rw [beq_iff_eq]; omega
  clear hz
  go_enter Tryd.func54, Tryd.ntmps54
  go_wp2
  go_ret2
  exact ⟨rfl, Below.refl _ _⟩
/-- The digits' worth behind one more. -/
theorem dval_next (d : ByteArray) (k : Nat) (h : k < d.size) : Dec.dval 0 (d.data.toList.take (k + 1)) = Dec.dval 0 (d.data.toList.take k) * 10 + (d[k].toNat - 48) := by
  rw [List.take_succ_eq_append_getElem (by rw [← Lib.size_eq]; exact h), Dec.dval_append, Dec.dval_cons, Dec.dval_nil]
  rfl
theorem dval_take_lt (d : ByteArray) (k : Nat) (hk : k ≤ 19) (ha : ∀ j (h : j < d.size), 48 ≤ (d[j]'h).toNat ∧ (d[j]'h).toNat ≤ 57) : Dec.dval 0 (d.data.toList.take k) < 10 ^ k := by
  have hall : (d.data.toList.take k).all Dec.dig = true := by
    rw [List.all_eq_true]
    intro x hx
    obtain ⟨j, hj, e⟩ := List.getElem_of_mem (List.mem_of_mem_take hx)
    have h2 : j < d.size := by rw [Lib.size_eq]; exact hj
    rw [← e]
    exact Dec.dig_iff.2 (ha j h2)
  have h1 := Dec.dval_lt _ 0 hall
  have h2 : 10 ^ (d.data.toList.take k).length ≤ 10 ^ k := Nat.pow_le_pow_right (by omega) (List.length_take_le _ _)
  omega

theorem rread_m_none (s d : ByteArray) (w : World) (hz : 0 < s.size) (h45 : (((s[0]'hz).toNat : Int) == 45) = true) (hd : s.extract 1 s.size = d) (hsz : s.size - 1 = d.size) (hd0 : d.size = 0) :
    Calls Tryd.prog 54 #[.string s] w fun e w' => e = .returned (.tuple #[.int .i64 0, .int .i64 12]) ∧ Below w.heap.size w w' := by
  have g0 : decide ((0 : Int) < (s.size : Int)) = true := decide_eq_true (by omega)
  have g1 : ((d.size : Int) == 0) = true := by rw [beq_iff_eq]; omega
  have g2 : (d.size == 0) = true := by rw [beq_iff_eq]; omega
  clear hd0
  go_enter Tryd.func54, Tryd.ntmps54
  go_wp2
  go_ret2
  exact ⟨rfl, Below.refl _ _⟩

theorem rread_m_idle (s d : ByteArray) (w : World) (hz : 0 < s.size) (h45 : (((s[0]'hz).toNat : Int) == 45) = true) (hd : s.extract 1 s.size = d) (hsz : s.size - 1 = d.size) (hdz : 0 < d.size) (h48 : (((d[0]'hdz).toNat : Int) == 48) = true) (hs0 : (s.toList == [48]) = false) :
    Calls Tryd.prog 54 #[.string s] w fun e w' => e = .returned (.tuple #[.int .i64 0, .int .i64 12]) ∧ Below w.heap.size w w' := by
  have g0 : decide ((0 : Int) < (s.size : Int)) = true := decide_eq_true (by omega)
  have g1 : ((d.size : Int) == 0) = false := by rw [beq_eq_false_iff_ne]; omega
  have g2 : (d.size == 0) = false := by rw [beq_eq_false_iff_ne]; omega
  go_enter Tryd.func54, Tryd.ntmps54
  go_wp2
  go_ret2
  exact ⟨rfl, Below.refl _ _⟩

set_option maxHeartbeats 400000 in
theorem rread_m_bad (s d : ByteArray) (w : World) (hz : 0 < s.size) (h45 : (((s[0]'hz).toNat : Int) == 45) = true) (hd : s.extract 1 s.size = d) (hsz : s.size - 1 = d.size) (hdz : 0 < d.size) (h48 : (((d[0]'hdz).toNat : Int) == 48) = false ∨ ((((d[0]'hdz).toNat : Int) == 48) = true ∧ (s.toList == [48]) = true)) (hb : ∃ j, ∃ h : j < d.size, ¬ (48 ≤ (d[j]'h).toNat ∧ (d[j]'h).toNat ≤ 57)) (hmax : d.size ≤ 140737488351232) :
    Calls Tryd.prog 54 #[.string s] w fun e w' => e = .returned (.tuple #[.int .i64 0, .int .i64 12]) ∧ Below w.heap.size w w' := by
  have HB := Lib.hid hb
  clear hb
  have g0 : decide ((0 : Int) < (s.size : Int)) = true := decide_eq_true (by omega)
  have g1 : ((d.size : Int) == 0) = false := by rw [beq_eq_false_iff_ne]; omega
  have g2 : (d.size == 0) = false := by rw [beq_eq_false_iff_ne]; omega
  rcases h48 with h48 | ⟨h48, hs0⟩
  all_goals
    go_enter Tryd.func54, Tryd.ntmps54
    go_wp2
    go_loop [5] (fun i => ∃ k : Nat, k ≤ d.size ∧ i = .int .i64 (k : Int) ∧ Hid (∀ j (h : j < d.size), j < k → 48 ≤ (d[j]'h).toNat ∧ (d[j]'h).toNat ≤ 57)) (fun i => d.size - (intOf i).toNat)
    case atStart => exact ⟨0, by omega, rfl, fun _ _ h => absurd h (by omega)⟩
    case round =>
      obtain ⟨k, hk, rfl, HD⟩ := hrel
      by_cases hlt : k < d.size
      · by_cases hg : 48 ≤ (d[k]'hlt).toNat ∧ (d[k]'hlt).toNat ≤ 57
        · have t1 : decide (((d[k]'hlt).toNat : Int) < 48) = false := by simp; omega
          have t2 : decide ((57 : Int) < ((d[k]'hlt).toNat : Int)) = false := by simp; omega
          have HD2 : Hid (∀ j (h : j < d.size), j < k + 1 → 48 ≤ (d[j]'h).toNat ∧ (d[j]'h).toNat ≤ 57) := fun j h hj => by
            by_cases e : j = k
            · subst e; exact hg
            · exact HD.out j h (by omega)
          clear hg
          go_wp2
          go_round
          case rel => exact ⟨k + 1, by omega, by go_num, HD2⟩
          case measure => simp [intOf]; omega
        · have t3 : (decide (((d[k]'hlt).toNat : Int) < 48) = true) ∨ (decide (((d[k]'hlt).toNat : Int) < 48) = false ∧ decide ((57 : Int) < ((d[k]'hlt).toNat : Int)) = true) := by simp; omega
          clear hg
          rcases t3 with t1 | ⟨t1, t2⟩
          all_goals
            go_wp2
            go_ret2
            exact ⟨rfl, Below.refl _ _⟩
      · obtain rfl : d.size = k := by omega
        obtain ⟨j, hj, hn⟩ := HB.out
        exact absurd (HD.out j hj hj) hn

set_option maxHeartbeats 400000 in
theorem rread_m_far (s d : ByteArray) (w : World) (hz : 0 < s.size) (h45 : (((s[0]'hz).toNat : Int) == 45) = true) (hd : s.extract 1 s.size = d) (hsz : s.size - 1 = d.size) (hdz : 0 < d.size) (h48 : (((d[0]'hdz).toNat : Int) == 48) = false ∨ ((((d[0]'hdz).toNat : Int) == 48) = true ∧ (s.toList == [48]) = true)) (ha : ∀ j (h : j < d.size), 48 ≤ (d[j]'h).toNat ∧ (d[j]'h).toNat ≤ 57) (hmax : d.size ≤ 140737488351232) (hfar : 19 < d.size) :
    Calls Tryd.prog 54 #[.string s] w fun e w' => e = .returned (.tuple #[.int .i64 0, .int .i64 13]) ∧ Below w.heap.size w w' := by
  have HA := Lib.hid ha
  clear ha
  have g0 : decide ((0 : Int) < (s.size : Int)) = true := decide_eq_true (by omega)
  have g1 : ((d.size : Int) == 0) = false := by rw [beq_eq_false_iff_ne]; omega
  have g2 : (d.size == 0) = false := by rw [beq_eq_false_iff_ne]; omega
  have g3 : decide ((19 : Int) < (d.size : Int)) = true := decide_eq_true (by omega)
  rcases h48 with h48 | ⟨h48, hs0⟩
  all_goals
    go_enter Tryd.func54, Tryd.ntmps54
    go_wp2
    go_loop [5] (fun i => ∃ k : Nat, k ≤ d.size ∧ i = .int .i64 (k : Int) ∧ Hid (∀ j (h : j < d.size), j < k → 48 ≤ (d[j]'h).toNat ∧ (d[j]'h).toNat ≤ 57)) (fun i => d.size - (intOf i).toNat)
    case atStart => exact ⟨0, by omega, rfl, fun _ _ h => absurd h (by omega)⟩
    case round =>
      obtain ⟨k, hk, rfl, HD⟩ := hrel
      by_cases hlt : k < d.size
      · by_cases hg : 48 ≤ (d[k]'hlt).toNat ∧ (d[k]'hlt).toNat ≤ 57
        · have t1 : decide (((d[k]'hlt).toNat : Int) < 48) = false := by simp; omega
          have t2 : decide ((57 : Int) < ((d[k]'hlt).toNat : Int)) = false := by simp; omega
          have HD2 : Hid (∀ j (h : j < d.size), j < k + 1 → 48 ≤ (d[j]'h).toNat ∧ (d[j]'h).toNat ≤ 57) := fun j h hj => by
            by_cases e : j = k
            · subst e; exact hg
            · exact HD.out j h (by omega)
          clear hg
          go_wp2
          go_round
          case rel => exact ⟨k + 1, by omega, by go_num, HD2⟩
          case measure => simp [intOf]; omega
        · exact absurd (HA.out k hlt) hg
      · obtain rfl : d.size = k := by omega
        go_wp2
        go_ret2
        exact ⟨rfl, Below.refl _ _⟩

set_option maxRecDepth 100000 in
set_option maxHeartbeats 4000000 in
theorem rread_m_near (s d : ByteArray) (w : World) (hz : 0 < s.size) (h45 : (((s[0]'hz).toNat : Int) == 45) = true) (hd : s.extract 1 s.size = d) (hsz : s.size - 1 = d.size) (hdz : 0 < d.size) (h48 : (((d[0]'hdz).toNat : Int) == 48) = false ∨ ((((d[0]'hdz).toNat : Int) == 48) = true ∧ (s.toList == [48]) = true)) (ha : ∀ j (h : j < d.size), 48 ≤ (d[j]'h).toNat ∧ (d[j]'h).toNat ≤ 57) (hnear : d.size ≤ 19) (D : Nat) (hD : Dec.dval 0 d.data.toList = D) (x y : Int)
    (hT : ∀ w, Calls Tryd.prog 95 #[.agg #[.bool true, .bool false, .int .u64 (D : Int)]] w fun e w' => e = .returned (.tuple #[.int .i64 x, .int .i64 y]) ∧ Below w.heap.size w w') :
    Calls Tryd.prog 54 #[.string s] w fun e w' => e = .returned (.tuple #[.int .i64 x, .int .i64 y]) ∧ Below w.heap.size w w' := by
  have HA := Lib.hid ha
  have HT := Lib.hid hT
  have hD := Lib.hid hD
  clear ha hT
  have g0 : decide ((0 : Int) < (s.size : Int)) = true := decide_eq_true (by omega)
  have g1 : ((d.size : Int) == 0) = false := by rw [beq_eq_false_iff_ne]; omega
  have g2 : (d.size == 0) = false := by rw [beq_eq_false_iff_ne]; omega
  have g3 : decide ((19 : Int) < (d.size : Int)) = false := decide_eq_false (by omega)
  rcases h48 with h48 | ⟨h48, hs0⟩
  all_goals
    go_enter Tryd.func54, Tryd.ntmps54
    go_wp2
    go_loop [5] (fun i => ∃ k : Nat, k ≤ d.size ∧ i = .int .i64 (k : Int) ∧ Hid (∀ j (h : j < d.size), j < k → 48 ≤ (d[j]'h).toNat ∧ (d[j]'h).toNat ≤ 57)) (fun i => d.size - (intOf i).toNat)
    case atStart => exact ⟨0, by omega, rfl, fun _ _ h => absurd h (by omega)⟩
    case round =>
      obtain ⟨k, hk, rfl, HD⟩ := hrel
      by_cases hlt : k < d.size
      · by_cases hg : 48 ≤ (d[k]'hlt).toNat ∧ (d[k]'hlt).toNat ≤ 57
        · have t1 : decide (((d[k]'hlt).toNat : Int) < 48) = false := by simp; omega
          have t2 : decide ((57 : Int) < ((d[k]'hlt).toNat : Int)) = false := by simp; omega
          have HD2 : Hid (∀ j (h : j < d.size), j < k + 1 → 48 ≤ (d[j]'h).toNat ∧ (d[j]'h).toNat ≤ 57) := fun j h hj => by
            by_cases e : j = k
            · subst e; exact hg
            · exact HD.out j h (by omega)
          clear hg
          go_wp2
          go_round
          case rel => exact ⟨k + 1, by omega, by go_num, HD2⟩
          case measure => simp [intOf]; omega
        · exact absurd (HA.out k hlt) hg
      · obtain rfl : d.size = k := by omega
        go_wp2
        have hB0 : (w.alloc (Obj.cells #[.bool false, .bool false, .int .u64 0] 99)).heap[w.heap.size]? = some (.cells #[.bool false, .bool false, .int .u64 ((Dec.dval 0 (d.data.toList.take 0) : Nat) : Int)] 99 (0, 0)) := heap_alloc_new _ _
        have hb0 : Below w.heap.size w (w.alloc (Obj.cells #[.bool false, .bool false, .int .u64 0] 99)) := (Below.refl _ _).alloc (Nat.le_refl _) _
        have hl0 : w.heap.size < (w.alloc (Obj.cells #[.bool false, .bool false, .int .u64 0] 99)).heap.size := by simp
        generalize w.alloc (Obj.cells #[.bool false, .bool false, .int .u64 0] 99) = W0 at *
        replace hB0 := Lib.hid hB0
        clear HD hk
        go_loopw [7] (fun iv wr => ∃ (k : Nat), k ≤ d.size ∧ iv = .int .i64 (k : Int) ∧ Hid (wr.heap[w.heap.size]? = some (.cells #[.bool false, .bool false, .int .u64 ((Dec.dval 0 (d.data.toList.take k) : Nat) : Int)] 99 (0, 0))) ∧ Below w.heap.size w wr ∧ w.heap.size < wr.heap.size) (fun iv _ => d.size - (intOf iv).toNat)
        case atStart => exact ⟨0, Nat.zero_le _, rfl, hB0, hb0, hl0⟩
        case round =>
          clear hB0 hb0 hl0
          obtain ⟨k, hk, rfl, HB, hb, hlt⟩ := hrel
          by_cases hkd : k < d.size
          · have hdk := HA.out k hkd
            have hV := dval_take_lt d k (by omega) HA.out
            have hp18 : 10 ^ k ≤ 10 ^ 18 := Nat.pow_le_pow_right (by omega) (by omega)
            have e18 : (10 : Nat) ^ 18 = 1000000000000000000 := by decide
            rw [e18] at hp18
            have HN := Lib.hid (dval_next d k hkd)
            have hV2 : Dec.dval 0 (d.data.toList.take k) < 1000000000000000000 := by omega
            clear hV hp18 e18
            generalize hV' : Dec.dval 0 (d.data.toList.take (k + 1)) = V' at *
            replace hV' := Lib.hid hV'
            generalize Dec.dval 0 (d.data.toList.take k) = V at *
            obtain ⟨x0, x1, x2⟩ := num_cells HB.out
            have HP : Hid (∀ w, Calls Tryd.prog 94 #[.agg #[.bool false, .bool false, .int .u64 (V : Int)], .agg #[.bool false, .bool false, .int .u64 10]] w fun e w' => e = .returned (.agg #[.bool false, .bool false, .int .u64 ((V * 10 : Nat) : Int)]) ∧ Below w.heap.size w w') := Lib.hid (fun w => prod_any false false false false V 10 (V * 10) w (by omega) (by decide) rfl (decide_eq_false (by omega)) (Nat.mod_eq_of_lt (by omega)))
            have HS : Hid (∀ w (x : Int), x = ((d[k].toNat - 48 : Nat) : Int) → Calls Tryd.prog 93 #[.agg #[.bool false, .bool false, .int .u64 ((V * 10 : Nat) : Int)], .agg #[.bool false, .bool false, .int .u64 x]] w fun e w' => e = .returned (.agg #[.bool false, .bool false, .int .u64 (V' : Int)]) ∧ Below w.heap.size w w') := Lib.hid (fun w x e => by
              rw [e, HN.out]
              exact sum_any false false false false false false (V * 10) (d[k].toNat - 48) (V * 10 + (d[k].toNat - 48)) w (by omega) (by omega) rfl (by unfold Ref.sumO; rw [decide_eq_false (by omega)]; rfl) (Nat.mod_eq_of_lt (by omega)))
            have hV3 : V * 10 < 18446744073709551616 := by omega
            generalize V * 10 = V10 at *
            have t1 : (48 : Int) ≤ (d[k].toNat : Int) := by omega
            have t2 : (d[k].toNat : Int) ≤ 57 := by omega
            have e5 : IntKind.u8.wrap ((d[k].toNat : Int) - 48) = (d[k].toNat : Int) - 48 := by simp [IntKind.wrap, IntKind.bits, IntKind.signed]; omega
            have e6 : IntKind.u64.wrap ((d[k].toNat : Int) - 48) = (d[k].toNat : Int) - 48 := by simp [IntKind.wrap, IntKind.bits, IntKind.signed]; omega
            clear HN
            go_wp2_with (fail)
            go_region_with (first
              | (go_at_call 94; refine (HP.out _).mono ?_; rintro e w2 ⟨rfl, hb2⟩; have hk2 := (hb2.block w.heap.size hlt).trans HB.out; have hl2 := Nat.lt_of_lt_of_le hlt hb2.size; have hs2 := hb.drew.trans (hb2.mono hb.size); replace hk2 := Lib.hid hk2)
              | (go_at_call 93; refine (HS.out _ _ (by omega)).mono ?_; rintro e w3 ⟨rfl, hb3⟩; have hk3 := (hb3.block w.heap.size hl2).trans hk2.out; have hl3 := Nat.lt_of_lt_of_le hl2 hb3.size; have hs3 := hs2.trans (hb3.mono hs2.size); obtain ⟨z0, z1, z2⟩ := num_cells hk3; obtain ⟨f0, f1, f2⟩ := num_frozen hk3; replace hk3 := Lib.hid hk3))
            all_goals
              go_wp2
              go_roundw
              case rel => exact ⟨k + 1, by omega, by go_num, Lib.hid (by rw [hV'.out]; exact num_set hk3.out), num_set_below hs3 (Nat.le_refl _), by simpa [World.setCell] using hl3⟩
              case measure => simp [intOf]; omega
          · obtain rfl : k = d.size := by omega
            have hVV : Dec.dval 0 (d.data.toList.take d.size) = D := by rw [List.take_of_length_le (by rw [← Lib.size_eq]; omega)]; exact hD.out
            have hk1 := HB.out
            rw [hVV] at hk1
            obtain ⟨x0, x1, x2⟩ := num_cells hk1
            obtain ⟨f0, f1, f2⟩ := num_frozen hk1
            clear hVV hk1
            go_wp2_with (fail)
            refine (HT.out _).mono ?_
            rintro e w5 ⟨rfl, hb5⟩
            go_wp2
            go_ret2
            exact ⟨rfl, Below.trans (hb.setCell (p := ⟨w.heap.size, 0, none⟩) (Nat.le_refl _) _) (hb5.mono (by have := hb.size; simpa [World.setCell] using this))⟩

theorem rread_p_idle (d : ByteArray) (w : World) (hz : 0 < d.size) (h45 : (((d[0]'hz).toNat : Int) == 45) = false) (h48 : (((d[0]'hz).toNat : Int) == 48) = true) (hs0 : (d.toList == [48]) = false) :
    Calls Tryd.prog 54 #[.string d] w fun e w' => e = .returned (.tuple #[.int .i64 0, .int .i64 12]) ∧ Below w.heap.size w w' := by
  have g0 : decide ((0 : Int) < (d.size : Int)) = true := decide_eq_true (by omega)
  have g1 : ((d.size : Int) == 0) = false := by rw [beq_eq_false_iff_ne]; omega
  have g2 : (d.size == 0) = false := by rw [beq_eq_false_iff_ne]; omega
  go_enter Tryd.func54, Tryd.ntmps54
  go_wp2
  go_ret2
  exact ⟨rfl, Below.refl _ _⟩

set_option maxHeartbeats 400000 in
theorem rread_p_bad (d : ByteArray) (w : World) (hz : 0 < d.size) (h45 : (((d[0]'hz).toNat : Int) == 45) = false) (h48 : (((d[0]'hz).toNat : Int) == 48) = false ∨ ((((d[0]'hz).toNat : Int) == 48) = true ∧ (d.toList == [48]) = true)) (hb : ∃ j, ∃ h : j < d.size, ¬ (48 ≤ (d[j]'h).toNat ∧ (d[j]'h).toNat ≤ 57)) (hmax : d.size ≤ 140737488351232) :
    Calls Tryd.prog 54 #[.string d] w fun e w' => e = .returned (.tuple #[.int .i64 0, .int .i64 12]) ∧ Below w.heap.size w w' := by
  have HB := Lib.hid hb
  clear hb
  have g0 : decide ((0 : Int) < (d.size : Int)) = true := decide_eq_true (by omega)
  have g1 : ((d.size : Int) == 0) = false := by rw [beq_eq_false_iff_ne]; omega
  have g2 : (d.size == 0) = false := by rw [beq_eq_false_iff_ne]; omega
  rcases h48 with h48 | ⟨h48, hs0⟩
  all_goals
    go_enter Tryd.func54, Tryd.ntmps54
    go_wp2
    go_loop [5] (fun i => ∃ k : Nat, k ≤ d.size ∧ i = .int .i64 (k : Int) ∧ Hid (∀ j (h : j < d.size), j < k → 48 ≤ (d[j]'h).toNat ∧ (d[j]'h).toNat ≤ 57)) (fun i => d.size - (intOf i).toNat)
    case atStart => exact ⟨0, by omega, rfl, fun _ _ h => absurd h (by omega)⟩
    case round =>
      obtain ⟨k, hk, rfl, HD⟩ := hrel
      by_cases hlt : k < d.size
      · by_cases hg : 48 ≤ (d[k]'hlt).toNat ∧ (d[k]'hlt).toNat ≤ 57
        · have t1 : decide (((d[k]'hlt).toNat : Int) < 48) = false := by simp; omega
          have t2 : decide ((57 : Int) < ((d[k]'hlt).toNat : Int)) = false := by simp; omega
          have HD2 : Hid (∀ j (h : j < d.size), j < k + 1 → 48 ≤ (d[j]'h).toNat ∧ (d[j]'h).toNat ≤ 57) := fun j h hj => by
            by_cases e : j = k
            · subst e; exact hg
            · exact HD.out j h (by omega)
          clear hg
          go_wp2
          go_round
          case rel => exact ⟨k + 1, by omega, by go_num, HD2⟩
          case measure => simp [intOf]; omega
        · have t3 : (decide (((d[k]'hlt).toNat : Int) < 48) = true) ∨ (decide (((d[k]'hlt).toNat : Int) < 48) = false ∧ decide ((57 : Int) < ((d[k]'hlt).toNat : Int)) = true) := by simp; omega
          clear hg
          rcases t3 with t1 | ⟨t1, t2⟩
          all_goals
            go_wp2
            go_ret2
            exact ⟨rfl, Below.refl _ _⟩
      · obtain rfl : d.size = k := by omega
        obtain ⟨j, hj, hn⟩ := HB.out
        exact absurd (HD.out j hj hj) hn

set_option maxHeartbeats 400000 in
theorem rread_p_far (d : ByteArray) (w : World) (hz : 0 < d.size) (h45 : (((d[0]'hz).toNat : Int) == 45) = false) (h48 : (((d[0]'hz).toNat : Int) == 48) = false ∨ ((((d[0]'hz).toNat : Int) == 48) = true ∧ (d.toList == [48]) = true)) (ha : ∀ j (h : j < d.size), 48 ≤ (d[j]'h).toNat ∧ (d[j]'h).toNat ≤ 57) (hmax : d.size ≤ 140737488351232) (hfar : 19 < d.size) :
    Calls Tryd.prog 54 #[.string d] w fun e w' => e = .returned (.tuple #[.int .i64 0, .int .i64 13]) ∧ Below w.heap.size w w' := by
  have HA := Lib.hid ha
  clear ha
  have g0 : decide ((0 : Int) < (d.size : Int)) = true := decide_eq_true (by omega)
  have g1 : ((d.size : Int) == 0) = false := by rw [beq_eq_false_iff_ne]; omega
  have g2 : (d.size == 0) = false := by rw [beq_eq_false_iff_ne]; omega
  have g3 : decide ((19 : Int) < (d.size : Int)) = true := decide_eq_true (by omega)
  rcases h48 with h48 | ⟨h48, hs0⟩
  all_goals
    go_enter Tryd.func54, Tryd.ntmps54
    go_wp2
    go_loop [5] (fun i => ∃ k : Nat, k ≤ d.size ∧ i = .int .i64 (k : Int) ∧ Hid (∀ j (h : j < d.size), j < k → 48 ≤ (d[j]'h).toNat ∧ (d[j]'h).toNat ≤ 57)) (fun i => d.size - (intOf i).toNat)
    case atStart => exact ⟨0, by omega, rfl, fun _ _ h => absurd h (by omega)⟩
    case round =>
      obtain ⟨k, hk, rfl, HD⟩ := hrel
      by_cases hlt : k < d.size
      · by_cases hg : 48 ≤ (d[k]'hlt).toNat ∧ (d[k]'hlt).toNat ≤ 57
        · have t1 : decide (((d[k]'hlt).toNat : Int) < 48) = false := by simp; omega
          have t2 : decide ((57 : Int) < ((d[k]'hlt).toNat : Int)) = false := by simp; omega
          have HD2 : Hid (∀ j (h : j < d.size), j < k + 1 → 48 ≤ (d[j]'h).toNat ∧ (d[j]'h).toNat ≤ 57) := fun j h hj => by
            by_cases e : j = k
            · subst e; exact hg
            · exact HD.out j h (by omega)
          clear hg
          go_wp2
          go_round
          case rel => exact ⟨k + 1, by omega, by go_num, HD2⟩
          case measure => simp [intOf]; omega
        · exact absurd (HA.out k hlt) hg
      · obtain rfl : d.size = k := by omega
        go_wp2
        go_ret2
        exact ⟨rfl, Below.refl _ _⟩

set_option maxRecDepth 100000 in
set_option maxHeartbeats 4000000 in
theorem rread_p_near (d : ByteArray) (w : World) (hz : 0 < d.size) (h45 : (((d[0]'hz).toNat : Int) == 45) = false) (h48 : (((d[0]'hz).toNat : Int) == 48) = false ∨ ((((d[0]'hz).toNat : Int) == 48) = true ∧ (d.toList == [48]) = true)) (ha : ∀ j (h : j < d.size), 48 ≤ (d[j]'h).toNat ∧ (d[j]'h).toNat ≤ 57) (hnear : d.size ≤ 19) (D : Nat) (hD : Dec.dval 0 d.data.toList = D) (x y : Int)
    (hT : ∀ w, Calls Tryd.prog 95 #[.agg #[.bool false, .bool false, .int .u64 (D : Int)]] w fun e w' => e = .returned (.tuple #[.int .i64 x, .int .i64 y]) ∧ Below w.heap.size w w') :
    Calls Tryd.prog 54 #[.string d] w fun e w' => e = .returned (.tuple #[.int .i64 x, .int .i64 y]) ∧ Below w.heap.size w w' := by
  have HA := Lib.hid ha
  have HT := Lib.hid hT
  have hD := Lib.hid hD
  clear ha hT
  have g0 : decide ((0 : Int) < (d.size : Int)) = true := decide_eq_true (by omega)
  have g1 : ((d.size : Int) == 0) = false := by rw [beq_eq_false_iff_ne]; omega
  have g2 : (d.size == 0) = false := by rw [beq_eq_false_iff_ne]; omega
  have g3 : decide ((19 : Int) < (d.size : Int)) = false := decide_eq_false (by omega)
  rcases h48 with h48 | ⟨h48, hs0⟩
  all_goals
    go_enter Tryd.func54, Tryd.ntmps54
    go_wp2
    go_loop [5] (fun i => ∃ k : Nat, k ≤ d.size ∧ i = .int .i64 (k : Int) ∧ Hid (∀ j (h : j < d.size), j < k → 48 ≤ (d[j]'h).toNat ∧ (d[j]'h).toNat ≤ 57)) (fun i => d.size - (intOf i).toNat)
    case atStart => exact ⟨0, by omega, rfl, fun _ _ h => absurd h (by omega)⟩
    case round =>
      obtain ⟨k, hk, rfl, HD⟩ := hrel
      by_cases hlt : k < d.size
      · by_cases hg : 48 ≤ (d[k]'hlt).toNat ∧ (d[k]'hlt).toNat ≤ 57
        · have t1 : decide (((d[k]'hlt).toNat : Int) < 48) = false := by simp; omega
          have t2 : decide ((57 : Int) < ((d[k]'hlt).toNat : Int)) = false := by simp; omega
          have HD2 : Hid (∀ j (h : j < d.size), j < k + 1 → 48 ≤ (d[j]'h).toNat ∧ (d[j]'h).toNat ≤ 57) := fun j h hj => by
            by_cases e : j = k
            · subst e; exact hg
            · exact HD.out j h (by omega)
          clear hg
          go_wp2
          go_round
          case rel => exact ⟨k + 1, by omega, by go_num, HD2⟩
          case measure => simp [intOf]; omega
        · exact absurd (HA.out k hlt) hg
      · obtain rfl : d.size = k := by omega
        go_wp2
        have hB0 : (w.alloc (Obj.cells #[.bool false, .bool false, .int .u64 0] 99)).heap[w.heap.size]? = some (.cells #[.bool false, .bool false, .int .u64 ((Dec.dval 0 (d.data.toList.take 0) : Nat) : Int)] 99 (0, 0)) := heap_alloc_new _ _
        have hb0 : Below w.heap.size w (w.alloc (Obj.cells #[.bool false, .bool false, .int .u64 0] 99)) := (Below.refl _ _).alloc (Nat.le_refl _) _
        have hl0 : w.heap.size < (w.alloc (Obj.cells #[.bool false, .bool false, .int .u64 0] 99)).heap.size := by simp
        generalize w.alloc (Obj.cells #[.bool false, .bool false, .int .u64 0] 99) = W0 at *
        replace hB0 := Lib.hid hB0
        clear HD hk
        go_loopw [7] (fun iv wr => ∃ (k : Nat), k ≤ d.size ∧ iv = .int .i64 (k : Int) ∧ Hid (wr.heap[w.heap.size]? = some (.cells #[.bool false, .bool false, .int .u64 ((Dec.dval 0 (d.data.toList.take k) : Nat) : Int)] 99 (0, 0))) ∧ Below w.heap.size w wr ∧ w.heap.size < wr.heap.size) (fun iv _ => d.size - (intOf iv).toNat)
        case atStart => exact ⟨0, Nat.zero_le _, rfl, hB0, hb0, hl0⟩
        case round =>
          clear hB0 hb0 hl0
          obtain ⟨k, hk, rfl, HB, hb, hlt⟩ := hrel
          by_cases hkd : k < d.size
          · have hdk := HA.out k hkd
            have hV := dval_take_lt d k (by omega) HA.out
            have hp18 : 10 ^ k ≤ 10 ^ 18 := Nat.pow_le_pow_right (by omega) (by omega)
            have e18 : (10 : Nat) ^ 18 = 1000000000000000000 := by decide
            rw [e18] at hp18
            have HN := Lib.hid (dval_next d k hkd)
            have hV2 : Dec.dval 0 (d.data.toList.take k) < 1000000000000000000 := by omega
            clear hV hp18 e18
            generalize hV' : Dec.dval 0 (d.data.toList.take (k + 1)) = V' at *
            replace hV' := Lib.hid hV'
            generalize Dec.dval 0 (d.data.toList.take k) = V at *
            obtain ⟨x0, x1, x2⟩ := num_cells HB.out
            have HP : Hid (∀ w, Calls Tryd.prog 94 #[.agg #[.bool false, .bool false, .int .u64 (V : Int)], .agg #[.bool false, .bool false, .int .u64 10]] w fun e w' => e = .returned (.agg #[.bool false, .bool false, .int .u64 ((V * 10 : Nat) : Int)]) ∧ Below w.heap.size w w') := Lib.hid (fun w => prod_any false false false false V 10 (V * 10) w (by omega) (by decide) rfl (decide_eq_false (by omega)) (Nat.mod_eq_of_lt (by omega)))
            have HS : Hid (∀ w (x : Int), x = ((d[k].toNat - 48 : Nat) : Int) → Calls Tryd.prog 93 #[.agg #[.bool false, .bool false, .int .u64 ((V * 10 : Nat) : Int)], .agg #[.bool false, .bool false, .int .u64 x]] w fun e w' => e = .returned (.agg #[.bool false, .bool false, .int .u64 (V' : Int)]) ∧ Below w.heap.size w w') := Lib.hid (fun w x e => by
              rw [e, HN.out]
              exact sum_any false false false false false false (V * 10) (d[k].toNat - 48) (V * 10 + (d[k].toNat - 48)) w (by omega) (by omega) rfl (by unfold Ref.sumO; rw [decide_eq_false (by omega)]; rfl) (Nat.mod_eq_of_lt (by omega)))
            have hV3 : V * 10 < 18446744073709551616 := by omega
            generalize V * 10 = V10 at *
            have t1 : (48 : Int) ≤ (d[k].toNat : Int) := by omega
            have t2 : (d[k].toNat : Int) ≤ 57 := by omega
            have e5 : IntKind.u8.wrap ((d[k].toNat : Int) - 48) = (d[k].toNat : Int) - 48 := by simp [IntKind.wrap, IntKind.bits, IntKind.signed]; omega
            have e6 : IntKind.u64.wrap ((d[k].toNat : Int) - 48) = (d[k].toNat : Int) - 48 := by simp [IntKind.wrap, IntKind.bits, IntKind.signed]; omega
            clear HN
            go_wp2_with (fail)
            go_region_with (first
              | (go_at_call 94; refine (HP.out _).mono ?_; rintro e w2 ⟨rfl, hb2⟩; have hk2 := (hb2.block w.heap.size hlt).trans HB.out; have hl2 := Nat.lt_of_lt_of_le hlt hb2.size; have hs2 := hb.drew.trans (hb2.mono hb.size); replace hk2 := Lib.hid hk2)
              | (go_at_call 93; refine (HS.out _ _ (by omega)).mono ?_; rintro e w3 ⟨rfl, hb3⟩; have hk3 := (hb3.block w.heap.size hl2).trans hk2.out; have hl3 := Nat.lt_of_lt_of_le hl2 hb3.size; have hs3 := hs2.trans (hb3.mono hs2.size); obtain ⟨z0, z1, z2⟩ := num_cells hk3; obtain ⟨f0, f1, f2⟩ := num_frozen hk3; replace hk3 := Lib.hid hk3))
            all_goals
              go_wp2
              go_roundw
              case rel => exact ⟨k + 1, by omega, by go_num, Lib.hid (by rw [hV'.out]; exact num_set hk3.out), num_set_below hs3 (Nat.le_refl _), by simpa [World.setCell] using hl3⟩
              case measure => simp [intOf]; omega
          · obtain rfl : k = d.size := by omega
            have hVV : Dec.dval 0 (d.data.toList.take d.size) = D := by rw [List.take_of_length_le (by rw [← Lib.size_eq]; omega)]; exact hD.out
            have hk1 := HB.out
            rw [hVV] at hk1
            obtain ⟨x0, x1, x2⟩ := num_cells hk1
            obtain ⟨f0, f1, f2⟩ := num_frozen hk1
            clear hVV hk1
            go_wp2_with (fail)
            refine (HT.out _).mono ?_
            rintro e w5 ⟨rfl, hb5⟩
            go_wp2
            go_ret2
            exact ⟨rfl, Below.trans (hb.setCell (p := ⟨w.heap.size, 0, none⟩) (Nat.le_refl _) _) (hb5.mono (by have := hb.size; simpa [World.setCell] using this))⟩
end Go.Proofs.YtdbjmjeiaajdiaaDoor
