/- Contracts of whole.Text and whole.Read at whatever numbers and texts (Read: of at most 2^47 bytes, as long as the form lets a text be). Of what was there nothing turns. The table of powers of ten and the error of the range stand as the program's text lays them. -/
import Derived.Test.YtdbjmjeiaajdiaaDoorShNum
import Derived.Test.YtdbjmjeiaajdiaaDoorDec
import Derived.WalkKit
import Derived.WalkSpells
import Derived.WalkLawsBesides
import Derived.WalkSmall
import Derived.Lib.Hide
namespace Go.Proofs.YtdbjmjeiaajdiaaDoor
open Go.RowKit
set_option linter.unusedVariables false

theorem gTen : Tryd.prog.globalNamed "internal/strconv.uint64pow10" = some 1 := by kernel_rfl
/-- What these calls ask of the world: the table of powers of ten; the variable of the range's error holds an error. -/
structure NumW (w : World) : Prop where
  tab : Lib.TabIs Tryd.prog w "internal/strconv.uint64pow10" .u64 Lib.pow10Tab
  rng : ∃ te pe, w.cell? ⟨3, 0, none⟩ = some (.iface te pe)
  low : 1 < w.heap.size
theorem NumW.below {w w' : World} (h : NumW w) (hb : Below w.heap.size w w') : NumW w' := by
  obtain ⟨ht, ⟨te, pe, hc⟩, hl⟩ := h
  have hl2 := World.block_lt_of_cell? w _ hc
  exact ⟨var?_below hb gTen hl ht, ⟨te, pe, (hb.cell hl2).trans hc⟩, Nat.lt_of_lt_of_le hl hb.size⟩
theorem below_grown (w : World) (k : Nat) (os : Array Obj) : Below w.heap.size w (Sort.grow (w.drewN k) os) :=
  ⟨rfl, rfl, rfl, by simp [Sort.grow, World.drewN], fun i hi => by
    show (w.heap ++ os)[i]? = _
    rw [Array.getElem?_append_left hi]⟩

theorem text_any (n : Int) (w : World) (h0 : -9223372036854775808 ≤ n) (h1 : n ≤ 9223372036854775807) (hN : NumW w) :
    Calls Tryd.prog 29 #[.int .i64 n] w fun e w' => e = .returned (.string ⟨(Lib.itoa n).toArray⟩) ∧ Below w.heap.size w w' := by
  have HF := Lib.hid (Tryd.strconv_FormatInt_10 n h0 h1 w hN.tab)
  go_enter Tryd.func29, Tryd.ntmps29
  go_wp2_with (fail)
  refine HF.out.mono ?_
  rintro e w' ⟨rfl, k, os, rfl⟩
  have hb := below_grown w k os
  generalize Sort.grow (w.drewN k) os = w1 at *
  go_wp2
  go_ret
  exact ⟨rfl, hb⟩

/-! ### Read -/
/-- The bytes of a text, one by one. -/
theorem get_list (s : ByteArray) (k : Nat) (h : k < s.size) : s.data.toList[k]'(by simpa using h) = s[k] := rfl
theorem read_empty (w : World) (s : ByteArray) (e0 : s.toList = []) : Calls Tryd.prog 31 #[.string s] w fun e w' => e = .returned (.tuple #[.int .i64 0, .int .i64 12]) ∧ Below w.heap.size w w' := by
  go_enter Tryd.func31, Tryd.ntmps31
  go_wp2
  go_ret2
  exact ⟨rfl, Below.refl _ _⟩

theorem read_m_none (s d : ByteArray) (w : World) (e0 : s.toList.isEmpty = false) (e1 : ¬ s.toList = []) (hz : 0 < s.size) (h45 : (((s[0]'hz).toNat : Int) == 45) = true) (hd : s.extract 1 s.size = d) (hsz : s.size - 1 = d.size) (f0 : d.toList = []) :
    Calls Tryd.prog 31 #[.string s] w fun e w' => e = .returned (.tuple #[.int .i64 0, .int .i64 12]) ∧ Below w.heap.size w w' := by
  go_enter Tryd.func31, Tryd.ntmps31
  go_wp2
  go_ret2
  exact ⟨rfl, Below.refl _ _⟩

theorem read_m_idle (s d : ByteArray) (w : World) (e0 : s.toList.isEmpty = false) (e1 : ¬ s.toList = []) (hz : 0 < s.size) (h45 : (((s[0]'hz).toNat : Int) == 45) = true) (hd : s.extract 1 s.size = d) (hsz : s.size - 1 = d.size) (f0 : d.toList.isEmpty = false) (f1 : ¬ d.toList = []) (hdz : 0 < d.size) (h48 : (((d[0]'hdz).toNat : Int) == 48) = true) (hs0 : (s.toList == [48]) = false) :
    Calls Tryd.prog 31 #[.string s] w fun e w' => e = .returned (.tuple #[.int .i64 0, .int .i64 12]) ∧ Below w.heap.size w w' := by
  go_enter Tryd.func31, Tryd.ntmps31
  go_wp2
  go_ret2
  exact ⟨rfl, Below.refl _ _⟩

set_option maxHeartbeats 400000 in
theorem read_m_bad (s d : ByteArray) (w : World) (e0 : s.toList.isEmpty = false) (e1 : ¬ s.toList = []) (hz : 0 < s.size) (h45 : (((s[0]'hz).toNat : Int) == 45) = true) (hd : s.extract 1 s.size = d) (hsz : s.size - 1 = d.size) (f0 : d.toList.isEmpty = false) (f1 : ¬ d.toList = []) (hdz : 0 < d.size) (h48 : (((d[0]'hdz).toNat : Int) == 48) = false ∨ ((((d[0]'hdz).toNat : Int) == 48) = true ∧ (s.toList == [48]) = true)) (hb : ∃ j, ∃ h : j < d.size, ¬ (48 ≤ (d[j]'h).toNat ∧ (d[j]'h).toNat ≤ 57)) (hmax : d.size ≤ 140737488351232) :
    Calls Tryd.prog 31 #[.string s] w fun e w' => e = .returned (.tuple #[.int .i64 0, .int .i64 12]) ∧ Below w.heap.size w w' := by
  have HB := Lib.hid hb
  clear hb
  rcases h48 with h48 | ⟨h48, hs0⟩
  all_goals
    go_enter Tryd.func31, Tryd.ntmps31
    go_wp2
    go_loop [31] (fun i => ∃ k : Nat, k ≤ d.size ∧ i = .int .i64 (k : Int) ∧ Hid (∀ j (h : j < d.size), j < k → 48 ≤ (d[j]'h).toNat ∧ (d[j]'h).toNat ≤ 57)) (fun i => d.size - (intOf i).toNat)
    case atStart => exact ⟨0, by omega, rfl, fun _ _ h => absurd h (by omega)⟩
    case round =>
      obtain ⟨k, hk, rfl, HD⟩ := hrel
      by_cases hlt : k < d.size
      · by_cases hg : 48 ≤ (d[k]'hlt).toNat ∧ (d[k]'hlt).toNat ≤ 57
        · have t1 : decide (((d[k]'hlt).toNat : Int) < 48) = false := by simp; omega
          have t2 : decide ((57 : Int) < ((d[k]'hlt).toNat : Int)) = false := by simp; omega
          have HD2 : Hid (∀ j (h : j < d.size), j < k + 1 → 48 ≤ (d[j]'h).toNat ∧ (d[j]'h).toNat ≤ 57) := fun j h hj => by
            by_cases e : j = k
            · subst e; exact hg
            · exact HD.out j h (by omega)
          clear hg
          go_wp2
          go_round
          case rel => exact ⟨k + 1, by omega, by go_num, HD2⟩
          case measure => simp [intOf]; omega
        · have t3 : (decide (((d[k]'hlt).toNat : Int) < 48) = true) ∨ (decide (((d[k]'hlt).toNat : Int) < 48) = false ∧ decide ((57 : Int) < ((d[k]'hlt).toNat : Int)) = true) := by simp; omega
          clear hg
          rcases t3 with t1 | ⟨t1, t2⟩
          all_goals
            go_wp2
            go_ret2
            exact ⟨rfl, Below.refl _ _⟩
      · obtain rfl : d.size = k := by omega
        obtain ⟨j, hj, hn⟩ := HB.out
        exact absurd (HD.out j hj hj) hn

set_option maxHeartbeats 400000 in
theorem read_m_ok (s d : ByteArray) (w : World) (e0 : s.toList.isEmpty = false) (e1 : ¬ s.toList = []) (hz : 0 < s.size) (h45 : (((s[0]'hz).toNat : Int) == 45) = true) (hd : s.extract 1 s.size = d) (hsz : s.size - 1 = d.size) (f0 : d.toList.isEmpty = false) (f1 : ¬ d.toList = []) (hdz : 0 < d.size) (h48 : (((d[0]'hdz).toNat : Int) == 48) = false ∨ ((((d[0]'hdz).toNat : Int) == 48) = true ∧ (s.toList == [48]) = true)) (ha : ∀ j (h : j < d.size), 48 ≤ (d[j]'h).toNat ∧ (d[j]'h).toNat ≤ 57) (hmax : d.size ≤ 140737488351232) (x : Int) (hp : ∀ w, Calls Tryd.prog 63 #[.string s, .int .i64 10, .int .i64 64] w fun e w' => e = .returned (.tuple #[.int .i64 x, .nilIface]) ∧ Below w.heap.size w w') :
    Calls Tryd.prog 31 #[.string s] w fun e w' => e = .returned (.tuple #[.int .i64 x, .int .i64 0]) ∧ Below w.heap.size w w' := by
  have HA := Lib.hid ha
  have HP := Lib.hid hp
  clear ha hp
  rcases h48 with h48 | ⟨h48, hs0⟩
  all_goals
    go_enter Tryd.func31, Tryd.ntmps31
    go_wp2
    go_loop [31] (fun i => ∃ k : Nat, k ≤ d.size ∧ i = .int .i64 (k : Int) ∧ Hid (∀ j (h : j < d.size), j < k → 48 ≤ (d[j]'h).toNat ∧ (d[j]'h).toNat ≤ 57)) (fun i => d.size - (intOf i).toNat)
    case atStart => exact ⟨0, by omega, rfl, fun _ _ h => absurd h (by omega)⟩
    case round =>
      obtain ⟨k, hk, rfl, HD⟩ := hrel
      by_cases hlt : k < d.size
      · by_cases hg : 48 ≤ (d[k]'hlt).toNat ∧ (d[k]'hlt).toNat ≤ 57
        · have t1 : decide (((d[k]'hlt).toNat : Int) < 48) = false := by simp; omega
          have t2 : decide ((57 : Int) < ((d[k]'hlt).toNat : Int)) = false := by simp; omega
          have HD2 : Hid (∀ j (h : j < d.size), j < k + 1 → 48 ≤ (d[j]'h).toNat ∧ (d[j]'h).toNat ≤ 57) := fun j h hj => by
            by_cases e : j = k
            · subst e; exact hg
            · exact HD.out j h (by omega)
          clear hg
          go_wp2
          go_round
          case rel => exact ⟨k + 1, by omega, by go_num, HD2⟩
          case measure => simp [intOf]; omega
        · exact absurd (HA.out k hlt) hg
      · obtain rfl : d.size = k := by omega
        go_wp2_with (fail)
        refine (HP.out w).mono ?_
        rintro e w' ⟨rfl, hb⟩
        go_wp2
        go_ret2
        exact ⟨rfl, hb⟩

set_option maxHeartbeats 400000 in
theorem read_m_range (s d : ByteArray) (w : World) (e0 : s.toList.isEmpty = false) (e1 : ¬ s.toList = []) (hz : 0 < s.size) (h45 : (((s[0]'hz).toNat : Int) == 45) = true) (hd : s.extract 1 s.size = d) (hsz : s.size - 1 = d.size) (f0 : d.toList.isEmpty = false) (f1 : ¬ d.toList = []) (hdz : 0 < d.size) (h48 : (((d[0]'hdz).toNat : Int) == 48) = false ∨ ((((d[0]'hdz).toNat : Int) == 48) = true ∧ (s.toList == [48]) = true)) (ha : ∀ j (h : j < d.size), 48 ≤ (d[j]'h).toNat ∧ (d[j]'h).toNat ≤ 57) (hmax : d.size ≤ 140737488351232) (hp : Calls Tryd.prog 63 #[.string s, .int .i64 10, .int .i64 64] w fun e w' => ∃ (x : Int) (t : TypeId) (N : Nat), e = .returned (.tuple #[.int .i64 x, .iface t (.pointer (some ⟨N, 0, none⟩))]) ∧ Below w.heap.size w w') :
    Calls Tryd.prog 31 #[.string s] w fun e w' => e = .returned (.tuple #[.int .i64 0, .int .i64 13]) ∧ Below w.heap.size w w' := by
  have HA := Lib.hid ha
  have HP := Lib.hid hp
  clear ha hp
  rcases h48 with h48 | ⟨h48, hs0⟩
  all_goals
    go_enter Tryd.func31, Tryd.ntmps31
    go_wp2
    go_loop [31] (fun i => ∃ k : Nat, k ≤ d.size ∧ i = .int .i64 (k : Int) ∧ Hid (∀ j (h : j < d.size), j < k → 48 ≤ (d[j]'h).toNat ∧ (d[j]'h).toNat ≤ 57)) (fun i => d.size - (intOf i).toNat)
    case atStart => exact ⟨0, by omega, rfl, fun _ _ h => absurd h (by omega)⟩
    case round =>
      obtain ⟨k, hk, rfl, HD⟩ := hrel
      by_cases hlt : k < d.size
      · by_cases hg : 48 ≤ (d[k]'hlt).toNat ∧ (d[k]'hlt).toNat ≤ 57
        · have t1 : decide (((d[k]'hlt).toNat : Int) < 48) = false := by simp; omega
          have t2 : decide ((57 : Int) < ((d[k]'hlt).toNat : Int)) = false := by simp; omega
          have HD2 : Hid (∀ j (h : j < d.size), j < k + 1 → 48 ≤ (d[j]'h).toNat ∧ (d[j]'h).toNat ≤ 57) := fun j h hj => by
            by_cases e : j = k
            · subst e; exact hg
            · exact HD.out j h (by omega)
          clear hg
          go_wp2
          go_round
          case rel => exact ⟨k + 1, by omega, by go_num, HD2⟩
          case measure => simp [intOf]; omega
        · exact absurd (HA.out k hlt) hg
      · obtain rfl : d.size = k := by omega
        go_wp2_with (fail)
        refine (HP.out).mono ?_
        rintro e w' ⟨x, t, N, rfl, hb⟩
        go_wp2
        go_ret2
        exact ⟨rfl, hb⟩

theorem read_p_idle (d : ByteArray) (w : World) (e0 : d.toList.isEmpty = false) (e1 : ¬ d.toList = []) (hz : 0 < d.size) (h45 : (((d[0]'hz).toNat : Int) == 45) = false) (h48 : (((d[0]'hz).toNat : Int) == 48) = true) (hs0 : (d.toList == [48]) = false) :
    Calls Tryd.prog 31 #[.string d] w fun e w' => e = .returned (.tuple #[.int .i64 0, .int .i64 12]) ∧ Below w.heap.size w w' := by
  go_enter Tryd.func31, Tryd.ntmps31
  go_wp2
  go_ret2
  exact ⟨rfl, Below.refl _ _⟩

set_option maxHeartbeats 400000 in
theorem read_p_bad (d : ByteArray) (w : World) (e0 : d.toList.isEmpty = false) (e1 : ¬ d.toList = []) (hz : 0 < d.size) (h45 : (((d[0]'hz).toNat : Int) == 45) = false) (h48 : (((d[0]'hz).toNat : Int) == 48) = false ∨ ((((d[0]'hz).toNat : Int) == 48) = true ∧ (d.toList == [48]) = true)) (hb : ∃ j, ∃ h : j < d.size, ¬ (48 ≤ (d[j]'h).toNat ∧ (d[j]'h).toNat ≤ 57)) (hmax : d.size ≤ 140737488351232) :
    Calls Tryd.prog 31 #[.string d] w fun e w' => e = .returned (.tuple #[.int .i64 0, .int .i64 12]) ∧ Below w.heap.size w w' := by
  have HB := Lib.hid hb
  clear hb
  rcases h48 with h48 | ⟨h48, hs0⟩
  all_goals
    go_enter Tryd.func31, Tryd.ntmps31
    go_wp2
    go_loop [31] (fun i => ∃ k : Nat, k ≤ d.size ∧ i = .int .i64 (k : Int) ∧ Hid (∀ j (h : j < d.size), j < k → 48 ≤ (d[j]'h).toNat ∧ (d[j]'h).toNat ≤ 57)) (fun i => d.size - (intOf i).toNat)
    case atStart => exact ⟨0, by omega, rfl, fun _ _ h => absurd h (by omega)⟩
    case round =>
      obtain ⟨k, hk, rfl, HD⟩ := hrel
      by_cases hlt : k < d.size
      · by_cases hg : 48 ≤ (d[k]'hlt).toNat ∧ (d[k]'hlt).toNat ≤ 57
        · have t1 : decide (((d[k]'hlt).toNat : Int) < 48) = false := by simp; omega
          have t2 : decide ((57 : Int) < ((d[k]'hlt).toNat : Int)) = false := by simp; omega
          have HD2 : Hid (∀ j (h : j < d.size), j < k + 1 → 48 ≤ (d[j]'h).toNat ∧ (d[j]'h).toNat ≤ 57) := fun j h hj => by
            by_cases e : j = k
            · subst e; exact hg
            · exact HD.out j h (by omega)
          clear hg
          go_wp2
          go_round
          case rel => exact ⟨k + 1, by omega, by go_num, HD2⟩
          case measure => simp [intOf]; omega
        · have t3 : (decide (((d[k]'hlt).toNat : Int) < 48) = true) ∨ (decide (((d[k]'hlt).toNat : Int) < 48) = false ∧ decide ((57 : Int) < ((d[k]'hlt).toNat : Int)) = true) := by simp; omega
          clear hg
          rcases t3 with t1 | ⟨t1, t2⟩
          all_goals
            go_wp2
            go_ret2
            exact ⟨rfl, Below.refl _ _⟩
      · obtain rfl : d.size = k := by omega
        obtain ⟨j, hj, hn⟩ := HB.out
        exact absurd (HD.out j hj hj) hn

set_option maxHeartbeats 400000 in
theorem read_p_ok (d : ByteArray) (w : World) (e0 : d.toList.isEmpty = false) (e1 : ¬ d.toList = []) (hz : 0 < d.size) (h45 : (((d[0]'hz).toNat : Int) == 45) = false) (h48 : (((d[0]'hz).toNat : Int) == 48) = false ∨ ((((d[0]'hz).toNat : Int) == 48) = true ∧ (d.toList == [48]) = true)) (ha : ∀ j (h : j < d.size), 48 ≤ (d[j]'h).toNat ∧ (d[j]'h).toNat ≤ 57) (hmax : d.size ≤ 140737488351232) (x : Int) (hp : ∀ w, Calls Tryd.prog 63 #[.string d, .int .i64 10, .int .i64 64] w fun e w' => e = .returned (.tuple #[.int .i64 x, .nilIface]) ∧ Below w.heap.size w w') :
    Calls Tryd.prog 31 #[.string d] w fun e w' => e = .returned (.tuple #[.int .i64 x, .int .i64 0]) ∧ Below w.heap.size w w' := by
  have HA := Lib.hid ha
  have HP := Lib.hid hp
  clear ha hp
  rcases h48 with h48 | ⟨h48, hs0⟩
  all_goals
    go_enter Tryd.func31, Tryd.ntmps31
    go_wp2
    go_loop [31] (fun i => ∃ k : Nat, k ≤ d.size ∧ i = .int .i64 (k : Int) ∧ Hid (∀ j (h : j < d.size), j < k → 48 ≤ (d[j]'h).toNat ∧ (d[j]'h).toNat ≤ 57)) (fun i => d.size - (intOf i).toNat)
    case atStart => exact ⟨0, by omega, rfl, fun _ _ h => absurd h (by omega)⟩
    case round =>
      obtain ⟨k, hk, rfl, HD⟩ := hrel
      by_cases hlt : k < d.size
      · by_cases hg : 48 ≤ (d[k]'hlt).toNat ∧ (d[k]'hlt).toNat ≤ 57
        · have t1 : decide (((d[k]'hlt).toNat : Int) < 48) = false := by simp; omega
          have t2 : decide ((57 : Int) < ((d[k]'hlt).toNat : Int)) = false := by simp; omega
          have HD2 : Hid (∀ j (h : j < d.size), j < k + 1 → 48 ≤ (d[j]'h).toNat ∧ (d[j]'h).toNat ≤ 57) := fun j h hj => by
            by_cases e : j = k
            · subst e; exact hg
            · exact HD.out j h (by omega)
          clear hg
          go_wp2
          go_round
          case rel => exact ⟨k + 1, by omega, by go_num, HD2⟩
          case measure => simp [intOf]; omega
        · exact absurd (HA.out k hlt) hg
      · obtain rfl : d.size = k := by omega
        go_wp2_with (fail)
        refine (HP.out w).mono ?_
        rintro e w' ⟨rfl, hb⟩
        go_wp2
        go_ret2
        exact ⟨rfl, hb⟩

set_option maxHeartbeats 400000 in
theorem read_p_range (d : ByteArray) (w : World) (e0 : d.toList.isEmpty = false) (e1 : ¬ d.toList = []) (hz : 0 < d.size) (h45 : (((d[0]'hz).toNat : Int) == 45) = false) (h48 : (((d[0]'hz).toNat : Int) == 48) = false ∨ ((((d[0]'hz).toNat : Int) == 48) = true ∧ (d.toList == [48]) = true)) (ha : ∀ j (h : j < d.size), 48 ≤ (d[j]'h).toNat ∧ (d[j]'h).toNat ≤ 57) (hmax : d.size ≤ 140737488351232) (hp : Calls Tryd.prog 63 #[.string d, .int .i64 10, .int .i64 64] w fun e w' => ∃ (x : Int) (t : TypeId) (N : Nat), e = .returned (.tuple #[.int .i64 x, .iface t (.pointer (some ⟨N, 0, none⟩))]) ∧ Below w.heap.size w w') :
    Calls Tryd.prog 31 #[.string d] w fun e w' => e = .returned (.tuple #[.int .i64 0, .int .i64 13]) ∧ Below w.heap.size w w' := by
  have HA := Lib.hid ha
  have HP := Lib.hid hp
  clear ha hp
  rcases h48 with h48 | ⟨h48, hs0⟩
  all_goals
    go_enter Tryd.func31, Tryd.ntmps31
    go_wp2
    go_loop [31] (fun i => ∃ k : Nat, k ≤ d.size ∧ i = .int .i64 (k : Int) ∧ Hid (∀ j (h : j < d.size), j < k → 48 ≤ (d[j]'h).toNat ∧ (d[j]'h).toNat ≤ 57)) (fun i => d.size - (intOf i).toNat)
    case atStart => exact ⟨0, by omega, rfl, fun _ _ h => absurd h (by omega)⟩
    case round =>
      obtain ⟨k, hk, rfl, HD⟩ := hrel
      by_cases hlt : k < d.size
      · by_cases hg : 48 ≤ (d[k]'hlt).toNat ∧ (d[k]'hlt).toNat ≤ 57
        · have t1 : decide (((d[k]'hlt).toNat : Int) < 48) = false := by simp; omega
          have t2 : decide ((57 : Int) < ((d[k]'hlt).toNat : Int)) = false := by simp; omega
          have HD2 : Hid (∀ j (h : j < d.size), j < k + 1 → 48 ≤ (d[j]'h).toNat ∧ (d[j]'h).toNat ≤ 57) := fun j h hj => by
            by_cases e : j = k
            · subst e; exact hg
            · exact HD.out j h (by omega)
          clear hg
          go_wp2
          go_round
          case rel => exact ⟨k + 1, by omega, by go_num, HD2⟩
          case measure => simp [intOf]; omega
        · exact absurd (HA.out k hlt) hg
      · obtain rfl : d.size = k := by omega
        go_wp2_with (fail)
        refine (HP.out).mono ?_
        rintro e w' ⟨x, t, N, rfl, hb⟩
        go_wp2
        go_ret2
        exact ⟨rfl, hb⟩
end Go.Proofs.YtdbjmjeiaajdiaaDoor
