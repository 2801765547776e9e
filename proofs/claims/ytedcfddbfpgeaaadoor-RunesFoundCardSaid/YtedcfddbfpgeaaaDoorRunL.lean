/- The walk of quadrillelaw5.RunesFound. -/
import Derived.Test.YtedcfddbfpgeaaaDoorRunH
namespace Go.Proofs.YtedcfddbfpgeaaaDoor
open Go.RowKit
set_option linter.unusedVariables false

def cutS (s : ByteArray) : ByteArray := if 500 < s.size then s.extract 0 500 else s
theorem cutS_size (s : ByteArray) : (cutS s).size ≤ 500 := by
  unfold cutS
  by_cases h : 500 < s.size
  · rw [if_pos h, ByteArray.size_extract]; omega
  · rw [if_neg h]; omega
set_option maxRecDepth 100000 in
set_option maxHeartbeats 1000000 in
/-- The walk: what is cut is given by cases; Find's answer (a, b); what the loop sees at p. -/
theorem found_walk (what s wh t : ByteArray) (fr at0 c last : Nat) (a b : Int) (w : World) (hs : s.size ≤ 140737488351232) (hT : Lib.Utf8Tabs 0 1 w)
    (hfr : fr ≤ 255) (ht : cutS s = t) (hwh : cutS what = wh) (hts : t.size ≤ 500) (hws : wh.size ≤ 500) (hc : Run.cnt t 0 = c) (hct : c ≤ t.size)
    (hat : (fr : Int).tmod ((c : Int) + 2) = (at0 : Int)) (hat2 : at0 ≤ c) 
    (hF : ∀ w, Calls Tryd.prog 20 #[.string wh, .string t, .int .i64 ((at0 : Int) + 1)] w fun e w' => e = .returned (.tuple #[.int .i64 a, .int .i64 b]) ∧ Below w.heap.size w w')
    (hab : (a = (last : Int) ∧ b = 0 ∧ at0 + 1 ≤ last ∧ last ≤ c + 1) ∨ (a = 0 ∧ b = 3 ∧ last = c + 1))
    (hp : ∀ p, at0 ≤ p → p < last → (wh.size ≤ (t.extract (Run.adv t p 0) t.size).size ∧ (t.extract (Run.adv t p 0) t.size).extract 0 wh.size = wh ↔ b = 0 ∧ p + 1 = last)) :
    Calls Tryd.prog 4 #[.string what, .string s, .int .u8 (fr : Int)] w fun e w' => e = .returned (.bool true) ∧ Below w.heap.size w w' := by
  have H2 := Lib.hid (fun w => len_any t w (by omega))
  rw [hc] at H2
  have HF := Lib.hid hF
  have HP := Lib.hid hp
  have HC := Lib.hid hc
  clear hF hp hc
  have h1 : (500 < s.size ∧ s.extract 0 500 = t) ∨ (¬ 500 < s.size ∧ t = s) := by
    unfold cutS at ht
    by_cases h : 500 < s.size
    · exact .inl ⟨h, by rw [if_pos h] at ht; exact ht⟩
    · exact .inr ⟨h, by rw [if_neg h] at ht; exact ht.symm⟩
  have h2 : (500 < what.size ∧ what.extract 0 500 = wh) ∨ (¬ 500 < what.size ∧ wh = what) := by
    unfold cutS at hwh
    by_cases h : 500 < what.size
    · exact .inl ⟨h, by rw [if_pos h] at hwh; exact hwh⟩
    · exact .inr ⟨h, by rw [if_neg h] at hwh; exact hwh.symm⟩
  clear ht hwh
  have tc : decide (c < at0) = false := by simp; omega
  rcases h1 with ⟨h1, h1b⟩ | ⟨h1, rfl⟩
  all_goals rcases h2 with ⟨h2, h2b⟩ | ⟨h2, rfl⟩
  all_goals rcases hab with ⟨rfl, rfl, h3, h4⟩ | ⟨rfl, rfl, rfl⟩
  case inl.inl.inl =>
    go_enter Tryd.func4, Tryd.ntmps4
    go_wp2_with (fail)
    refine (begun5 w hT).mono ?_
    rintro e w1 ⟨rfl, hb1⟩
    go_wp2_with (fail)
    refine (H2.out _).mono ?_
    rintro e w2 ⟨rfl, hb2⟩
    replace hb2 := hb1.trans (hb2.mono hb1.size)
    clear hb1
    go_wp2_with (fail)
    refine (HF.out _).mono ?_
    rintro e w3 ⟨rfl, hb3⟩
    replace hb3 := hb2.trans (hb3.mono hb2.size)
    clear hb2
    go_wp2
    go_loopw [12] (fun p wr => ∃ (k : Nat), p = .int .i64 ((k : Int) + 1) ∧ at0 ≤ k ∧ k ≤ last ∧ Below w.heap.size w wr) (fun p _ => (last + 1 - (intOf p).toNat))
    case atStart => exact ⟨at0, rfl, by omega, by omega, hb3⟩
    case round =>
      obtain ⟨k, rfl, hk1, hk2, hbw⟩ := hrel
      by_cases hkl : k < last
      · have HK := Lib.hid (HP.out k hk1 hkl)
        have H7 : Hid (∀ w (x : Int), x = (c : Int) + 1 - ((k : Int) + 1) → Calls _ _ #[.string t, .int .i64 x] w _) := Lib.hid (fun w x e => by rw [e, show (c : Int) + 1 - ((k : Int) + 1) = ((c - k : Nat) : Int) by omega]; exact right_any t (c - k) (Run.adv t k 0) w (by omega) (by omega) (by rw [HC.out, show c - (c - k) = k by omega]))
        generalize t.extract (Run.adv t k 0) t.size = X at *
        go_wp2_with (fail)
        refine (H7.out _ _ (by omega)).mono ?_
        rintro e w4 ⟨rfl, hb4⟩
        replace hb4 := hbw.trans (hb4.mono hbw.size)
        clear hbw
        by_cases hl : k + 1 = last
        · obtain ⟨hx1, hx2⟩ := HK.out.2 ⟨by first | rfl | trivial, hl⟩
          have t1 : ((k : Int) + 1 == (last : Int)) = true := by rw [beq_iff_eq]; omega
          go_wp2
          go_roundw
          case rel => exact ⟨k + 1, by go_num, by omega, by omega, hb4⟩
          case measure => simp [intOf]; omega
        · have hx : ¬ (wh.size ≤ X.size ∧ X.extract 0 wh.size = wh) := fun h => hl (HK.out.1 h).2
          have t1 : ((k : Int) + 1 == (last : Int)) = false := by rw [beq_eq_false_iff_ne]; omega
          clear HK
          by_cases hx1 : wh.size ≤ X.size
          · have hx2 : ((X.extract 0 wh.size).toList == wh.toList) = false := by
              rw [beq_eq_false_iff_ne]
              intro e
              rw [Lib.toList_data, Lib.toList_data] at e
              exact hx ⟨hx1, ByteArray.ext (Array.ext' e)⟩
            clear hx
            go_wp2
            go_roundw
            case rel => exact ⟨k + 1, by go_num, by omega, by omega, hb4⟩
            case measure => simp [intOf]; omega
          · clear hx
            go_wp2
            go_roundw
            case rel => exact ⟨k + 1, by go_num, by omega, by omega, hb4⟩
            case measure => simp [intOf]; omega
      · obtain rfl : k = last := by omega
        have tl : decide ((at0 : Int) + 1 ≤ (k : Int)) = true := by simp; omega
        go_wp2
        go_ret
        first
          | exact ⟨rfl, hbw⟩
          | exact ⟨congrArg (fun b => Ending.returned (.bool b)) tl, hbw⟩
  case inl.inl.inr =>
    go_enter Tryd.func4, Tryd.ntmps4
    go_wp2_with (fail)
    refine (begun5 w hT).mono ?_
    rintro e w1 ⟨rfl, hb1⟩
    go_wp2_with (fail)
    refine (H2.out _).mono ?_
    rintro e w2 ⟨rfl, hb2⟩
    replace hb2 := hb1.trans (hb2.mono hb1.size)
    clear hb1
    go_wp2_with (fail)
    refine (HF.out _).mono ?_
    rintro e w3 ⟨rfl, hb3⟩
    replace hb3 := hb2.trans (hb3.mono hb2.size)
    clear hb2
    go_wp2
    go_loopw [12] (fun p wr => ∃ (k : Nat), p = .int .i64 ((k : Int) + 1) ∧ at0 ≤ k ∧ k ≤ c + 1 ∧ Below w.heap.size w wr) (fun p _ => (c + 1 + 1 - (intOf p).toNat))
    case atStart => exact ⟨at0, rfl, by omega, by omega, hb3⟩
    case round =>
      obtain ⟨k, rfl, hk1, hk2, hbw⟩ := hrel
      by_cases hkl : k < c + 1
      · have HK := Lib.hid (HP.out k hk1 hkl)
        have H7 : Hid (∀ w (x : Int), x = (c : Int) + 1 - ((k : Int) + 1) → Calls _ _ #[.string t, .int .i64 x] w _) := Lib.hid (fun w x e => by rw [e, show (c : Int) + 1 - ((k : Int) + 1) = ((c - k : Nat) : Int) by omega]; exact right_any t (c - k) (Run.adv t k 0) w (by omega) (by omega) (by rw [HC.out, show c - (c - k) = k by omega]))
        generalize t.extract (Run.adv t k 0) t.size = X at *
        go_wp2_with (fail)
        refine (H7.out _ _ (by omega)).mono ?_
        rintro e w4 ⟨rfl, hb4⟩
        replace hb4 := hbw.trans (hb4.mono hbw.size)
        clear hbw
        have hx : ¬ (wh.size ≤ X.size ∧ X.extract 0 wh.size = wh) := fun h => absurd (HK.out.1 h).1 (by decide)
        clear HK
        by_cases hx1 : wh.size ≤ X.size
        · have hx2 : ((X.extract 0 wh.size).toList == wh.toList) = false := by
            rw [beq_eq_false_iff_ne]
            intro e
            rw [Lib.toList_data, Lib.toList_data] at e
            exact hx ⟨hx1, ByteArray.ext (Array.ext' e)⟩
          clear hx
          go_wp2
          go_roundw
          case rel => exact ⟨k + 1, by go_num, by omega, by omega, hb4⟩
          case measure => simp [intOf]; omega
        · clear hx
          go_wp2
          go_roundw
          case rel => exact ⟨k + 1, by go_num, by omega, by omega, hb4⟩
          case measure => simp [intOf]; omega
      · obtain rfl : k = c + 1 := by omega
        go_wp2
        go_ret
        exact ⟨rfl, hbw⟩
  case inl.inr.inl =>
    go_enter Tryd.func4, Tryd.ntmps4
    go_wp2_with (fail)
    refine (begun5 w hT).mono ?_
    rintro e w1 ⟨rfl, hb1⟩
    go_wp2_with (fail)
    refine (H2.out _).mono ?_
    rintro e w2 ⟨rfl, hb2⟩
    replace hb2 := hb1.trans (hb2.mono hb1.size)
    clear hb1
    go_wp2_with (fail)
    refine (HF.out _).mono ?_
    rintro e w3 ⟨rfl, hb3⟩
    replace hb3 := hb2.trans (hb3.mono hb2.size)
    clear hb2
    go_wp2
    go_loopw [12] (fun p wr => ∃ (k : Nat), p = .int .i64 ((k : Int) + 1) ∧ at0 ≤ k ∧ k ≤ last ∧ Below w.heap.size w wr) (fun p _ => (last + 1 - (intOf p).toNat))
    case atStart => exact ⟨at0, rfl, by omega, by omega, hb3⟩
    case round =>
      obtain ⟨k, rfl, hk1, hk2, hbw⟩ := hrel
      by_cases hkl : k < last
      · have HK := Lib.hid (HP.out k hk1 hkl)
        have H7 : Hid (∀ w (x : Int), x = (c : Int) + 1 - ((k : Int) + 1) → Calls _ _ #[.string t, .int .i64 x] w _) := Lib.hid (fun w x e => by rw [e, show (c : Int) + 1 - ((k : Int) + 1) = ((c - k : Nat) : Int) by omega]; exact right_any t (c - k) (Run.adv t k 0) w (by omega) (by omega) (by rw [HC.out, show c - (c - k) = k by omega]))
        generalize t.extract (Run.adv t k 0) t.size = X at *
        go_wp2_with (fail)
        refine (H7.out _ _ (by omega)).mono ?_
        rintro e w4 ⟨rfl, hb4⟩
        replace hb4 := hbw.trans (hb4.mono hbw.size)
        clear hbw
        by_cases hl : k + 1 = last
        · obtain ⟨hx1, hx2⟩ := HK.out.2 ⟨by first | rfl | trivial, hl⟩
          have t1 : ((k : Int) + 1 == (last : Int)) = true := by rw [beq_iff_eq]; omega
          go_wp2
          go_roundw
          case rel => exact ⟨k + 1, by go_num, by omega, by omega, hb4⟩
          case measure => simp [intOf]; omega
        · have hx : ¬ (wh.size ≤ X.size ∧ X.extract 0 wh.size = wh) := fun h => hl (HK.out.1 h).2
          have t1 : ((k : Int) + 1 == (last : Int)) = false := by rw [beq_eq_false_iff_ne]; omega
          clear HK
          by_cases hx1 : wh.size ≤ X.size
          · have hx2 : ((X.extract 0 wh.size).toList == wh.toList) = false := by
              rw [beq_eq_false_iff_ne]
              intro e
              rw [Lib.toList_data, Lib.toList_data] at e
              exact hx ⟨hx1, ByteArray.ext (Array.ext' e)⟩
            clear hx
            go_wp2
            go_roundw
            case rel => exact ⟨k + 1, by go_num, by omega, by omega, hb4⟩
            case measure => simp [intOf]; omega
          · clear hx
            go_wp2
            go_roundw
            case rel => exact ⟨k + 1, by go_num, by omega, by omega, hb4⟩
            case measure => simp [intOf]; omega
      · obtain rfl : k = last := by omega
        have tl : decide ((at0 : Int) + 1 ≤ (k : Int)) = true := by simp; omega
        go_wp2
        go_ret
        first
          | exact ⟨rfl, hbw⟩
          | exact ⟨congrArg (fun b => Ending.returned (.bool b)) tl, hbw⟩
  case inl.inr.inr =>
    go_enter Tryd.func4, Tryd.ntmps4
    go_wp2_with (fail)
    refine (begun5 w hT).mono ?_
    rintro e w1 ⟨rfl, hb1⟩
    go_wp2_with (fail)
    refine (H2.out _).mono ?_
    rintro e w2 ⟨rfl, hb2⟩
    replace hb2 := hb1.trans (hb2.mono hb1.size)
    clear hb1
    go_wp2_with (fail)
    refine (HF.out _).mono ?_
    rintro e w3 ⟨rfl, hb3⟩
    replace hb3 := hb2.trans (hb3.mono hb2.size)
    clear hb2
    go_wp2
    go_loopw [12] (fun p wr => ∃ (k : Nat), p = .int .i64 ((k : Int) + 1) ∧ at0 ≤ k ∧ k ≤ c + 1 ∧ Below w.heap.size w wr) (fun p _ => (c + 1 + 1 - (intOf p).toNat))
    case atStart => exact ⟨at0, rfl, by omega, by omega, hb3⟩
    case round =>
      obtain ⟨k, rfl, hk1, hk2, hbw⟩ := hrel
      by_cases hkl : k < c + 1
      · have HK := Lib.hid (HP.out k hk1 hkl)
        have H7 : Hid (∀ w (x : Int), x = (c : Int) + 1 - ((k : Int) + 1) → Calls _ _ #[.string t, .int .i64 x] w _) := Lib.hid (fun w x e => by rw [e, show (c : Int) + 1 - ((k : Int) + 1) = ((c - k : Nat) : Int) by omega]; exact right_any t (c - k) (Run.adv t k 0) w (by omega) (by omega) (by rw [HC.out, show c - (c - k) = k by omega]))
        generalize t.extract (Run.adv t k 0) t.size = X at *
        go_wp2_with (fail)
        refine (H7.out _ _ (by omega)).mono ?_
        rintro e w4 ⟨rfl, hb4⟩
        replace hb4 := hbw.trans (hb4.mono hbw.size)
        clear hbw
        have hx : ¬ (wh.size ≤ X.size ∧ X.extract 0 wh.size = wh) := fun h => absurd (HK.out.1 h).1 (by decide)
        clear HK
        by_cases hx1 : wh.size ≤ X.size
        · have hx2 : ((X.extract 0 wh.size).toList == wh.toList) = false := by
            rw [beq_eq_false_iff_ne]
            intro e
            rw [Lib.toList_data, Lib.toList_data] at e
            exact hx ⟨hx1, ByteArray.ext (Array.ext' e)⟩
          clear hx
          go_wp2
          go_roundw
          case rel => exact ⟨k + 1, by go_num, by omega, by omega, hb4⟩
          case measure => simp [intOf]; omega
        · clear hx
          go_wp2
          go_roundw
          case rel => exact ⟨k + 1, by go_num, by omega, by omega, hb4⟩
          case measure => simp [intOf]; omega
      · obtain rfl : k = c + 1 := by omega
        go_wp2
        go_ret
        exact ⟨rfl, hbw⟩
  case inr.inl.inl =>
    go_enter Tryd.func4, Tryd.ntmps4
    go_wp2_with (fail)
    refine (begun5 w hT).mono ?_
    rintro e w1 ⟨rfl, hb1⟩
    go_wp2_with (fail)
    refine (H2.out _).mono ?_
    rintro e w2 ⟨rfl, hb2⟩
    replace hb2 := hb1.trans (hb2.mono hb1.size)
    clear hb1
    go_wp2_with (fail)
    refine (HF.out _).mono ?_
    rintro e w3 ⟨rfl, hb3⟩
    replace hb3 := hb2.trans (hb3.mono hb2.size)
    clear hb2
    go_wp2
    go_loopw [12] (fun p wr => ∃ (k : Nat), p = .int .i64 ((k : Int) + 1) ∧ at0 ≤ k ∧ k ≤ last ∧ Below w.heap.size w wr) (fun p _ => (last + 1 - (intOf p).toNat))
    case atStart => exact ⟨at0, rfl, by omega, by omega, hb3⟩
    case round =>
      obtain ⟨k, rfl, hk1, hk2, hbw⟩ := hrel
      by_cases hkl : k < last
      · have HK := Lib.hid (HP.out k hk1 hkl)
        have H7 : Hid (∀ w (x : Int), x = (c : Int) + 1 - ((k : Int) + 1) → Calls _ _ #[.string t, .int .i64 x] w _) := Lib.hid (fun w x e => by rw [e, show (c : Int) + 1 - ((k : Int) + 1) = ((c - k : Nat) : Int) by omega]; exact right_any t (c - k) (Run.adv t k 0) w (by omega) (by omega) (by rw [HC.out, show c - (c - k) = k by omega]))
        generalize t.extract (Run.adv t k 0) t.size = X at *
        go_wp2_with (fail)
        refine (H7.out _ _ (by omega)).mono ?_
        rintro e w4 ⟨rfl, hb4⟩
        replace hb4 := hbw.trans (hb4.mono hbw.size)
        clear hbw
        by_cases hl : k + 1 = last
        · obtain ⟨hx1, hx2⟩ := HK.out.2 ⟨by first | rfl | trivial, hl⟩
          have t1 : ((k : Int) + 1 == (last : Int)) = true := by rw [beq_iff_eq]; omega
          go_wp2
          go_roundw
          case rel => exact ⟨k + 1, by go_num, by omega, by omega, hb4⟩
          case measure => simp [intOf]; omega
        · have hx : ¬ (wh.size ≤ X.size ∧ X.extract 0 wh.size = wh) := fun h => hl (HK.out.1 h).2
          have t1 : ((k : Int) + 1 == (last : Int)) = false := by rw [beq_eq_false_iff_ne]; omega
          clear HK
          by_cases hx1 : wh.size ≤ X.size
          · have hx2 : ((X.extract 0 wh.size).toList == wh.toList) = false := by
              rw [beq_eq_false_iff_ne]
              intro e
              rw [Lib.toList_data, Lib.toList_data] at e
              exact hx ⟨hx1, ByteArray.ext (Array.ext' e)⟩
            clear hx
            go_wp2
            go_roundw
            case rel => exact ⟨k + 1, by go_num, by omega, by omega, hb4⟩
            case measure => simp [intOf]; omega
          · clear hx
            go_wp2
            go_roundw
            case rel => exact ⟨k + 1, by go_num, by omega, by omega, hb4⟩
            case measure => simp [intOf]; omega
      · obtain rfl : k = last := by omega
        have tl : decide ((at0 : Int) + 1 ≤ (k : Int)) = true := by simp; omega
        go_wp2
        go_ret
        first
          | exact ⟨rfl, hbw⟩
          | exact ⟨congrArg (fun b => Ending.returned (.bool b)) tl, hbw⟩
  case inr.inl.inr =>
    go_enter Tryd.func4, Tryd.ntmps4
    go_wp2_with (fail)
    refine (begun5 w hT).mono ?_
    rintro e w1 ⟨rfl, hb1⟩
    go_wp2_with (fail)
    refine (H2.out _).mono ?_
    rintro e w2 ⟨rfl, hb2⟩
    replace hb2 := hb1.trans (hb2.mono hb1.size)
    clear hb1
    go_wp2_with (fail)
    refine (HF.out _).mono ?_
    rintro e w3 ⟨rfl, hb3⟩
    replace hb3 := hb2.trans (hb3.mono hb2.size)
    clear hb2
    go_wp2
    go_loopw [12] (fun p wr => ∃ (k : Nat), p = .int .i64 ((k : Int) + 1) ∧ at0 ≤ k ∧ k ≤ c + 1 ∧ Below w.heap.size w wr) (fun p _ => (c + 1 + 1 - (intOf p).toNat))
    case atStart => exact ⟨at0, rfl, by omega, by omega, hb3⟩
    case round =>
      obtain ⟨k, rfl, hk1, hk2, hbw⟩ := hrel
      by_cases hkl : k < c + 1
      · have HK := Lib.hid (HP.out k hk1 hkl)
        have H7 : Hid (∀ w (x : Int), x = (c : Int) + 1 - ((k : Int) + 1) → Calls _ _ #[.string t, .int .i64 x] w _) := Lib.hid (fun w x e => by rw [e, show (c : Int) + 1 - ((k : Int) + 1) = ((c - k : Nat) : Int) by omega]; exact right_any t (c - k) (Run.adv t k 0) w (by omega) (by omega) (by rw [HC.out, show c - (c - k) = k by omega]))
        generalize t.extract (Run.adv t k 0) t.size = X at *
        go_wp2_with (fail)
        refine (H7.out _ _ (by omega)).mono ?_
        rintro e w4 ⟨rfl, hb4⟩
        replace hb4 := hbw.trans (hb4.mono hbw.size)
        clear hbw
        have hx : ¬ (wh.size ≤ X.size ∧ X.extract 0 wh.size = wh) := fun h => absurd (HK.out.1 h).1 (by decide)
        clear HK
        by_cases hx1 : wh.size ≤ X.size
        · have hx2 : ((X.extract 0 wh.size).toList == wh.toList) = false := by
            rw [beq_eq_false_iff_ne]
            intro e
            rw [Lib.toList_data, Lib.toList_data] at e
            exact hx ⟨hx1, ByteArray.ext (Array.ext' e)⟩
          clear hx
          go_wp2
          go_roundw
          case rel => exact ⟨k + 1, by go_num, by omega, by omega, hb4⟩
          case measure => simp [intOf]; omega
        · clear hx
          go_wp2
          go_roundw
          case rel => exact ⟨k + 1, by go_num, by omega, by omega, hb4⟩
          case measure => simp [intOf]; omega
      · obtain rfl : k = c + 1 := by omega
        go_wp2
        go_ret
        exact ⟨rfl, hbw⟩
  case inr.inr.inl =>
    go_enter Tryd.func4, Tryd.ntmps4
    go_wp2_with (fail)
    refine (begun5 w hT).mono ?_
    rintro e w1 ⟨rfl, hb1⟩
    go_wp2_with (fail)
    refine (H2.out _).mono ?_
    rintro e w2 ⟨rfl, hb2⟩
    replace hb2 := hb1.trans (hb2.mono hb1.size)
    clear hb1
    go_wp2_with (fail)
    refine (HF.out _).mono ?_
    rintro e w3 ⟨rfl, hb3⟩
    replace hb3 := hb2.trans (hb3.mono hb2.size)
    clear hb2
    go_wp2
    go_loopw [12] (fun p wr => ∃ (k : Nat), p = .int .i64 ((k : Int) + 1) ∧ at0 ≤ k ∧ k ≤ last ∧ Below w.heap.size w wr) (fun p _ => (last + 1 - (intOf p).toNat))
    case atStart => exact ⟨at0, rfl, by omega, by omega, hb3⟩
    case round =>
      obtain ⟨k, rfl, hk1, hk2, hbw⟩ := hrel
      by_cases hkl : k < last
      · have HK := Lib.hid (HP.out k hk1 hkl)
        have H7 : Hid (∀ w (x : Int), x = (c : Int) + 1 - ((k : Int) + 1) → Calls _ _ #[.string t, .int .i64 x] w _) := Lib.hid (fun w x e => by rw [e, show (c : Int) + 1 - ((k : Int) + 1) = ((c - k : Nat) : Int) by omega]; exact right_any t (c - k) (Run.adv t k 0) w (by omega) (by omega) (by rw [HC.out, show c - (c - k) = k by omega]))
        generalize t.extract (Run.adv t k 0) t.size = X at *
        go_wp2_with (fail)
        refine (H7.out _ _ (by omega)).mono ?_
        rintro e w4 ⟨rfl, hb4⟩
        replace hb4 := hbw.trans (hb4.mono hbw.size)
        clear hbw
        by_cases hl : k + 1 = last
        · obtain ⟨hx1, hx2⟩ := HK.out.2 ⟨by first | rfl | trivial, hl⟩
          have t1 : ((k : Int) + 1 == (last : Int)) = true := by rw [beq_iff_eq]; omega
          go_wp2
          go_roundw
          case rel => exact ⟨k + 1, by go_num, by omega, by omega, hb4⟩
          case measure => simp [intOf]; omega
        · have hx : ¬ (wh.size ≤ X.size ∧ X.extract 0 wh.size = wh) := fun h => hl (HK.out.1 h).2
          have t1 : ((k : Int) + 1 == (last : Int)) = false := by rw [beq_eq_false_iff_ne]; omega
          clear HK
          by_cases hx1 : wh.size ≤ X.size
          · have hx2 : ((X.extract 0 wh.size).toList == wh.toList) = false := by
              rw [beq_eq_false_iff_ne]
              intro e
              rw [Lib.toList_data, Lib.toList_data] at e
              exact hx ⟨hx1, ByteArray.ext (Array.ext' e)⟩
            clear hx
            go_wp2
            go_roundw
            case rel => exact ⟨k + 1, by go_num, by omega, by omega, hb4⟩
            case measure => simp [intOf]; omega
          · clear hx
            go_wp2
            go_roundw
            case rel => exact ⟨k + 1, by go_num, by omega, by omega, hb4⟩
            case measure => simp [intOf]; omega
      · obtain rfl : k = last := by omega
        have tl : decide ((at0 : Int) + 1 ≤ (k : Int)) = true := by simp; omega
        go_wp2
        go_ret
        first
          | exact ⟨rfl, hbw⟩
          | exact ⟨congrArg (fun b => Ending.returned (.bool b)) tl, hbw⟩
  case inr.inr.inr =>
    go_enter Tryd.func4, Tryd.ntmps4
    go_wp2_with (fail)
    refine (begun5 w hT).mono ?_
    rintro e w1 ⟨rfl, hb1⟩
    go_wp2_with (fail)
    refine (H2.out _).mono ?_
    rintro e w2 ⟨rfl, hb2⟩
    replace hb2 := hb1.trans (hb2.mono hb1.size)
    clear hb1
    go_wp2_with (fail)
    refine (HF.out _).mono ?_
    rintro e w3 ⟨rfl, hb3⟩
    replace hb3 := hb2.trans (hb3.mono hb2.size)
    clear hb2
    go_wp2
    go_loopw [12] (fun p wr => ∃ (k : Nat), p = .int .i64 ((k : Int) + 1) ∧ at0 ≤ k ∧ k ≤ c + 1 ∧ Below w.heap.size w wr) (fun p _ => (c + 1 + 1 - (intOf p).toNat))
    case atStart => exact ⟨at0, rfl, by omega, by omega, hb3⟩
    case round =>
      obtain ⟨k, rfl, hk1, hk2, hbw⟩ := hrel
      by_cases hkl : k < c + 1
      · have HK := Lib.hid (HP.out k hk1 hkl)
        have H7 : Hid (∀ w (x : Int), x = (c : Int) + 1 - ((k : Int) + 1) → Calls _ _ #[.string t, .int .i64 x] w _) := Lib.hid (fun w x e => by rw [e, show (c : Int) + 1 - ((k : Int) + 1) = ((c - k : Nat) : Int) by omega]; exact right_any t (c - k) (Run.adv t k 0) w (by omega) (by omega) (by rw [HC.out, show c - (c - k) = k by omega]))
        generalize t.extract (Run.adv t k 0) t.size = X at *
        go_wp2_with (fail)
        refine (H7.out _ _ (by omega)).mono ?_
        rintro e w4 ⟨rfl, hb4⟩
        replace hb4 := hbw.trans (hb4.mono hbw.size)
        clear hbw
        have hx : ¬ (wh.size ≤ X.size ∧ X.extract 0 wh.size = wh) := fun h => absurd (HK.out.1 h).1 (by decide)
        clear HK
        by_cases hx1 : wh.size ≤ X.size
        · have hx2 : ((X.extract 0 wh.size).toList == wh.toList) = false := by
            rw [beq_eq_false_iff_ne]
            intro e
            rw [Lib.toList_data, Lib.toList_data] at e
            exact hx ⟨hx1, ByteArray.ext (Array.ext' e)⟩
          clear hx
          go_wp2
          go_roundw
          case rel => exact ⟨k + 1, by go_num, by omega, by omega, hb4⟩
          case measure => simp [intOf]; omega
        · clear hx
          go_wp2
          go_roundw
          case rel => exact ⟨k + 1, by go_num, by omega, by omega, hb4⟩
          case measure => simp [intOf]; omega
      · obtain rfl : k = c + 1 := by omega
        go_wp2
        go_ret
        exact ⟨rfl, hbw⟩
end Go.Proofs.YtedcfddbfpgeaaaDoor
