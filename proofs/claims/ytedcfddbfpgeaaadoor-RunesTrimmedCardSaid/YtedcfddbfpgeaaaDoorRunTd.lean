/- The walk of quadrillelaw5.RunesTrimmed. -/
import Derived.Test.YtedcfddbfpgeaaaDoorRunH
import Derived.Test.YtedcfddbfpgeaaaDoorRunTr
import Derived.Deep.QuietTactic
import Derived.BigQuiet
namespace Go.Proofs.YtedcfddbfpgeaaaDoor
open Go.RowKit
set_option linter.unusedVariables false

theorem up_low_all : ∀ n : Fin 256, upB (lowB (UInt8.ofNat n.val)) = upB (UInt8.ofNat n.val) := by decide +kernel
theorem low_up_all : ∀ n : Fin 256, lowB (upB (UInt8.ofNat n.val)) = lowB (UInt8.ofNat n.val) := by decide +kernel
theorem byte_back (c : UInt8) : UInt8.ofNat c.toNat = c := by simp
theorem up_low (c : UInt8) : upB (lowB c) = upB c := by have := up_low_all ⟨c.toNat, UInt8.toNat_lt c⟩; rwa [byte_back] at this
theorem low_up (c : UInt8) : lowB (upB c) = lowB c := by have := low_up_all ⟨c.toNat, UInt8.toNat_lt c⟩; rwa [byte_back] at this
theorem each_up_low (s : ByteArray) : eachS upB (eachS lowB s) = eachS upB s := by
  unfold eachS; simp only [List.map_map]
  rw [show upB ∘ lowB = upB from funext up_low]
theorem each_low_up (s : ByteArray) : eachS lowB (eachS upB s) = eachS lowB s := by
  unfold eachS; simp only [List.map_map]
  rw [show lowB ∘ upB = lowB from funext low_up]
theorem trimS_list (s : ByteArray) : (trimS s).data.toList = Tr.trimL s.data.toList := rfl
theorem trimS_trimS (s : ByteArray) : trimS (trimS s) = trimS s := by
  unfold trimS
  rw [show (⟨(Tr.trimL s.data.toList).toArray⟩ : ByteArray).data.toList = Tr.trimL s.data.toList from rfl, Tr.trim_trim]
theorem trimS_size (s : ByteArray) : (trimS s).size ≤ s.size := by
  rw [Lib.size_eq, Lib.size_eq, trimS_list]; exact Tr.trim_length _
/-- No blank at the ends, none beside another: at each place. -/
theorem trim_at (s : ByteArray) (i : Nat) (h : i < (trimS s).size) (e : (trimS s)[i] = 32) : i + 1 ≠ (trimS s).size ∧ ∃ m, ∃ hm : i = m + 1, (trimS s)[m]'(by omega) ≠ 32 := by
  have hl : (trimS s).data.toList.length = (trimS s).size := (Lib.size_eq _).symm
  have hi : i < (Tr.trimL s.data.toList).length := by rw [← trimS_list, hl]; exact h
  rcases Tr.nb_trim s.data.toList with hn | hn
  · obtain ⟨h1, h2, h3⟩ := Tr.nb_at _ true hn i hi e
    refine ⟨by rw [← hl, trimS_list]; exact h3, ?_⟩
    match i, h, hi, h1, h2 with
    | 0, _, _, _, h2 => exact absurd (h2 rfl) (by simp)
    | m + 1, h, hi, h1, _ =>
      refine ⟨m, rfl, fun e2 => h1 (by omega) ?_⟩
      rw [Nat.add_sub_cancel, List.getElem?_eq_getElem (by omega)]
      exact congrArg some e2
  · rw [hn] at hi; exact absurd hi (Nat.not_lt_zero i)
theorem solid_other (s : ByteArray) (k : Nat) (h : k < s.size) (e : s[k] ≠ 32) : Tr.solid (s.data.toList.drop k) = s[k] :: Tr.solid (s.data.toList.drop (k + 1)) :=
  Tr.solid_drop_other _ k (by rw [← Lib.size_eq]; exact h) e
theorem solid_blank (s : ByteArray) (k : Nat) (h : k < s.size) (e : s[k] = 32) : Tr.solid (s.data.toList.drop k) = Tr.solid (s.data.toList.drop (k + 1)) :=
  Tr.solid_drop_blank _ k (by rw [← Lib.size_eq]; exact h) e
theorem solid_over (s : ByteArray) (k : Nat) (h : ¬ k < s.size) : Tr.solid (s.data.toList.drop k) = [] := by
  rw [List.drop_of_length_le (by rw [← Lib.size_eq]; omega)]; rfl

theorem below_drewN' (B : Nat) (w : World) (n : Nat) : Below B w (w.drewN n) := ⟨rfl, rfl, rfl, Nat.le_refl _, fun _ _ => rfl⟩
set_option maxRecDepth 100000 in
set_option maxHeartbeats 2000000 in
theorem trimmed_walk (s x t u l r : ByteArray) (w : World) (hs : s.size ≤ 140737488351232) (hT : Lib.Utf8Tabs 0 1 w)
    (hx : shortS s = x) (hxs : x.size ≤ 200000) (ht : trimS x = t) (hu : eachS upB x = u) (hl : eachS lowB x = l) (hr : turned x = r) :
    Calls Tryd.prog 7 #[.string s] w fun e w' => e = .returned (.bool true) ∧ Below w.heap.size w w' := by
  have hts : t.size ≤ x.size := by rw [← ht]; exact trimS_size x
  have hus : u.size = x.size := by rw [← hu]; exact eachS_size _ _
  have hls : l.size = x.size := by rw [← hl]; exact eachS_size _ _
  have hrs : r.size = x.size := by rw [← hr]; exact turned_size x
  have H1 := Lib.hid (fun w => short_any s w hs)
  rw [hx] at H1
  have H2 := Lib.hid (fun w => trim_any x w (by omega))
  rw [ht] at H2
  have H3 := Lib.hid (fun w => upper_any x w (by omega))
  rw [hu] at H3
  have H4 := Lib.hid (fun w => lower_any x w (by omega))
  rw [hl] at H4
  have H5 := Lib.hid (fun w hT => turn_any x w (by omega) hT)
  rw [hr] at H5
  have H6 := Lib.hid (fun w => trim_any t w (by omega))
  rw [show trimS t = t by rw [← ht]; exact trimS_trimS x] at H6
  have H7 := Lib.hid (fun w => upper_any l w (by omega))
  rw [show eachS upB l = u by rw [← hl, ← hu]; exact each_up_low x] at H7
  have H8 := Lib.hid (fun w => lower_any u w (by omega))
  rw [show eachS lowB u = l by rw [← hl, ← hu]; exact each_low_up x] at H8
  have HA : Hid (∀ i (h : i < t.size), t[i] = 32 → i + 1 ≠ t.size ∧ ∃ m, ∃ hm : i = m + 1, t[m]'(by omega) ≠ 32) := Lib.hid (by subst ht; exact fun i h e => trim_at x i h e)
  have HS0 : Hid (Tr.solid (x.data.toList.drop 0) = Tr.solid (t.data.toList.drop 0)) := Lib.hid (by subst ht; rw [List.drop_zero, List.drop_zero, trimS_list, Tr.solid_trim])
  have HL : Hid (∀ k, k ≤ t.size → Tr.solid (t.data.toList.drop k) = [] → k = t.size) := Lib.hid (by
    subst ht
    intro k hk e
    have := Tr.solid_end _ k (by rw [trimS_list]; exact Tr.trim_last _) (by rw [← Lib.size_eq]; exact hk) e
    rw [← Lib.size_eq] at this; exact this)
  have t1 : ((u.size : Int) != (x.size : Int)) = false := by rw [hus]; simp
  have t2 : ((l.size : Int) != (x.size : Int)) = false := by rw [hls]; simp
  have t3 : ((r.size : Int) != (x.size : Int)) = false := by rw [hrs]; simp
  have hus2 : u.size ≤ 200000 := by omega
  have hls2 : l.size ≤ 200000 := by omega
  have hrs2 : r.size ≤ 200000 := by omega
  clear hx ht hu hl hr hus hls hrs
  go_enter Tryd.func7, Tryd.ntmps7
  go_wp2_with (fail)
  refine (begun5 w hT).mono ?_
  rintro e w1 ⟨rfl, hb1⟩
  have hT1 := Utf8Tabs_below hT hb1
  clear hT
  go_wp2_with (fail)
  refine (H1.out _).mono ?_
  rintro e w' ⟨rfl, rfl⟩
  go_wp2_with (fail)
  refine (H2.out _).mono ?_
  rintro e w2 ⟨rfl, hb2⟩
  have hT2 := Utf8Tabs_below hT1 hb2
  replace hb2 := hb1.trans (hb2.mono hb1.size)
  clear hb1 hT1
  go_wp2_with (fail)
  refine (H3.out _).mono ?_
  rintro e w3 ⟨rfl, hb3⟩
  have hT3 := Utf8Tabs_below hT2 hb3
  replace hb3 := hb2.trans (hb3.mono hb2.size)
  clear hb2 hT2
  go_wp2_with (fail)
  refine (H4.out _).mono ?_
  rintro e w4 ⟨rfl, hb4⟩
  have hT4 := Utf8Tabs_below hT3 hb4
  replace hb4 := hb3.trans (hb4.mono hb3.size)
  clear hb3 hT3
  go_wp2_with (fail)
  refine (H5.out _ hT4).mono ?_
  rintro e w5 ⟨rfl, hb5⟩
  replace hb5 := hb4.trans (hb5.mono hb4.size)
  clear hb4 hT4
  go_wp2_with (fail)
  refine (H6.out _).mono ?_
  rintro e w6 ⟨rfl, hb6⟩
  replace hb6 := hb5.trans (hb6.mono hb5.size)
  clear hb5
  go_wp2_with (fail)
  refine (H7.out _).mono ?_
  rintro e w7 ⟨rfl, hb7⟩
  replace hb7 := hb6.trans (hb7.mono hb6.size)
  clear hb6
  go_wp2_with (fail)
  refine (H8.out _).mono ?_
  rintro e w8 ⟨rfl, hb8⟩
  replace hb8 := hb7.trans (hb8.mono hb7.size)
  clear hb7 H1 H2 H3 H4 H5 H6 H7 H8 t1 t2 t3
  go_wp2_with (fail)
  go_loop [7] (fun i => ∃ k : Nat, k ≤ t.size ∧ i = .int .i64 (k : Int)) (fun i => t.size - (intOf i).toNat)
  case atStart => exact ⟨0, Nat.zero_le _, rfl⟩
  case round =>
    obtain ⟨k, hk, rfl⟩ := hrel
    by_cases hlt : k < t.size
    · by_cases hc : t[k] = 32
      · obtain ⟨h1, m, rfl, h2⟩ := HA.out k hlt hc
        have t1 : ((t[m + 1].toNat : Int) == 32) = true := by rw [hc]; rfl
        have t2 : ((m : Int) + 1 == 0) = false := by rw [beq_eq_false_iff_ne]; omega
        have t3 : ((m : Int) + 1 == (t.size : Int) - 1) = false := by rw [beq_eq_false_iff_ne]; omega
        have t4 : ((t[m].toNat : Int) == 32) = false := by rw [beq_eq_false_iff_ne]; exact fun e => h2 (blank_of _ e)
        clear hc h2 HA HS0 HL
        go_wp2
        go_round
        case rel => exact ⟨m + 1 + 1, by omega, by go_num⟩
        case measure => simp [intOf]; omega
      · have t1 : ((t[k].toNat : Int) == 32) = false := by rw [beq_eq_false_iff_ne]; exact fun e => hc (blank_of _ e)
        clear hc HA HS0 HL
        go_wp2
        go_round
        case rel => exact ⟨k + 1, by omega, by go_num⟩
        case measure => simp [intOf]; omega
    · obtain rfl : k = t.size := by omega
      clear HA
      go_wp2
      go_loopw [8, 9] (fun kv iv wr => ∃ i k : Nat, i ≤ x.size ∧ k ≤ t.size ∧ iv = .int .i64 (i : Int) ∧ kv = .int .i64 (k : Int) ∧ Hid (Tr.solid (x.data.toList.drop i) = Tr.solid (t.data.toList.drop k)) ∧ Below w.heap.size w wr) (fun _ iv _ => x.size - (intOf iv).toNat)
      case atStart => exact ⟨0, 0, Nat.zero_le _, Nat.zero_le _, rfl, rfl, HS0, hb8⟩
      case round =>
        obtain ⟨i, k, hi, hk, rfl, rfl, HS, hb⟩ := hrel
        by_cases hlt : i < x.size
        · by_cases hc : x[i] = 32
          · have t1 : ((x[i].toNat : Int) == 32) = true := by rw [hc]; rfl
            have HS2 : Hid (Tr.solid (x.data.toList.drop (i + 1)) = Tr.solid (t.data.toList.drop k)) := Lib.hid (by rw [← solid_blank x i hlt hc]; exact HS.out)
            clear hc HS0 HL HS
            go_wp2
            go_roundw
            case rel => exact ⟨i + 1, k, by omega, hk, by go_num, rfl, HS2, hb⟩
            case measure => simp [intOf]; omega
          · have t1 : ((x[i].toNat : Int) == 32) = false := by rw [beq_eq_false_iff_ne]; exact fun e => hc (blank_of _ e)
            have HS1 : Hid (x[i] :: Tr.solid (x.data.toList.drop (i + 1)) = Tr.solid (t.data.toList.drop k)) := Lib.hid (by rw [← solid_other x i hlt hc]; exact HS.out)
            have HC := Lib.hid hc
            clear hc HS0 HS
            go_wp2
            go_loop [8] (fun kv => ∃ k : Nat, k ≤ t.size ∧ kv = .int .i64 (k : Int) ∧ Hid (x[i] :: Tr.solid (x.data.toList.drop (i + 1)) = Tr.solid (t.data.toList.drop k))) (fun kv => t.size - (intOf kv).toNat)
            case atStart => exact ⟨k, hk, rfl, HS1⟩
            case round =>
              clear HS1 hk
              obtain ⟨k, hk, rfl, HS1⟩ := hrel
              by_cases hlk : k < t.size
              · by_cases hd : t[k] = 32
                · have t2 : ((t[k].toNat : Int) == 32) = true := by rw [hd]; rfl
                  have HS2 : Hid (x[i] :: Tr.solid (x.data.toList.drop (i + 1)) = Tr.solid (t.data.toList.drop (k + 1))) := Lib.hid (by rw [← solid_blank t k hlk hd]; exact HS1.out)
                  clear hd HS1 HL
                  go_wp2
                  go_round
                  case rel => exact ⟨k + 1, by omega, by go_num, HS2⟩
                  case measure => simp [intOf]; omega
                · have t2 : ((t[k].toNat : Int) == 32) = false := by rw [beq_eq_false_iff_ne]; exact fun e => hd (blank_of _ e)
                  have h2 := HS1.out
                  rw [solid_other t k hlk hd] at h2
                  have he : t[k] = x[i] := (List.cons.inj h2).1.symm
                  have HS2 : Hid (Tr.solid (x.data.toList.drop (i + 1)) = Tr.solid (t.data.toList.drop (k + 1))) := Lib.hid (List.cons.inj h2).2
                  have t3 : ((t[k].toNat : Int) != (x[i].toNat : Int)) = false := by rw [he]; simp
                  have t4 : decide ((t.size : Int) ≤ (k : Int)) = false := by simp; omega
                  have t5 : decide (t.size ≤ k) = false := by simp; omega
                  clear hd HS1 HL h2 he
                  go_wp2
                  go_quiet (fail)
                  go_wp2
                  go_roundw
                  case rel => exact ⟨i + 1, k + 1, by omega, by omega, by go_num, by go_num, HS2, hb.trans (below_drewN' _ _ _)⟩
                  case measure => simp [intOf]; omega
              · exfalso
                have h2 := HS1.out
                rw [solid_over t k hlk] at h2
                cases h2
        · have hx := HS.out
          rw [solid_over x i hlt] at hx
          obtain rfl := HL.out k hk hx.symm
          clear HS HL HS0
          go_wp2
          go_ret
          exact ⟨by simp, hb⟩
theorem trimmed_any (s : ByteArray) (w : World) (hs : s.size ≤ 140737488351232) (hT : Lib.Utf8Tabs 0 1 w) :
    Calls Tryd.prog 7 #[.string s] w fun e w' => e = .returned (.bool true) ∧ Below w.heap.size w w' :=
  trimmed_walk s _ _ _ _ _ w hs hT rfl (shortS_size s) rfl rfl rfl rfl
end Go.Proofs.YtedcfddbfpgeaaaDoor
