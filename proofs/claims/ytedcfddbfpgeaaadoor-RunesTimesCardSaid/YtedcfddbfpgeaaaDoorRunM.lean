/- The contract of runes.Times; the walk of quadrillelaw5.RunesTimes. -/
import Derived.Test.YtedcfddbfpgeaaaDoorRunH
import Derived.Test.YtedcfddbfpgeaaaDoorShRep
namespace Go.Proofs.YtedcfddbfpgeaaaDoor
open Go.RowKit
set_option linter.unusedVariables false

theorem toList_len (s : ByteArray) : s.toList.length = s.size := by rw [Lib.toList_data, ← Lib.size_eq]
def rep (s : ByteArray) (n : Nat) : ByteArray := ⟨(Lib.repeatL s.data.toList n).toArray⟩
/-- What Times answers, the count no less than 0. -/
def timesR (s : ByteArray) (n : Nat) : ByteArray × Int := if s.size = 0 then (⟨#[]⟩, 0) else if 32767 < s.size * n then (⟨#[]⟩, 2) else (rep s n, 0)

theorem times_any (s : ByteArray) (n : Nat) (w : World) (hs : s.size ≤ 140737488351232) (hn : n ≤ 9223372036854775807) :
    Calls Tryd.prog 24 #[.string s, .int .i64 (n : Int)] w fun e w' => e = .returned (.tuple #[.string (timesR s n).1, .int .i64 (timesR s n).2]) ∧ Below w.heap.size w w' := by
  unfold timesR
  by_cases h0 : s.size = 0
  · have hl2 : s.toList = [] := List.eq_nil_of_length_eq_zero (by rw [toList_len]; exact h0)
    have hl : s.toList.isEmpty = true := by rw [hl2]; rfl
    simp only [if_pos h0]
    clear h0
    go_enter Tryd.func24, Tryd.ntmps24
    go_wp2
    go_ret2
    exact ⟨rfl, Below.refl _ _⟩
  · simp only [if_neg h0]
    have hl2 : ¬ s.toList = [] := fun e => h0 (by rw [← toList_len, e]; rfl)
    have hl : s.toList.isEmpty = false := by simpa using hl2
    have td : (32767 : Int).tdiv (s.size : Int) = ((32767 / s.size : Nat) : Int) := by rw [Int.tdiv_eq_ediv_of_nonneg (by omega)]; rfl
    have tz : ((s.size : Int) == 0) = false := by rw [beq_eq_false_iff_ne]; omega
    by_cases h1 : 32767 < s.size * n
    · simp only [if_pos h1]
      have hq : 32767 / s.size < n := (Nat.div_lt_iff_lt_mul (by omega)).2 (by rw [Nat.mul_comm]; exact h1)
      have hq2 : 32767 / s.size ≤ 32767 := Nat.div_le_self _ _
      generalize 32767 / s.size = q at *
      clear h1
      go_enter Tryd.func24, Tryd.ntmps24
      go_wp2
      go_ret2
      exact ⟨rfl, Below.refl _ _⟩
    · simp only [if_neg h1]
      have hq : n ≤ 32767 / s.size := (Nat.le_div_iff_mul_le (by omega)).2 (by rw [Nat.mul_comm]; omega)
      have hq2 : 32767 / s.size ≤ 32767 := Nat.div_le_self _ _
      have HR := Lib.hid (fun w => Tryd.strings_Repeat s n w hn (by omega))
      generalize 32767 / s.size = q at *
      clear h1
      unfold rep
      go_enter Tryd.func24, Tryd.ntmps24
      go_wp2_with (fail)
      refine (HR.out _).mono ?_
      rintro e w1 ⟨rfl, hb1⟩
      go_wp2
      go_ret2
      exact ⟨rfl, hb1⟩

set_option maxRecDepth 100000 in
set_option maxHeartbeats 1000000 in
theorem times_law (s u a b c : ByteArray) (e f : Int) (n m p : Nat) (w : World) (hs : s.size ≤ 140737488351232) (hT : Lib.Utf8Tabs 0 1 w) (hn : n ≤ 65535) (hm : m ≤ 65535) (hu : shortS s = u) (hus : u.size ≤ 200000)
    (hp : u.size * (n + m) = p) (hpp : p ≤ 200000 * 131070) (ha : timesR u n = (a, e)) (hb : timesR u m = (b, f))
    (h : (timesR u (n + m) = (⟨#[]⟩, 2) ∧ 32767 < p) ∨ (timesR u (n + m) = (c, 0) ∧ p ≤ 32767 ∧ e = 0 ∧ f = 0 ∧ a ++ b = c ∧ a.size ≤ 32767 ∧ b.size ≤ 32767)) :
    Calls Tryd.prog 6 #[.string s, .int .u16 (n : Int), .int .u16 (m : Int)] w fun e w' => e = .returned (.bool true) ∧ Below w.heap.size w w' := by
  have H1 := Lib.hid (fun w => short_any s w hs)
  rw [hu] at H1
  have H2 := Lib.hid (fun w => times_any u n w (by omega) (by omega))
  rw [ha] at H2
  have H3 := Lib.hid (fun w => times_any u m w (by omega) (by omega))
  rw [hb] at H3
  have H4 := Lib.hid (fun w => times_any u (n + m) w (by omega) (by omega))
  have hp2 : (u.size : Int) * ((n : Int) + (m : Int)) = (p : Int) := by rw [← hp]; push_cast; rfl
  have hp3 : IntKind.i64.wrap ((u.size : Int) * ((n : Int) + (m : Int))) = (p : Int) := by rw [hp2, IntKind.wrap_i64]; omega
  clear hp ha hb hu
  rcases h with ⟨h1, h2⟩ | ⟨h1, h2, rfl, rfl, h5, h6, h7⟩
  all_goals
    rw [h1] at H4
    clear h1
    go_enter Tryd.func6, Tryd.ntmps6
    go_wp2_with (fail)
    refine (begun5 w hT).mono ?_
    rintro e w1 ⟨rfl, hb1⟩
    go_wp2_with (fail)
    refine (H1.out _).mono ?_
    rintro e w' ⟨rfl, rfl⟩
    go_wp2_with (fail)
    refine (H2.out _).mono ?_
    rintro e w2 ⟨rfl, hb2⟩
    replace hb2 := hb1.trans (hb2.mono hb1.size)
    clear hb1
    go_wp2_with (fail)
    refine (H3.out _).mono ?_
    rintro e w3 ⟨rfl, hb3⟩
    replace hb3 := hb2.trans (hb3.mono hb2.size)
    clear hb2
    go_wp2_with (fail)
    refine (H4.out _).mono ?_
    rintro e w4 ⟨rfl, hb4⟩
    replace hb4 := hb3.trans (hb4.mono hb3.size)
    clear hb3
    go_wp2
    go_ret
    first
      | exact ⟨rfl, hb4⟩
      | (have t : decide ((32767 : Int) < (p : Int)) = false := by simp; omega
         exact ⟨congrArg (fun b => Ending.returned (.bool !b)) t, hb4⟩)

theorem rep_size (s : ByteArray) (n : Nat) : (rep s n).size = s.size * n := by
  rw [Lib.size_eq, rep, Lib.repeatL_length, Nat.mul_comm, ← Lib.size_eq]
theorem rep_add (s : ByteArray) (n m : Nat) : rep s n ++ rep s m = rep s (n + m) := by
  apply ByteArray.ext
  rw [ByteArray.data_append]
  unfold rep
  simp [Lib.repeatL_add]
theorem timesLaw_any (s : ByteArray) (n m : Int) (w : World) (hs : s.size ≤ 140737488351232) (hT : Lib.Utf8Tabs 0 1 w) (hn0 : 0 ≤ n) (hn : n ≤ 65535) (hm0 : 0 ≤ m) (hm : m ≤ 65535) :
    Calls Tryd.prog 6 #[.string s, .int .u16 n, .int .u16 m] w fun e w' => e = .returned (.bool true) ∧ Below w.heap.size w w' := by
  obtain ⟨n, rfl⟩ := Int.eq_ofNat_of_zero_le hn0
  obtain ⟨m, rfl⟩ := Int.eq_ofNat_of_zero_le hm0
  have hus := shortS_size s
  obtain ⟨u, hu⟩ : ∃ u, shortS s = u := ⟨_, rfl⟩
  rw [hu] at hus
  have hpp : u.size * (n + m) ≤ 200000 * 131070 := Nat.mul_le_mul hus (by omega)
  have hnm : u.size * (n + m) = u.size * n + u.size * m := Nat.mul_add _ _ _
  by_cases h0 : u.size = 0
  · have E : ∀ k, timesR u k = (⟨#[]⟩, 0) := fun k => by unfold timesR; rw [if_pos h0]
    exact times_law s u ⟨#[]⟩ ⟨#[]⟩ ⟨#[]⟩ 0 0 n m _ w hs hT (by omega) (by omega) hu hus rfl hpp (E n) (E m) (.inr ⟨E _, by rw [h0, Nat.zero_mul]; omega, rfl, rfl, by decide +kernel, by decide, by decide⟩)
  · by_cases h1 : 32767 < u.size * (n + m)
    · exact times_law s u _ _ ⟨#[]⟩ _ _ n m _ w hs hT (by omega) (by omega) hu hus rfl hpp rfl rfl (.inl ⟨by unfold timesR; rw [if_neg h0, if_pos h1], h1⟩)
    · have E : ∀ k, u.size * k ≤ 32767 → timesR u k = (rep u k, 0) := fun k hk => by unfold timesR; rw [if_neg h0, if_neg (by omega)]
      exact times_law s u _ _ _ 0 0 n m _ w hs hT (by omega) (by omega) hu hus rfl hpp (E n (by omega)) (E m (by omega)) (.inr ⟨E _ (by omega), by omega, rfl, rfl, rep_add u n m, by rw [rep_size]; omega, by rw [rep_size]; omega⟩)
end Go.Proofs.YtedcfddbfpgeaaaDoor
