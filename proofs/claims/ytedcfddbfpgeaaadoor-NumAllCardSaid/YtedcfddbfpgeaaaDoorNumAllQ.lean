/- quadrillelaw1.plays at every call of any numbers and texts: true. -/
import Derived.Test.YtedcfddbfpgeaaaDoorNumAllP
import Derived.Test.YtedcfddbfpgeaaaDoorNumG
import Derived.Test.YtedcfddbfpgeaaaDoorNumD
namespace Go.Proofs.YtedcfddbfpgeaaaDoor
open Go.RowKit
set_option linter.unusedVariables false
theorem bin_same {f : FuncId} {x y : Int} {u v : Value} (h : ∀ w, Calls Tryd.prog f #[.int .i64 x, .int .i64 y] w fun e w' => e = .returned (.tuple #[u, v]) ∧ w = w') : Bin f x y u v :=
  fun w => (h w).mono fun _ _ ⟨he, hw⟩ => ⟨he, hw ▸ Below.refl _ _⟩
theorem bin_drew {f : FuncId} {x y : Int} {u v : Value} (h : ∀ w, Calls Tryd.prog f #[.int .i64 x, .int .i64 y] w fun e w' => e = .returned (.tuple #[u, v]) ∧ ∃ n, w' = w.drewN n) : Bin f x y u v :=
  fun w => (h w).mono fun _ _ ⟨he, n, hw⟩ => ⟨he, by rw [hw]; exact ⟨rfl, rfl, rfl, Nat.le_refl _, fun _ _ => rfl⟩⟩
theorem over_of {v : Int} (h : ¬ PowG.Fits v) : v < -9223372036854775808 ∨ 9223372036854775807 < v := by unfold PowG.Fits at h; omega

section
variable (x y : Int) (x1 : -9223372036854775808 ≤ x) (x2 : x ≤ 9223372036854775807) (y1 : -9223372036854775808 ≤ y) (y2 : y ≤ 9223372036854775807)
include x1 x2 y1 y2
theorem bin_add : Bin 42 x y (.int .i64 (Ref.fitV (x + y))) (.bool (Ref.fitB (x + y))) := by
  by_cases h : PowG.Fits (x + y)
  · rw [(fit_of h).1, (fit_of h).2]; exact bin_same fun w => add64_yes x y w h.1 h.2
  · rw [(fit_not h).1, (fit_not h).2]; exact bin_same fun w => add64_no x y w x1 x2 y1 y2 (over_of h)
theorem bin_sub : Bin 44 x y (.int .i64 (Ref.fitV (x - y))) (.bool (Ref.fitB (x - y))) := by
  by_cases h : PowG.Fits (x - y)
  · rw [(fit_of h).1, (fit_of h).2]; exact bin_same fun w => sub64_yes x y w h.1 h.2
  · rw [(fit_not h).1, (fit_not h).2]; exact bin_same fun w => sub64_no x y w x1 x2 y1 y2 (over_of h)
theorem bin_mul : Bin 46 x y (.int .i64 (Ref.fitV (x * y))) (.bool (Ref.fitB (x * y))) := by
  by_cases h : PowG.Fits (x * y)
  · rw [(fit_of h).1, (fit_of h).2]; exact bin_same fun w => mul64_yes x y _ w y1 y2 rfl h.1 h.2
  · rw [(fit_not h).1, (fit_not h).2]; exact bin_same fun w => mul64_no x y w x1 x2 y1 y2 (over_of h)
theorem two_quo : ∃ v z : Int, Bin 30 x y (.int .i64 v) (.int .i64 z) ∧ Bin 68 x y (.int .i64 v) (.int .i64 z) := by
  by_cases h0 : y = 0
  · subst h0; exact ⟨0, 14, bin_same fun w => quo_zero x w, fun w => rquo_zero x w⟩
  · refine ⟨Ref.fitV (x.tdiv y), cond (Ref.fitB (x.tdiv y)) 0 13, ?_, fun w => rquo_any x y _ _ w x1 x2 y1 y2 h0 rfl rfl⟩
    by_cases hm : x = -9223372036854775808 ∧ y = -1
    · obtain ⟨rfl, rfl⟩ := hm
      have h : ¬ PowG.Fits ((-9223372036854775808 : Int).tdiv (-1)) := by decide
      rw [(fit_not h).1, (fit_not h).2]
      exact bin_same fun w => quo_over w
    · have hm' : x = -9223372036854775808 → y ≠ -1 := fun e e2 => hm ⟨e, e2⟩
      have h : PowG.Fits (x.tdiv y) := Div.fits64 x y h0 x1 x2 hm'
      rw [(fit_of h).1, (fit_of h).2]
      exact bin_same fun w => quo_ok x y _ w h0 hm' x1 x2 rfl
theorem two_mod : ∃ v z : Int, Bin 31 x y (.int .i64 v) (.int .i64 z) ∧ Bin 69 x y (.int .i64 v) (.int .i64 z) := by
  by_cases h0 : y = 0
  · subst h0; exact ⟨0, 14, bin_same fun w => mod_zero x w, fun w => rmod_zero x w⟩
  · exact ⟨Div.modV x y, 0, bin_same fun w => mod_ok x y _ w h0 y1 y2 rfl, fun w => rmod_any x y _ w x1 x2 y1 y2 h0 rfl⟩
theorem two_gcd : ∃ v z : Int, Bin 48 x y (.int .i64 v) (.int .i64 z) ∧ Bin 71 x y (.int .i64 v) (.int .i64 z) := by
  refine ⟨_, _, ?_, fun w => rgcd2_any x y _ _ w x1 x2 y1 y2 rfl rfl⟩
  by_cases h : Nat.gcd x.natAbs y.natAbs ≤ 9223372036854775807
  · have hf : PowG.Fits ((Nat.gcd x.natAbs y.natAbs : Nat) : Int) := by unfold PowG.Fits; omega
    rw [(fit_of hf).1, (fit_of hf).2]
    exact bin_drew fun w => Gcd_ok x y _ w x1 x2 y1 y2 rfl h
  · have hf : ¬ PowG.Fits ((Nat.gcd x.natAbs y.natAbs : Nat) : Int) := by unfold PowG.Fits; omega
    rw [(fit_not hf).1, (fit_not hf).2]
    exact bin_drew fun w => Gcd_over x y _ w x1 x2 y1 y2 rfl (by omega)
theorem two_lcm : ∃ v z : Int, Bin 49 x y (.int .i64 v) (.int .i64 z) ∧ Bin 72 x y (.int .i64 v) (.int .i64 z) := by
  by_cases hx : x = 0
  · subst hx; exact ⟨0, 0, bin_same fun w => Lcm_zero1 y w, fun w => rlcm_zero1 y w⟩
  · by_cases hy : y = 0
    · subst hy; exact ⟨0, 0, bin_same fun w => Lcm_zero2 x w, fun w => rlcm_zero2 x w⟩
    · refine ⟨_, _, ?_, fun w => rlcm_any x y _ _ w x1 x2 y1 y2 hx hy rfl rfl⟩
      by_cases h : x.natAbs / Nat.gcd x.natAbs y.natAbs * y.natAbs ≤ 9223372036854775807
      · have hf : PowG.Fits ((x.natAbs / Nat.gcd x.natAbs y.natAbs * y.natAbs : Nat) : Int) := by unfold PowG.Fits; omega
        rw [(fit_of hf).1, (fit_of hf).2]
        exact bin_drew fun w => Lcm_ok x y _ _ _ _ _ w hx hy x1 x2 y1 y2 rfl rfl rfl rfl rfl h
      · have hf : ¬ PowG.Fits ((x.natAbs / Nat.gcd x.natAbs y.natAbs * y.natAbs : Nat) : Int) := by unfold PowG.Fits; omega
        rw [(fit_not hf).1, (fit_not hf).2]
        exact bin_drew fun w => Lcm_over x y _ _ _ _ _ w hx hy x1 x2 y1 y2 rfl rfl rfl rfl rfl (by omega)
end
theorem rpow_any (a x y : Int) (b : Nat) (w : World) (ha1 : -9223372036854775808 ≤ a) (ha2 : a ≤ 9223372036854775807) (hb2 : b ≤ 9223372036854775807)
    (hx : PowG.powN a b = x) (hy : PowG.powE a b = y) :
    Calls Tryd.prog 70 #[.int .i64 a, .int .i64 (b : Int)] w fun e w' => e = .returned (.tuple #[.int .i64 x, .int .i64 y]) ∧ Below w.heap.size w w' := by
  by_cases h0 : a = 0
  · subst h0
    by_cases hb : b = 0
    · subst hb
      have hf : PowG.Fits ((0 : Int) ^ 0) := by decide
      rw [(powN_fit hf).1] at hx
      rw [(powN_fit hf).2] at hy
      subst hx hy
      exact rpow_nought w
    · have e : (0 : Int) ^ b = 0 := PowG.zero_pow b (by omega)
      have hf : PowG.Fits ((0 : Int) ^ b) := by rw [e]; decide
      rw [(powN_fit hf).1, e] at hx
      rw [(powN_fit hf).2] at hy
      subst hx hy
      exact rpow_zero b w (by omega)
  · by_cases h1 : a = 1
    · subst h1
      have e := PowG.one_pow b
      have hf : PowG.Fits ((1 : Int) ^ b) := by rw [e]; decide
      rw [(powN_fit hf).1, e] at hx
      rw [(powN_fit hf).2] at hy
      subst hx hy
      exact rpow_one b w (by omega)
    · by_cases hb0 : b = 0
      · subst hb0
        have e : a ^ 0 = 1 := Int.pow_zero a
        have hf : PowG.Fits (a ^ 0) := by rw [e]; decide
        rw [(powN_fit hf).1, e] at hx
        rw [(powN_fit hf).2] at hy
        subst hx hy
        exact rpow_first a w (by simpa using h0) (by simpa using h1)
      · by_cases h2 : a = -1
        · subst h2
          have e := PowG.negone_pow b
          have hf : PowG.Fits ((-1 : Int) ^ b) := by rw [e]; unfold PowG.Fits; omega
          rw [(powN_fit hf).1, e] at hx
          rw [(powN_fit hf).2] at hy
          subst hx hy
          exact rpow_none b ((b : Int) % 2) w (by omega) (by rw [Int.tmod_eq_emod_of_nonneg (by omega)]) (by omega) (by omega) (by rw [beq_eq_false_iff_ne]; omega)
        · exact rpow_great a x y b w ha1 ha2 hb2 h0 h1 h2 hb0 hx hy
theorem two_pow (x y : Int) (x1 : -9223372036854775808 ≤ x) (x2 : x ≤ 9223372036854775807) (y1 : -9223372036854775808 ≤ y) (y2 : y ≤ 9223372036854775807) :
    ∃ v z : Int, Bin 47 x y (.int .i64 v) (.int .i64 z) ∧ Bin 70 x y (.int .i64 v) (.int .i64 z) := by
  by_cases h : y < 0
  · exact ⟨0, 13, bin_same fun w => pow_neg x y w h, fun w => rpow_neg x y w h⟩
  · obtain ⟨b, rfl⟩ := Int.eq_ofNat_of_zero_le (show 0 ≤ y by omega)
    exact ⟨_, _, bin_same fun w => pow_any x _ _ b w x1 x2 (by omega) rfl rfl, fun w => rpow_any x _ _ b w x1 x2 (by omega) rfl rfl⟩
theorem plays_any (K x y : Int) (t : ByteArray) (w : World) (x1 : -9223372036854775808 ≤ x) (x2 : x ≤ 9223372036854775807) (y1 : -9223372036854775808 ≤ y) (y2 : y ≤ 9223372036854775807) (ht : t.size ≤ 140737488351232) (hN : NumW w) :
    Calls Tryd.prog 50 #[.agg #[.int .i64 K, .int .i64 x, .int .i64 y, .string t]] w fun e w' => e = .returned (.bool true) ∧ Below w.heap.size w w' := by
  by_cases h1 : K = 1
  · subst h1; exact plays_1 x y _ _ t w (bin_add x y x1 x2 y1 y2) (fun w => radd_any x y _ _ w x1 x2 y1 y2 rfl rfl)
  by_cases h2 : K = 2
  · subst h2; exact plays_2 x y _ _ t w (bin_sub x y x1 x2 y1 y2) (fun w => rsub_any x y _ _ w x1 x2 y1 y2 rfl rfl)
  by_cases h3 : K = 3
  · subst h3; exact plays_3 x y _ _ t w (bin_mul x y x1 x2 y1 y2) (fun w => rmul_any x y _ _ w x1 x2 y1 y2 rfl rfl)
  by_cases h4 : K = 4
  · subst h4; obtain ⟨v, z, hA, hB⟩ := two_quo x y x1 x2 y1 y2; exact plays_4 x y v z t w hA hB
  by_cases h5 : K = 5
  · subst h5; obtain ⟨v, z, hA, hB⟩ := two_mod x y x1 x2 y1 y2; exact plays_5 x y v z t w hA hB
  by_cases h6 : K = 6
  · subst h6; obtain ⟨v, z, hA, hB⟩ := two_pow x y x1 x2 y1 y2; exact plays_6 x y v z t w hA hB
  by_cases h7 : K = 7
  · subst h7; obtain ⟨v, z, hA, hB⟩ := two_gcd x y x1 x2 y1 y2; exact plays_7 x y v z t w hA hB
  by_cases h8 : K = 8
  · subst h8; obtain ⟨v, z, hA, hB⟩ := two_lcm x y x1 x2 y1 y2; exact plays_8 x y v z t w hA hB
  by_cases h9 : K = 9
  · subst h9; exact plays_9 x y t w x1 x2 hN
  by_cases h10 : K = 10
  · subst h10; exact plays_10 x y t w ht hN
  exact plays_other K x y t w (by simpa using h1) (by simpa using h2) (by simpa using h3) (by simpa using h4) (by simpa using h5) (by simpa using h6) (by simpa using h7) (by simpa using h8) (by simpa using h9) (by simpa using h10)

/-- A call that stands in a script, at a place. -/
def OpAt (w : World) (b o : Nat) : Prop := ∃ (K x y : Int) (t : ByteArray), (w.cell? ⟨b, o, none⟩ = some (.int .i64 K) ∧ w.cell? ⟨b, o + 1, none⟩ = some (.int .i64 x) ∧ w.cell? ⟨b, o + 2, none⟩ = some (.int .i64 y) ∧ w.cell? ⟨b, o + 3, none⟩ = some (.string t)) ∧
  -9223372036854775808 ≤ x ∧ x ≤ 9223372036854775807 ∧ -9223372036854775808 ≤ y ∧ y ≤ 9223372036854775807 ∧ t.size ≤ 140737488351232
set_option maxRecDepth 100000 in
set_option maxHeartbeats 1000000 in
theorem numAll_walk (a : Option Addr) (len cap : Nat) (w : World) (hlen : len ≤ 140737488351232) (hops : ∀ i, i < len → ∃ b o, a = some ⟨b, o, none⟩ ∧ b < w.heap.size ∧ OpAt w b (o + i * 4)) (hN : NumW w) :
    Calls Tryd.prog 14 #[.slice a len cap] w fun e w' => e = .returned (.bool true) ∧ Below w.heap.size w w' := by
  have HO := Lib.hid hops
  clear hops
  go_enter Tryd.func14, Tryd.ntmps14
  go_wp2_with (fail)
  refine (begun1 w hN).mono ?_
  rintro e w1 ⟨rfl, hb1⟩
  go_wp2
  go_loopw [3] (fun i wr => ∃ k : Nat, k ≤ len ∧ i = .int .i64 (k : Int) ∧ Below w.heap.size w wr) (fun i _ => len - (intOf i).toNat)
  case atStart => exact ⟨0, Nat.zero_le _, rfl, hb1⟩
  case round =>
    obtain ⟨k, hk, rfl, hb⟩ := hrel
    by_cases hlt : k < len
    · obtain ⟨b, o, rfl, hbl, K, x, y, t, ⟨c0, c1, c2, c3⟩, x1, x2, y1, y2, ht⟩ := HO.out k hlt
      have hN2 := hN.below hb
      replace c0 := (hb.cell (p := ⟨b, o + k * 4, none⟩) hbl).trans c0
      replace c1 := (hb.cell (p := ⟨b, o + k * 4 + 1, none⟩) hbl).trans c1
      replace c2 := (hb.cell (p := ⟨b, o + k * 4 + 2, none⟩) hbl).trans c2
      replace c3 := (hb.cell (p := ⟨b, o + k * 4 + 3, none⟩) hbl).trans c3
      have HP := Lib.hid (fun w hN => plays_any K x y t w x1 x2 y1 y2 ht hN)
      go_wp2_with (fail)
      refine (HP.out _ hN2).mono ?_
      rintro e w2 ⟨rfl, hb2⟩
      replace hb2 := hb.trans (hb2.mono hb.size)
      clear c0 c1 c2 c3
      go_wp2
      go_roundw
      case rel => exact ⟨k + 1, by omega, by go_num, hb2⟩
      case measure => simp [intOf]; omega
    · obtain rfl : k = len := by omega
      go_wp2
      go_ret
      exact ⟨rfl, hb⟩
end Go.Proofs.YtedcfddbfpgeaaaDoor
