/- quadrillelaw14.CalcDivides for every two numbers. -/
import Derived.Test.YtpiiemneelkpkaaGreatDoorCalDv
import Derived.Test.YtpiiemneelkpkaaGreatDoorCalDg
import Derived.Test.YtpiiemneelkpkaaGreatDoorCalDw
import Derived.Test.YtpiiemneelkpkaaGreatDoorGcb
namespace Go.Proofs.YtpiiemneelkpkaaGreatDoor
open Go.RowKit
set_option linter.unusedVariables false
namespace Cal
theorem may_num (a : Int) : Val.mayB (num a) = true := (by decide +kernel : Val.isE ⟨#[]⟩ = true)
theorem good_num (a : Int) : Val.good (num a) = num a := by unfold Val.good; rw [may_num]; rfl
theorem number_num (a : Int) : Val.number (num a) = (a, 0) := by unfold Val.number; rw [good_num]; rfl
def nn : ByteArray := ⟨#[110, 110]⟩
def in2 (a b : Int) : In := ⟨[a, b], [], false, ⟨0, 0, ⟨#[]⟩⟩⟩
theorem look_n (a : Int) (I : In) : look1 110 (num a) I = (0, ⟨I.ns ++ [a], I.ts, I.b, I.v⟩) := by
  show (cond true _ _ : Int × In) = _
  rw [number_num]
  rfl
theorem nn_at0 (a b : Int) : look1 (nn.data.toList.getD 0 0) (arg [num a, num b] 0) (inAt nn (arg [num a, num b]) 0) = (0, ⟨[a], [], false, ⟨0, 0, ⟨#[]⟩⟩⟩) := look_n a _
theorem nn_in1 (a b : Int) : inAt nn (arg [num a, num b]) 1 = ⟨[a], [], false, ⟨0, 0, ⟨#[]⟩⟩⟩ := by
  show (look1 (nn.data.toList.getD 0 0) (arg [num a, num b] 0) (inAt nn (arg [num a, num b]) 0)).2 = _
  rw [nn_at0]
theorem nn_at1 (a b : Int) : look1 (nn.data.toList.getD 1 0) (arg [num a, num b] 1) (inAt nn (arg [num a, num b]) 1) = (0, in2 a b) := by
  rw [nn_in1]
  exact look_n b _
theorem nn_in2 (a b : Int) : inAt nn (arg [num a, num b]) 2 = in2 a b := by
  show (look1 (nn.data.toList.getD 1 0) (arg [num a, num b] 1) (inAt nn (arg [num a, num b]) 1)).2 = _
  rw [nn_at1]
theorem callS_nn (f : Nat) (hf : how f = nn) (a b : Int) : callS f 2 (arg [num a, num b]) = (work f (in2 a b), 0) := by
  unfold callS
  rw [hf, first_none (p := fun k => !Val.mayB (arg [num a, num b] k)) (fun j hj => by match j, hj with | 0, _ => (show (!Val.mayB (num a)) = false; rw [may_num]; rfl) | 1, _ => (show (!Val.mayB (num b)) = false; rw [may_num]; rfl)),
    first_none (p := fun k => (arg [num a, num b] k).k == 4) (fun j hj => by match j, hj with | 0, _ => rfl | 1, _ => rfl),
    first_none (p := fun k => codeAt nn (arg [num a, num b]) k != 0) (fun j hj => by
      match j, hj with
      | 0, _ => show ((look1 (nn.data.toList.getD 0 0) (arg [num a, num b] 0) (inAt nn (arg [num a, num b]) 0)).1 != 0) = false; rw [nn_at0]; rfl
      | 1, _ => show ((look1 (nn.data.toList.getD 1 0) (arg [num a, num b] 1) (inAt nn (arg [num a, num b]) 1)).1 != 0) = false; rw [nn_at1]; rfl), nn_in2]
theorem callM_nn (f : Nat) (h : f = 3 ∨ f = 4 ∨ f = 6 ∨ f = 7) (a b : Int) : callM (f : Int) 2 (arg [num a, num b]) = (work f (in2 a b), 0) := by
  have hh : (¬ ((infoV (f : Int)).2 ≠ 0 ∨ ((infoV (f : Int)).1.2.1 ≠ 1 ∧ (infoV (f : Int)).1.2.1 ≠ 2) ∨ ((2 : Nat) : Int) < (infoV (f : Int)).1.2.2.1 ∨ (infoV (f : Int)).1.2.2.2 < ((2 : Nat) : Int))) ∧ ¬ (infoV (f : Int)).1.2.1 = 2 ∧ how f = nn := by
    rcases h with rfl | rfl | rfl | rfl <;> decide +kernel
  unfold callM
  rw [if_neg hh.1, if_neg hh.2.1]
  exact callS_nn f hh.2.2 a b
theorem bin_div (a b : Int) : bin 3 (num a) (num b) = told (quoV a b).1 (quoV a b).2 := by
  unfold bin
  rw [if_neg (by omega), good_num, good_num]
  show two 3 (num a) (num b) = _
  unfold two
  rw [number_num, number_num]
  rfl
theorem told_fit {v : Int} (h : PowG.Fits v) : told (errV v).1 (errV v).2 = num v := by rw [errV_of h]; rfl
theorem told_not {v : Int} (h : ¬ PowG.Fits v) : told (errV v).1 (errV v).2 = bad 2 := by rw [errV_not h]; rfl
end Cal
theorem wrap64 {n : Int} (h : -9223372036854775808 ≤ n) (k : n ≤ 9223372036854775807) : IntKind.i64.wrap n = n := by rw [IntKind.wrap_i64]; omega
theorem divides14 (a b : Int) (w : World) (ha : I64 a) (hb : I64 b) (hN : NumW w) (hT : TxtW w) :
    Calls Tryz.prog 4 #[.int .i64 a, .int .i64 b] w fun e w' => e = .returned (.bool true) ∧ Below w.heap.size w w' := by
  have hbeg : Hid (∀ v, Below w.heap.size w v → Calls Tryz.prog 8 #[] v fun e w' => e = .returned (.bool true) ∧ Below v.heap.size v w') := Lib.hid fun v h => begun14 v (hN.below h) (hT.below rfl h)
  have vba : VB (Cal.num a) := ⟨ha.1, ha.2, (by decide : (⟨#[]⟩ : ByteArray).size ≤ 140737488351232)⟩
  have vbb : VB (Cal.num b) := ⟨hb.1, hb.2, (by decide : (⟨#[]⟩ : ByteArray).size ≤ 140737488351232)⟩
  have hvb : ∀ k, k < 2 → VB (Cal.arg [Cal.num a, Cal.num b] k) := fun k hk => by
    match k, hk with
    | 0, _ => exact vba
    | 1, _ => exact vbb
  have his : ∀ (f : Nat) (r : Val.V), (f = 3 ∨ f = 4 ∨ f = 6 ∨ f = 7) → Cal.work f (Cal.in2 a b) = r → Hid (∀ v, Below w.heap.size w v → Calls Tryz.prog 11 #[.int .i64 (f : Int), .slice (some ⟨v.heap.size, 0, none⟩) 2 2] (v.alloc (.cells #[.int .i64 1, .int .i64 a, .string ⟨#[]⟩, .int .i64 1, .int .i64 b, .string ⟨#[]⟩] 26 (0, 0))) fun e w' => e = .returned (vv r) ∧ Below v.heap.size v w') :=
    fun f r hf hr => Lib.hid fun v h => is_lit f [Cal.num a, Cal.num b] r ((Cal.callM_nn f hf a b).trans (by rw [hr])) hvb w v h hN hT
  have hdiv : Hid (∀ v, Below w.heap.size w v → Calls Tryz.prog 13 #[.int .i64 3, vv (Cal.num a), vv (Cal.num b)] v fun e w' => e = .returned (vv (Cal.told (Cal.quoV a b).1 (Cal.quoV a b).2)) ∧ Below v.heap.size v w') :=
    Lib.hid fun v h => by
      have := bin_any 3 (Cal.num a) (Cal.num b) v vba vbb (hN.below h)
      rw [Cal.bin_div] at this
      exact this
  have w4 : Cal.work 4 (Cal.in2 a b) = Cal.told (Cal.quoV a b).1 (Cal.quoV a b).2 := rfl
  have w3 : Cal.work 3 (Cal.in2 a b) = Cal.told (Cal.modV a b).1 (Cal.modV a b).2 := rfl
  have w6 : Cal.work 6 (Cal.in2 a b) = Cal.told (Cal.gcdV a b).1 (Cal.gcdV a b).2 := rfl
  have w7 : Cal.work 7 (Cal.in2 a b) = Cal.told (Cal.lcmV a b).1 (Cal.lcmV a b).2 := rfl
  by_cases b0 : b = 0
  · subst b0
    have q0 : Cal.told (Cal.quoV a 0).1 (Cal.quoV a 0).2 = Cal.bad 5 := by unfold Cal.quoV; rw [if_pos rfl]; rfl
    have m0 : Cal.told (Cal.modV a 0).1 (Cal.modV a 0).2 = Cal.bad 5 := by unfold Cal.modV; rw [if_pos rfl]; rfl
    have l0 : Cal.told (Cal.lcmV a 0).1 (Cal.lcmV a 0).2 = Cal.num 0 := by unfold Cal.lcmV; rw [if_pos (.inr rfl)]; rfl
    rw [q0] at hdiv
    exact div_zero a w hbeg (his 4 _ (by omega) (w4.trans q0)) (his 3 _ (by omega) (w3.trans m0)) hdiv (his 7 _ (by omega) (w7.trans l0))
  have em : Cal.told (Cal.modV a b).1 (Cal.modV a b).2 = Cal.num (Div.modV a b) := by unfold Cal.modV; rw [if_neg b0]; rfl
  have eq0 : Cal.quoV a b = Cal.errV (a.tdiv b) := by unfold Cal.quoV; rw [if_neg b0]
  by_cases ho : a = -9223372036854775808 ∧ b = -1
  · obtain ⟨rfl, rfl⟩ := ho
    have q0 : Cal.told (Cal.quoV (-9223372036854775808) (-1)).1 (Cal.quoV (-9223372036854775808) (-1)).2 = Cal.bad 2 := by rw [eq0]; exact Cal.told_not (by unfold PowG.Fits; decide)
    rw [q0] at hdiv
    exact div_over w hbeg (his 4 _ (by omega) (w4.trans q0)) (his 3 (Cal.num 0) (by omega) (w3.trans (em.trans (by rw [show Div.modV (-9223372036854775808) (-1) = 0 by decide +kernel])))) hdiv
  have hf := Div.fits64 a b b0 ha.1 ha.2 (fun h1 h2 => ho ⟨h1, h2⟩)
  have q0 : Cal.told (Cal.quoV a b).1 (Cal.quoV a b).2 = Cal.num (a.tdiv b) := by rw [eq0]; exact Cal.told_fit hf
  rw [q0] at hdiv
  have his4 := his 4 _ (by omega) (w4.trans q0)
  have his3 := his 3 _ (by omega) (w3.trans em)
  have ga : a.natAbs ≤ 9223372036854775808 := by have := ha.1; have := ha.2; omega
  have gb : b.natAbs ≤ 9223372036854775808 := by have := hb.1; have := hb.2; omega
  by_cases hg : 9223372036854775807 < Nat.gcd a.natAbs b.natAbs
  · have g0 : Cal.told (Cal.gcdV a b).1 (Cal.gcdV a b).2 = Cal.bad 2 := Cal.told_not (by unfold PowG.Fits; omega)
    have his6 := his 6 _ (by omega) (w6.trans g0)
    obtain ⟨h1, h2⟩ := PowG.gcd_great _ _ ga gb hg
    obtain rfl : b = -9223372036854775808 := by have := hb.2; omega
    rcases h1 with h1 | h1
    · obtain rfl : a = -9223372036854775808 := by have := ha.2; omega
      exact div_g1 w hbeg his4 his3 hdiv his6
    · obtain rfl : a = 0 := by omega
      exact div_g2 w hbeg his4 his3 hdiv his6
  -- the others
  generalize hgg : Nat.gcd a.natAbs b.natAbs = g at *
  have hb1 : 1 ≤ b.natAbs := by omega
  have g1 : 1 ≤ g := by rw [← hgg]; exact Nat.gcd_pos_of_pos_right _ hb1
  have fg : PowG.Fits (g : Int) := by unfold PowG.Fits; omega
  have g0 : Cal.told (Cal.gcdV a b).1 (Cal.gcdV a b).2 = Cal.num (g : Int) := by unfold Cal.gcdV; rw [hgg]; exact Cal.told_fit fg
  have his6 := his 6 _ (by omega) (w6.trans g0)
  have da : (g : Int) ∣ a := by rw [← hgg]; exact Int.ofNat_dvd_left.2 (Nat.gcd_dvd_left _ _)
  have db : (g : Int) ∣ b := by rw [← hgg]; exact Int.ofNat_dvd_left.2 (Nat.gcd_dvd_right _ _)
  have rm1 : a.tmod (g : Int) = 0 := Int.tmod_eq_zero_of_dvd da
  have rm2 : b.tmod (g : Int) = 0 := Int.tmod_eq_zero_of_dvd db
  have fx := Div.fits64 a (g : Int) (by omega) ha.1 ha.2 (fun _ => by omega)
  have e3 := wrap64 fx.1 fx.2
  have ax : (a.tdiv (g : Int)).natAbs = a.natAbs / g := by rw [Int.natAbs_tdiv, Int.natAbs_natCast]; rfl
  obtain ⟨p1, p2, p3, p4, p5⟩ := Div.parts a b b0
  have hr := Div.modV_range a b b0
  have hm : Div.modV a b = a.tmod b ∨ Div.modV a b = a.tmod b + b := by
    unfold Div.modV
    split
    · exact .inr rfl
    · exact .inl rfl
  have e1 := wrap64 (n := a.tdiv b * b) (by unfold I64 at *; omega) (by unfold I64 at *; omega)
  have e2 := wrap64 (n := a - a.tdiv b * b) (by unfold I64 at *; omega) (by unfold I64 at *; omega)
  have eL : Cal.told (Cal.lcmV a b).1 (Cal.lcmV a b).2 = (if a = 0 then Cal.num 0 else Cal.told (Cal.errV (((a.tdiv (g : Int)).natAbs * b.natAbs : Nat) : Int)).1 (Cal.errV (((a.tdiv (g : Int)).natAbs * b.natAbs : Nat) : Int)).2) := by
    unfold Cal.lcmV
    by_cases a0 : a = 0
    · rw [if_pos (.inl a0), if_pos a0]; rfl
    · rw [if_neg (by omega), if_neg a0, hgg, ax]
  have hx2 : (a.tdiv (g : Int)).natAbs < 18446744073709551616 := by omega
  have hY2 : b.natAbs < 18446744073709551616 := by omega
  have HX : Hid (∀ v, Calls Tryz.prog 16 #[.int .i64 (a.tdiv (g : Int))] v fun e w' => e = .returned (.int .u64 (((a.tdiv (g : Int)).natAbs : Nat) : Int)) ∧ Below v.heap.size v w') := Lib.hid fun v => whole_any _ fx v
  have HY : Hid (∀ v, Calls Tryz.prog 16 #[.int .i64 b] v fun e w' => e = .returned (.int .u64 ((b.natAbs : Nat) : Int)) ∧ Below v.heap.size v w') := Lib.hid fun v => whole_any _ hb v
  have HM : Hid (∀ v, Calls Tryz.prog 15 #[.int .u64 (((a.tdiv (g : Int)).natAbs : Nat) : Int), .int .u64 ((b.natAbs : Nat) : Int)] v fun e w' => e = .returned (.tuple #[.int .u64 (((a.tdiv (g : Int)).natAbs * b.natAbs / 18446744073709551616 : Nat) : Int), .int .u64 (((a.tdiv (g : Int)).natAbs * b.natAbs % 18446744073709551616 : Nat) : Int)]) ∧ Below v.heap.size v w') :=
    Lib.hid fun v => (Tryz.bits_Mul64 _ _ hx2 hY2 v).mono fun e w' ⟨h1, h2⟩ => ⟨h1, h2 ▸ Below.refl _ _⟩
  have H8 : Hid ((decide (0 < b) = true ∧ decide (Div.modV a b < 0) = false ∧ decide (b ≤ Div.modV a b) = false ∧ decide (b < 0) = false) ∨ (decide (0 < b) = false ∧ decide (b < 0) = true ∧ decide (0 < Div.modV a b) = false ∧ decide (Div.modV a b ≤ b) = false)) := Lib.hid (by
    simp only [decide_eq_true_eq, decide_eq_false_iff_not]
    omega)
  have H10 : Hid ((a == -9223372036854775808) = false ∨ ((a == -9223372036854775808) = true ∧ (b == -1) = false)) := Lib.hid (by
    simp only [beq_eq_false_iff_ne, beq_iff_eq]
    omega)
  have er : a - a.tdiv b * b = a.tmod b := by omega
  rw [er] at e2
  have e2q : IntKind.i64.wrap (a - a.tdiv b * b) = a.tmod b := by rw [er]; exact e2
  have H15 : Hid ((a.tmod b != Div.modV a b) = false ∨ ((a.tmod b != Div.modV a b) = true ∧ IntKind.i64.wrap (Div.modV a b - b) = a.tmod b)) := Lib.hid (by
    by_cases h : a.tmod b = Div.modV a b
    · exact .inl (by rw [← h]; simp)
    · refine .inr ⟨by simpa using h, ?_⟩
      have : Div.modV a b - b = a.tmod b := by omega
      rw [this]
      exact e2)
  have H16 : Hid ((a.tmod b != 0) = false ∨ ((a.tmod b != 0) = true ∧ ∃ s, decide (a.tmod b < 0) = s ∧ decide (a < 0) = s)) := Lib.hid (by
    by_cases h : a.tmod b = 0
    · exact .inl (by rw [h]; rfl)
    · refine .inr ⟨by simpa using h, _, rfl, ?_⟩
      by_cases hn : a < 0
      · rw [decide_eq_true hn, decide_eq_true (by have := p3 (by omega); omega)]
      · rw [decide_eq_false hn, decide_eq_false (by have := p2 (by omega); omega)])
  generalize hX : (a.tdiv (g : Int)).natAbs = X at *
  generalize hYY : b.natAbs = Y at *
  generalize hP : X * Y = p at *
  have t1 : (b == 0) = false := by simpa using b0
  have t2 : decide ((g : Int) < 1) = false := decide_eq_false (by omega)
  have t3 : ((g : Int) == 0) = false := by rw [beq_eq_false_iff_ne]; omega
  by_cases hn : p ≤ 9223372036854775807
  · have l0 : Cal.told (Cal.lcmV a b).1 (Cal.lcmV a b).2 = Cal.num ((p % 18446744073709551616 : Nat) : Int) := by
      rw [eL, Nat.mod_eq_of_lt (by omega)]
      split
      · rename_i a0
        subst a0
        have : X = 0 := by rw [← hX]; simp
        subst this
        rw [← hP]
        simp
      · exact Cal.told_fit (by unfold PowG.Fits; omega)
    have y1 : (((p / 18446744073709551616 : Nat) : Int) != 0) = false := by rw [Nat.div_eq_of_lt (by omega)]; rfl
    have y2 : decide (9223372036854775807 < ((p % 18446744073709551616 : Nat) : Int)) = false := decide_eq_false (by omega)
    have y3 : IntKind.i64.wrap ((p % 18446744073709551616 : Nat) : Int) = ((p % 18446744073709551616 : Nat) : Int) := wrap64 (by omega) (by omega)
    exact div_near a b _ _ _ _ (g : Int) _ ((p / 18446744073709551616 : Nat) : Int) ((p % 18446744073709551616 : Nat) : Int) X Y t1 e1 e2q t2 t3 (by omega) rm1 rm2 e3 y1 y2 y3 w hbeg his4 his3 hdiv his6 (his 7 _ (by omega) (w7.trans l0)) HX HY HM H8 H10 H15 H16
  · have l0 : Cal.told (Cal.lcmV a b).1 (Cal.lcmV a b).2 = Cal.bad 2 := by
      rw [eL]
      split
      · rename_i a0
        subst a0
        have : X = 0 := by rw [← hX]; simp
        subst this
        rw [← hP] at hn
        simp at hn
      · exact Cal.told_not (by unfold PowG.Fits; omega)
    refine div_far a b _ _ _ _ (g : Int) _ ((p / 18446744073709551616 : Nat) : Int) ((p % 18446744073709551616 : Nat) : Int) X Y t1 e1 e2q t2 t3 (by omega) rm1 rm2 e3 (Lib.hid ?_) w hbeg his4 his3 hdiv his6 (his 7 _ (by omega) (w7.trans l0)) HX HY HM H8 H10 H15 H16
    by_cases hh : p < 18446744073709551616
    · exact .inr ⟨by rw [Nat.div_eq_of_lt hh]; rfl, decide_eq_true (by rw [Nat.mod_eq_of_lt hh]; omega)⟩
    · refine .inl ?_
      rw [bne_iff_ne]
      omega
end Go.Proofs.YtpiiemneelkpkaaGreatDoor
