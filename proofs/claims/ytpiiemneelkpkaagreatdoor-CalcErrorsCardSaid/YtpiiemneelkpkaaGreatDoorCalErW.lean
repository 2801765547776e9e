/- quadrillelaw14.CalcErrors at every number and all values. -/
import Derived.Test.YtpiiemneelkpkaaGreatDoorCalEr
import Derived.Test.YtpiiemneelkpkaaGreatDoorCalErP
namespace Go.Proofs.YtpiiemneelkpkaaGreatDoor
open Go.RowKit
set_option linter.unusedVariables false
theorem errors14 (f at' e' : Int) (n cap : Nat) (a : Option Addr) (v : Nat → Val.V) (w : World) (hcap : n ≤ cap) (hc : HCellP w a n v) (hvb : ∀ k, k < n → VB (v k)) (hN : NumW w) (hT : TxtW w) :
    Calls Tryz.prog 5 #[.int .i64 f, .slice a n cap, .int .i64 at', .int .i64 e'] w fun e w' => e = .returned (.bool true) ∧ Below w.heap.size w w' := by
  have hbeg : Hid (∀ v, Below w.heap.size w v → Calls Tryz.prog 8 #[] v fun e w' => e = .returned (.bool true) ∧ Below v.heap.size v w') := Lib.hid fun v h => begun14 v (hN.below h) (hT.below rfl h)
  obtain ⟨m, hm⟩ : ∃ m, m = min n 10 := ⟨_, rfl⟩
  have hmn : m ≤ n := by omega
  have hm10 : m ≤ 10 := by omega
  have hcut : Hid ((10 < n ∧ m = 10) ∨ (¬ 10 < n ∧ m = n)) := Lib.hid (by omega)
  clear hm
  have hcm : HCellP w a m v := fun k hk => hc k (by omega)
  have hvm : ∀ k, k < m → VB (v k) := fun k hk => hvb k (by omega)
  obtain ⟨⟨⟨rk, rn, rt⟩, z⟩, hr⟩ : ∃ r, Cal.callM f m v = r := ⟨_, rfl⟩
  have hcall : Hid (∀ W, Below w.heap.size w W → Calls Tryz.prog 18 #[.int .i64 f, .slice a m cap] W fun e w' => e = .returned (.tuple #[.agg #[.int .i64 rk, .int .i64 rn, .string rt], .int .i64 z]) ∧ Below W.heap.size W w') := Lib.hid fun W hb => by
    have := call_any f m v a cap W (hcm.below rfl hb) hvm (hN.below hb) (hT.below rfl hb)
    rw [hr] at this
    exact this
  have hinf : ∀ W, Calls Tryz.prog 17 #[.int .i64 f] W fun e w' => e = .returned (.tuple #[rv (infoV f).1, .int .i64 (infoV f).2]) ∧ Below W.heap.size W w' := fun W => info_any f W
  have hcl := fun (k : Fin 77) (e : f = (k.val : Int)) => class_of k
  have hnat : (infoV f).2 = 0 → ∃ k : Fin 77, f = (k.val : Int) := info_nat
  have hcM : ∀ u, Cal.callM f m u = (if (infoV f).2 ≠ 0 ∨ ((infoV f).1.2.1 ≠ 1 ∧ (infoV f).1.2.1 ≠ 2) ∨ (m : Int) < (infoV f).1.2.2.1 ∨ (infoV f).1.2.2.2 < (m : Int) then (Cal.zero, 1)
    else if (infoV f).1.2.1 = 2 then cond (Val.mayB (u 0)) (Cal.tru (Cal.ask f (u 0)), 0) (Cal.zero, 24) else Cal.callS f.toNat m u) := fun u => rfl
  rw [hcM] at hr
  generalize hI : infoV f = r0 at *
  obtain ⟨⟨nm, c, mn, mx⟩, e0⟩ := r0
  simp only at hr hcM hnat
  by_cases hbad : e0 ≠ 0 ∨ (c ≠ 1 ∧ c ≠ 2) ∨ (m : Int) < mn ∨ mx < (m : Int)
  · rw [if_pos hbad] at hr
    unfold Cal.zero at hr
    simp only [Prod.mk.injEq, Val.V.mk.injEq] at hr
    obtain ⟨⟨rfl, rfl, rfl⟩, rfl⟩ := hr
    refine er_ref f e0 c mn mx 1 at' e' n m cap a v nm _ 0 0 w hcap (by omega) hcut hbeg (Lib.hid hinf) hcall (Lib.hid ?_) ⟨rfl, rfl, rfl, rfl⟩
    by_cases h0 : e0 = 0
    · refine .inr ?_
      have h0' : (e0 != 0) = false := by simpa using h0
      by_cases h1 : c = 1
      · refine .inr ⟨h0', .inl (by simpa using h1), ?_⟩
        by_cases h3 : (m : Int) < mn
        · exact .inl (decide_eq_true h3)
        · exact .inr ⟨decide_eq_false h3, decide_eq_true (by omega)⟩
      · by_cases h2 : c = 2
        · refine .inr ⟨h0', .inr ⟨by simpa using h1, by simpa using h2⟩, ?_⟩
          by_cases h3 : (m : Int) < mn
          · exact .inl (decide_eq_true h3)
          · exact .inr ⟨decide_eq_false h3, decide_eq_true (by omega)⟩
        · exact .inl ⟨h0', by simpa using h1, by simpa using h2⟩
    · exact .inl (by simpa using h0)
  rw [if_neg hbad] at hr
  have hcM2 : ∀ u, Cal.callM f m u = if c = 2 then cond (Val.mayB (u 0)) (Cal.tru (Cal.ask f (u 0)), 0) (Cal.zero, 24) else Cal.callS f.toNat m u := fun u => (hcM u).trans (if_neg hbad)
  have h0 : e0 = 0 := by omega
  subst h0
  obtain ⟨k, hk⟩ := hnat rfl
  have hkc := hcl k hk
  rw [← hk, hI] at hkc
  simp only at hkc
  obtain ⟨hk1, hk2⟩ := hkc (by first | trivial | rfl)
  have t3 : decide ((m : Int) < mn) = false := decide_eq_false (by omega)
  have t4 : decide (mx < (m : Int)) = false := decide_eq_false (by omega)
  refine er_loop f 0 c mn mx z at' e' n m cap a v nm rt rk rn w hcap (by omega) hcut hbeg (Lib.hid hinf) hcall rfl (Lib.hid ?_) t3 t4 (Lib.hid hc) (by omega) (Lib.hid hvm) hN hT (Lib.hid ?_) (Lib.hid ?_)
  · by_cases h1 : c = 1
    · exact .inl (by simpa using h1)
    · exact .inr ⟨by simpa using h1, (by have : c = 2 := by omega
                                         simpa using this)⟩
  · intro j hj hmf
    by_cases h2 : c = 2
    · rw [if_pos h2] at hr
      obtain ⟨_, _, q1, q2⟩ := hk2 h2
      obtain rfl : j = 0 := by omega
      rw [hmf] at hr
      unfold Cal.zero at hr
      simp only [cond_false, Prod.mk.injEq, Val.V.mk.injEq] at hr
      exact ⟨hr.1.1, hr.1.2.1, hr.1.2.2, hr.2⟩
    · rw [if_neg h2, Cal.callS_not hj hmf] at hr
      unfold Cal.zero at hr
      simp only [Prod.mk.injEq, Val.V.mk.injEq] at hr
      exact ⟨hr.1.1, hr.1.2.1, hr.1.2.2, hr.2⟩
  · intro hmay
    by_cases h2 : c = 2
    · rw [if_pos h2] at hr
      obtain ⟨_, _, q1, q2⟩ := hk2 h2
      rw [hmay 0 (by omega)] at hr
      simp only [cond_true] at hr
      have hf := Cal.fine_tru (Cal.ask f (v 0))
      rw [show Cal.tru (Cal.ask f (v 0)) = ⟨rk, rn, rt⟩ from congrArg Prod.fst hr] at hf
      refine ⟨(congrArg Prod.snd hr).symm, hf.1, hf.2, .inl ⟨by simpa using h2, ?_⟩⟩
      exact (congrArg (fun p => p.1.k) hr).symm
    · have hfin := Cal.callS_may (f := f.toNat) (n := m) (v := v) fun j hj => ⟨hmay j hj, hvm j hj⟩
      rw [if_neg h2] at hr
      rw [hr] at hfin
      refine ⟨hfin.1, hfin.2.1, hfin.2.2, .inr ⟨by simpa using h2, fun j hj h4 hpre => ?_, fun hnone h1 h6 K hK => ?_⟩⟩
      · rw [Cal.callS_err hmay hj h4 hpre] at hr
        have := congrArg Prod.fst hr
        simp only at this
        rw [this]
        exact ⟨rfl, rfl, rfl⟩
      · rw [hcM2, if_neg h2]
        have hb4 := Cal.fine_bad e' h1 h6
        have e := Cal.callS_err (f := f.toNat) (n := m) (k := K) (v := fun j => if j = K then Cal.bad e' else v j) (fun j hj => by
          show Val.mayB (if j = K then Cal.bad e' else v j) = true
          split
          · exact hb4.1
          · exact hmay j hj) hK (by show ((if K = K then Cal.bad e' else v K).k == 4) = true; rw [if_pos rfl]; rfl) (fun j hj => by
          show ((if j = K then Cal.bad e' else v j).k == 4) = false
          rw [if_neg (by omega)]
          exact hnone j (by omega))
        rw [e]
        show (if K = K then Cal.bad e' else v K, (0 : Int)) = _
        rw [if_pos rfl]
end Go.Proofs.YtpiiemneelkpkaaGreatDoor
