import Derived.Test.YtpiiemneelkpkaaGreatDoorCalRl
namespace Go.Proofs.YtpiiemneelkpkaaGreatDoor
open Go.RowKit
set_option linter.unusedVariables false
theorem callS_out (f n : Nat) (v : Nat → Val.V) (hm : ∀ k, k < n → Val.mayB (v k) = true) (he : ∀ k, k < n → ((v k).k == 4) = false) : Cal.callS f n v = (Cal.rowV f n v, 0) := by
 unfold Cal.callS Cal.rowV
 rw [Cal.first_none (p := fun k => !Val.mayB (v k)) (fun j hj => by show (!Val.mayB (v j)) = false; rw [hm j hj]; rfl), Cal.first_none (p := fun k => (v k).k == 4) he]
 cases Cal.first (fun k => Cal.codeAt (Cal.how f) v k != 0) n <;> rfl
theorem rcall_sc (f n : Nat) (v : Nat → Val.V) (a : Option Addr) (cap : Nat) (w : World) (h1 : 1 ≤ f) (h2 : f < 36) (hn : (infoV f).1.2.2.1 ≤ (n : Int)) (hx : (n : Int) ≤ (infoV f).1.2.2.2)
  (hc : HCellP w a n v) (hvb : ∀ k, k < n → VB (v k)) :
  Ret 24 #[.int .i64 f, .slice a n cap] w (.tuple #[vv (Cal.callS f n v).1, .int .i64 (Cal.callS f n v).2]) := by
 obtain ⟨i1, i2, i3, i4⟩ := info_scalar f h2 h1
 have i5 := Cal.how_small f h2
 have hrow := fun u (hu : Below w.heap.size w u) => row_any f n v a cap u h1 h2 hn hx (hc.below rfl hu) hvb
 generalize hI : infoV f = r0 at i1 i2 i3 hn hx
 obtain ⟨⟨nm, c, mn, mx⟩, e0⟩ := r0
 simp only at i1 i2 i3 hn hx
 subst i1 i3 i2
 refine rcall_scalar f n mn _ nm v a cap (Cal.callS f n v).1.k (Cal.callS f n v).1.n (Cal.callS f n v).1.t (Cal.callS f n v).2 w hI (decide_eq_false (by omega)) (decide_eq_false (by omega)) (by omega) (Lib.hid hc) (Lib.hid ?_) (Lib.hid ?_) (Lib.hid ?_)
 ·intro k hk h
  obtain ⟨j, hj⟩ := Cal.first_hit (p := fun k => !Val.mayB (v k)) hk (by show (!Val.mayB (v k)) = true; rw [h]; rfl)
  unfold Cal.callS
  rw [hj]
  exact ⟨rfl, rfl, rfl, rfl⟩
 ·intro hmay k hk hpre h
  unfold Cal.callS
  rw [Cal.first_none (p := fun k => !Val.mayB (v k)) (fun j hj => by show (!Val.mayB (v j)) = false; rw [hmay j hj]; rfl), Cal.first_some (p := fun k => (v k).k == 4) hk h hpre]
  exact ⟨rfl, rfl, rfl, rfl⟩
 ·intro hmay herr
  rw [callS_out f n v hmay herr]
  exact ⟨rfl, hrow⟩
theorem rcall_any (f : Int) (n : Nat) (v : Nat → Val.V) (a : Option Addr) (cap : Nat) (w : World) (hc : HCellP w a n v) (hvb : ∀ k, k < n → VB (v k)) :
  Ret 24 #[.int .i64 f, .slice a n cap] w (.tuple #[vv (Cal.callM f n v).1, .int .i64 (Cal.callM f n v).2]) := by
 unfold Cal.callM
 by_cases hb : (infoV f).2 ≠ 0 ∨ ((infoV f).1.2.1 ≠ 1 ∧ (infoV f).1.2.1 ≠ 2) ∨ (n : Int) < (infoV f).1.2.2.1 ∨ (infoV f).1.2.2.2 < (n : Int)
 ·rw [if_pos hb]
  generalize hI : infoV f = r at hb
  obtain ⟨⟨nm, c, mn, mx⟩, e0⟩ := r
  simp only at hb
  by_cases h0 : e0 = 0
  ·subst h0
   by_cases h1 : c = 1
   ·subst h1
    by_cases h3 : (n : Int) < mn
    ·exact rcall_err3a f 0 1 mn mx n nm a cap w hI rfl rfl rfl (decide_eq_true h3)
    ·exact rcall_err4a f 0 1 mn mx n nm a cap w hI rfl rfl rfl (decide_eq_false h3) (decide_eq_true (by omega))
   ·by_cases h2 : c = 2
    ·subst h2
     by_cases h3 : (n : Int) < mn
     ·exact rcall_err3b f 0 2 mn mx n nm a cap w hI rfl rfl rfl (decide_eq_true h3)
     ·exact rcall_err4b f 0 2 mn mx n nm a cap w hI rfl rfl rfl (decide_eq_false h3) (decide_eq_true (by omega))
    ·exact rcall_err2 f 0 c mn mx n nm a cap w hI rfl (by simpa using h1) (by simpa using h2)
  ·exact rcall_err1 f e0 c mn mx n nm a cap w hI (by simpa using h0)
 ·rw [if_neg hb]
  have he : (infoV f).2 = 0 := by omega
  obtain ⟨k, rfl⟩ := info_nat he
  obtain ⟨k1, k2⟩ := class_of k he
  by_cases h2 : (infoV (k.val : Int)).1.2.1 = 2
  ·rw [if_pos h2]
   obtain ⟨g1, g2, g3, g4⟩ := k2 h2
   obtain rfl : n = 1 := by omega
   obtain ⟨b, o, rfl, hbl, c0, c1, c2⟩ := hc 0 (by omega)
   have hI : infoV (k.val : Int) = (((infoV (k.val : Int)).1.1, 2, 1, 1), 0) := by
    generalize infoV (k.val : Int) = r at h2 g3 g4 he
    obtain ⟨⟨a, b, c, d⟩, e⟩ := r
    simp only at h2 g3 g4 he
    subst h2 g3 g4 he
    rfl
   simp only [Nat.zero_mul, Nat.add_zero] at c0 c1 c2
   have hA := fun w => rasks_any (k.val : Int) (by omega) (by omega) (v 0).k (v 0).n (v 0).t w
   generalize Cal.ask (k.val : Int) (v 0) = q at *
   generalize v 0 = x at *
   obtain ⟨xk, xn, xt⟩ := x
   generalize (infoV (k.val : Int)).1.1 = nm at *
   cases hm : Val.mayB (⟨xk, xn, xt⟩ : Val.V) with
   | true => exact rcall_ask _ xk xn _ _ _ xt nm _ q b o cap w hI hbl c0 c1 c2 (Lib.hid hA) (Lib.hid fun h => by rw [hm] at h; cases h) (Lib.hid fun _ => ⟨rfl, rfl⟩)
   | false => exact rcall_ask _ xk xn _ _ _ xt nm _ q b o cap w hI hbl c0 c1 c2 (Lib.hid hA) (Lib.hid fun _ => ⟨rfl, rfl, rfl, rfl⟩) (Lib.hid fun h => by rw [hm] at h; cases h)
  ·rw [if_neg h2]
   obtain ⟨g1, g2⟩ := k1 (by omega)
   exact rcall_sc k.val n v a cap w g1 g2 (by omega) (by omega) hc hvb
end Go.Proofs.YtpiiemneelkpkaaGreatDoor
