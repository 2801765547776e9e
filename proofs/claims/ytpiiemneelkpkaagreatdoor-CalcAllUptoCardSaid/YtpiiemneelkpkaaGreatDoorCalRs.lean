import Derived.Test.YtpiiemneelkpkaaGreatDoorCalRq
set_option maxRecDepth 100000
namespace Go.Proofs.YtpiiemneelkpkaaGreatDoor
open Go.RowKit
set_option linter.unusedVariables false
set_option linter.unusedSimpArgs false
theorem handed_any (a : Option Addr) (n cap : Nat) (v : Nat → Val.V) (w : World) (hc : HCellP w a n v) (ha : (a = none ∧ n = 0 ∧ cap = 0) ∨ ∃ ad, a = some ad) (hn : n ≤ 4398046510976) : Calls Tryz.prog 23 #[.slice a n cap] w (HandedPost w n v) := by
 rcases ha with ⟨rfl, rfl, rfl⟩ | ⟨ad, rfl⟩
 ·exact handed_nil w v
 ·exact handed_some ad n cap v w hc hn
theorem plays_any (kd f : Int) (a : Option Addr) (n ca : Nat) (x y : Val.V) (v : Nat → Val.V) (w : World) (hc : HCellP w a n v) (ha : (a = none ∧ n = 0 ∧ ca = 0) ∨ ∃ ad, a = some ad) (hvb : ∀ k, k < n → VB (v k)) (hx : VB x) (hy : VB y) (hn : n ≤ 4398046510976) (hN : NumW w) (hT : TxtW w) :
  Ret 10 #[opv kd f a n ca x y] w (.bool true) := by
 obtain ⟨xk, xn, xt⟩ := x
 obtain ⟨yk, yn, yt⟩ := y
 cases t1 : (kd == 1) with
 | true =>
  obtain rfl : kd = 1 := by simpa using t1
  exact plays_1 v (Cal.callM f n v).1.k (Cal.callM f n v).1.n (Cal.callM f n v).2 (Cal.callM f n v).1.t f a n ca xk xn yk yn xt yt w
   (Lib.hid fun u hu => handed_any a n ca v u (hc.below rfl hu) ha hn)
   (Lib.hid fun u g cap hu hg => call_any f n v (some ⟨g, 0, none⟩) cap u hg hvb (hN.below hu) (hT.below rfl hu))
   (Lib.hid fun u hu => rcall_any f n v a ca u (hc.below rfl hu) hvb)
   (Lib.hid fun u g cap hu hg hlt hm hcap => kept_any g cap n a ca v u (hc.below rfl hu) hg hlt hm hcap hn)
 | false =>
  cases t2 : (kd == 2) with
  | true =>
   obtain rfl : kd = 2 := by simpa using t2
   exact plays_2 _ _ _ f a n ca xk xn yk yn xt yt w (Lib.hid fun u hu => un_any f ⟨xk, xn, xt⟩ u hx (hN.below hu)) (Lib.hid fun u hu => run_any f ⟨xk, xn, xt⟩ u hx)
  | false =>
   cases t3 : (kd == 3) with
   | true =>
    obtain rfl : kd = 3 := by simpa using t3
    exact plays_3 _ _ _ f a n ca xk xn yk yn xt yt w (Lib.hid fun u hu => bin_any f ⟨xk, xn, xt⟩ ⟨yk, yn, yt⟩ u hx hy (hN.below hu)) (Lib.hid fun u hu => rbin_any f ⟨xk, xn, xt⟩ ⟨yk, yn, yt⟩ u hx hy)
   | false => exact plays_0 kd f a n ca xk xn yk yn xt yt w t1 t2 t3
structure OpD where
 kd : Int
 f : Int
 a : Option Addr
 n : Nat
 ca : Nat
 x : Val.V
 y : Val.V
 v : Nat → Val.V
structure OpOK (w : World) (d : OpD) : Prop where
 c : HCellP w d.a d.n d.v
 a : (d.a = none ∧ d.n = 0 ∧ d.ca = 0) ∨ ∃ ad, d.a = some ad
 v : ∀ k, k < d.n → VB (d.v k)
 x : VB d.x
 y : VB d.y
 n : d.n ≤ 4398046510976
def opC (d : OpD) : List Value := [.int .i64 d.kd, .int .i64 d.f, .slice d.a d.n d.ca, .int .i64 d.x.k, .int .i64 d.x.n, .string d.x.t, .int .i64 d.y.k, .int .i64 d.y.n, .string d.y.t]
def OCellP (w : World) (a : Option Addr) (l : Nat) (d : Nat → OpD) : Prop := ∀ k, k < l → OpOK w (d k) ∧ ∃ b o, a = some ⟨b, o, none⟩ ∧ b < w.heap.size ∧ ∀ q u, (opC (d k))[q]? = some u → w.cell? ⟨b, o + k * 9 + q, none⟩ = some u
set_option maxHeartbeats 6400000 in
theorem calcAll_walk (a : Option Addr) (l cap : Nat) (d : Nat → OpD) (w : World) (HC : Hid (OCellP w a l d)) (hl : l ≤ 4398046510976) (hN : NumW w) (hT : TxtW w)
  (HBEG : Hid (∀ u, Below w.heap.size w u → Ret 8 #[] u (.bool true))) :
  Ret 3 #[.slice a l cap] w (.bool true) := by
 have HN := Lib.hid hN
 have HT := Lib.hid hT
 clear hN hT
 go_enter Tryz.func3, Tryz.ntmps3
 go_wp2_with (fail)
 refine (HBEG.out _ (Below.refl _ _)).mono ?_
 rintro e w1 ⟨rfl, hb1⟩
 go_wp2_with (fail)
 go_loopw [3, 4] (fun s i wr => ∃ (k : Nat) (z : Int), k ≤ l ∧ s = .int .i64 z ∧ i = .int .i64 (k : Int) ∧ Below w.heap.size w wr) (fun _ i _ => l - (intOf i).toNat)
 case atStart => exact ⟨0, _, Nat.zero_le _, rfl, rfl, hb1⟩
 case round =>
 obtain ⟨k, z, hk, rfl, rfl, hL⟩ := hrel
 by_cases hlt : k < l
 ·have e1 : IntKind.i64.wrap ((k : Int) + 1) = (k : Int) + 1 := by rw [IntKind.wrap_i64]; omega
  obtain ⟨hok, b, o, rfl, hbl, hcell⟩ := HC.out k hlt
  have HP : Hid (∀ u, Below w.heap.size w u → Ret 10 #[opv (d k).kd (d k).f (d k).a (d k).n (d k).ca (d k).x (d k).y] u (.bool true)) := Lib.hid fun u hu => plays_any _ _ _ _ _ _ _ (d k).v u (hok.c.below rfl hu) hok.a hok.v hok.x hok.y hok.n (HN.out.below hu) (HT.out.below rfl hu)
  have HZ : Hid (∀ u, Below w.heap.size w u → Calls Tryz.prog 9 #[opv (d k).kd (d k).f (d k).a (d k).n (d k).ca (d k).x (d k).y] u fun e w' => (∃ z : Int, e = .returned (.int .i64 z)) ∧ Below u.heap.size u w') := Lib.hid fun u hu => opsize_any _ _ _ _ _ _ _ (d k).v u (hok.c.below rfl hu) (by have := hok.n; omega)
  have q0 := hcell 0 _ rfl
  have q1 := hcell 1 _ rfl
  have q2 := hcell 2 _ rfl
  have q3 := hcell 3 _ rfl
  have q4 := hcell 4 _ rfl
  have q5 := hcell 5 _ rfl
  have q6 := hcell 6 _ rfl
  have q7 := hcell 7 _ rfl
  have q8 := hcell 8 _ rfl
  have HQ := Lib.hid (⟨q0, q1, q2, q3, q4, q5, q6, q7, q8⟩ : _ ∧ _ ∧ _ ∧ _ ∧ _ ∧ _ ∧ _ ∧ _ ∧ _)
  clear q0 q1 q2 q3 q4 q5 q6 q7 q8 hcell hok
  have P : ∀ (wr : World), Below w.heap.size w wr → ∀ (j : Nat) (u : Value), w.cell? ⟨b, j, none⟩ = some u → wr.cell? ⟨b, j, none⟩ = some u := fun wr h j u hu => (h.cell (p := ⟨b, j, none⟩) hbl).trans hu
  have HPP := Lib.hid P
  clear P
  generalize d k = dk at *
  obtain ⟨kd, f, a', n', ca', ⟨xk, xn, xt⟩, ⟨yk, yn, yt⟩, v'⟩ := dk
  obtain ⟨q0, q1, q2, q3, q4, q5, q6, q7, q8⟩ := HQ.out
  have c0 := HPP.out _ hL _ _ q0
  have c1 := HPP.out _ hL _ _ q1
  have c2 := HPP.out _ hL _ _ q2
  have c3 := HPP.out _ hL _ _ q3
  have c4 := HPP.out _ hL _ _ q4
  have c5 := HPP.out _ hL _ _ q5
  have c6 := HPP.out _ hL _ _ q6
  have c7 := HPP.out _ hL _ _ q7
  have c8 := HPP.out _ hL _ _ q8
  simp only [Nat.add_zero] at c0
  clear q0 q1 q2 q3 q4 q5 q6 q7 q8
  go_wp2_with (fail)
  refine (HZ.out _ hL).mono ?_
  rintro e w2 ⟨⟨z2, rfl⟩, hb2⟩
  replace hL := hL.trans (hb2.mono hL.size)
  clear hb2 c0 c1 c2 c3 c4 c5 c6 c7 c8
  obtain ⟨q0, q1, q2, q3, q4, q5, q6, q7, q8⟩ := HQ.out
  have c0 := HPP.out _ hL _ _ q0
  have c1 := HPP.out _ hL _ _ q1
  have c2 := HPP.out _ hL _ _ q2
  have c3 := HPP.out _ hL _ _ q3
  have c4 := HPP.out _ hL _ _ q4
  have c5 := HPP.out _ hL _ _ q5
  have c6 := HPP.out _ hL _ _ q6
  have c7 := HPP.out _ hL _ _ q7
  have c8 := HPP.out _ hL _ _ q8
  simp only [Nat.add_zero] at c0
  clear q0 q1 q2 q3 q4 q5 q6 q7 q8
  obtain ⟨s2, hs2⟩ : ∃ s2, IntKind.i64.wrap (z + z2) = s2 := ⟨_, rfl⟩
  cases t0 : decide (4194304 < s2) with
  | true =>
   go_wp2
   go_ret
   exact ⟨rfl, hL⟩
  | false =>
   go_wp2_with (fail)
   refine (HP.out _ hL).mono ?_
   rintro e w3 ⟨rfl, hb3⟩
   replace hL := hL.trans (hb3.mono hL.size)
   clear hb3 c0 c1 c2 c3 c4 c5 c6 c7 c8
   go_wp2_with (fail)
   go_roundw
   case rel => exact ⟨k + 1, _, by omega, rfl, by go_num, hL⟩
   case measure => simp [intOf]; omega
 ·obtain rfl : k = l := by omega
  go_wp2
  go_ret
  exact ⟨rfl, hL⟩
end Go.Proofs.YtpiiemneelkpkaaGreatDoor
