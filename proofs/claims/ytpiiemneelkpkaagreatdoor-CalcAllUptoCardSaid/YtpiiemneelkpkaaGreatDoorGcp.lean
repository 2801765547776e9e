import Derived.Test.YtpiiemneelkpkaaGreatDoorCalL
import Derived.Test.YtpiiemneelkpkaaGreatDoorCalY
import Derived.Test.YtpiiemneelkpkaaGreatDoorCalU
set_option maxRecDepth 10000
namespace Go.Proofs.YtpiiemneelkpkaaGreatDoor
open Go.RowKit
set_option linter.unusedVariables false
theorem astext_small {v : Val.V} (hv : VB v) : (Val.asText v).1.size ≤ 40000 := by
 have hg := hv.good
 have hm := Val.good_may v
 unfold Val.asText
 generalize Val.good v = g at *
 obtain ⟨k, n, t⟩ := g
 rcases Val.may_cases hm with ⟨rfl, _, h⟩ | ⟨rfl, h⟩ | ⟨rfl, _, h⟩ | ⟨rfl, _, h⟩ | ⟨rfl, _, _, h⟩
 ·show t.size ≤ 40000
  have h2 : t.toList = [] := by unfold Val.isE at h; simpa using h
  rw [← toList_len, h2]
  simp
 ·show (⟨(Lib.itoa n).toArray⟩ : ByteArray).size ≤ 40000
  have := Dec.itoa_len n hg.n0 hg.n1
  rw [Lib.size_eq]
  simp
  omega
 ·show (Val.word n).size ≤ 40000
  unfold Val.word
  cases n == 1 <;> decide
 ·exact Nat.le_trans h (by decide)
 ·show (Val.emp).size ≤ 40000
  decide
theorem bin_case (op : Int) (x y : Val.V) (w : World) (hx : VB x) (hy : VB y) (hN : NumW w) (h1 : 1 ≤ op) (h2 : op ≤ 12) :
  BinCase w op (Val.good x).k (Val.good x).n (Val.good x).t (Val.good y).k (Val.good y).n (Val.good y).t (Cal.bin op x y).k (Cal.bin op x y).n (Cal.bin op x y).t := by
 unfold Cal.bin
 rw [if_neg (by omega)]
 have hgx := hx.good
 have hgy := hy.good
 generalize Val.good x = g at *
 generalize Val.good y = h at *
 cases t1 : g.k == 4 with
 | true => exact .inl ⟨t1, rfl, rfl, rfl⟩
 | false =>
  cases t2 : h.k == 4 with
  | true => exact .inr (.inl ⟨t1, t2, rfl, rfl, rfl⟩)
  | false =>
   refine .inr (.inr ⟨t1, t2, ?_⟩)
   simp only [cond_false]
   unfold Cal.two
   by_cases h6 : op = 6
   ·subst h6
    refine .inl ⟨rfl, (Val.asText g).1, (Val.asText h).1, (Val.asText g).2, (Val.asText h).2, astext_small hgx, astext_small hgy, ?_, ?_, ?_⟩
    ·exact Lib.hid (fun w' hb => astext_any g w' hgx (hN.below hb))
    ·exact Lib.hid (fun w' hb => astext_any h w' hgy (hN.below hb))
    ·exact Lib.hid (fun w => cspelt_any _ 0 w)
   ·rw [show (op == 6) = false by simpa using h6]
    by_cases h7 : 7 ≤ op
    ·rw [decide_eq_true h7]
     refine .inr (.inl ⟨by omega, Val.cmpG (Val.good g) (Val.good h), Cal.related op (Val.cmpG (Val.good g) (Val.good h)), Lib.hid (fun w => vcompare_any g h w), Lib.hid (fun w => crelated_any op _ h7 h2 w), Lib.hid (fun w => ctruth_any _ w)⟩)
    ·rw [decide_eq_false h7]
     refine .inr (.inr ⟨by omega, (Val.number g).1, (Val.number h).1, (Val.number g).2, (Val.number h).2, Lib.hid (fun w' hb => number_any g w' hgx (hN.below hb)), Lib.hid (fun w' hb => number_any h w' hgy (hN.below hb)), ?_⟩)
     have ia := number_in hgx
     have ib := number_in hgy
     generalize Val.number g = p at *
     generalize Val.number h = q at *
     obtain ⟨a, z⟩ := p
     obtain ⟨b, e⟩ := q
     cases hz : (z != 0) with
     | true => exact .inl ⟨rfl, Lib.hid (fun w => cfault_any z w)⟩
     | false =>
      have hz0 : z = 0 := by simpa using hz
      cases he : (e != 0) with
      | true => exact .inr (.inl ⟨hz0, rfl, Lib.hid (fun w => cfault_any e w)⟩)
      | false =>
       refine .inr (.inr ⟨hz0, by simpa using he, ?_⟩)
       simp only [cond_false]
       obtain rfl | rfl | rfl | rfl | rfl : op = 1 ∨ op = 2 ∨ op = 3 ∨ op = 4 ∨ op = 5 := by omega
       ·exact .inl ⟨rfl, _, _, Lib.hid (cpow a b ia ib), Lib.hid (fun w => ctold_any _ _ w)⟩
       ·exact .inr (.inl ⟨rfl, _, _, Lib.hid (cmul a b ia ib), Lib.hid (fun w => cfits_any _ _ w)⟩)
       ·exact .inr (.inr (.inl ⟨rfl, _, _, Lib.hid (cquo a b ia ib), Lib.hid (fun w => ctold_any _ _ w)⟩))
       ·exact .inr (.inr (.inr (.inl ⟨rfl, _, _, Lib.hid (cadd a b ia ib), Lib.hid (fun w => cfits_any _ _ w)⟩)))
       ·exact .inr (.inr (.inr (.inr ⟨rfl, _, _, Lib.hid (csub a b ia ib), Lib.hid (fun w => cfits_any _ _ w)⟩)))
theorem bin_any (op : Int) (x y : Val.V) (w : World) (hx : VB x) (hy : VB y) (hN : NumW w) : Ret 13 #[.int .i64 op, vv x, vv y] w (vv (Cal.bin op x y)) := by
 by_cases h : op < 1 ∨ 12 < op
 ·unfold Cal.bin
  rw [if_pos h]
  refine bin_out op _ _ _ _ _ _ w ?_
  by_cases h1 : op < 1
  ·exact .inl (decide_eq_true h1)
  ·exact .inr ⟨decide_eq_false h1, decide_eq_true (by omega)⟩
 ·exact bin_at op _ _ _ _ _ _ _ _ _ _ _ _ w (fun w => cgood_any x w) (fun w => cgood_any y w) (decide_eq_false (by omega)) (decide_eq_false (by omega)) _ _ _ (bin_case op x y w hx hy hN (by omega) (by omega))
end Go.Proofs.YtpiiemneelkpkaaGreatDoor
namespace Go.Proofs.YtpiiemneelkpkaaGreatDoor
open Go.RowKit
set_option linter.unusedVariables false
namespace Cal
def how : Nat → ByteArray
 | 1 => ⟨#[110]⟩
 | 2 => ⟨#[110]⟩
 | 3 => ⟨#[110, 110]⟩
 | 4 => ⟨#[110, 110]⟩
 | 5 => ⟨#[110, 110]⟩
 | 6 => ⟨#[110, 110]⟩
 | 7 => ⟨#[110, 110]⟩
 | 8 => ⟨#[110]⟩
 | 9 => ⟨#[110]⟩
 | 10 => ⟨#[110]⟩
 | 11 => ⟨#[110, 110]⟩
 | 12 => ⟨#[110, 110]⟩
 | 13 => ⟨#[110, 110]⟩
 | 14 => ⟨#[98]⟩
 | 15 => ⟨#[110, 110, 110]⟩
 | 16 => ⟨#[116]⟩
 | 17 => ⟨#[116, 110]⟩
 | 18 => ⟨#[116, 110]⟩
 | 19 => ⟨#[116, 110, 110]⟩
 | 20 => ⟨#[116]⟩
 | 21 => ⟨#[116]⟩
 | 22 => ⟨#[116]⟩
 | 23 => ⟨#[116]⟩
 | 24 => ⟨#[116, 116, 110]⟩
 | 25 => ⟨#[116, 116, 116]⟩
 | 26 => ⟨#[116, 110, 110, 116]⟩
 | 27 => ⟨#[116, 110]⟩
 | 28 => ⟨#[116, 116]⟩
 | 29 => ⟨#[116]⟩
 | 30 => ⟨#[110]⟩
 | 31 => ⟨#[110]⟩
 | 32 => ⟨#[116]⟩
 | 33 => ⟨#[118]⟩
 | 34 => ⟨#[118]⟩
 | 35 => ⟨#[]⟩
 | _ => ⟨#[]⟩
def first (p : Nat → Bool) (n : Nat) : Option Nat := (List.range n).find? p
theorem first_some {p : Nat → Bool} {n k : Nat} (hk : k < n) (h : p k = true) (hb : ∀ j, j < k → p j = false) : first p n = some k := by
 unfold first
 rw [List.find?_range_eq_some]
 exact ⟨h, List.mem_range.2 hk, fun j hj => by rw [hb j hj]; rfl⟩
theorem first_none {p : Nat → Bool} {n : Nat} (h : ∀ j, j < n → p j = false) : first p n = none := by
 unfold first
 rw [List.find?_range_eq_none]
 exact fun j hj => by rw [h j hj]; rfl
theorem first_hit {p : Nat → Bool} {n k : Nat} (hk : k < n) (h : p k = true) : ∃ j, first p n = some j := by
 cases e : first p n with
 | some j => exact ⟨j, rfl⟩
 | none =>
  unfold first at e
  rw [List.find?_range_eq_none] at e
  have := e k hk
  rw [h] at this
  cases this
theorem first_or (p : Nat → Bool) (n : Nat) : (∃ k, k < n ∧ p k = true ∧ first p n = some k ∧ ∀ j, j < k → p j = false) ∨ (first p n = none ∧ ∀ j, j < n → p j = false) := by
 cases e : first p n with
 | some k =>
  unfold first at e
  rw [List.find?_range_eq_some] at e
  exact .inl ⟨k, List.mem_range.1 e.2.1, e.1, rfl, fun j hj => by simpa using e.2.2 j hj⟩
 | none =>
  unfold first at e
  rw [List.find?_range_eq_none] at e
  exact .inr ⟨rfl, fun j hj => by simpa using e j hj⟩
def callS (f n : Nat) (v : Nat → Val.V) : Val.V × Int :=
 match first (fun k => !Val.mayB (v k)) n with
 | some _ => (⟨0, 0, ⟨#[]⟩⟩, 24)
 | none => match first (fun k => (v k).k == 4) n with
  | some k => (v k, 0)
  | none => match first (fun k => codeAt (how f) v k != 0) n with
   | some k => (bad (codeAt (how f) v k), 0)
   | none => (work f (inAt (how f) v n), 0)
theorem how_ch : ∀ f, f < 36 → ∀ k, k < (how f).size → (((how f).data.toList.getD k 0).toNat = 110 ∨ ((how f).data.toList.getD k 0).toNat = 116 ∨ ((how f).data.toList.getD k 0).toNat = 98 ∨ ((how f).data.toList.getD k 0).toNat = 118) := by decide +kernel
theorem how_small : ∀ f, f < 36 → (how f).size ≤ 10 := by decide +kernel
end Cal
theorem info_scalar : ∀ f : Nat, f < 36 → 1 ≤ f → (infoV f).1.2.1 = 1 ∧ (infoV f).1.2.2.2 = ((Cal.how f).size : Int) ∧ (infoV f).2 = 0 ∧ (f : Int) ∈ ([1, 2, 3, 4, 5, 6, 7, 8, 9, 10, 11, 12, 13, 14, 15, 31, 33, 35, 16, 17, 18, 19, 20, 21, 22, 23, 24, 25, 26, 27, 28, 29, 30, 32, 34] : List Int) := by decide +kernel
theorem how_row (f : Int) (s : ByteArray) (h : rowS f s) : s = Cal.how f.toNat := by
 rcases h with ⟨g, h⟩ | ⟨g, h, T, h⟩
 ·simp only [plainTab, List.mem_cons, Prod.mk.injEq, List.not_mem_nil, or_false] at h
  rcases h with ⟨rfl, rfl, _⟩ | ⟨rfl, rfl, _⟩ | ⟨rfl, rfl, _⟩ | ⟨rfl, rfl, _⟩ | ⟨rfl, rfl, _⟩ | ⟨rfl, rfl, _⟩ | ⟨rfl, rfl, _⟩ | ⟨rfl, rfl, _⟩ | ⟨rfl, rfl, _⟩ | ⟨rfl, rfl, _⟩ | ⟨rfl, rfl, _⟩ | ⟨rfl, rfl, _⟩ | ⟨rfl, rfl, _⟩ | ⟨rfl, rfl, _⟩ | ⟨rfl, rfl, _⟩ | ⟨rfl, rfl, _⟩ | ⟨rfl, rfl, _⟩ | ⟨rfl, rfl, _⟩ | ⟨rfl, rfl, _⟩ | ⟨rfl, rfl, _⟩ | ⟨rfl, rfl, _⟩ | ⟨rfl, rfl, _⟩ | ⟨rfl, rfl, _⟩ <;> rfl
 ·simp only [boxTab, List.mem_cons, Prod.mk.injEq, List.not_mem_nil, or_false] at h
  rcases h with ⟨rfl, rfl, _⟩ | ⟨rfl, rfl, _⟩ | ⟨rfl, rfl, _⟩ | ⟨rfl, rfl, _⟩ | ⟨rfl, rfl, _⟩ | ⟨rfl, rfl, _⟩ | ⟨rfl, rfl, _⟩ | ⟨rfl, rfl, _⟩ | ⟨rfl, rfl, _⟩ | ⟨rfl, rfl, _⟩ | ⟨rfl, rfl, _⟩ | ⟨rfl, rfl, _⟩ <;> rfl
theorem row_p {W : World} {f : Int} {s : ByteArray} {fn : Value} (g : Nat) (h : isRow W f (.agg #[.string s, fn])) (hp : ∀ p ∈ plainTab, p.1 = f → p.2.2 = g) (hb : ∀ p ∈ boxTab, p.1 ≠ f) : fn = .func (.func g) #[] #[] := by
 rcases h with ⟨s', g', h, e⟩ | ⟨s', g', x, T, b, h, _, _⟩
 ·simp at e
  obtain ⟨_, rfl⟩ := e
  have := hp _ h rfl
  simp only at this
  subst this
  rfl
 ·exact absurd rfl (hb _ h)
theorem row_b {W : World} {f : Int} {s : ByteArray} {fn : Value} (g x T : Nat) (h : isRow W f (.agg #[.string s, fn])) (hb : ∀ p ∈ boxTab, p.1 = f → p.2.2 = (g, x, T)) (hp : ∀ p ∈ plainTab, p.1 ≠ f) : ∃ b, fn = .func (.func g) #[] #[.pointer (some ⟨b, 0, none⟩)] ∧ W.heap[b]? = some (.cells #[.func (.func x) #[] #[]] T (0, 0)) := by
 rcases h with ⟨s', g', h, e⟩ | ⟨s', g', x', T', b, h, hh, e⟩
 ·exact absurd rfl (hp _ h)
 ·simp at e
  obtain ⟨_, rfl⟩ := e
  have := hb _ h rfl
  simp only [Prod.mk.injEq] at this
  obtain ⟨rfl, rfl, rfl⟩ := this
  exact ⟨b, rfl, hh⟩
def HCellP (w : World) (a : Option Addr) (n : Nat) (v : Nat → Val.V) : Prop := ∀ k, k < n → ∃ b o, a = some ⟨b, o, none⟩ ∧ b < w.heap.size ∧ w.cell? ⟨b, o + k * 3, none⟩ = some (.int .i64 (v k).k) ∧ w.cell? ⟨b, o + k * 3 + 1, none⟩ = some (.int .i64 (v k).n) ∧ w.cell? ⟨b, o + k * 3 + 2, none⟩ = some (.string (v k).t)
theorem call_one (f n : Nat) (v : Nat → Val.V) (a : Option Addr) (cap : Nat) (w : World) (h1 : 1 ≤ f) (h2 : f < 36) (hn : (infoV f).1.2.2.1 ≤ (n : Int)) (hx : (n : Int) ≤ (infoV f).1.2.2.2)
  (hc : HCellP w a n v) (hvb : ∀ k, k < n → VB (v k)) (hN : NumW w)
  (hW : (∀ k, k < n → Val.mayB (v k) = true) → ∀ W nsv tsv fn, isRow W f (.agg #[.string (Cal.how f), fn]) → Below w.heap.size w W →
   W.ownsRow w.heap.size 2 1 nsv (Cal.inAt (Cal.how f) v n).ns.length ((Cal.inAt (Cal.how f) v n).ns.map (.int .i64)) → W.ownsRow w.heap.size 9 1 tsv (Cal.inAt (Cal.how f) v n).ts.length ((Cal.inAt (Cal.how f) v n).ts.map .string) →
   WorkOK W fn nsv tsv (Cal.inAt (Cal.how f) v n) (Cal.work f (Cal.inAt (Cal.how f) v n)).k (Cal.work f (Cal.inAt (Cal.how f) v n)).n (Cal.work f (Cal.inAt (Cal.how f) v n)).t) :
  Ret 18 #[.int .i64 f, .slice a n cap] w (.tuple #[vv (Cal.callS f n v).1, .int .i64 (Cal.callS f n v).2]) := by
 obtain ⟨i1, i2, i3, i4⟩ := info_scalar f h2 h1
 have i5 := Cal.how_small f h2
 have i6 := Cal.how_ch f h2
 generalize hI : infoV f = r0 at i1 i2 i3 hn hx
 obtain ⟨⟨nm, c, mn, mx⟩, e0⟩ := r0
 simp only at i1 i2 i3 hn hx
 subst i1 i3 i2
 have hm : ∀ k, k < n → ∀ b, (!Val.mayB (v k)) = b → Val.mayB (v k) = !b := fun k _ b e => by rw [← e]; simp
 refine call_scalar f n mn _ nm (Cal.how f) v a cap (Cal.callS f n v).1.k (Cal.callS f n v).1.n (Cal.callS f n v).1.t (Cal.callS f n v).2 w hI (decide_eq_false (by omega)) (decide_eq_false (by omega)) i4
  (fun s' h => how_row f s' h) (by omega) i5 (fun k hk => i6 k (by omega)) (Lib.hid hc) (Lib.hid hvb) hN (Lib.hid ?_) (Lib.hid ?_) (Lib.hid ?_) (Lib.hid ?_)
 ·intro k hk h
  obtain ⟨j, hj⟩ := Cal.first_hit (p := fun k => !Val.mayB (v k)) hk (by show (!Val.mayB (v k)) = true; rw [h]; rfl)
  unfold Cal.callS
  rw [hj]
  exact ⟨rfl, rfl, rfl, rfl⟩
 ·intro hmay k hk hpre h
  unfold Cal.callS
  rw [Cal.first_none (p := fun k => !Val.mayB (v k)) (fun j hj => by show (!Val.mayB (v j)) = false; rw [hmay j hj]; rfl), Cal.first_some (p := fun k => (v k).k == 4) hk h hpre]
  exact ⟨rfl, rfl, rfl, rfl⟩
 ·intro hmay herr k hk hpre h
  unfold Cal.callS
  rw [Cal.first_none (p := fun k => !Val.mayB (v k)) (fun j hj => by show (!Val.mayB (v j)) = false; rw [hmay j hj]; rfl), Cal.first_none (p := fun k => (v k).k == 4) herr,
   Cal.first_some (p := fun k => Cal.codeAt (Cal.how f) v k != 0) hk h (fun j hj => by show (Cal.codeAt (Cal.how f) v j != 0) = false; rw [hpre j hj]; rfl)]
  exact ⟨rfl, rfl, rfl, rfl⟩
 ·intro hmay herr hcode
  have e : Cal.callS f n v = (Cal.work f (Cal.inAt (Cal.how f) v n), 0) := by
   unfold Cal.callS
   rw [Cal.first_none (p := fun k => !Val.mayB (v k)) (fun j hj => by show (!Val.mayB (v j)) = false; rw [hmay j hj]; rfl), Cal.first_none (p := fun k => (v k).k == 4) herr,
    Cal.first_none (p := fun k => Cal.codeAt (Cal.how f) v k != 0) (fun j hj => by show (Cal.codeAt (Cal.how f) v j != 0) = false; rw [hcode j hj]; rfl)]
  rw [e]
  exact ⟨rfl, hW hmay⟩
end Go.Proofs.YtpiiemneelkpkaaGreatDoor
namespace Go.Proofs.YtpiiemneelkpkaaGreatDoor
open Go.RowKit
set_option linter.unusedVariables false
theorem own_cells {W : World} {base : Nat} {e : TypeId} {v : Value} {n : Nat} {xs : List Value} (h : W.ownsRow base e 1 v (n + 1) xs) : ∃ g cap, v = .slice (some ⟨g, 0, none⟩) (n + 1) cap ∧ g < W.heap.size ∧ ∀ j u, xs[j]? = some u → W.cell? ⟨g, j, none⟩ = some u := by
 obtain ⟨g, cap, rfl⟩ := row_shape h
 refine ⟨g, cap, rfl, (h.lt g rfl).2, fun j u hu => ?_⟩
 have hadd : (⟨g, 0, none⟩ : Addr).add j = ⟨g, j, none⟩ := by unfold Addr.add; split <;> simp_all
 rw [← hadd]
 exact h.cells rfl j u hu
theorem own_none {W : World} {base : Nat} {e : TypeId} {v : Value} {xs : List Value} (h : W.ownsRow base e 1 v 0 xs) : ∃ a cap, v = .slice a 0 cap := by
 rcases h.2 with ⟨rfl, _⟩ | ⟨g, cap, cur, rfl, _⟩
 ·exact ⟨_, _, rfl⟩
 ·exact ⟨_, _, rfl⟩
theorem ok_1 (v : Nat → Val.V) (w W : World) (nsv tsv fn : Value) (hvb : ∀ k, k < 1 → VB (v k)) (hT : TxtW w) (hb : Below w.heap.size w W) (hr : isRow W 1 (.agg #[.string (Cal.how 1), fn]))
  (hns : W.ownsRow w.heap.size 2 1 nsv (Cal.inAt (Cal.how 1) v 1).ns.length ((Cal.inAt (Cal.how 1) v 1).ns.map (.int .i64))) (hts : W.ownsRow w.heap.size 9 1 tsv (Cal.inAt (Cal.how 1) v 1).ts.length ((Cal.inAt (Cal.how 1) v 1).ts.map .string)) :
  WorkOK W fn nsv tsv (Cal.inAt (Cal.how 1) v 1) (Cal.work 1 (Cal.inAt (Cal.how 1) v 1)).k (Cal.work 1 (Cal.inAt (Cal.how 1) v 1)).n (Cal.work 1 (Cal.inAt (Cal.how 1) v 1)).t := by
 have e : (Cal.inAt (Cal.how 1) v 1) = ⟨[(Val.number (v 0)).1], [], false, ⟨0, 0, ⟨#[]⟩⟩⟩ := by kernel_rfl
 rw [e] at hns hts ⊢
 clear e
 have nb0 := number_in (hvb 0 (by decide))
 generalize (Val.number (v 0)).1 = a0 at *
 clear hvb
 obtain ⟨g, gc, rfl, hg, hc⟩ := own_cells hns
 have c0 := hc 0 _ rfl
 obtain rfl := row_p 104 hr (by decide) (by decide)
 refine .inl ⟨104, rfl, fun args w => by kernel_rfl, ?_⟩
 show Calls _ _ _ W fun e w' => e = .returned (vv (cond (decide (a0 < 0)) (Cal.fits (Ref.fitV (0 - a0)) (Ref.fitB (0 - a0))) (Cal.num a0))) ∧ _
 cases t0 : decide (a0 < 0) with
 | true => exact wk1a a0 nb0 t0 W g gc tsv _ hg c0
 | false => exact wk1b a0 t0 W g gc tsv _ hg c0
theorem ok_2 (v : Nat → Val.V) (w W : World) (nsv tsv fn : Value) (hvb : ∀ k, k < 1 → VB (v k)) (hT : TxtW w) (hb : Below w.heap.size w W) (hr : isRow W 2 (.agg #[.string (Cal.how 2), fn]))
  (hns : W.ownsRow w.heap.size 2 1 nsv (Cal.inAt (Cal.how 2) v 1).ns.length ((Cal.inAt (Cal.how 2) v 1).ns.map (.int .i64))) (hts : W.ownsRow w.heap.size 9 1 tsv (Cal.inAt (Cal.how 2) v 1).ts.length ((Cal.inAt (Cal.how 2) v 1).ts.map .string)) :
  WorkOK W fn nsv tsv (Cal.inAt (Cal.how 2) v 1) (Cal.work 2 (Cal.inAt (Cal.how 2) v 1)).k (Cal.work 2 (Cal.inAt (Cal.how 2) v 1)).n (Cal.work 2 (Cal.inAt (Cal.how 2) v 1)).t := by
 have e : (Cal.inAt (Cal.how 2) v 1) = ⟨[(Val.number (v 0)).1], [], false, ⟨0, 0, ⟨#[]⟩⟩⟩ := by kernel_rfl
 rw [e] at hns hts ⊢
 clear e
 have nb0 := number_in (hvb 0 (by decide))
 generalize (Val.number (v 0)).1 = a0 at *
 clear hvb
 obtain ⟨g, gc, rfl, hg, hc⟩ := own_cells hns
 have c0 := hc 0 _ rfl
 obtain rfl := row_p 105 hr (by decide) (by decide)
 refine .inl ⟨105, rfl, fun args w => by kernel_rfl, ?_⟩
 show Calls _ _ _ W fun e w' => e = .returned (vv (Cal.num (if a0 < 0 then -1 else if 0 < a0 then 1 else 0))) ∧ _
 by_cases h0 : a0 < 0
 ·rw [if_pos h0]; exact wk2a a0 (decide_eq_true h0) W g gc tsv _ hg c0
 ·rw [if_neg h0]
  by_cases h1 : 0 < a0
  ·rw [if_pos h1]; exact wk2b a0 (decide_eq_false h0) (decide_eq_true h1) W g gc tsv _ hg c0
  ·rw [if_neg h1]; exact wk2c a0 (decide_eq_false h0) (decide_eq_false h1) W g gc tsv _ hg c0
theorem ok_3 (v : Nat → Val.V) (w W : World) (nsv tsv fn : Value) (hvb : ∀ k, k < 2 → VB (v k)) (hT : TxtW w) (hb : Below w.heap.size w W) (hr : isRow W 3 (.agg #[.string (Cal.how 3), fn]))
  (hns : W.ownsRow w.heap.size 2 1 nsv (Cal.inAt (Cal.how 3) v 2).ns.length ((Cal.inAt (Cal.how 3) v 2).ns.map (.int .i64))) (hts : W.ownsRow w.heap.size 9 1 tsv (Cal.inAt (Cal.how 3) v 2).ts.length ((Cal.inAt (Cal.how 3) v 2).ts.map .string)) :
  WorkOK W fn nsv tsv (Cal.inAt (Cal.how 3) v 2) (Cal.work 3 (Cal.inAt (Cal.how 3) v 2)).k (Cal.work 3 (Cal.inAt (Cal.how 3) v 2)).n (Cal.work 3 (Cal.inAt (Cal.how 3) v 2)).t := by
 have e : (Cal.inAt (Cal.how 3) v 2) = ⟨[(Val.number (v 0)).1, (Val.number (v 1)).1], [], false, ⟨0, 0, ⟨#[]⟩⟩⟩ := by kernel_rfl
 rw [e] at hns hts ⊢
 clear e
 have nb0 := number_in (hvb 0 (by decide))
 generalize (Val.number (v 0)).1 = a0 at *
 have nb1 := number_in (hvb 1 (by decide))
 generalize (Val.number (v 1)).1 = a1 at *
 clear hvb
 obtain ⟨g, gc, rfl, hg, hc⟩ := own_cells hns
 have c0 := hc 0 _ rfl
 have c1 := hc 1 _ rfl
 obtain ⟨bb, rfl, hbx⟩ := row_b 172 107 68 hr (by decide) (by decide)
 refine .inr ⟨172, _, rfl, fun args w => by kernel_rfl, ?_⟩
 exact two1_any _ (fun args w => by kernel_rfl) a0 a1 _ _ W g gc tsv bb _ _ hg c0 c1 hbx (fun w _ => cmod a0 a1 nb0 nb1 w)
theorem ok_4 (v : Nat → Val.V) (w W : World) (nsv tsv fn : Value) (hvb : ∀ k, k < 2 → VB (v k)) (hT : TxtW w) (hb : Below w.heap.size w W) (hr : isRow W 4 (.agg #[.string (Cal.how 4), fn]))
  (hns : W.ownsRow w.heap.size 2 1 nsv (Cal.inAt (Cal.how 4) v 2).ns.length ((Cal.inAt (Cal.how 4) v 2).ns.map (.int .i64))) (hts : W.ownsRow w.heap.size 9 1 tsv (Cal.inAt (Cal.how 4) v 2).ts.length ((Cal.inAt (Cal.how 4) v 2).ts.map .string)) :
  WorkOK W fn nsv tsv (Cal.inAt (Cal.how 4) v 2) (Cal.work 4 (Cal.inAt (Cal.how 4) v 2)).k (Cal.work 4 (Cal.inAt (Cal.how 4) v 2)).n (Cal.work 4 (Cal.inAt (Cal.how 4) v 2)).t := by
 have e : (Cal.inAt (Cal.how 4) v 2) = ⟨[(Val.number (v 0)).1, (Val.number (v 1)).1], [], false, ⟨0, 0, ⟨#[]⟩⟩⟩ := by kernel_rfl
 rw [e] at hns hts ⊢
 clear e
 have nb0 := number_in (hvb 0 (by decide))
 generalize (Val.number (v 0)).1 = a0 at *
 have nb1 := number_in (hvb 1 (by decide))
 generalize (Val.number (v 1)).1 = a1 at *
 clear hvb
 obtain ⟨g, gc, rfl, hg, hc⟩ := own_cells hns
 have c0 := hc 0 _ rfl
 have c1 := hc 1 _ rfl
 obtain ⟨bb, rfl, hbx⟩ := row_b 172 40 68 hr (by decide) (by decide)
 refine .inr ⟨172, _, rfl, fun args w => by kernel_rfl, ?_⟩
 exact two1_any _ (fun args w => by kernel_rfl) a0 a1 _ _ W g gc tsv bb _ _ hg c0 c1 hbx (fun w _ => cquo a0 a1 nb0 nb1 w)
theorem ok_5 (v : Nat → Val.V) (w W : World) (nsv tsv fn : Value) (hvb : ∀ k, k < 2 → VB (v k)) (hT : TxtW w) (hb : Below w.heap.size w W) (hr : isRow W 5 (.agg #[.string (Cal.how 5), fn]))
  (hns : W.ownsRow w.heap.size 2 1 nsv (Cal.inAt (Cal.how 5) v 2).ns.length ((Cal.inAt (Cal.how 5) v 2).ns.map (.int .i64))) (hts : W.ownsRow w.heap.size 9 1 tsv (Cal.inAt (Cal.how 5) v 2).ts.length ((Cal.inAt (Cal.how 5) v 2).ts.map .string)) :
  WorkOK W fn nsv tsv (Cal.inAt (Cal.how 5) v 2) (Cal.work 5 (Cal.inAt (Cal.how 5) v 2)).k (Cal.work 5 (Cal.inAt (Cal.how 5) v 2)).n (Cal.work 5 (Cal.inAt (Cal.how 5) v 2)).t := by
 have e : (Cal.inAt (Cal.how 5) v 2) = ⟨[(Val.number (v 0)).1, (Val.number (v 1)).1], [], false, ⟨0, 0, ⟨#[]⟩⟩⟩ := by kernel_rfl
 rw [e] at hns hts ⊢
 clear e
 have nb0 := number_in (hvb 0 (by decide))
 generalize (Val.number (v 0)).1 = a0 at *
 have nb1 := number_in (hvb 1 (by decide))
 generalize (Val.number (v 1)).1 = a1 at *
 clear hvb
 obtain ⟨g, gc, rfl, hg, hc⟩ := own_cells hns
 have c0 := hc 0 _ rfl
 have c1 := hc 1 _ rfl
 obtain ⟨bb, rfl, hbx⟩ := row_b 172 37 68 hr (by decide) (by decide)
 refine .inr ⟨172, _, rfl, fun args w => by kernel_rfl, ?_⟩
 exact two1_any _ (fun args w => by kernel_rfl) a0 a1 _ _ W g gc tsv bb _ _ hg c0 c1 hbx (fun w _ => cpow a0 a1 nb0 nb1 w)
theorem ok_6 (v : Nat → Val.V) (w W : World) (nsv tsv fn : Value) (hvb : ∀ k, k < 2 → VB (v k)) (hT : TxtW w) (hb : Below w.heap.size w W) (hr : isRow W 6 (.agg #[.string (Cal.how 6), fn]))
  (hns : W.ownsRow w.heap.size 2 1 nsv (Cal.inAt (Cal.how 6) v 2).ns.length ((Cal.inAt (Cal.how 6) v 2).ns.map (.int .i64))) (hts : W.ownsRow w.heap.size 9 1 tsv (Cal.inAt (Cal.how 6) v 2).ts.length ((Cal.inAt (Cal.how 6) v 2).ts.map .string)) :
  WorkOK W fn nsv tsv (Cal.inAt (Cal.how 6) v 2) (Cal.work 6 (Cal.inAt (Cal.how 6) v 2)).k (Cal.work 6 (Cal.inAt (Cal.how 6) v 2)).n (Cal.work 6 (Cal.inAt (Cal.how 6) v 2)).t := by
 have e : (Cal.inAt (Cal.how 6) v 2) = ⟨[(Val.number (v 0)).1, (Val.number (v 1)).1], [], false, ⟨0, 0, ⟨#[]⟩⟩⟩ := by kernel_rfl
 rw [e] at hns hts ⊢
 clear e
 have nb0 := number_in (hvb 0 (by decide))
 generalize (Val.number (v 0)).1 = a0 at *
 have nb1 := number_in (hvb 1 (by decide))
 generalize (Val.number (v 1)).1 = a1 at *
 clear hvb
 obtain ⟨g, gc, rfl, hg, hc⟩ := own_cells hns
 have c0 := hc 0 _ rfl
 have c1 := hc 1 _ rfl
 obtain ⟨bb, rfl, hbx⟩ := row_b 172 108 68 hr (by decide) (by decide)
 refine .inr ⟨172, _, rfl, fun args w => by kernel_rfl, ?_⟩
 exact two1_any _ (fun args w => by kernel_rfl) a0 a1 _ _ W g gc tsv bb _ _ hg c0 c1 hbx (fun w _ => cgcd a0 a1 nb0 nb1 w)
theorem ok_7 (v : Nat → Val.V) (w W : World) (nsv tsv fn : Value) (hvb : ∀ k, k < 2 → VB (v k)) (hT : TxtW w) (hb : Below w.heap.size w W) (hr : isRow W 7 (.agg #[.string (Cal.how 7), fn]))
  (hns : W.ownsRow w.heap.size 2 1 nsv (Cal.inAt (Cal.how 7) v 2).ns.length ((Cal.inAt (Cal.how 7) v 2).ns.map (.int .i64))) (hts : W.ownsRow w.heap.size 9 1 tsv (Cal.inAt (Cal.how 7) v 2).ts.length ((Cal.inAt (Cal.how 7) v 2).ts.map .string)) :
  WorkOK W fn nsv tsv (Cal.inAt (Cal.how 7) v 2) (Cal.work 7 (Cal.inAt (Cal.how 7) v 2)).k (Cal.work 7 (Cal.inAt (Cal.how 7) v 2)).n (Cal.work 7 (Cal.inAt (Cal.how 7) v 2)).t := by
 have e : (Cal.inAt (Cal.how 7) v 2) = ⟨[(Val.number (v 0)).1, (Val.number (v 1)).1], [], false, ⟨0, 0, ⟨#[]⟩⟩⟩ := by kernel_rfl
 rw [e] at hns hts ⊢
 clear e
 have nb0 := number_in (hvb 0 (by decide))
 generalize (Val.number (v 0)).1 = a0 at *
 have nb1 := number_in (hvb 1 (by decide))
 generalize (Val.number (v 1)).1 = a1 at *
 clear hvb
 obtain ⟨g, gc, rfl, hg, hc⟩ := own_cells hns
 have c0 := hc 0 _ rfl
 have c1 := hc 1 _ rfl
 obtain ⟨bb, rfl, hbx⟩ := row_b 172 109 68 hr (by decide) (by decide)
 refine .inr ⟨172, _, rfl, fun args w => by kernel_rfl, ?_⟩
 exact two1_any _ (fun args w => by kernel_rfl) a0 a1 _ _ W g gc tsv bb _ _ hg c0 c1 hbx (fun w _ => clcm a0 a1 nb0 nb1 w)
theorem ok_8 (v : Nat → Val.V) (w W : World) (nsv tsv fn : Value) (hvb : ∀ k, k < 1 → VB (v k)) (hT : TxtW w) (hb : Below w.heap.size w W) (hr : isRow W 8 (.agg #[.string (Cal.how 8), fn]))
  (hns : W.ownsRow w.heap.size 2 1 nsv (Cal.inAt (Cal.how 8) v 1).ns.length ((Cal.inAt (Cal.how 8) v 1).ns.map (.int .i64))) (hts : W.ownsRow w.heap.size 9 1 tsv (Cal.inAt (Cal.how 8) v 1).ts.length ((Cal.inAt (Cal.how 8) v 1).ts.map .string)) :
  WorkOK W fn nsv tsv (Cal.inAt (Cal.how 8) v 1) (Cal.work 8 (Cal.inAt (Cal.how 8) v 1)).k (Cal.work 8 (Cal.inAt (Cal.how 8) v 1)).n (Cal.work 8 (Cal.inAt (Cal.how 8) v 1)).t := by
 have e : (Cal.inAt (Cal.how 8) v 1) = ⟨[(Val.number (v 0)).1], [], false, ⟨0, 0, ⟨#[]⟩⟩⟩ := by kernel_rfl
 rw [e] at hns hts ⊢
 clear e
 have nb0 := number_in (hvb 0 (by decide))
 generalize (Val.number (v 0)).1 = a0 at *
 clear hvb
 obtain ⟨g, gc, rfl, hg, hc⟩ := own_cells hns
 have c0 := hc 0 _ rfl
 obtain rfl := row_p 110 hr (by decide) (by decide)
 refine .inl ⟨110, rfl, fun args w => by kernel_rfl, ?_⟩
 show Calls _ _ _ W fun e w' => e = .returned (vv (if a0 < 0 ∨ 20 < a0 then Cal.bad 2 else Cal.num (Cal.fct a0.toNat))) ∧ _
 by_cases h0 : a0 < 0
 ·rw [if_pos (.inl h0)]; exact wk8a a0 (decide_eq_true h0) W g gc tsv _ hg c0
 ·by_cases h1 : 20 < a0
  ·rw [if_pos (.inr h1)]; exact wk8b a0 (decide_eq_false h0) (decide_eq_true h1) W g gc tsv _ hg c0
  ·rw [if_neg (by omega)]
   obtain ⟨k, rfl⟩ := Int.eq_ofNat_of_zero_le (show 0 ≤ a0 by omega)
   rw [Int.toNat_natCast]
   exact wk8c k (by omega) W g gc tsv _ hg c0
theorem ok_9 (v : Nat → Val.V) (w W : World) (nsv tsv fn : Value) (hvb : ∀ k, k < 1 → VB (v k)) (hT : TxtW w) (hb : Below w.heap.size w W) (hr : isRow W 9 (.agg #[.string (Cal.how 9), fn]))
  (hns : W.ownsRow w.heap.size 2 1 nsv (Cal.inAt (Cal.how 9) v 1).ns.length ((Cal.inAt (Cal.how 9) v 1).ns.map (.int .i64))) (hts : W.ownsRow w.heap.size 9 1 tsv (Cal.inAt (Cal.how 9) v 1).ts.length ((Cal.inAt (Cal.how 9) v 1).ts.map .string)) :
  WorkOK W fn nsv tsv (Cal.inAt (Cal.how 9) v 1) (Cal.work 9 (Cal.inAt (Cal.how 9) v 1)).k (Cal.work 9 (Cal.inAt (Cal.how 9) v 1)).n (Cal.work 9 (Cal.inAt (Cal.how 9) v 1)).t := by
 have e : (Cal.inAt (Cal.how 9) v 1) = ⟨[(Val.number (v 0)).1], [], false, ⟨0, 0, ⟨#[]⟩⟩⟩ := by kernel_rfl
 rw [e] at hns hts ⊢
 clear e
 have nb0 := number_in (hvb 0 (by decide))
 generalize (Val.number (v 0)).1 = a0 at *
 clear hvb
 obtain ⟨g, gc, rfl, hg, hc⟩ := own_cells hns
 have c0 := hc 0 _ rfl
 obtain rfl := row_p 111 hr (by decide) (by decide)
 refine .inl ⟨111, rfl, fun args w => by kernel_rfl, ?_⟩
 exact wk9 a0 _ rfl W g gc tsv _ hg c0
theorem ok_10 (v : Nat → Val.V) (w W : World) (nsv tsv fn : Value) (hvb : ∀ k, k < 1 → VB (v k)) (hT : TxtW w) (hb : Below w.heap.size w W) (hr : isRow W 10 (.agg #[.string (Cal.how 10), fn]))
  (hns : W.ownsRow w.heap.size 2 1 nsv (Cal.inAt (Cal.how 10) v 1).ns.length ((Cal.inAt (Cal.how 10) v 1).ns.map (.int .i64))) (hts : W.ownsRow w.heap.size 9 1 tsv (Cal.inAt (Cal.how 10) v 1).ts.length ((Cal.inAt (Cal.how 10) v 1).ts.map .string)) :
  WorkOK W fn nsv tsv (Cal.inAt (Cal.how 10) v 1) (Cal.work 10 (Cal.inAt (Cal.how 10) v 1)).k (Cal.work 10 (Cal.inAt (Cal.how 10) v 1)).n (Cal.work 10 (Cal.inAt (Cal.how 10) v 1)).t := by
 have e : (Cal.inAt (Cal.how 10) v 1) = ⟨[(Val.number (v 0)).1], [], false, ⟨0, 0, ⟨#[]⟩⟩⟩ := by kernel_rfl
 rw [e] at hns hts ⊢
 clear e
 have nb0 := number_in (hvb 0 (by decide))
 generalize (Val.number (v 0)).1 = a0 at *
 clear hvb
 obtain ⟨g, gc, rfl, hg, hc⟩ := own_cells hns
 have c0 := hc 0 _ rfl
 obtain rfl := row_p 112 hr (by decide) (by decide)
 refine .inl ⟨112, rfl, fun args w => by kernel_rfl, ?_⟩
 exact wk10 a0 _ rfl W g gc tsv _ hg c0
theorem ok_11 (v : Nat → Val.V) (w W : World) (nsv tsv fn : Value) (hvb : ∀ k, k < 2 → VB (v k)) (hT : TxtW w) (hb : Below w.heap.size w W) (hr : isRow W 11 (.agg #[.string (Cal.how 11), fn]))
  (hns : W.ownsRow w.heap.size 2 1 nsv (Cal.inAt (Cal.how 11) v 2).ns.length ((Cal.inAt (Cal.how 11) v 2).ns.map (.int .i64))) (hts : W.ownsRow w.heap.size 9 1 tsv (Cal.inAt (Cal.how 11) v 2).ts.length ((Cal.inAt (Cal.how 11) v 2).ts.map .string)) :
  WorkOK W fn nsv tsv (Cal.inAt (Cal.how 11) v 2) (Cal.work 11 (Cal.inAt (Cal.how 11) v 2)).k (Cal.work 11 (Cal.inAt (Cal.how 11) v 2)).n (Cal.work 11 (Cal.inAt (Cal.how 11) v 2)).t := by
 have e : (Cal.inAt (Cal.how 11) v 2) = ⟨[(Val.number (v 0)).1, (Val.number (v 1)).1], [], false, ⟨0, 0, ⟨#[]⟩⟩⟩ := by kernel_rfl
 rw [e] at hns hts ⊢
 clear e
 have nb0 := number_in (hvb 0 (by decide))
 generalize (Val.number (v 0)).1 = a0 at *
 have nb1 := number_in (hvb 1 (by decide))
 generalize (Val.number (v 1)).1 = a1 at *
 clear hvb
 obtain ⟨g, gc, rfl, hg, hc⟩ := own_cells hns
 have c0 := hc 0 _ rfl
 have c1 := hc 1 _ rfl
 obtain ⟨bb, rfl, hbx⟩ := row_b 175 114 123 hr (by decide) (by decide)
 refine .inr ⟨175, _, rfl, fun args w => by kernel_rfl, ?_⟩
 show Calls _ _ _ W fun e w' => e = .returned (vv (cond (decide (a0 < 0) || decide (a1 < 0)) (Cal.bad 2) (Cal.num (Cal.bitV 0 a0 a1)))) ∧ _
 cases t0 : decide (a0 < 0) with
 | true => exact pos1_a _ a0 a1 t0 W g gc tsv bb _ _ hg c0 c1 hbx
 | false =>
  cases t1 : decide (a1 < 0) with
  | true => exact pos1_b _ a0 a1 t0 t1 W g gc tsv bb _ _ hg c0 c1 hbx
  | false => exact pos1_c _ (fun args w => by kernel_rfl) a0 a1 _ t0 t1 W g gc tsv bb _ _ hg c0 c1 hbx (fun w _ => bit_0 a0 a1 w)
theorem ok_12 (v : Nat → Val.V) (w W : World) (nsv tsv fn : Value) (hvb : ∀ k, k < 2 → VB (v k)) (hT : TxtW w) (hb : Below w.heap.size w W) (hr : isRow W 12 (.agg #[.string (Cal.how 12), fn]))
  (hns : W.ownsRow w.heap.size 2 1 nsv (Cal.inAt (Cal.how 12) v 2).ns.length ((Cal.inAt (Cal.how 12) v 2).ns.map (.int .i64))) (hts : W.ownsRow w.heap.size 9 1 tsv (Cal.inAt (Cal.how 12) v 2).ts.length ((Cal.inAt (Cal.how 12) v 2).ts.map .string)) :
  WorkOK W fn nsv tsv (Cal.inAt (Cal.how 12) v 2) (Cal.work 12 (Cal.inAt (Cal.how 12) v 2)).k (Cal.work 12 (Cal.inAt (Cal.how 12) v 2)).n (Cal.work 12 (Cal.inAt (Cal.how 12) v 2)).t := by
 have e : (Cal.inAt (Cal.how 12) v 2) = ⟨[(Val.number (v 0)).1, (Val.number (v 1)).1], [], false, ⟨0, 0, ⟨#[]⟩⟩⟩ := by kernel_rfl
 rw [e] at hns hts ⊢
 clear e
 have nb0 := number_in (hvb 0 (by decide))
 generalize (Val.number (v 0)).1 = a0 at *
 have nb1 := number_in (hvb 1 (by decide))
 generalize (Val.number (v 1)).1 = a1 at *
 clear hvb
 obtain ⟨g, gc, rfl, hg, hc⟩ := own_cells hns
 have c0 := hc 0 _ rfl
 have c1 := hc 1 _ rfl
 obtain ⟨bb, rfl, hbx⟩ := row_b 175 115 123 hr (by decide) (by decide)
 refine .inr ⟨175, _, rfl, fun args w => by kernel_rfl, ?_⟩
 show Calls _ _ _ W fun e w' => e = .returned (vv (cond (decide (a0 < 0) || decide (a1 < 0)) (Cal.bad 2) (Cal.num (Cal.bitV 1 a0 a1)))) ∧ _
 cases t0 : decide (a0 < 0) with
 | true => exact pos1_a _ a0 a1 t0 W g gc tsv bb _ _ hg c0 c1 hbx
 | false =>
  cases t1 : decide (a1 < 0) with
  | true => exact pos1_b _ a0 a1 t0 t1 W g gc tsv bb _ _ hg c0 c1 hbx
  | false => exact pos1_c _ (fun args w => by kernel_rfl) a0 a1 _ t0 t1 W g gc tsv bb _ _ hg c0 c1 hbx (fun w _ => bit_1 a0 a1 w)
theorem ok_13 (v : Nat → Val.V) (w W : World) (nsv tsv fn : Value) (hvb : ∀ k, k < 2 → VB (v k)) (hT : TxtW w) (hb : Below w.heap.size w W) (hr : isRow W 13 (.agg #[.string (Cal.how 13), fn]))
  (hns : W.ownsRow w.heap.size 2 1 nsv (Cal.inAt (Cal.how 13) v 2).ns.length ((Cal.inAt (Cal.how 13) v 2).ns.map (.int .i64))) (hts : W.ownsRow w.heap.size 9 1 tsv (Cal.inAt (Cal.how 13) v 2).ts.length ((Cal.inAt (Cal.how 13) v 2).ts.map .string)) :
  WorkOK W fn nsv tsv (Cal.inAt (Cal.how 13) v 2) (Cal.work 13 (Cal.inAt (Cal.how 13) v 2)).k (Cal.work 13 (Cal.inAt (Cal.how 13) v 2)).n (Cal.work 13 (Cal.inAt (Cal.how 13) v 2)).t := by
 have e : (Cal.inAt (Cal.how 13) v 2) = ⟨[(Val.number (v 0)).1, (Val.number (v 1)).1], [], false, ⟨0, 0, ⟨#[]⟩⟩⟩ := by kernel_rfl
 rw [e] at hns hts ⊢
 clear e
 have nb0 := number_in (hvb 0 (by decide))
 generalize (Val.number (v 0)).1 = a0 at *
 have nb1 := number_in (hvb 1 (by decide))
 generalize (Val.number (v 1)).1 = a1 at *
 clear hvb
 obtain ⟨g, gc, rfl, hg, hc⟩ := own_cells hns
 have c0 := hc 0 _ rfl
 have c1 := hc 1 _ rfl
 obtain ⟨bb, rfl, hbx⟩ := row_b 175 116 123 hr (by decide) (by decide)
 refine .inr ⟨175, _, rfl, fun args w => by kernel_rfl, ?_⟩
 show Calls _ _ _ W fun e w' => e = .returned (vv (cond (decide (a0 < 0) || decide (a1 < 0)) (Cal.bad 2) (Cal.num (Cal.bitV 2 a0 a1)))) ∧ _
 cases t0 : decide (a0 < 0) with
 | true => exact pos1_a _ a0 a1 t0 W g gc tsv bb _ _ hg c0 c1 hbx
 | false =>
  cases t1 : decide (a1 < 0) with
  | true => exact pos1_b _ a0 a1 t0 t1 W g gc tsv bb _ _ hg c0 c1 hbx
  | false => exact pos1_c _ (fun args w => by kernel_rfl) a0 a1 _ t0 t1 W g gc tsv bb _ _ hg c0 c1 hbx (fun w _ => bit_2 a0 a1 w)
theorem ok_14 (v : Nat → Val.V) (w W : World) (nsv tsv fn : Value) (hvb : ∀ k, k < 1 → VB (v k)) (hT : TxtW w) (hb : Below w.heap.size w W) (hr : isRow W 14 (.agg #[.string (Cal.how 14), fn]))
  (hns : W.ownsRow w.heap.size 2 1 nsv (Cal.inAt (Cal.how 14) v 1).ns.length ((Cal.inAt (Cal.how 14) v 1).ns.map (.int .i64))) (hts : W.ownsRow w.heap.size 9 1 tsv (Cal.inAt (Cal.how 14) v 1).ts.length ((Cal.inAt (Cal.how 14) v 1).ts.map .string)) :
  WorkOK W fn nsv tsv (Cal.inAt (Cal.how 14) v 1) (Cal.work 14 (Cal.inAt (Cal.how 14) v 1)).k (Cal.work 14 (Cal.inAt (Cal.how 14) v 1)).n (Cal.work 14 (Cal.inAt (Cal.how 14) v 1)).t := by
 have e : (Cal.inAt (Cal.how 14) v 1) = ⟨[], [], (Val.truth (v 0)).1, ⟨0, 0, ⟨#[]⟩⟩⟩ := by kernel_rfl
 rw [e] at hns hts ⊢
 clear e
 generalize (Val.truth (v 0)).1 = b at *
 clear hvb
 obtain ⟨na, nc, rfl⟩ := own_none hns
 obtain rfl := row_p 117 hr (by decide) (by decide)
 refine .inl ⟨117, rfl, fun args w => by kernel_rfl, ?_⟩
 exact wk14 _ W _ _ _ rfl
theorem ok_15 (v : Nat → Val.V) (w W : World) (nsv tsv fn : Value) (hvb : ∀ k, k < 3 → VB (v k)) (hT : TxtW w) (hb : Below w.heap.size w W) (hr : isRow W 15 (.agg #[.string (Cal.how 15), fn]))
  (hns : W.ownsRow w.heap.size 2 1 nsv (Cal.inAt (Cal.how 15) v 3).ns.length ((Cal.inAt (Cal.how 15) v 3).ns.map (.int .i64))) (hts : W.ownsRow w.heap.size 9 1 tsv (Cal.inAt (Cal.how 15) v 3).ts.length ((Cal.inAt (Cal.how 15) v 3).ts.map .string)) :
  WorkOK W fn nsv tsv (Cal.inAt (Cal.how 15) v 3) (Cal.work 15 (Cal.inAt (Cal.how 15) v 3)).k (Cal.work 15 (Cal.inAt (Cal.how 15) v 3)).n (Cal.work 15 (Cal.inAt (Cal.how 15) v 3)).t := by
 have e : (Cal.inAt (Cal.how 15) v 3) = ⟨[(Val.number (v 0)).1, (Val.number (v 1)).1, (Val.number (v 2)).1], [], false, ⟨0, 0, ⟨#[]⟩⟩⟩ := by kernel_rfl
 rw [e] at hns hts ⊢
 clear e
 have nb0 := number_in (hvb 0 (by decide))
 generalize (Val.number (v 0)).1 = a0 at *
 have nb1 := number_in (hvb 1 (by decide))
 generalize (Val.number (v 1)).1 = a1 at *
 have nb2 := number_in (hvb 2 (by decide))
 generalize (Val.number (v 2)).1 = a2 at *
 clear hvb
 obtain ⟨g, gc, rfl, hg, hc⟩ := own_cells hns
 have c0 := hc 0 _ rfl
 have c1 := hc 1 _ rfl
 have c2 := hc 2 _ rfl
 obtain rfl := row_p 118 hr (by decide) (by decide)
 refine .inl ⟨118, rfl, fun args w => by kernel_rfl, ?_⟩
 show Calls _ _ _ W fun e w' => e = .returned (vv (if a2 < a1 then Cal.bad 2 else Cal.num (max a1 (min a0 a2)))) ∧ _
 by_cases h0 : a2 < a1
 ·rw [if_pos h0]; exact wk15a a0 a1 a2 (decide_eq_true h0) W g gc tsv _ hg c0 c1 c2
 ·rw [if_neg h0]; exact wk15b a0 a1 a2 _ _ (decide_eq_false h0) rfl rfl W g gc tsv _ hg c0 c1 c2
theorem ok_16 (v : Nat → Val.V) (w W : World) (nsv tsv fn : Value) (hvb : ∀ k, k < 1 → VB (v k)) (hT : TxtW w) (hb : Below w.heap.size w W) (hr : isRow W 16 (.agg #[.string (Cal.how 16), fn]))
  (hns : W.ownsRow w.heap.size 2 1 nsv (Cal.inAt (Cal.how 16) v 1).ns.length ((Cal.inAt (Cal.how 16) v 1).ns.map (.int .i64))) (hts : W.ownsRow w.heap.size 9 1 tsv (Cal.inAt (Cal.how 16) v 1).ts.length ((Cal.inAt (Cal.how 16) v 1).ts.map .string)) :
  WorkOK W fn nsv tsv (Cal.inAt (Cal.how 16) v 1) (Cal.work 16 (Cal.inAt (Cal.how 16) v 1)).k (Cal.work 16 (Cal.inAt (Cal.how 16) v 1)).n (Cal.work 16 (Cal.inAt (Cal.how 16) v 1)).t := by
 have e : (Cal.inAt (Cal.how 16) v 1) = ⟨[], [(Val.asText (v 0)).1], false, ⟨0, 0, ⟨#[]⟩⟩⟩ := by kernel_rfl
 rw [e] at hns hts ⊢
 clear e
 have tb0 := astext_small (hvb 0 (by decide))
 generalize (Val.asText (v 0)).1 = t0 at *
 clear hvb
 obtain ⟨na, nc, rfl⟩ := own_none hns
 obtain ⟨h, hcp, rfl, hh, hd⟩ := own_cells hts
 have d0 := hd 0 _ rfl
 obtain rfl := row_p 122 hr (by decide) (by decide)
 refine .inl ⟨122, rfl, fun args w => by kernel_rfl, ?_⟩
 exact wk16 t0 tb0 W _ h hcp _ hh d0
theorem ok_17a (v : Nat → Val.V) (w W : World) (nsv tsv fn : Value) (hvb : ∀ k, k < 1 → VB (v k)) (hT : TxtW w) (hb : Below w.heap.size w W) (hr : isRow W 17 (.agg #[.string (Cal.how 17), fn]))
  (hns : W.ownsRow w.heap.size 2 1 nsv (Cal.inAt (Cal.how 17) v 1).ns.length ((Cal.inAt (Cal.how 17) v 1).ns.map (.int .i64))) (hts : W.ownsRow w.heap.size 9 1 tsv (Cal.inAt (Cal.how 17) v 1).ts.length ((Cal.inAt (Cal.how 17) v 1).ts.map .string)) :
  WorkOK W fn nsv tsv (Cal.inAt (Cal.how 17) v 1) (Cal.work 17 (Cal.inAt (Cal.how 17) v 1)).k (Cal.work 17 (Cal.inAt (Cal.how 17) v 1)).n (Cal.work 17 (Cal.inAt (Cal.how 17) v 1)).t := by
 have e : (Cal.inAt (Cal.how 17) v 1) = ⟨[], [(Val.asText (v 0)).1], false, ⟨0, 0, ⟨#[]⟩⟩⟩ := by kernel_rfl
 rw [e] at hns hts ⊢
 clear e
 have tb0 := astext_small (hvb 0 (by decide))
 generalize (Val.asText (v 0)).1 = t0 at *
 clear hvb
 obtain ⟨na, nc, rfl⟩ := own_none hns
 obtain ⟨h, hcp, rfl, hh, hd⟩ := own_cells hts
 have d0 := hd 0 _ rfl
 obtain rfl := row_p 124 hr (by decide) (by decide)
 refine .inl ⟨124, rfl, fun args w => by kernel_rfl, ?_⟩
 exact wk17a t0 tb0 _ _ rfl W na nc h hcp _ hh d0
theorem ok_17b (v : Nat → Val.V) (w W : World) (nsv tsv fn : Value) (hvb : ∀ k, k < 2 → VB (v k)) (hT : TxtW w) (hb : Below w.heap.size w W) (hr : isRow W 17 (.agg #[.string (Cal.how 17), fn]))
  (hns : W.ownsRow w.heap.size 2 1 nsv (Cal.inAt (Cal.how 17) v 2).ns.length ((Cal.inAt (Cal.how 17) v 2).ns.map (.int .i64))) (hts : W.ownsRow w.heap.size 9 1 tsv (Cal.inAt (Cal.how 17) v 2).ts.length ((Cal.inAt (Cal.how 17) v 2).ts.map .string)) :
  WorkOK W fn nsv tsv (Cal.inAt (Cal.how 17) v 2) (Cal.work 17 (Cal.inAt (Cal.how 17) v 2)).k (Cal.work 17 (Cal.inAt (Cal.how 17) v 2)).n (Cal.work 17 (Cal.inAt (Cal.how 17) v 2)).t := by
 have e : (Cal.inAt (Cal.how 17) v 2) = ⟨[(Val.number (v 1)).1], [(Val.asText (v 0)).1], false, ⟨0, 0, ⟨#[]⟩⟩⟩ := by kernel_rfl
 rw [e] at hns hts ⊢
 clear e
 have nb0 := number_in (hvb 1 (by decide))
 generalize (Val.number (v 1)).1 = a0 at *
 have tb0 := astext_small (hvb 0 (by decide))
 generalize (Val.asText (v 0)).1 = t0 at *
 clear hvb
 obtain ⟨g, gc, rfl, hg, hc⟩ := own_cells hns
 have c0 := hc 0 _ rfl
 obtain ⟨h, hcp, rfl, hh, hd⟩ := own_cells hts
 have d0 := hd 0 _ rfl
 obtain rfl := row_p 124 hr (by decide) (by decide)
 refine .inl ⟨124, rfl, fun args w => by kernel_rfl, ?_⟩
 exact wk17b t0 tb0 a0 nb0.2 _ _ rfl W g gc h hcp _ hg c0 hh d0
theorem ok_18a (v : Nat → Val.V) (w W : World) (nsv tsv fn : Value) (hvb : ∀ k, k < 1 → VB (v k)) (hT : TxtW w) (hb : Below w.heap.size w W) (hr : isRow W 18 (.agg #[.string (Cal.how 18), fn]))
  (hns : W.ownsRow w.heap.size 2 1 nsv (Cal.inAt (Cal.how 18) v 1).ns.length ((Cal.inAt (Cal.how 18) v 1).ns.map (.int .i64))) (hts : W.ownsRow w.heap.size 9 1 tsv (Cal.inAt (Cal.how 18) v 1).ts.length ((Cal.inAt (Cal.how 18) v 1).ts.map .string)) :
  WorkOK W fn nsv tsv (Cal.inAt (Cal.how 18) v 1) (Cal.work 18 (Cal.inAt (Cal.how 18) v 1)).k (Cal.work 18 (Cal.inAt (Cal.how 18) v 1)).n (Cal.work 18 (Cal.inAt (Cal.how 18) v 1)).t := by
 have e : (Cal.inAt (Cal.how 18) v 1) = ⟨[], [(Val.asText (v 0)).1], false, ⟨0, 0, ⟨#[]⟩⟩⟩ := by kernel_rfl
 rw [e] at hns hts ⊢
 clear e
 have tb0 := astext_small (hvb 0 (by decide))
 generalize (Val.asText (v 0)).1 = t0 at *
 clear hvb
 obtain ⟨na, nc, rfl⟩ := own_none hns
 obtain ⟨h, hcp, rfl, hh, hd⟩ := own_cells hts
 have d0 := hd 0 _ rfl
 obtain rfl := row_p 127 hr (by decide) (by decide)
 refine .inl ⟨127, rfl, fun args w => by kernel_rfl, ?_⟩
 exact wk18a t0 tb0 _ _ rfl W na nc h hcp _ hh d0
theorem ok_18b (v : Nat → Val.V) (w W : World) (nsv tsv fn : Value) (hvb : ∀ k, k < 2 → VB (v k)) (hT : TxtW w) (hb : Below w.heap.size w W) (hr : isRow W 18 (.agg #[.string (Cal.how 18), fn]))
  (hns : W.ownsRow w.heap.size 2 1 nsv (Cal.inAt (Cal.how 18) v 2).ns.length ((Cal.inAt (Cal.how 18) v 2).ns.map (.int .i64))) (hts : W.ownsRow w.heap.size 9 1 tsv (Cal.inAt (Cal.how 18) v 2).ts.length ((Cal.inAt (Cal.how 18) v 2).ts.map .string)) :
  WorkOK W fn nsv tsv (Cal.inAt (Cal.how 18) v 2) (Cal.work 18 (Cal.inAt (Cal.how 18) v 2)).k (Cal.work 18 (Cal.inAt (Cal.how 18) v 2)).n (Cal.work 18 (Cal.inAt (Cal.how 18) v 2)).t := by
 have e : (Cal.inAt (Cal.how 18) v 2) = ⟨[(Val.number (v 1)).1], [(Val.asText (v 0)).1], false, ⟨0, 0, ⟨#[]⟩⟩⟩ := by kernel_rfl
 rw [e] at hns hts ⊢
 clear e
 have nb0 := number_in (hvb 1 (by decide))
 generalize (Val.number (v 1)).1 = a0 at *
 have tb0 := astext_small (hvb 0 (by decide))
 generalize (Val.asText (v 0)).1 = t0 at *
 clear hvb
 obtain ⟨g, gc, rfl, hg, hc⟩ := own_cells hns
 have c0 := hc 0 _ rfl
 obtain ⟨h, hcp, rfl, hh, hd⟩ := own_cells hts
 have d0 := hd 0 _ rfl
 obtain rfl := row_p 127 hr (by decide) (by decide)
 refine .inl ⟨127, rfl, fun args w => by kernel_rfl, ?_⟩
 exact wk18b t0 tb0 a0 nb0.2 _ _ rfl W g gc h hcp _ hg c0 hh d0
theorem ok_19 (v : Nat → Val.V) (w W : World) (nsv tsv fn : Value) (hvb : ∀ k, k < 3 → VB (v k)) (hT : TxtW w) (hb : Below w.heap.size w W) (hr : isRow W 19 (.agg #[.string (Cal.how 19), fn]))
  (hns : W.ownsRow w.heap.size 2 1 nsv (Cal.inAt (Cal.how 19) v 3).ns.length ((Cal.inAt (Cal.how 19) v 3).ns.map (.int .i64))) (hts : W.ownsRow w.heap.size 9 1 tsv (Cal.inAt (Cal.how 19) v 3).ts.length ((Cal.inAt (Cal.how 19) v 3).ts.map .string)) :
  WorkOK W fn nsv tsv (Cal.inAt (Cal.how 19) v 3) (Cal.work 19 (Cal.inAt (Cal.how 19) v 3)).k (Cal.work 19 (Cal.inAt (Cal.how 19) v 3)).n (Cal.work 19 (Cal.inAt (Cal.how 19) v 3)).t := by
 have e : (Cal.inAt (Cal.how 19) v 3) = ⟨[(Val.number (v 1)).1, (Val.number (v 2)).1], [(Val.asText (v 0)).1], false, ⟨0, 0, ⟨#[]⟩⟩⟩ := by kernel_rfl
 rw [e] at hns hts ⊢
 clear e
 have nb0 := number_in (hvb 1 (by decide))
 generalize (Val.number (v 1)).1 = a0 at *
 have nb1 := number_in (hvb 2 (by decide))
 generalize (Val.number (v 2)).1 = a1 at *
 have tb0 := astext_small (hvb 0 (by decide))
 generalize (Val.asText (v 0)).1 = t0 at *
 clear hvb
 obtain ⟨g, gc, rfl, hg, hc⟩ := own_cells hns
 have c0 := hc 0 _ rfl
 have c1 := hc 1 _ rfl
 obtain ⟨h, hcp, rfl, hh, hd⟩ := own_cells hts
 have d0 := hd 0 _ rfl
 obtain rfl := row_p 129 hr (by decide) (by decide)
 refine .inl ⟨129, rfl, fun args w => by kernel_rfl, ?_⟩
 exact wk19 t0 tb0 a0 a1 nb0.2 nb1.2 _ _ rfl W g gc h hcp _ hg c0 c1 hh d0
theorem ok_20 (v : Nat → Val.V) (w W : World) (nsv tsv fn : Value) (hvb : ∀ k, k < 1 → VB (v k)) (hT : TxtW w) (hb : Below w.heap.size w W) (hr : isRow W 20 (.agg #[.string (Cal.how 20), fn]))
  (hns : W.ownsRow w.heap.size 2 1 nsv (Cal.inAt (Cal.how 20) v 1).ns.length ((Cal.inAt (Cal.how 20) v 1).ns.map (.int .i64))) (hts : W.ownsRow w.heap.size 9 1 tsv (Cal.inAt (Cal.how 20) v 1).ts.length ((Cal.inAt (Cal.how 20) v 1).ts.map .string)) :
  WorkOK W fn nsv tsv (Cal.inAt (Cal.how 20) v 1) (Cal.work 20 (Cal.inAt (Cal.how 20) v 1)).k (Cal.work 20 (Cal.inAt (Cal.how 20) v 1)).n (Cal.work 20 (Cal.inAt (Cal.how 20) v 1)).t := by
 have e : (Cal.inAt (Cal.how 20) v 1) = ⟨[], [(Val.asText (v 0)).1], false, ⟨0, 0, ⟨#[]⟩⟩⟩ := by kernel_rfl
 rw [e] at hns hts ⊢
 clear e
 have tb0 := astext_small (hvb 0 (by decide))
 generalize (Val.asText (v 0)).1 = t0 at *
 clear hvb
 obtain ⟨na, nc, rfl⟩ := own_none hns
 obtain ⟨h, hcp, rfl, hh, hd⟩ := own_cells hts
 have d0 := hd 0 _ rfl
 obtain ⟨bb, rfl, hbx⟩ := row_b 177 132 129 hr (by decide) (by decide)
 refine .inr ⟨177, _, rfl, fun args w => by kernel_rfl, ?_⟩
 exact plain1_any _ (fun args w => by kernel_rfl) t0 _ W _ h hcp bb _ _ hh d0 hbx (fun w _ => upper_any t0 w (by omega))
theorem ok_21 (v : Nat → Val.V) (w W : World) (nsv tsv fn : Value) (hvb : ∀ k, k < 1 → VB (v k)) (hT : TxtW w) (hb : Below w.heap.size w W) (hr : isRow W 21 (.agg #[.string (Cal.how 21), fn]))
  (hns : W.ownsRow w.heap.size 2 1 nsv (Cal.inAt (Cal.how 21) v 1).ns.length ((Cal.inAt (Cal.how 21) v 1).ns.map (.int .i64))) (hts : W.ownsRow w.heap.size 9 1 tsv (Cal.inAt (Cal.how 21) v 1).ts.length ((Cal.inAt (Cal.how 21) v 1).ts.map .string)) :
  WorkOK W fn nsv tsv (Cal.inAt (Cal.how 21) v 1) (Cal.work 21 (Cal.inAt (Cal.how 21) v 1)).k (Cal.work 21 (Cal.inAt (Cal.how 21) v 1)).n (Cal.work 21 (Cal.inAt (Cal.how 21) v 1)).t := by
 have e : (Cal.inAt (Cal.how 21) v 1) = ⟨[], [(Val.asText (v 0)).1], false, ⟨0, 0, ⟨#[]⟩⟩⟩ := by kernel_rfl
 rw [e] at hns hts ⊢
 clear e
 have tb0 := astext_small (hvb 0 (by decide))
 generalize (Val.asText (v 0)).1 = t0 at *
 clear hvb
 obtain ⟨na, nc, rfl⟩ := own_none hns
 obtain ⟨h, hcp, rfl, hh, hd⟩ := own_cells hts
 have d0 := hd 0 _ rfl
 obtain ⟨bb, rfl, hbx⟩ := row_b 177 133 129 hr (by decide) (by decide)
 refine .inr ⟨177, _, rfl, fun args w => by kernel_rfl, ?_⟩
 exact plain1_any _ (fun args w => by kernel_rfl) t0 _ W _ h hcp bb _ _ hh d0 hbx (fun w _ => lower_any t0 w (by omega))
theorem ok_22 (v : Nat → Val.V) (w W : World) (nsv tsv fn : Value) (hvb : ∀ k, k < 1 → VB (v k)) (hT : TxtW w) (hb : Below w.heap.size w W) (hr : isRow W 22 (.agg #[.string (Cal.how 22), fn]))
  (hns : W.ownsRow w.heap.size 2 1 nsv (Cal.inAt (Cal.how 22) v 1).ns.length ((Cal.inAt (Cal.how 22) v 1).ns.map (.int .i64))) (hts : W.ownsRow w.heap.size 9 1 tsv (Cal.inAt (Cal.how 22) v 1).ts.length ((Cal.inAt (Cal.how 22) v 1).ts.map .string)) :
  WorkOK W fn nsv tsv (Cal.inAt (Cal.how 22) v 1) (Cal.work 22 (Cal.inAt (Cal.how 22) v 1)).k (Cal.work 22 (Cal.inAt (Cal.how 22) v 1)).n (Cal.work 22 (Cal.inAt (Cal.how 22) v 1)).t := by
 have e : (Cal.inAt (Cal.how 22) v 1) = ⟨[], [(Val.asText (v 0)).1], false, ⟨0, 0, ⟨#[]⟩⟩⟩ := by kernel_rfl
 rw [e] at hns hts ⊢
 clear e
 have tb0 := astext_small (hvb 0 (by decide))
 generalize (Val.asText (v 0)).1 = t0 at *
 clear hvb
 obtain ⟨na, nc, rfl⟩ := own_none hns
 obtain ⟨h, hcp, rfl, hh, hd⟩ := own_cells hts
 have d0 := hd 0 _ rfl
 obtain ⟨bb, rfl, hbx⟩ := row_b 177 134 129 hr (by decide) (by decide)
 refine .inr ⟨177, _, rfl, fun args w => by kernel_rfl, ?_⟩
 exact plain1_any _ (fun args w => by kernel_rfl) t0 _ W _ h hcp bb _ _ hh d0 hbx (fun w _ => trim_any t0 w (by omega))
theorem ok_23 (v : Nat → Val.V) (w W : World) (nsv tsv fn : Value) (hvb : ∀ k, k < 1 → VB (v k)) (hT : TxtW w) (hb : Below w.heap.size w W) (hr : isRow W 23 (.agg #[.string (Cal.how 23), fn]))
  (hns : W.ownsRow w.heap.size 2 1 nsv (Cal.inAt (Cal.how 23) v 1).ns.length ((Cal.inAt (Cal.how 23) v 1).ns.map (.int .i64))) (hts : W.ownsRow w.heap.size 9 1 tsv (Cal.inAt (Cal.how 23) v 1).ts.length ((Cal.inAt (Cal.how 23) v 1).ts.map .string)) :
  WorkOK W fn nsv tsv (Cal.inAt (Cal.how 23) v 1) (Cal.work 23 (Cal.inAt (Cal.how 23) v 1)).k (Cal.work 23 (Cal.inAt (Cal.how 23) v 1)).n (Cal.work 23 (Cal.inAt (Cal.how 23) v 1)).t := by
 have e : (Cal.inAt (Cal.how 23) v 1) = ⟨[], [(Val.asText (v 0)).1], false, ⟨0, 0, ⟨#[]⟩⟩⟩ := by kernel_rfl
 rw [e] at hns hts ⊢
 clear e
 have tb0 := astext_small (hvb 0 (by decide))
 generalize (Val.asText (v 0)).1 = t0 at *
 clear hvb
 obtain ⟨na, nc, rfl⟩ := own_none hns
 obtain ⟨h, hcp, rfl, hh, hd⟩ := own_cells hts
 have d0 := hd 0 _ rfl
 obtain ⟨bb, rfl, hbx⟩ := row_b 177 135 129 hr (by decide) (by decide)
 refine .inr ⟨177, _, rfl, fun args w => by kernel_rfl, ?_⟩
 exact plain1_any _ (fun args w => by kernel_rfl) t0 _ W _ h hcp bb _ _ hh d0 hbx (fun w hw => turn_any t0 w (by omega) (hT.below rfl (hb.trans (hw.mono hb.size))).tabs)
theorem ok_24a (v : Nat → Val.V) (w W : World) (nsv tsv fn : Value) (hvb : ∀ k, k < 2 → VB (v k)) (hT : TxtW w) (hb : Below w.heap.size w W) (hr : isRow W 24 (.agg #[.string (Cal.how 24), fn]))
  (hns : W.ownsRow w.heap.size 2 1 nsv (Cal.inAt (Cal.how 24) v 2).ns.length ((Cal.inAt (Cal.how 24) v 2).ns.map (.int .i64))) (hts : W.ownsRow w.heap.size 9 1 tsv (Cal.inAt (Cal.how 24) v 2).ts.length ((Cal.inAt (Cal.how 24) v 2).ts.map .string)) :
  WorkOK W fn nsv tsv (Cal.inAt (Cal.how 24) v 2) (Cal.work 24 (Cal.inAt (Cal.how 24) v 2)).k (Cal.work 24 (Cal.inAt (Cal.how 24) v 2)).n (Cal.work 24 (Cal.inAt (Cal.how 24) v 2)).t := by
 have e : (Cal.inAt (Cal.how 24) v 2) = ⟨[], [(Val.asText (v 0)).1, (Val.asText (v 1)).1], false, ⟨0, 0, ⟨#[]⟩⟩⟩ := by kernel_rfl
 rw [e] at hns hts ⊢
 clear e
 have tb0 := astext_small (hvb 0 (by decide))
 generalize (Val.asText (v 0)).1 = t0 at *
 have tb1 := astext_small (hvb 1 (by decide))
 generalize (Val.asText (v 1)).1 = t1 at *
 clear hvb
 obtain ⟨na, nc, rfl⟩ := own_none hns
 obtain ⟨h, hcp, rfl, hh, hd⟩ := own_cells hts
 have d0 := hd 0 _ rfl
 have d1 := hd 1 _ rfl
 obtain rfl := row_p 136 hr (by decide) (by decide)
 refine .inl ⟨136, rfl, fun args w => by kernel_rfl, ?_⟩
 show Calls _ _ _ W fun e w' => e = .returned (vv (cond ((Cal.findV t0 t1 1).2 == 0) (Cal.num (Cal.findV t0 t1 1).1) (Cal.bad 4))) ∧ _
 have HF := fun w => tfind t0 t1 1 w (by omega)
 generalize Cal.findV t0 t1 1 = p at *
 obtain ⟨u, y⟩ := p
 cases hy : (y == 0) with
 | true => exact wk24ab t0 t1 u y (by rw [bne, hy]; rfl) W na nc h hcp _ hh d0 d1 HF
 | false => exact wk24aa t0 t1 u y (by rw [bne, hy]; rfl) W na nc h hcp _ hh d0 d1 HF
theorem ok_24b (v : Nat → Val.V) (w W : World) (nsv tsv fn : Value) (hvb : ∀ k, k < 3 → VB (v k)) (hT : TxtW w) (hb : Below w.heap.size w W) (hr : isRow W 24 (.agg #[.string (Cal.how 24), fn]))
  (hns : W.ownsRow w.heap.size 2 1 nsv (Cal.inAt (Cal.how 24) v 3).ns.length ((Cal.inAt (Cal.how 24) v 3).ns.map (.int .i64))) (hts : W.ownsRow w.heap.size 9 1 tsv (Cal.inAt (Cal.how 24) v 3).ts.length ((Cal.inAt (Cal.how 24) v 3).ts.map .string)) :
  WorkOK W fn nsv tsv (Cal.inAt (Cal.how 24) v 3) (Cal.work 24 (Cal.inAt (Cal.how 24) v 3)).k (Cal.work 24 (Cal.inAt (Cal.how 24) v 3)).n (Cal.work 24 (Cal.inAt (Cal.how 24) v 3)).t := by
 have e : (Cal.inAt (Cal.how 24) v 3) = ⟨[(Val.number (v 2)).1], [(Val.asText (v 0)).1, (Val.asText (v 1)).1], false, ⟨0, 0, ⟨#[]⟩⟩⟩ := by kernel_rfl
 rw [e] at hns hts ⊢
 clear e
 have nb0 := number_in (hvb 2 (by decide))
 generalize (Val.number (v 2)).1 = a0 at *
 have tb0 := astext_small (hvb 0 (by decide))
 generalize (Val.asText (v 0)).1 = t0 at *
 have tb1 := astext_small (hvb 1 (by decide))
 generalize (Val.asText (v 1)).1 = t1 at *
 clear hvb
 obtain ⟨g, gc, rfl, hg, hc⟩ := own_cells hns
 have c0 := hc 0 _ rfl
 obtain ⟨h, hcp, rfl, hh, hd⟩ := own_cells hts
 have d0 := hd 0 _ rfl
 have d1 := hd 1 _ rfl
 obtain rfl := row_p 136 hr (by decide) (by decide)
 refine .inl ⟨136, rfl, fun args w => by kernel_rfl, ?_⟩
 show Calls _ _ _ W fun e w' => e = .returned (vv (cond ((Cal.findV t0 t1 a0).2 == 0) (Cal.num (Cal.findV t0 t1 a0).1) (Cal.bad 4))) ∧ _
 have HF := fun w => tfind t0 t1 a0 w (by omega)
 generalize Cal.findV t0 t1 a0 = p at *
 obtain ⟨u, y⟩ := p
 cases hy : (y == 0) with
 | true => exact wk24bb t0 t1 a0 u y (by rw [bne, hy]; rfl) W g gc h hcp _ hg c0 hh d0 d1 HF
 | false => exact wk24ba t0 t1 a0 u y (by rw [bne, hy]; rfl) W g gc h hcp _ hg c0 hh d0 d1 HF
theorem ok_25 (v : Nat → Val.V) (w W : World) (nsv tsv fn : Value) (hvb : ∀ k, k < 3 → VB (v k)) (hT : TxtW w) (hb : Below w.heap.size w W) (hr : isRow W 25 (.agg #[.string (Cal.how 25), fn]))
  (hns : W.ownsRow w.heap.size 2 1 nsv (Cal.inAt (Cal.how 25) v 3).ns.length ((Cal.inAt (Cal.how 25) v 3).ns.map (.int .i64))) (hts : W.ownsRow w.heap.size 9 1 tsv (Cal.inAt (Cal.how 25) v 3).ts.length ((Cal.inAt (Cal.how 25) v 3).ts.map .string)) :
  WorkOK W fn nsv tsv (Cal.inAt (Cal.how 25) v 3) (Cal.work 25 (Cal.inAt (Cal.how 25) v 3)).k (Cal.work 25 (Cal.inAt (Cal.how 25) v 3)).n (Cal.work 25 (Cal.inAt (Cal.how 25) v 3)).t := by
 have e : (Cal.inAt (Cal.how 25) v 3) = ⟨[], [(Val.asText (v 0)).1, (Val.asText (v 1)).1, (Val.asText (v 2)).1], false, ⟨0, 0, ⟨#[]⟩⟩⟩ := by kernel_rfl
 rw [e] at hns hts ⊢
 clear e
 have tb0 := astext_small (hvb 0 (by decide))
 generalize (Val.asText (v 0)).1 = t0 at *
 have tb1 := astext_small (hvb 1 (by decide))
 generalize (Val.asText (v 1)).1 = t1 at *
 have tb2 := astext_small (hvb 2 (by decide))
 generalize (Val.asText (v 2)).1 = t2 at *
 clear hvb
 obtain ⟨na, nc, rfl⟩ := own_none hns
 obtain ⟨h, hcp, rfl, hh, hd⟩ := own_cells hts
 have d0 := hd 0 _ rfl
 have d1 := hd 1 _ rfl
 have d2 := hd 2 _ rfl
 obtain rfl := row_p 138 hr (by decide) (by decide)
 refine .inl ⟨138, rfl, fun args w => by kernel_rfl, ?_⟩
 exact wk25 t0 t1 t2 _ _ W _ h hcp _ hh d0 d1 d2 (fun w hw => tswap t0 t1 t2 w (by omega) (by omega) (by omega) (hT.below rfl (hb.trans (hw.mono hb.size))))
theorem ok_26 (v : Nat → Val.V) (w W : World) (nsv tsv fn : Value) (hvb : ∀ k, k < 4 → VB (v k)) (hT : TxtW w) (hb : Below w.heap.size w W) (hr : isRow W 26 (.agg #[.string (Cal.how 26), fn]))
  (hns : W.ownsRow w.heap.size 2 1 nsv (Cal.inAt (Cal.how 26) v 4).ns.length ((Cal.inAt (Cal.how 26) v 4).ns.map (.int .i64))) (hts : W.ownsRow w.heap.size 9 1 tsv (Cal.inAt (Cal.how 26) v 4).ts.length ((Cal.inAt (Cal.how 26) v 4).ts.map .string)) :
  WorkOK W fn nsv tsv (Cal.inAt (Cal.how 26) v 4) (Cal.work 26 (Cal.inAt (Cal.how 26) v 4)).k (Cal.work 26 (Cal.inAt (Cal.how 26) v 4)).n (Cal.work 26 (Cal.inAt (Cal.how 26) v 4)).t := by
 have e : (Cal.inAt (Cal.how 26) v 4) = ⟨[(Val.number (v 1)).1, (Val.number (v 2)).1], [(Val.asText (v 0)).1, (Val.asText (v 3)).1], false, ⟨0, 0, ⟨#[]⟩⟩⟩ := by kernel_rfl
 rw [e] at hns hts ⊢
 clear e
 have nb0 := number_in (hvb 1 (by decide))
 generalize (Val.number (v 1)).1 = a0 at *
 have nb1 := number_in (hvb 2 (by decide))
 generalize (Val.number (v 2)).1 = a1 at *
 have tb0 := astext_small (hvb 0 (by decide))
 generalize (Val.asText (v 0)).1 = t0 at *
 have tb1 := astext_small (hvb 3 (by decide))
 generalize (Val.asText (v 3)).1 = t1 at *
 clear hvb
 obtain ⟨g, gc, rfl, hg, hc⟩ := own_cells hns
 have c0 := hc 0 _ rfl
 have c1 := hc 1 _ rfl
 obtain ⟨h, hcp, rfl, hh, hd⟩ := own_cells hts
 have d0 := hd 0 _ rfl
 have d1 := hd 1 _ rfl
 obtain rfl := row_p 140 hr (by decide) (by decide)
 refine .inl ⟨140, rfl, fun args w => by kernel_rfl, ?_⟩
 show Calls _ _ _ W fun e w' => e = .returned (vv (if a0 < 1 ∨ a1 < 0 then Cal.bad 4 else Cal.spelt (Cal.replT t0 a0 a1 t1) 0)) ∧ _
 by_cases h0 : a0 < 1
 ·rw [if_pos (.inl h0)]; exact wk26a t0 t1 a0 a1 (decide_eq_true h0) W g gc h hcp _ hg c0 c1 hh d0 d1
 ·by_cases h1 : a1 < 0
  ·rw [if_pos (.inr h1)]; exact wk26b t0 t1 a0 a1 (decide_eq_false h0) (decide_eq_true h1) W g gc h hcp _ hg c0 c1 hh d0 d1
  ·rw [if_neg (by omega)]
   have l1 := Run.adv_le t0 (a0 - 1).toNat 0 (Nat.zero_le _)
   have l2 := Run.adv_le t0 ((a0 - 1).toNat + a1.toNat) 0 (Nat.zero_le _)
   have l3 := Run.adv_add t0 (a0 - 1).toNat a1.toNat 0
   have l4 := Run.adv_ge t0 a1.toNat (Run.adv t0 (a0 - 1).toNat 0)
   refine wk26c t0 t1 (t0.extract 0 (Run.adv t0 (a0 - 1).toNat 0)) (t0.extract (Run.adv t0 (a0 - 1).toNat 0) (Run.adv t0 ((a0 - 1).toNat + a1.toNat) 0)) a0 a1 0 _ tb0 tb1 (decide_eq_false h0) (decide_eq_false h1) nb0.2 nb1.2 ?_ ?_ (Run.adv t0 ((a0 - 1).toNat + a1.toNat) 0) ?_ l2 rfl W g gc h hcp _ hg c0 c1 hh d0 d1
   ·unfold Cal.leftV; rw [if_neg (by omega)]
   ·unfold Cal.midV; rw [if_neg (by omega)]
   ·rw [ByteArray.size_extract, ByteArray.size_extract]; omega
theorem ok_27 (v : Nat → Val.V) (w W : World) (nsv tsv fn : Value) (hvb : ∀ k, k < 2 → VB (v k)) (hT : TxtW w) (hb : Below w.heap.size w W) (hr : isRow W 27 (.agg #[.string (Cal.how 27), fn]))
  (hns : W.ownsRow w.heap.size 2 1 nsv (Cal.inAt (Cal.how 27) v 2).ns.length ((Cal.inAt (Cal.how 27) v 2).ns.map (.int .i64))) (hts : W.ownsRow w.heap.size 9 1 tsv (Cal.inAt (Cal.how 27) v 2).ts.length ((Cal.inAt (Cal.how 27) v 2).ts.map .string)) :
  WorkOK W fn nsv tsv (Cal.inAt (Cal.how 27) v 2) (Cal.work 27 (Cal.inAt (Cal.how 27) v 2)).k (Cal.work 27 (Cal.inAt (Cal.how 27) v 2)).n (Cal.work 27 (Cal.inAt (Cal.how 27) v 2)).t := by
 have e : (Cal.inAt (Cal.how 27) v 2) = ⟨[(Val.number (v 1)).1], [(Val.asText (v 0)).1], false, ⟨0, 0, ⟨#[]⟩⟩⟩ := by kernel_rfl
 rw [e] at hns hts ⊢
 clear e
 have nb0 := number_in (hvb 1 (by decide))
 generalize (Val.number (v 1)).1 = a0 at *
 have tb0 := astext_small (hvb 0 (by decide))
 generalize (Val.asText (v 0)).1 = t0 at *
 clear hvb
 obtain ⟨g, gc, rfl, hg, hc⟩ := own_cells hns
 have c0 := hc 0 _ rfl
 obtain ⟨h, hcp, rfl, hh, hd⟩ := own_cells hts
 have d0 := hd 0 _ rfl
 obtain rfl := row_p 141 hr (by decide) (by decide)
 refine .inl ⟨141, rfl, fun args w => by kernel_rfl, ?_⟩
 exact wk27 t0 tb0 a0 nb0.2 _ _ rfl W g gc h hcp _ hg c0 hh d0
theorem ok_28 (v : Nat → Val.V) (w W : World) (nsv tsv fn : Value) (hvb : ∀ k, k < 2 → VB (v k)) (hT : TxtW w) (hb : Below w.heap.size w W) (hr : isRow W 28 (.agg #[.string (Cal.how 28), fn]))
  (hns : W.ownsRow w.heap.size 2 1 nsv (Cal.inAt (Cal.how 28) v 2).ns.length ((Cal.inAt (Cal.how 28) v 2).ns.map (.int .i64))) (hts : W.ownsRow w.heap.size 9 1 tsv (Cal.inAt (Cal.how 28) v 2).ts.length ((Cal.inAt (Cal.how 28) v 2).ts.map .string)) :
  WorkOK W fn nsv tsv (Cal.inAt (Cal.how 28) v 2) (Cal.work 28 (Cal.inAt (Cal.how 28) v 2)).k (Cal.work 28 (Cal.inAt (Cal.how 28) v 2)).n (Cal.work 28 (Cal.inAt (Cal.how 28) v 2)).t := by
 have e : (Cal.inAt (Cal.how 28) v 2) = ⟨[], [(Val.asText (v 0)).1, (Val.asText (v 1)).1], false, ⟨0, 0, ⟨#[]⟩⟩⟩ := by kernel_rfl
 rw [e] at hns hts ⊢
 clear e
 have tb0 := astext_small (hvb 0 (by decide))
 generalize (Val.asText (v 0)).1 = t0 at *
 have tb1 := astext_small (hvb 1 (by decide))
 generalize (Val.asText (v 1)).1 = t1 at *
 clear hvb
 obtain ⟨na, nc, rfl⟩ := own_none hns
 obtain ⟨h, hcp, rfl, hh, hd⟩ := own_cells hts
 have d0 := hd 0 _ rfl
 have d1 := hd 1 _ rfl
 obtain rfl := row_p 143 hr (by decide) (by decide)
 refine .inl ⟨143, rfl, fun args w => by kernel_rfl, ?_⟩
 exact wk28 t0 t1 _ rfl W _ h hcp _ hh d0 d1
theorem ok_29 (v : Nat → Val.V) (w W : World) (nsv tsv fn : Value) (hvb : ∀ k, k < 1 → VB (v k)) (hT : TxtW w) (hb : Below w.heap.size w W) (hr : isRow W 29 (.agg #[.string (Cal.how 29), fn]))
  (hns : W.ownsRow w.heap.size 2 1 nsv (Cal.inAt (Cal.how 29) v 1).ns.length ((Cal.inAt (Cal.how 29) v 1).ns.map (.int .i64))) (hts : W.ownsRow w.heap.size 9 1 tsv (Cal.inAt (Cal.how 29) v 1).ts.length ((Cal.inAt (Cal.how 29) v 1).ts.map .string)) :
  WorkOK W fn nsv tsv (Cal.inAt (Cal.how 29) v 1) (Cal.work 29 (Cal.inAt (Cal.how 29) v 1)).k (Cal.work 29 (Cal.inAt (Cal.how 29) v 1)).n (Cal.work 29 (Cal.inAt (Cal.how 29) v 1)).t := by
 have e : (Cal.inAt (Cal.how 29) v 1) = ⟨[], [(Val.asText (v 0)).1], false, ⟨0, 0, ⟨#[]⟩⟩⟩ := by kernel_rfl
 rw [e] at hns hts ⊢
 clear e
 have tb0 := astext_small (hvb 0 (by decide))
 generalize (Val.asText (v 0)).1 = t0 at *
 clear hvb
 obtain ⟨na, nc, rfl⟩ := own_none hns
 obtain ⟨h, hcp, rfl, hh, hd⟩ := own_cells hts
 have d0 := hd 0 _ rfl
 obtain rfl := row_p 144 hr (by decide) (by decide)
 refine .inl ⟨144, rfl, fun args w => by kernel_rfl, ?_⟩
 show Calls _ _ _ W fun e w' => e = .returned (vv (cond ((Cal.codeV t0).2 == 0) (Cal.num (Cal.codeV t0).1) (Cal.bad 4))) ∧ _
 generalize hp : Cal.codeV t0 = p
 obtain ⟨u, y⟩ := p
 cases hy : (y == 0) with
 | true => exact wk29b t0 tb0 u y hp (by rw [bne, hy]; rfl) W _ h hcp _ hh d0
 | false => exact wk29a t0 tb0 u y hp (by rw [bne, hy]; rfl) W _ h hcp _ hh d0
theorem ok_30 (v : Nat → Val.V) (w W : World) (nsv tsv fn : Value) (hvb : ∀ k, k < 1 → VB (v k)) (hT : TxtW w) (hb : Below w.heap.size w W) (hr : isRow W 30 (.agg #[.string (Cal.how 30), fn]))
  (hns : W.ownsRow w.heap.size 2 1 nsv (Cal.inAt (Cal.how 30) v 1).ns.length ((Cal.inAt (Cal.how 30) v 1).ns.map (.int .i64))) (hts : W.ownsRow w.heap.size 9 1 tsv (Cal.inAt (Cal.how 30) v 1).ts.length ((Cal.inAt (Cal.how 30) v 1).ts.map .string)) :
  WorkOK W fn nsv tsv (Cal.inAt (Cal.how 30) v 1) (Cal.work 30 (Cal.inAt (Cal.how 30) v 1)).k (Cal.work 30 (Cal.inAt (Cal.how 30) v 1)).n (Cal.work 30 (Cal.inAt (Cal.how 30) v 1)).t := by
 have e : (Cal.inAt (Cal.how 30) v 1) = ⟨[(Val.number (v 0)).1], [], false, ⟨0, 0, ⟨#[]⟩⟩⟩ := by kernel_rfl
 rw [e] at hns hts ⊢
 clear e
 have nb0 := number_in (hvb 0 (by decide))
 generalize (Val.number (v 0)).1 = a0 at *
 clear hvb
 obtain ⟨g, gc, rfl, hg, hc⟩ := own_cells hns
 have c0 := hc 0 _ rfl
 obtain rfl := row_p 146 hr (by decide) (by decide)
 refine .inl ⟨146, rfl, fun args w => by kernel_rfl, ?_⟩
 exact wk30 a0 _ _ rfl W g gc tsv _ hg c0
theorem ok_31 (v : Nat → Val.V) (w W : World) (nsv tsv fn : Value) (hvb : ∀ k, k < 1 → VB (v k)) (hT : TxtW w) (hb : Below w.heap.size w W) (hr : isRow W 31 (.agg #[.string (Cal.how 31), fn]))
  (hns : W.ownsRow w.heap.size 2 1 nsv (Cal.inAt (Cal.how 31) v 1).ns.length ((Cal.inAt (Cal.how 31) v 1).ns.map (.int .i64))) (hts : W.ownsRow w.heap.size 9 1 tsv (Cal.inAt (Cal.how 31) v 1).ts.length ((Cal.inAt (Cal.how 31) v 1).ts.map .string)) :
  WorkOK W fn nsv tsv (Cal.inAt (Cal.how 31) v 1) (Cal.work 31 (Cal.inAt (Cal.how 31) v 1)).k (Cal.work 31 (Cal.inAt (Cal.how 31) v 1)).n (Cal.work 31 (Cal.inAt (Cal.how 31) v 1)).t := by
 have e : (Cal.inAt (Cal.how 31) v 1) = ⟨[(Val.number (v 0)).1], [], false, ⟨0, 0, ⟨#[]⟩⟩⟩ := by kernel_rfl
 rw [e] at hns hts ⊢
 clear e
 have nb0 := number_in (hvb 0 (by decide))
 generalize (Val.number (v 0)).1 = a0 at *
 clear hvb
 obtain ⟨g, gc, rfl, hg, hc⟩ := own_cells hns
 have c0 := hc 0 _ rfl
 obtain rfl := row_p 119 hr (by decide) (by decide)
 refine .inl ⟨119, rfl, fun args w => by kernel_rfl, ?_⟩
 exact wk31 a0 W g gc tsv _ hg c0
theorem ok_32 (v : Nat → Val.V) (w W : World) (nsv tsv fn : Value) (hvb : ∀ k, k < 1 → VB (v k)) (hT : TxtW w) (hb : Below w.heap.size w W) (hr : isRow W 32 (.agg #[.string (Cal.how 32), fn]))
  (hns : W.ownsRow w.heap.size 2 1 nsv (Cal.inAt (Cal.how 32) v 1).ns.length ((Cal.inAt (Cal.how 32) v 1).ns.map (.int .i64))) (hts : W.ownsRow w.heap.size 9 1 tsv (Cal.inAt (Cal.how 32) v 1).ts.length ((Cal.inAt (Cal.how 32) v 1).ts.map .string)) :
  WorkOK W fn nsv tsv (Cal.inAt (Cal.how 32) v 1) (Cal.work 32 (Cal.inAt (Cal.how 32) v 1)).k (Cal.work 32 (Cal.inAt (Cal.how 32) v 1)).n (Cal.work 32 (Cal.inAt (Cal.how 32) v 1)).t := by
 have e : (Cal.inAt (Cal.how 32) v 1) = ⟨[], [(Val.asText (v 0)).1], false, ⟨0, 0, ⟨#[]⟩⟩⟩ := by kernel_rfl
 rw [e] at hns hts ⊢
 clear e
 have tb0 := astext_small (hvb 0 (by decide))
 generalize (Val.asText (v 0)).1 = t0 at *
 clear hvb
 obtain ⟨na, nc, rfl⟩ := own_none hns
 obtain ⟨h, hcp, rfl, hh, hd⟩ := own_cells hts
 have d0 := hd 0 _ rfl
 obtain rfl := row_p 148 hr (by decide) (by decide)
 refine .inl ⟨148, rfl, fun args w => by kernel_rfl, ?_⟩
 exact wk32 t0 W _ h hcp _ hh d0
theorem ok_33 (v : Nat → Val.V) (w W : World) (nsv tsv fn : Value) (hvb : ∀ k, k < 1 → VB (v k)) (hT : TxtW w) (hb : Below w.heap.size w W) (hr : isRow W 33 (.agg #[.string (Cal.how 33), fn]))
  (hns : W.ownsRow w.heap.size 2 1 nsv (Cal.inAt (Cal.how 33) v 1).ns.length ((Cal.inAt (Cal.how 33) v 1).ns.map (.int .i64))) (hts : W.ownsRow w.heap.size 9 1 tsv (Cal.inAt (Cal.how 33) v 1).ts.length ((Cal.inAt (Cal.how 33) v 1).ts.map .string)) :
  WorkOK W fn nsv tsv (Cal.inAt (Cal.how 33) v 1) (Cal.work 33 (Cal.inAt (Cal.how 33) v 1)).k (Cal.work 33 (Cal.inAt (Cal.how 33) v 1)).n (Cal.work 33 (Cal.inAt (Cal.how 33) v 1)).t := by
 have e : (Cal.inAt (Cal.how 33) v 1) = ⟨[], [], false, v 0⟩ := by kernel_rfl
 rw [e] at hns hts ⊢
 clear e
 generalize v 0 = x at *
 clear hvb
 obtain ⟨na, nc, rfl⟩ := own_none hns
 obtain rfl := row_p 120 hr (by decide) (by decide)
 refine .inl ⟨120, rfl, fun args w => by kernel_rfl, ?_⟩
 show Calls _ _ _ W fun e w' => e = .returned (vv (cond (x.k == 1 || x.k == 2) (Cal.num x.n) (Cal.num 0))) ∧ _
 cases t0 : (x.k == 1) with
 | true => exact wk33a W _ _ ⟨_, _, _, x⟩ t0
 | false =>
  cases t1 : (x.k == 2) with
  | true => exact wk33b W _ _ ⟨_, _, _, x⟩ t0 t1
  | false => exact wk33c W _ _ ⟨_, _, _, x⟩ t0 t1
theorem ok_34 (v : Nat → Val.V) (w W : World) (nsv tsv fn : Value) (hvb : ∀ k, k < 1 → VB (v k)) (hT : TxtW w) (hb : Below w.heap.size w W) (hr : isRow W 34 (.agg #[.string (Cal.how 34), fn]))
  (hns : W.ownsRow w.heap.size 2 1 nsv (Cal.inAt (Cal.how 34) v 1).ns.length ((Cal.inAt (Cal.how 34) v 1).ns.map (.int .i64))) (hts : W.ownsRow w.heap.size 9 1 tsv (Cal.inAt (Cal.how 34) v 1).ts.length ((Cal.inAt (Cal.how 34) v 1).ts.map .string)) :
  WorkOK W fn nsv tsv (Cal.inAt (Cal.how 34) v 1) (Cal.work 34 (Cal.inAt (Cal.how 34) v 1)).k (Cal.work 34 (Cal.inAt (Cal.how 34) v 1)).n (Cal.work 34 (Cal.inAt (Cal.how 34) v 1)).t := by
 have e : (Cal.inAt (Cal.how 34) v 1) = ⟨[], [], false, v 0⟩ := by kernel_rfl
 rw [e] at hns hts ⊢
 clear e
 generalize v 0 = x at *
 clear hvb
 obtain ⟨na, nc, rfl⟩ := own_none hns
 obtain rfl := row_p 149 hr (by decide) (by decide)
 refine .inl ⟨149, rfl, fun args w => by kernel_rfl, ?_⟩
 show Calls _ _ _ W fun e w' => e = .returned (vv (cond (x.k == 3) x (Cal.txt Cal.cE))) ∧ _
 cases t0 : (x.k == 3) with
 | true => exact wk34a W _ _ ⟨_, _, _, x⟩ t0
 | false => exact wk34b W _ _ ⟨_, _, _, x⟩ t0
theorem ok_35 (v : Nat → Val.V) (w W : World) (nsv tsv fn : Value) (hvb : ∀ k, k < 0 → VB (v k)) (hT : TxtW w) (hb : Below w.heap.size w W) (hr : isRow W 35 (.agg #[.string (Cal.how 35), fn]))
  (hns : W.ownsRow w.heap.size 2 1 nsv (Cal.inAt (Cal.how 35) v 0).ns.length ((Cal.inAt (Cal.how 35) v 0).ns.map (.int .i64))) (hts : W.ownsRow w.heap.size 9 1 tsv (Cal.inAt (Cal.how 35) v 0).ts.length ((Cal.inAt (Cal.how 35) v 0).ts.map .string)) :
  WorkOK W fn nsv tsv (Cal.inAt (Cal.how 35) v 0) (Cal.work 35 (Cal.inAt (Cal.how 35) v 0)).k (Cal.work 35 (Cal.inAt (Cal.how 35) v 0)).n (Cal.work 35 (Cal.inAt (Cal.how 35) v 0)).t := by
 have e : (Cal.inAt (Cal.how 35) v 0) = ⟨[], [], false, ⟨0, 0, ⟨#[]⟩⟩⟩ := by kernel_rfl
 rw [e] at hns hts ⊢
 clear e
 clear hvb
 obtain ⟨na, nc, rfl⟩ := own_none hns
 obtain rfl := row_p 121 hr (by decide) (by decide)
 refine .inl ⟨121, rfl, fun args w => by kernel_rfl, ?_⟩
 exact wk35 W _ _ _
theorem work_ok (f n : Nat) (v : Nat → Val.V) (w W : World) (nsv tsv fn : Value) (h1 : 1 ≤ f) (h2 : f < 36) (hn : (infoV f).1.2.2.1 ≤ (n : Int)) (hx : (n : Int) ≤ (infoV f).1.2.2.2) (hvb : ∀ k, k < n → VB (v k)) (hT : TxtW w) (hb : Below w.heap.size w W) (hr : isRow W f (.agg #[.string (Cal.how f), fn]))
  (hns : W.ownsRow w.heap.size 2 1 nsv (Cal.inAt (Cal.how f) v n).ns.length ((Cal.inAt (Cal.how f) v n).ns.map (.int .i64))) (hts : W.ownsRow w.heap.size 9 1 tsv (Cal.inAt (Cal.how f) v n).ts.length ((Cal.inAt (Cal.how f) v n).ts.map .string)) :
  WorkOK W fn nsv tsv (Cal.inAt (Cal.how f) v n) (Cal.work f (Cal.inAt (Cal.how f) v n)).k (Cal.work f (Cal.inAt (Cal.how f) v n)).n (Cal.work f (Cal.inAt (Cal.how f) v n)).t := by
 obtain rfl | rfl | rfl | rfl | rfl | rfl | rfl | rfl | rfl | rfl | rfl | rfl | rfl | rfl | rfl | rfl | rfl | rfl | rfl | rfl | rfl | rfl | rfl | rfl | rfl | rfl | rfl | rfl | rfl | rfl | rfl | rfl | rfl | rfl | rfl : f = 1 ∨ f = 2 ∨ f = 3 ∨ f = 4 ∨ f = 5 ∨ f = 6 ∨ f = 7 ∨ f = 8 ∨ f = 9 ∨ f = 10 ∨ f = 11 ∨ f = 12 ∨ f = 13 ∨ f = 14 ∨ f = 15 ∨ f = 16 ∨ f = 17 ∨ f = 18 ∨ f = 19 ∨ f = 20 ∨ f = 21 ∨ f = 22 ∨ f = 23 ∨ f = 24 ∨ f = 25 ∨ f = 26 ∨ f = 27 ∨ f = 28 ∨ f = 29 ∨ f = 30 ∨ f = 31 ∨ f = 32 ∨ f = 33 ∨ f = 34 ∨ f = 35 := by omega
 ·have hn : (1 : Int) ≤ (n : Int) := hn
  have hx : (n : Int) ≤ 1 := hx
  obtain rfl : n = 1 := by omega
  exact ok_1 v w W nsv tsv fn hvb hT hb hr hns hts
 ·have hn : (1 : Int) ≤ (n : Int) := hn
  have hx : (n : Int) ≤ 1 := hx
  obtain rfl : n = 1 := by omega
  exact ok_2 v w W nsv tsv fn hvb hT hb hr hns hts
 ·have hn : (2 : Int) ≤ (n : Int) := hn
  have hx : (n : Int) ≤ 2 := hx
  obtain rfl : n = 2 := by omega
  exact ok_3 v w W nsv tsv fn hvb hT hb hr hns hts
 ·have hn : (2 : Int) ≤ (n : Int) := hn
  have hx : (n : Int) ≤ 2 := hx
  obtain rfl : n = 2 := by omega
  exact ok_4 v w W nsv tsv fn hvb hT hb hr hns hts
 ·have hn : (2 : Int) ≤ (n : Int) := hn
  have hx : (n : Int) ≤ 2 := hx
  obtain rfl : n = 2 := by omega
  exact ok_5 v w W nsv tsv fn hvb hT hb hr hns hts
 ·have hn : (2 : Int) ≤ (n : Int) := hn
  have hx : (n : Int) ≤ 2 := hx
  obtain rfl : n = 2 := by omega
  exact ok_6 v w W nsv tsv fn hvb hT hb hr hns hts
 ·have hn : (2 : Int) ≤ (n : Int) := hn
  have hx : (n : Int) ≤ 2 := hx
  obtain rfl : n = 2 := by omega
  exact ok_7 v w W nsv tsv fn hvb hT hb hr hns hts
 ·have hn : (1 : Int) ≤ (n : Int) := hn
  have hx : (n : Int) ≤ 1 := hx
  obtain rfl : n = 1 := by omega
  exact ok_8 v w W nsv tsv fn hvb hT hb hr hns hts
 ·have hn : (1 : Int) ≤ (n : Int) := hn
  have hx : (n : Int) ≤ 1 := hx
  obtain rfl : n = 1 := by omega
  exact ok_9 v w W nsv tsv fn hvb hT hb hr hns hts
 ·have hn : (1 : Int) ≤ (n : Int) := hn
  have hx : (n : Int) ≤ 1 := hx
  obtain rfl : n = 1 := by omega
  exact ok_10 v w W nsv tsv fn hvb hT hb hr hns hts
 ·have hn : (2 : Int) ≤ (n : Int) := hn
  have hx : (n : Int) ≤ 2 := hx
  obtain rfl : n = 2 := by omega
  exact ok_11 v w W nsv tsv fn hvb hT hb hr hns hts
 ·have hn : (2 : Int) ≤ (n : Int) := hn
  have hx : (n : Int) ≤ 2 := hx
  obtain rfl : n = 2 := by omega
  exact ok_12 v w W nsv tsv fn hvb hT hb hr hns hts
 ·have hn : (2 : Int) ≤ (n : Int) := hn
  have hx : (n : Int) ≤ 2 := hx
  obtain rfl : n = 2 := by omega
  exact ok_13 v w W nsv tsv fn hvb hT hb hr hns hts
 ·have hn : (1 : Int) ≤ (n : Int) := hn
  have hx : (n : Int) ≤ 1 := hx
  obtain rfl : n = 1 := by omega
  exact ok_14 v w W nsv tsv fn hvb hT hb hr hns hts
 ·have hn : (3 : Int) ≤ (n : Int) := hn
  have hx : (n : Int) ≤ 3 := hx
  obtain rfl : n = 3 := by omega
  exact ok_15 v w W nsv tsv fn hvb hT hb hr hns hts
 ·have hn : (1 : Int) ≤ (n : Int) := hn
  have hx : (n : Int) ≤ 1 := hx
  obtain rfl : n = 1 := by omega
  exact ok_16 v w W nsv tsv fn hvb hT hb hr hns hts
 ·have hn : (1 : Int) ≤ (n : Int) := hn
  have hx : (n : Int) ≤ 2 := hx
  obtain rfl | rfl : n = 1 ∨ n = 2 := by omega
  ·exact ok_17a v w W nsv tsv fn hvb hT hb hr hns hts
  ·exact ok_17b v w W nsv tsv fn hvb hT hb hr hns hts
 ·have hn : (1 : Int) ≤ (n : Int) := hn
  have hx : (n : Int) ≤ 2 := hx
  obtain rfl | rfl : n = 1 ∨ n = 2 := by omega
  ·exact ok_18a v w W nsv tsv fn hvb hT hb hr hns hts
  ·exact ok_18b v w W nsv tsv fn hvb hT hb hr hns hts
 ·have hn : (3 : Int) ≤ (n : Int) := hn
  have hx : (n : Int) ≤ 3 := hx
  obtain rfl : n = 3 := by omega
  exact ok_19 v w W nsv tsv fn hvb hT hb hr hns hts
 ·have hn : (1 : Int) ≤ (n : Int) := hn
  have hx : (n : Int) ≤ 1 := hx
  obtain rfl : n = 1 := by omega
  exact ok_20 v w W nsv tsv fn hvb hT hb hr hns hts
 ·have hn : (1 : Int) ≤ (n : Int) := hn
  have hx : (n : Int) ≤ 1 := hx
  obtain rfl : n = 1 := by omega
  exact ok_21 v w W nsv tsv fn hvb hT hb hr hns hts
 ·have hn : (1 : Int) ≤ (n : Int) := hn
  have hx : (n : Int) ≤ 1 := hx
  obtain rfl : n = 1 := by omega
  exact ok_22 v w W nsv tsv fn hvb hT hb hr hns hts
 ·have hn : (1 : Int) ≤ (n : Int) := hn
  have hx : (n : Int) ≤ 1 := hx
  obtain rfl : n = 1 := by omega
  exact ok_23 v w W nsv tsv fn hvb hT hb hr hns hts
 ·have hn : (2 : Int) ≤ (n : Int) := hn
  have hx : (n : Int) ≤ 3 := hx
  obtain rfl | rfl : n = 2 ∨ n = 3 := by omega
  ·exact ok_24a v w W nsv tsv fn hvb hT hb hr hns hts
  ·exact ok_24b v w W nsv tsv fn hvb hT hb hr hns hts
 ·have hn : (3 : Int) ≤ (n : Int) := hn
  have hx : (n : Int) ≤ 3 := hx
  obtain rfl : n = 3 := by omega
  exact ok_25 v w W nsv tsv fn hvb hT hb hr hns hts
 ·have hn : (4 : Int) ≤ (n : Int) := hn
  have hx : (n : Int) ≤ 4 := hx
  obtain rfl : n = 4 := by omega
  exact ok_26 v w W nsv tsv fn hvb hT hb hr hns hts
 ·have hn : (2 : Int) ≤ (n : Int) := hn
  have hx : (n : Int) ≤ 2 := hx
  obtain rfl : n = 2 := by omega
  exact ok_27 v w W nsv tsv fn hvb hT hb hr hns hts
 ·have hn : (2 : Int) ≤ (n : Int) := hn
  have hx : (n : Int) ≤ 2 := hx
  obtain rfl : n = 2 := by omega
  exact ok_28 v w W nsv tsv fn hvb hT hb hr hns hts
 ·have hn : (1 : Int) ≤ (n : Int) := hn
  have hx : (n : Int) ≤ 1 := hx
  obtain rfl : n = 1 := by omega
  exact ok_29 v w W nsv tsv fn hvb hT hb hr hns hts
 ·have hn : (1 : Int) ≤ (n : Int) := hn
  have hx : (n : Int) ≤ 1 := hx
  obtain rfl : n = 1 := by omega
  exact ok_30 v w W nsv tsv fn hvb hT hb hr hns hts
 ·have hn : (1 : Int) ≤ (n : Int) := hn
  have hx : (n : Int) ≤ 1 := hx
  obtain rfl : n = 1 := by omega
  exact ok_31 v w W nsv tsv fn hvb hT hb hr hns hts
 ·have hn : (1 : Int) ≤ (n : Int) := hn
  have hx : (n : Int) ≤ 1 := hx
  obtain rfl : n = 1 := by omega
  exact ok_32 v w W nsv tsv fn hvb hT hb hr hns hts
 ·have hn : (1 : Int) ≤ (n : Int) := hn
  have hx : (n : Int) ≤ 1 := hx
  obtain rfl : n = 1 := by omega
  exact ok_33 v w W nsv tsv fn hvb hT hb hr hns hts
 ·have hn : (1 : Int) ≤ (n : Int) := hn
  have hx : (n : Int) ≤ 1 := hx
  obtain rfl : n = 1 := by omega
  exact ok_34 v w W nsv tsv fn hvb hT hb hr hns hts
 ·have hn : (0 : Int) ≤ (n : Int) := hn
  have hx : (n : Int) ≤ 0 := hx
  obtain rfl : n = 0 := by omega
  exact ok_35 v w W nsv tsv fn hvb hT hb hr hns hts
theorem call_sc (f n : Nat) (v : Nat → Val.V) (a : Option Addr) (cap : Nat) (w : World) (h1 : 1 ≤ f) (h2 : f < 36) (hn : (infoV f).1.2.2.1 ≤ (n : Int)) (hx : (n : Int) ≤ (infoV f).1.2.2.2)
  (hc : HCellP w a n v) (hvb : ∀ k, k < n → VB (v k)) (hN : NumW w) (hT : TxtW w) :
  Ret 18 #[.int .i64 f, .slice a n cap] w (.tuple #[vv (Cal.callS f n v).1, .int .i64 (Cal.callS f n v).2]) :=
 call_one f n v a cap w h1 h2 hn hx hc hvb hN fun _ W nsv tsv fn hr hb hns hts => work_ok f n v w W nsv tsv fn h1 h2 hn hx hvb hT hb hr hns hts
end Go.Proofs.YtpiiemneelkpkaaGreatDoor
namespace Go.Proofs.YtpiiemneelkpkaaGreatDoor
open Go.RowKit
set_option linter.unusedVariables false
namespace Cal
def ask (f : Int) (v : Val.V) : Bool :=
 cond (f == 36) (v.k == 0) <| cond (f == 37) (v.k == 1) <| cond (f == 38) (v.k == 3) <| cond (f == 39) (v.k == 2) <| cond (f == 40) (v.k == 4) (v.k == 4 && (v.n == 6 && v.t.toList.isEmpty))
def zero : Val.V := ⟨0, 0, ⟨#[]⟩⟩
def callM (f : Int) (n : Nat) (v : Nat → Val.V) : Val.V × Int :=
 if (infoV f).2 ≠ 0 ∨ ((infoV f).1.2.1 ≠ 1 ∧ (infoV f).1.2.1 ≠ 2) ∨ (n : Int) < (infoV f).1.2.2.1 ∨ (infoV f).1.2.2.2 < (n : Int) then (zero, 1)
 else if (infoV f).1.2.1 = 2 then cond (Val.mayB (v 0)) (tru (ask f (v 0)), 0) (zero, 24)
 else callS f.toNat n v
end Cal
theorem class_of : ∀ k : Fin 77, (infoV (k.val : Int)).2 = 0 → ((infoV (k.val : Int)).1.2.1 = 1 → 1 ≤ k.val ∧ k.val < 36) ∧ ((infoV (k.val : Int)).1.2.1 = 2 → 36 ≤ k.val ∧ k.val ≤ 41 ∧ (infoV (k.val : Int)).1.2.2.1 = 1 ∧ (infoV (k.val : Int)).1.2.2.2 = 1) := by decide +kernel
theorem info_nat {f : Int} (h : (infoV f).2 = 0) : ∃ k : Fin 77, f = (k.val : Int) := by
 by_cases h1 : 1 ≤ f ∧ f ≤ 76
 ·exact ⟨⟨f.toNat, by omega⟩, by show f = ((f.toNat : Nat) : Int); omega⟩
 ·unfold infoV at h
  rw [if_neg h1] at h
  simp at h
theorem asked_any (f : Int) (h1 : 36 ≤ f) (h2 : f ≤ 41) (k n : Int) (t : ByteArray) (w : World) : Ret 44 #[.int .i64 f, .agg #[.int .i64 k, .int .i64 n, .string t]] w (.bool (Cal.ask f ⟨k, n, t⟩)) := by
 obtain rfl | rfl | rfl | rfl | rfl | rfl : f = 36 ∨ f = 37 ∨ f = 38 ∨ f = 39 ∨ f = 40 ∨ f = 41 := by omega
 ·exact ask_36 k n t w
 ·exact ask_37 k n t w
 ·exact ask_38 k n t w
 ·exact ask_39 k n t w
 ·exact ask_40 k n t w
 ·exact ask_41 k n t w
theorem call_any (f : Int) (n : Nat) (v : Nat → Val.V) (a : Option Addr) (cap : Nat) (w : World) (hc : HCellP w a n v) (hvb : ∀ k, k < n → VB (v k)) (hN : NumW w) (hT : TxtW w) :
  Ret 18 #[.int .i64 f, .slice a n cap] w (.tuple #[vv (Cal.callM f n v).1, .int .i64 (Cal.callM f n v).2]) := by
 unfold Cal.callM
 by_cases hb : (infoV f).2 ≠ 0 ∨ ((infoV f).1.2.1 ≠ 1 ∧ (infoV f).1.2.1 ≠ 2) ∨ (n : Int) < (infoV f).1.2.2.1 ∨ (infoV f).1.2.2.2 < (n : Int)
 ·rw [if_pos hb]
  generalize hI : infoV f = r at hb
  obtain ⟨⟨nm, c, mn, mx⟩, e0⟩ := r
  simp only at hb
  by_cases h0 : e0 = 0
  ·subst h0
   by_cases h1 : c = 1
   ·subst h1
    by_cases h3 : (n : Int) < mn
    ·exact call_err3a f 0 1 mn mx n nm a cap w hI rfl rfl rfl (decide_eq_true h3)
    ·exact call_err4a f 0 1 mn mx n nm a cap w hI rfl rfl rfl (decide_eq_false h3) (decide_eq_true (by omega))
   ·by_cases h2 : c = 2
    ·subst h2
     by_cases h3 : (n : Int) < mn
     ·exact call_err3b f 0 2 mn mx n nm a cap w hI rfl rfl rfl (decide_eq_true h3)
     ·exact call_err4b f 0 2 mn mx n nm a cap w hI rfl rfl rfl (decide_eq_false h3) (decide_eq_true (by omega))
    ·exact call_err2 f 0 c mn mx n nm a cap w hI rfl (by simpa using h1) (by simpa using h2)
  ·exact call_err1 f e0 c mn mx n nm a cap w hI (by simpa using h0)
 ·rw [if_neg hb]
  have he : (infoV f).2 = 0 := by omega
  obtain ⟨k, rfl⟩ := info_nat he
  obtain ⟨k1, k2⟩ := class_of k he
  by_cases h2 : (infoV (k.val : Int)).1.2.1 = 2
  ·rw [if_pos h2]
   obtain ⟨g1, g2, g3, g4⟩ := k2 h2
   obtain rfl : n = 1 := by omega
   obtain ⟨b, o, rfl, hbl, c0, c1, c2⟩ := hc 0 (by omega)
   have hI : infoV (k.val : Int) = (((infoV (k.val : Int)).1.1, 2, 1, 1), 0) := by
    generalize infoV (k.val : Int) = r at h2 g3 g4 he
    obtain ⟨⟨a, b, c, d⟩, e⟩ := r
    simp only at h2 g3 g4 he
    subst h2 g3 g4 he
    rfl
   simp only [Nat.zero_mul, Nat.add_zero] at c0 c1 c2
   have hA := fun w => asked_any (k.val : Int) (by omega) (by omega) (v 0).k (v 0).n (v 0).t w
   generalize Cal.ask (k.val : Int) (v 0) = q at *
   generalize v 0 = x at *
   obtain ⟨xk, xn, xt⟩ := x
   generalize (infoV (k.val : Int)).1.1 = nm at *
   cases hm : Val.mayB (⟨xk, xn, xt⟩ : Val.V) with
   | true => exact call_ask _ xk xn _ _ _ xt nm _ q b o cap w hI hbl c0 c1 c2 (Lib.hid hA) (Lib.hid fun h => by rw [hm] at h; cases h) (Lib.hid fun _ => ⟨rfl, rfl⟩)
   | false => exact call_ask _ xk xn _ _ _ xt nm _ q b o cap w hI hbl c0 c1 c2 (Lib.hid hA) (Lib.hid fun _ => ⟨rfl, rfl, rfl, rfl⟩) (Lib.hid fun h => by rw [hm] at h; cases h)
  ·rw [if_neg h2]
   obtain ⟨g1, g2⟩ := k1 (by omega)
   exact call_sc k.val n v a cap w g1 g2 (by omega) (by omega) hc hvb hN hT
end Go.Proofs.YtpiiemneelkpkaaGreatDoor
