import Derived.Test.YtpiiemneelkpkaaGreatDoorCalRd
import Derived.Test.YtpiiemneelkpkaaGreatDoorCalRe
import Derived.Test.YtpiiemneelkpkaaGreatDoorCalErP
set_option maxRecDepth 100000
namespace Go.Proofs.YtpiiemneelkpkaaGreatDoor
open Go.RowKit
set_option linter.unusedVariables false
set_option linter.unusedSimpArgs false
structure RA (w : World) (B : Nat) (n : Nat) (s : ByteArray) (v : Nat → Val.V) (nsv tsv bsv vsv : Value) : Prop where
 o : ∀ i, i < 4 → w.ownsRow B (rowsF nsv tsv bsv vsv s v n i).e (rowsF nsv tsv bsv vsv s v n i).sz (rowsF nsv tsv bsv vsv s v n i).v (rowsF nsv tsv bsv vsv s v n i).n (rowsF nsv tsv bsv vsv s v n i).xs
theorem RA.below {w w' : World} {k B n : Nat} {s : ByteArray} {v : Nat → Val.V} {nsv tsv bsv vsv : Value} (h : RA w B n s v nsv tsv bsv vsv) (hk : k = w.heap.size) (hb : Below k w w') : RA w' B n s v nsv tsv bsv vsv := by
 subst hk
 exact ⟨fun i hi => ownsRow_below (h.o i hi) hb⟩
theorem row1 {w : World} {B : Nat} {e : TypeId} {x : Value} {n : Nat} {g : Nat → Value} (h : w.ownsRow B e 1 x n ((List.range n).map g)) (hn : 0 < n) :
  ∃ b c, x = .slice (some ⟨b, 0, none⟩) n c ∧ b < w.heap.size ∧ ∀ k, k < n → w.cell? ⟨b, k, none⟩ = some (g k) := by
 rcases h.2 with ⟨_, h0⟩ | ⟨b, c, cur, rfl, _, hb, _⟩
 ·omega
 ·refine ⟨b, c, rfl, (Array.getElem?_eq_some_iff.1 hb).1, fun k hk => ?_⟩
  have := h.cells (g := b) rfl k (g k) (by simp [hk])
  have hadd : (⟨b, 0, none⟩ : Addr).add k = ⟨b, k, none⟩ := by unfold Addr.add; split <;> simp_all
  rwa [hadd] at this
section
variable {w : World} {B n : Nat} {s : ByteArray} {v : Nat → Val.V} {nsv tsv bsv vsv : Value}
theorem RA.nums (h : RA w B n s v nsv tsv bsv vsv) (hn : 0 < n) : ∃ b c, nsv = .slice (some ⟨b, 0, none⟩) n c ∧ b < w.heap.size ∧ ∀ k, k < n → w.cell? ⟨b, k, none⟩ = some (.int .i64 (Cal.numA s v k)) := row1 (h.o 0 (by omega)) hn
theorem RA.txts (h : RA w B n s v nsv tsv bsv vsv) (hn : 0 < n) : ∃ b c, tsv = .slice (some ⟨b, 0, none⟩) n c ∧ b < w.heap.size ∧ ∀ k, k < n → w.cell? ⟨b, k, none⟩ = some (.string (Cal.txtA s v k)) := row1 (h.o 1 (by omega)) hn
theorem RA.bools (h : RA w B n s v nsv tsv bsv vsv) (hn : 0 < n) : ∃ b c, bsv = .slice (some ⟨b, 0, none⟩) n c ∧ b < w.heap.size ∧ ∀ k, k < n → w.cell? ⟨b, k, none⟩ = some (.bool (Cal.truA s v k)) := row1 (h.o 2 (by omega)) hn
theorem ror_any (h : RA w B n s v nsv tsv bsv vsv) (hn : 0 < n) (hn2 : n ≤ 100) (i : Nat) (d : Int) : Ret 151 #[.agg #[nsv, tsv, bsv, vsv], .int .i64 (i : Int), .int .i64 d] w (.int .i64 (if i < n then Cal.numA s v i else d)) := by
 obtain ⟨b, c, rfl, hb, hc⟩ := h.nums hn
 by_cases hi : i < n
 ·rw [if_pos hi]; exact ror_in b i n c _ _ _ d _ w hi hn2 hb (Lib.hid (hc i hi))
 ·rw [if_neg hi]; exact ror_out _ n c _ _ _ i d w hi hn2
end
theorem rnum_1 (w : World) (B : Nat) (v : Nat → Val.V) (nsv tsv bsv vsv : Value) (h : RA w B 1 ⟨#[110]⟩ v nsv tsv bsv vsv) (hv : ∀ k, k < 1 → VB (v k)) : Ret 85 #[.int .i64 1, .agg #[nsv, tsv, bsv, vsv]] w (vv (Cal.work 1 (Cal.inAt ⟨#[110]⟩ v 1))) := by
 have HX : Hid (∀ u, Below w.heap.size w u → Ret 151 #[.agg #[nsv, tsv, bsv, vsv], .int .i64 0, .int .i64 0] u (.int .i64 (Val.number (v 0)).1)) := Lib.hid fun u hu => ror_any (h.below rfl hu) (by decide) (by decide) 0 0
 have HY : Hid (∀ u, Below w.heap.size w u → Ret 151 #[.agg #[nsv, tsv, bsv, vsv], .int .i64 1, .int .i64 0] u (.int .i64 0)) := Lib.hid fun u hu => ror_any (h.below rfl hu) (by decide) (by decide) 1 0
 have i0 := number_in (hv 0 (by decide))
 obtain ⟨g, c, rfl, hg, hc⟩ := h.nums (by decide)
 show Calls _ _ _ _ fun e w' => e = .returned (vv (cond (decide ((Val.number (v 0)).1 < 0)) (Cal.fits (Ref.fitV (0 - (Val.number (v 0)).1)) (Ref.fitB (0 - (Val.number (v 0)).1))) (Cal.num (Val.number (v 0)).1))) ∧ _
 generalize (Val.number (v 0)).1 = x at *
 clear hv h hc
 unfold I64 at i0
 by_cases hl : x = -9223372036854775808
 ·have hf : ¬ PowG.Fits (0 - x) := by unfold PowG.Fits; omega
  rw [decide_eq_true (by omega : x < 0), (fit_not hf).1, (fit_not hf).2]
  exact rn1_l _ _ c _ _ _ x 0 w HX HY (by simpa using hl)
 ·have hw : IntKind.i64.wrap (-x) = -x := by rw [IntKind.wrap_i64]; omega
  by_cases hn : x < 0
  ·have hf : PowG.Fits (0 - x) := by unfold PowG.Fits; omega
   rw [decide_eq_true hn, (fit_of hf).1, (fit_of hf).2, Int.zero_sub]
   exact rn1 _ _ c _ _ _ x 0 _ (-x) w HX HY (by simpa using hl) hw (by omega)
  ·rw [decide_eq_false hn]
   exact rn1 _ _ c _ _ _ x 0 _ x w HX HY (by simpa using hl) hw (by omega)
theorem rnum_2 (w : World) (B : Nat) (v : Nat → Val.V) (nsv tsv bsv vsv : Value) (h : RA w B 1 ⟨#[110]⟩ v nsv tsv bsv vsv) (hv : ∀ k, k < 1 → VB (v k)) : Ret 85 #[.int .i64 2, .agg #[nsv, tsv, bsv, vsv]] w (vv (Cal.work 2 (Cal.inAt ⟨#[110]⟩ v 1))) := by
 have HX : Hid (∀ u, Below w.heap.size w u → Ret 151 #[.agg #[nsv, tsv, bsv, vsv], .int .i64 0, .int .i64 0] u (.int .i64 (Val.number (v 0)).1)) := Lib.hid fun u hu => ror_any (h.below rfl hu) (by decide) (by decide) 0 0
 have HY : Hid (∀ u, Below w.heap.size w u → Ret 151 #[.agg #[nsv, tsv, bsv, vsv], .int .i64 1, .int .i64 0] u (.int .i64 0)) := Lib.hid fun u hu => ror_any (h.below rfl hu) (by decide) (by decide) 1 0
 have i0 := number_in (hv 0 (by decide))
 obtain ⟨g, c, rfl, hg, hc⟩ := h.nums (by decide)
 show Calls _ _ _ _ fun e w' => e = .returned (vv (Cal.num (Cal.signV (Val.number (v 0)).1))) ∧ _
 generalize (Val.number (v 0)).1 = x at *
 clear hv h hc
 unfold Cal.signV
 by_cases hn : x < 0
 ·rw [if_pos hn]; exact rn2_n _ _ c _ _ _ x 0 w HX HY (decide_eq_true hn)
 ·rw [if_neg hn]
  by_cases hp : 0 < x
  ·rw [if_pos hp]; exact rn2_p _ _ c _ _ _ x 0 w HX HY (decide_eq_false hn) (decide_eq_true hp)
  ·rw [if_neg hp]; exact rn2_z _ _ c _ _ _ x 0 w HX HY (decide_eq_false hn) (decide_eq_false hp)
theorem rnum_3 (w : World) (B : Nat) (v : Nat → Val.V) (nsv tsv bsv vsv : Value) (h : RA w B 2 ⟨#[110, 110]⟩ v nsv tsv bsv vsv) (hv : ∀ k, k < 2 → VB (v k)) : Ret 85 #[.int .i64 3, .agg #[nsv, tsv, bsv, vsv]] w (vv (Cal.work 3 (Cal.inAt ⟨#[110, 110]⟩ v 2))) := by
 have HX : Hid (∀ u, Below w.heap.size w u → Ret 151 #[.agg #[nsv, tsv, bsv, vsv], .int .i64 0, .int .i64 0] u (.int .i64 (Val.number (v 0)).1)) := Lib.hid fun u hu => ror_any (h.below rfl hu) (by decide) (by decide) 0 0
 have HY : Hid (∀ u, Below w.heap.size w u → Ret 151 #[.agg #[nsv, tsv, bsv, vsv], .int .i64 1, .int .i64 0] u (.int .i64 (Val.number (v 1)).1)) := Lib.hid fun u hu => ror_any (h.below rfl hu) (by decide) (by decide) 1 0
 have i0 := number_in (hv 0 (by decide))
 have i1 := number_in (hv 1 (by decide))
 obtain ⟨g, c, rfl, hg, hc⟩ := h.nums (by decide)
 show Calls _ _ _ _ fun e w' => e = .returned (vv (Cal.told (Cal.modV (Val.number (v 0)).1 (Val.number (v 1)).1).1 (Cal.modV (Val.number (v 0)).1 (Val.number (v 1)).1).2)) ∧ _
 generalize (Val.number (v 0)).1 = x at *
 generalize (Val.number (v 1)).1 = y at *
 clear hv h hc
 exact rn3 _ _ c _ _ _ x y _ _ _ _ _ w HX HY (Lib.hid (dmod x y i0 i1)) (Lib.hid fun w => rwhole_any _ _ w)
theorem rnum_4 (w : World) (B : Nat) (v : Nat → Val.V) (nsv tsv bsv vsv : Value) (h : RA w B 2 ⟨#[110, 110]⟩ v nsv tsv bsv vsv) (hv : ∀ k, k < 2 → VB (v k)) : Ret 85 #[.int .i64 4, .agg #[nsv, tsv, bsv, vsv]] w (vv (Cal.work 4 (Cal.inAt ⟨#[110, 110]⟩ v 2))) := by
 have HX : Hid (∀ u, Below w.heap.size w u → Ret 151 #[.agg #[nsv, tsv, bsv, vsv], .int .i64 0, .int .i64 0] u (.int .i64 (Val.number (v 0)).1)) := Lib.hid fun u hu => ror_any (h.below rfl hu) (by decide) (by decide) 0 0
 have HY : Hid (∀ u, Below w.heap.size w u → Ret 151 #[.agg #[nsv, tsv, bsv, vsv], .int .i64 1, .int .i64 0] u (.int .i64 (Val.number (v 1)).1)) := Lib.hid fun u hu => ror_any (h.below rfl hu) (by decide) (by decide) 1 0
 have i0 := number_in (hv 0 (by decide))
 have i1 := number_in (hv 1 (by decide))
 obtain ⟨g, c, rfl, hg, hc⟩ := h.nums (by decide)
 show Calls _ _ _ _ fun e w' => e = .returned (vv (Cal.told (Cal.quoV (Val.number (v 0)).1 (Val.number (v 1)).1).1 (Cal.quoV (Val.number (v 0)).1 (Val.number (v 1)).1).2)) ∧ _
 generalize (Val.number (v 0)).1 = x at *
 generalize (Val.number (v 1)).1 = y at *
 clear hv h hc
 exact rn4 _ _ c _ _ _ x y _ _ _ _ _ w HX HY (Lib.hid (dquo x y i0 i1)) (Lib.hid fun w => rwhole_any _ _ w)
theorem rnum_5 (w : World) (B : Nat) (v : Nat → Val.V) (nsv tsv bsv vsv : Value) (h : RA w B 2 ⟨#[110, 110]⟩ v nsv tsv bsv vsv) (hv : ∀ k, k < 2 → VB (v k)) : Ret 85 #[.int .i64 5, .agg #[nsv, tsv, bsv, vsv]] w (vv (Cal.work 5 (Cal.inAt ⟨#[110, 110]⟩ v 2))) := by
 have HX : Hid (∀ u, Below w.heap.size w u → Ret 151 #[.agg #[nsv, tsv, bsv, vsv], .int .i64 0, .int .i64 0] u (.int .i64 (Val.number (v 0)).1)) := Lib.hid fun u hu => ror_any (h.below rfl hu) (by decide) (by decide) 0 0
 have HY : Hid (∀ u, Below w.heap.size w u → Ret 151 #[.agg #[nsv, tsv, bsv, vsv], .int .i64 1, .int .i64 0] u (.int .i64 (Val.number (v 1)).1)) := Lib.hid fun u hu => ror_any (h.below rfl hu) (by decide) (by decide) 1 0
 have i0 := number_in (hv 0 (by decide))
 have i1 := number_in (hv 1 (by decide))
 obtain ⟨g, c, rfl, hg, hc⟩ := h.nums (by decide)
 show Calls _ _ _ _ fun e w' => e = .returned (vv (Cal.told (Cal.powV (Val.number (v 0)).1 (Val.number (v 1)).1).1 (Cal.powV (Val.number (v 0)).1 (Val.number (v 1)).1).2)) ∧ _
 generalize (Val.number (v 0)).1 = x at *
 generalize (Val.number (v 1)).1 = y at *
 clear hv h hc
 exact rn5 _ _ c _ _ _ x y _ _ _ _ _ w HX HY (Lib.hid (dpow x y i0 i1)) (Lib.hid fun w => rwhole_any _ _ w)
theorem rnum_6 (w : World) (B : Nat) (v : Nat → Val.V) (nsv tsv bsv vsv : Value) (h : RA w B 2 ⟨#[110, 110]⟩ v nsv tsv bsv vsv) (hv : ∀ k, k < 2 → VB (v k)) : Ret 85 #[.int .i64 6, .agg #[nsv, tsv, bsv, vsv]] w (vv (Cal.work 6 (Cal.inAt ⟨#[110, 110]⟩ v 2))) := by
 have HX : Hid (∀ u, Below w.heap.size w u → Ret 151 #[.agg #[nsv, tsv, bsv, vsv], .int .i64 0, .int .i64 0] u (.int .i64 (Val.number (v 0)).1)) := Lib.hid fun u hu => ror_any (h.below rfl hu) (by decide) (by decide) 0 0
 have HY : Hid (∀ u, Below w.heap.size w u → Ret 151 #[.agg #[nsv, tsv, bsv, vsv], .int .i64 1, .int .i64 0] u (.int .i64 (Val.number (v 1)).1)) := Lib.hid fun u hu => ror_any (h.below rfl hu) (by decide) (by decide) 1 0
 have i0 := number_in (hv 0 (by decide))
 have i1 := number_in (hv 1 (by decide))
 obtain ⟨g, c, rfl, hg, hc⟩ := h.nums (by decide)
 show Calls _ _ _ _ fun e w' => e = .returned (vv (Cal.told (Cal.gcdV (Val.number (v 0)).1 (Val.number (v 1)).1).1 (Cal.gcdV (Val.number (v 0)).1 (Val.number (v 1)).1).2)) ∧ _
 generalize (Val.number (v 0)).1 = x at *
 generalize (Val.number (v 1)).1 = y at *
 clear hv h hc
 exact rn6 _ _ c _ _ _ x y _ _ _ _ _ w HX HY (Lib.hid (dgcd x y i0 i1)) (Lib.hid fun w => rwhole_any _ _ w)
theorem rnum_7 (w : World) (B : Nat) (v : Nat → Val.V) (nsv tsv bsv vsv : Value) (h : RA w B 2 ⟨#[110, 110]⟩ v nsv tsv bsv vsv) (hv : ∀ k, k < 2 → VB (v k)) : Ret 85 #[.int .i64 7, .agg #[nsv, tsv, bsv, vsv]] w (vv (Cal.work 7 (Cal.inAt ⟨#[110, 110]⟩ v 2))) := by
 have HX : Hid (∀ u, Below w.heap.size w u → Ret 151 #[.agg #[nsv, tsv, bsv, vsv], .int .i64 0, .int .i64 0] u (.int .i64 (Val.number (v 0)).1)) := Lib.hid fun u hu => ror_any (h.below rfl hu) (by decide) (by decide) 0 0
 have HY : Hid (∀ u, Below w.heap.size w u → Ret 151 #[.agg #[nsv, tsv, bsv, vsv], .int .i64 1, .int .i64 0] u (.int .i64 (Val.number (v 1)).1)) := Lib.hid fun u hu => ror_any (h.below rfl hu) (by decide) (by decide) 1 0
 have i0 := number_in (hv 0 (by decide))
 have i1 := number_in (hv 1 (by decide))
 obtain ⟨g, c, rfl, hg, hc⟩ := h.nums (by decide)
 show Calls _ _ _ _ fun e w' => e = .returned (vv (Cal.told (Cal.lcmV (Val.number (v 0)).1 (Val.number (v 1)).1).1 (Cal.lcmV (Val.number (v 0)).1 (Val.number (v 1)).1).2)) ∧ _
 generalize (Val.number (v 0)).1 = x at *
 generalize (Val.number (v 1)).1 = y at *
 clear hv h hc
 exact rn7 _ _ c _ _ _ x y _ _ _ _ _ w HX HY (Lib.hid (dlcm x y i0 i1)) (Lib.hid fun w => rwhole_any _ _ w)
theorem rnum_8 (w : World) (B : Nat) (v : Nat → Val.V) (nsv tsv bsv vsv : Value) (h : RA w B 1 ⟨#[110]⟩ v nsv tsv bsv vsv) (hv : ∀ k, k < 1 → VB (v k)) : Ret 85 #[.int .i64 8, .agg #[nsv, tsv, bsv, vsv]] w (vv (Cal.work 8 (Cal.inAt ⟨#[110]⟩ v 1))) := by
 have HX : Hid (∀ u, Below w.heap.size w u → Ret 151 #[.agg #[nsv, tsv, bsv, vsv], .int .i64 0, .int .i64 0] u (.int .i64 (Val.number (v 0)).1)) := Lib.hid fun u hu => ror_any (h.below rfl hu) (by decide) (by decide) 0 0
 have HY : Hid (∀ u, Below w.heap.size w u → Ret 151 #[.agg #[nsv, tsv, bsv, vsv], .int .i64 1, .int .i64 0] u (.int .i64 0)) := Lib.hid fun u hu => ror_any (h.below rfl hu) (by decide) (by decide) 1 0
 have i0 := number_in (hv 0 (by decide))
 obtain ⟨g, c, rfl, hg, hc⟩ := h.nums (by decide)
 show Calls _ _ _ _ fun e w' => e = .returned (vv (if (Val.number (v 0)).1 < 0 ∨ 20 < (Val.number (v 0)).1 then Cal.bad 2 else Cal.num (Cal.fct (Val.number (v 0)).1.toNat))) ∧ _
 generalize (Val.number (v 0)).1 = x at *
 clear hv h hc
 by_cases h0 : x < 0
 ·rw [if_pos (.inl h0)]; exact rn8_lo _ _ c _ _ _ x 0 w HX HY (decide_eq_true h0)
 ·by_cases h1 : 20 < x
  ·rw [if_pos (.inr h1)]; exact rn8_hi _ _ c _ _ _ x 0 w HX HY (decide_eq_false h0) (decide_eq_true h1)
  ·rw [if_neg (by omega)]
   obtain ⟨k, rfl⟩ := Int.eq_ofNat_of_zero_le (show 0 ≤ x by omega)
   rw [Int.toNat_natCast]
   exact rn8 _ _ c _ _ _ 0 k _ _ _ w HX HY (decide_eq_false h0) (by omega) (decide_eq_false h1) (Lib.hid fun z hz w => by rw [hz]; exact rnum14 _ w)
theorem rnum_9 (w : World) (B : Nat) (v : Nat → Val.V) (nsv tsv bsv vsv : Value) (h : RA w B 1 ⟨#[110]⟩ v nsv tsv bsv vsv) (hv : ∀ k, k < 1 → VB (v k)) : Ret 85 #[.int .i64 9, .agg #[nsv, tsv, bsv, vsv]] w (vv (Cal.work 9 (Cal.inAt ⟨#[110]⟩ v 1))) := by
 have HX : Hid (∀ u, Below w.heap.size w u → Ret 151 #[.agg #[nsv, tsv, bsv, vsv], .int .i64 0, .int .i64 0] u (.int .i64 (Val.number (v 0)).1)) := Lib.hid fun u hu => ror_any (h.below rfl hu) (by decide) (by decide) 0 0
 have HY : Hid (∀ u, Below w.heap.size w u → Ret 151 #[.agg #[nsv, tsv, bsv, vsv], .int .i64 1, .int .i64 0] u (.int .i64 0)) := Lib.hid fun u hu => ror_any (h.below rfl hu) (by decide) (by decide) 1 0
 have i0 := number_in (hv 0 (by decide))
 obtain ⟨g, c, rfl, hg, hc⟩ := h.nums (by decide)
 show Calls _ _ _ _ fun e w' => e = .returned (vv (Cal.tru ((Val.number (v 0)).1.tmod 2 == 0))) ∧ _
 generalize (Val.number (v 0)).1 = x at *
 clear hv h hc
 exact rn9 _ _ c _ _ _ x 0 _ _ _ _ _ w HX HY rfl rfl (Lib.hid fun w => rboolS_any _ w)
theorem rnum_10 (w : World) (B : Nat) (v : Nat → Val.V) (nsv tsv bsv vsv : Value) (h : RA w B 1 ⟨#[110]⟩ v nsv tsv bsv vsv) (hv : ∀ k, k < 1 → VB (v k)) : Ret 85 #[.int .i64 10, .agg #[nsv, tsv, bsv, vsv]] w (vv (Cal.work 10 (Cal.inAt ⟨#[110]⟩ v 1))) := by
 have HX : Hid (∀ u, Below w.heap.size w u → Ret 151 #[.agg #[nsv, tsv, bsv, vsv], .int .i64 0, .int .i64 0] u (.int .i64 (Val.number (v 0)).1)) := Lib.hid fun u hu => ror_any (h.below rfl hu) (by decide) (by decide) 0 0
 have HY : Hid (∀ u, Below w.heap.size w u → Ret 151 #[.agg #[nsv, tsv, bsv, vsv], .int .i64 1, .int .i64 0] u (.int .i64 0)) := Lib.hid fun u hu => ror_any (h.below rfl hu) (by decide) (by decide) 1 0
 have i0 := number_in (hv 0 (by decide))
 obtain ⟨g, c, rfl, hg, hc⟩ := h.nums (by decide)
 show Calls _ _ _ _ fun e w' => e = .returned (vv (Cal.tru ((Val.number (v 0)).1.tmod 2 != 0))) ∧ _
 generalize (Val.number (v 0)).1 = x at *
 clear hv h hc
 exact rn10 _ _ c _ _ _ x 0 _ _ _ _ _ w HX HY rfl rfl (Lib.hid fun w => rboolS_any _ w)
theorem rnum_11 (w : World) (B : Nat) (v : Nat → Val.V) (nsv tsv bsv vsv : Value) (h : RA w B 2 ⟨#[110, 110]⟩ v nsv tsv bsv vsv) (hv : ∀ k, k < 2 → VB (v k)) : Ret 85 #[.int .i64 11, .agg #[nsv, tsv, bsv, vsv]] w (vv (Cal.work 11 (Cal.inAt ⟨#[110, 110]⟩ v 2))) := by
 have HX : Hid (∀ u, Below w.heap.size w u → Ret 151 #[.agg #[nsv, tsv, bsv, vsv], .int .i64 0, .int .i64 0] u (.int .i64 (Val.number (v 0)).1)) := Lib.hid fun u hu => ror_any (h.below rfl hu) (by decide) (by decide) 0 0
 have HY : Hid (∀ u, Below w.heap.size w u → Ret 151 #[.agg #[nsv, tsv, bsv, vsv], .int .i64 1, .int .i64 0] u (.int .i64 (Val.number (v 1)).1)) := Lib.hid fun u hu => ror_any (h.below rfl hu) (by decide) (by decide) 1 0
 have i0 := number_in (hv 0 (by decide))
 have i1 := number_in (hv 1 (by decide))
 obtain ⟨g, c, rfl, hg, hc⟩ := h.nums (by decide)
 show Calls _ _ _ _ fun e w' => e = .returned (vv (Cal.pos 0 (Val.number (v 0)).1 (Val.number (v 1)).1)) ∧ _
 generalize (Val.number (v 0)).1 = x at *
 generalize (Val.number (v 1)).1 = y at *
 clear hv h hc
 unfold Cal.pos
 cases t0 : decide (x < 0) with
 | true => exact rn11_x _ _ c _ _ _ x y w HX HY t0
 | false =>
  cases t1 : decide (y < 0) with
  | true => exact rn11_y _ _ c _ _ _ x y w HX HY t0 t1
  | false => exact rn11 _ _ c _ _ _ x y _ w HX HY t0 t1 rfl
theorem rnum_12 (w : World) (B : Nat) (v : Nat → Val.V) (nsv tsv bsv vsv : Value) (h : RA w B 2 ⟨#[110, 110]⟩ v nsv tsv bsv vsv) (hv : ∀ k, k < 2 → VB (v k)) : Ret 85 #[.int .i64 12, .agg #[nsv, tsv, bsv, vsv]] w (vv (Cal.work 12 (Cal.inAt ⟨#[110, 110]⟩ v 2))) := by
 have HX : Hid (∀ u, Below w.heap.size w u → Ret 151 #[.agg #[nsv, tsv, bsv, vsv], .int .i64 0, .int .i64 0] u (.int .i64 (Val.number (v 0)).1)) := Lib.hid fun u hu => ror_any (h.below rfl hu) (by decide) (by decide) 0 0
 have HY : Hid (∀ u, Below w.heap.size w u → Ret 151 #[.agg #[nsv, tsv, bsv, vsv], .int .i64 1, .int .i64 0] u (.int .i64 (Val.number (v 1)).1)) := Lib.hid fun u hu => ror_any (h.below rfl hu) (by decide) (by decide) 1 0
 have i0 := number_in (hv 0 (by decide))
 have i1 := number_in (hv 1 (by decide))
 obtain ⟨g, c, rfl, hg, hc⟩ := h.nums (by decide)
 show Calls _ _ _ _ fun e w' => e = .returned (vv (Cal.pos 1 (Val.number (v 0)).1 (Val.number (v 1)).1)) ∧ _
 generalize (Val.number (v 0)).1 = x at *
 generalize (Val.number (v 1)).1 = y at *
 clear hv h hc
 unfold Cal.pos
 cases t0 : decide (x < 0) with
 | true => exact rn12_x _ _ c _ _ _ x y w HX HY t0
 | false =>
  cases t1 : decide (y < 0) with
  | true => exact rn12_y _ _ c _ _ _ x y w HX HY t0 t1
  | false => exact rn12 _ _ c _ _ _ x y _ w HX HY t0 t1 rfl
theorem rnum_13 (w : World) (B : Nat) (v : Nat → Val.V) (nsv tsv bsv vsv : Value) (h : RA w B 2 ⟨#[110, 110]⟩ v nsv tsv bsv vsv) (hv : ∀ k, k < 2 → VB (v k)) : Ret 85 #[.int .i64 13, .agg #[nsv, tsv, bsv, vsv]] w (vv (Cal.work 13 (Cal.inAt ⟨#[110, 110]⟩ v 2))) := by
 have HX : Hid (∀ u, Below w.heap.size w u → Ret 151 #[.agg #[nsv, tsv, bsv, vsv], .int .i64 0, .int .i64 0] u (.int .i64 (Val.number (v 0)).1)) := Lib.hid fun u hu => ror_any (h.below rfl hu) (by decide) (by decide) 0 0
 have HY : Hid (∀ u, Below w.heap.size w u → Ret 151 #[.agg #[nsv, tsv, bsv, vsv], .int .i64 1, .int .i64 0] u (.int .i64 (Val.number (v 1)).1)) := Lib.hid fun u hu => ror_any (h.below rfl hu) (by decide) (by decide) 1 0
 have i0 := number_in (hv 0 (by decide))
 have i1 := number_in (hv 1 (by decide))
 obtain ⟨g, c, rfl, hg, hc⟩ := h.nums (by decide)
 show Calls _ _ _ _ fun e w' => e = .returned (vv (Cal.pos 2 (Val.number (v 0)).1 (Val.number (v 1)).1)) ∧ _
 generalize (Val.number (v 0)).1 = x at *
 generalize (Val.number (v 1)).1 = y at *
 clear hv h hc
 unfold Cal.pos
 cases t0 : decide (x < 0) with
 | true => exact rn13_x _ _ c _ _ _ x y w HX HY t0
 | false =>
  cases t1 : decide (y < 0) with
  | true => exact rn13_y _ _ c _ _ _ x y w HX HY t0 t1
  | false => exact rn13 _ _ c _ _ _ x y _ w HX HY t0 t1 rfl
theorem rnum_15 (w : World) (B : Nat) (v : Nat → Val.V) (nsv tsv bsv vsv : Value) (h : RA w B 3 ⟨#[110, 110, 110]⟩ v nsv tsv bsv vsv) (hv : ∀ k, k < 3 → VB (v k)) : Ret 85 #[.int .i64 15, .agg #[nsv, tsv, bsv, vsv]] w (vv (Cal.work 15 (Cal.inAt ⟨#[110, 110, 110]⟩ v 3))) := by
 have HX : Hid (∀ u, Below w.heap.size w u → Ret 151 #[.agg #[nsv, tsv, bsv, vsv], .int .i64 0, .int .i64 0] u (.int .i64 (Val.number (v 0)).1)) := Lib.hid fun u hu => ror_any (h.below rfl hu) (by decide) (by decide) 0 0
 have HY : Hid (∀ u, Below w.heap.size w u → Ret 151 #[.agg #[nsv, tsv, bsv, vsv], .int .i64 1, .int .i64 0] u (.int .i64 (Val.number (v 1)).1)) := Lib.hid fun u hu => ror_any (h.below rfl hu) (by decide) (by decide) 1 0
 have i0 := number_in (hv 0 (by decide))
 have i1 := number_in (hv 1 (by decide))
 obtain ⟨g, c, rfl, hg, hc⟩ := h.nums (by decide)
 show Calls _ _ _ _ fun e w' => e = .returned (vv (if (Val.number (v 2)).1 < (Val.number (v 1)).1 then Cal.bad 2 else Cal.num (max (Val.number (v 1)).1 (min (Val.number (v 0)).1 (Val.number (v 2)).1)))) ∧ _
 have h2 : Hid (w.cell? ⟨g, 2, none⟩ = some (.int .i64 (Val.number (v 2)).1)) := Lib.hid (hc 2 (by decide))
 generalize (Val.number (v 2)).1 = z at *
 generalize (Val.number (v 0)).1 = x at *
 generalize (Val.number (v 1)).1 = y at *
 clear hv h hc
 by_cases h0 : z < y
 ·rw [if_pos h0]; exact rn15_b g 3 c _ _ _ x y z w HX HY (by decide) (by decide) hg h2 (decide_eq_true h0)
 ·rw [if_neg h0]; exact rn15 g 3 c _ _ _ x y z _ _ w HX HY (by decide) (by decide) hg h2 (decide_eq_false h0) rfl (show min (max x y) z = max y (min x z) by omega)
end Go.Proofs.YtpiiemneelkpkaaGreatDoor
