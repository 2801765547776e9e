import Derived.Test.YtpiiemneelkpkaaGreatDoorCalRg
set_option maxRecDepth 100000
namespace Go.Proofs.YtpiiemneelkpkaaGreatDoor
open Go.RowKit
set_option linter.unusedVariables false
set_option linter.unusedSimpArgs false
theorem asText_le {v : Val.V} (hv : VB v) : (Val.asText v).1.size ≤ 32767 := by
 cases h : Val.mayB v with
 | true => exact Cal.asText_size h hv
 | false =>
  unfold Val.asText Val.good
  rw [h]
  show (⟨#[]⟩ : ByteArray).size ≤ 32767
  decide
theorem txt_spelt (s : ByteArray) (h : s.size ≤ 32767) : Cal.txt s = Cal.spelt s 0 := by
 show _ = cond (true && decide (s.size ≤ 32767)) (Cal.txt s) (Cal.bad 4)
 rw [decide_eq_true h]; rfl
theorem adv_over (s : ByteArray) (j : Nat) (h : Run.cnt s 0 ≤ j) : s.extract (Run.adv s j 0) s.size = ⟨#[]⟩ := by
 have e : Run.adv s j 0 = s.size := by
  obtain ⟨d, rfl⟩ := Nat.exists_eq_add_of_le h
  rw [Run.adv_add, Run.adv_all]
  exact Run.adv_end s d s.size (by omega)
 rw [e]
 apply ByteArray.ext
 simp
theorem rreplace_any (s t : ByteArray) (f n : Int) (w : World) (hs : s.size ≤ 40000) (ht : t.size ≤ 40000) (hf : I64 f) (hn : I64 n) : Ret 165 #[.string s, .int .i64 f, .int .i64 n, .string t] w (vv (Cal.replV s f n t)) := by
 unfold I64 at hf hn
 unfold Cal.replV
 by_cases h0 : f < 1
 ·rw [if_pos (.inl h0)]; exact rrep_f s t f n w (decide_eq_true h0)
 by_cases h1 : n < 0
 ·rw [if_pos (.inr h1)]; exact rrep_n s t f n w (decide_eq_false h0) (decide_eq_true h1)
 rw [if_neg (by omega)]
 unfold Cal.replT
 have hc : Run.cnt s 0 ≤ s.size := Run.cnt_le_size s
 have HL : ∀ v, Ret 156 #[.string s, .int .i64 (f - 1)] v (.tuple #[.string (s.extract 0 (Run.adv s (f - 1).toNat 0)), .int .i64 0]) := fun v => by
  have := uleft s (f - 1) v (by omega) (by omega)
  unfold Cal.leftV at this
  rw [if_neg (by omega)] at this
  exact this
 have w1 : IntKind.i64.wrap (f - 1) = f - 1 := by rw [IntKind.wrap_i64]; omega
 have z1 : (s.extract 0 (Run.adv s (f - 1).toNat 0)).size ≤ 40000 := by rw [ByteArray.size_extract]; omega
 by_cases h2 : f ≤ (Run.cnt s 0 : Int)
 ·by_cases h3 : n < (Run.cnt s 0 : Int) - f + 1
  ·have HR : ∀ v, Ret 157 #[.string s, .int .i64 ((Run.cnt s 0 : Int) - f + 1 - n)] v (.tuple #[.string (s.extract (Run.adv s ((f - 1).toNat + n.toNat) 0) s.size), .int .i64 0]) := fun v => by
    have := uright s ((Run.cnt s 0 : Int) - f + 1 - n) v (by omega) (by omega)
    unfold Cal.rightV at this
    rw [if_neg (by omega), show Run.cnt s 0 - ((Run.cnt s 0 : Int) - f + 1 - n).toNat = (f - 1).toNat + n.toNat by omega] at this
    exact this
   have z2 : (s.extract (Run.adv s ((f - 1).toNat + n.toNat) 0) s.size).size ≤ 40000 := by rw [ByteArray.size_extract]; omega
   exact rrep_near s t f n (f - 1) 0 (Run.cnt s 0 : Int) _ _ _ _ _ _ ((Run.cnt s 0 : Int) - f) ((Run.cnt s 0 : Int) - f + 1) ((Run.cnt s 0 : Int) - f + 1 - n) 0 w (decide_eq_false h0) (decide_eq_false h1) (decide_eq_true h2) (by rw [IntKind.wrap_i64]; omega) (by rw [IntKind.wrap_i64]; omega) (decide_eq_true h3) (by rw [IntKind.wrap_i64]; omega) w1 (by omega) (by omega) rfl (Lib.hid fun v _ => HL v) (Lib.hid fun v _ => rlen5_any s v (by omega)) (Lib.hid fun v _ => HR v) (Lib.hid fun v _ => rtextS_any _ v)
  ·rw [adv_over s _ (by omega)]
   exact rrep_far2 s t f n (f - 1) 0 (Run.cnt s 0 : Int) _ ⟨#[]⟩ _ _ _ _ ((Run.cnt s 0 : Int) - f) ((Run.cnt s 0 : Int) - f + 1) w (decide_eq_false h0) (decide_eq_false h1) (decide_eq_true h2) (by rw [IntKind.wrap_i64]; omega) (by rw [IntKind.wrap_i64]; omega) (decide_eq_false h3) w1 (by omega) (by show ¬ 9223372036854775807 < _ + _ + 0; omega) rfl (Lib.hid fun v _ => HL v) (Lib.hid fun v _ => rlen5_any s v (by omega)) (Lib.hid fun v _ => rtextS_any _ v)
 ·rw [adv_over s _ (by omega)]
  exact rrep_far s t f n (f - 1) 0 (Run.cnt s 0 : Int) _ ⟨#[]⟩ _ _ _ _ w (decide_eq_false h0) (decide_eq_false h1) (decide_eq_false h2) w1 (by omega) (by show ¬ 9223372036854775807 < _ + _ + 0; omega) rfl (Lib.hid fun v _ => HL v) (Lib.hid fun v _ => rlen5_any s v (by omega)) (Lib.hid fun v _ => rtextS_any _ v)
theorem rtxt_16 (w : World) (B : Nat) (v : Nat → Val.V) (nsv tsv bsv vsv : Value) (h : RA w B 1 ⟨#[116]⟩ v nsv tsv bsv vsv) (hv : ∀ k, k < 1 → VB (v k)) : Ret 86 #[.int .i64 16, .agg #[nsv, tsv, bsv, vsv]] w (vv (Cal.work 16 (Cal.inAt ⟨#[116]⟩ v 1))) := by
 have tb0 := asText_le (hv 0 (by decide))
 obtain ⟨gn, cn, rfl, hgn, hcn⟩ := h.nums (by decide)
 obtain ⟨gt, ct, rfl, hgt, hct⟩ := h.txts (by decide)
 have d0 : Hid (w.cell? ⟨gt, 0, none⟩ = some (.string (Val.asText (v 0)).1)) := Lib.hid (hct 0 (by decide))
 clear hv h hcn hct
 show Calls _ _ _ _ fun e w' => e = .returned (vv (Cal.num (Cal.lenV (Val.asText (v 0)).1))) ∧ _
 generalize (Val.asText (v 0)).1 = t0 at *
 exact rt16 gn gt 1 cn ct _ _ t0 _ w (by decide) hgn hgt (by decide) d0 (Lib.hid fun u _ => rlen5_any _ u (by omega))
theorem rtxt_17a (w : World) (B : Nat) (v : Nat → Val.V) (nsv tsv bsv vsv : Value) (h : RA w B 1 ⟨#[116, 110]⟩ v nsv tsv bsv vsv) (hv : ∀ k, k < 1 → VB (v k)) : Ret 86 #[.int .i64 17, .agg #[nsv, tsv, bsv, vsv]] w (vv (Cal.work 17 (Cal.inAt ⟨#[116, 110]⟩ v 1))) := by
 have HX : Hid (∀ u, Below w.heap.size w u → Ret 151 #[.agg #[nsv, tsv, bsv, vsv], .int .i64 1, .int .i64 1] u (.int .i64 1)) := Lib.hid fun u hu => ror_any (h.below rfl hu) (by decide) (by decide) 1 1
 have tb0 := asText_le (hv 0 (by decide))
 obtain ⟨gn, cn, rfl, hgn, hcn⟩ := h.nums (by decide)
 obtain ⟨gt, ct, rfl, hgt, hct⟩ := h.txts (by decide)
 have d0 : Hid (w.cell? ⟨gt, 0, none⟩ = some (.string (Val.asText (v 0)).1)) := Lib.hid (hct 0 (by decide))
 clear hv h hcn hct
 show Calls _ _ _ _ fun e w' => e = .returned (vv (Cal.spelt (Cal.leftV (Val.asText (v 0)).1 1).1 (Cal.leftV (Val.asText (v 0)).1 1).2)) ∧ _
 generalize (Val.asText (v 0)).1 = t0 at *
 exact rt17 gn gt 1 cn ct _ _ t0 1 _ _ _ _ _ w (by decide) hgn hgt (by decide) d0 HX (Lib.hid fun u _ => uleft t0 1 u (by omega) (by omega)) (Lib.hid fun u _ => rtext14_any _ _ u)
theorem rtxt_17b (w : World) (B : Nat) (v : Nat → Val.V) (nsv tsv bsv vsv : Value) (h : RA w B 2 ⟨#[116, 110]⟩ v nsv tsv bsv vsv) (hv : ∀ k, k < 2 → VB (v k)) : Ret 86 #[.int .i64 17, .agg #[nsv, tsv, bsv, vsv]] w (vv (Cal.work 17 (Cal.inAt ⟨#[116, 110]⟩ v 2))) := by
 have HX : Hid (∀ u, Below w.heap.size w u → Ret 151 #[.agg #[nsv, tsv, bsv, vsv], .int .i64 1, .int .i64 1] u (.int .i64 (Val.number (v 1)).1)) := Lib.hid fun u hu => ror_any (h.below rfl hu) (by decide) (by decide) 1 1
 have tb0 := asText_le (hv 0 (by decide))
 have nb1 := number_in (hv 1 (by decide))
 obtain ⟨gn, cn, rfl, hgn, hcn⟩ := h.nums (by decide)
 obtain ⟨gt, ct, rfl, hgt, hct⟩ := h.txts (by decide)
 have d0 : Hid (w.cell? ⟨gt, 0, none⟩ = some (.string (Val.asText (v 0)).1)) := Lib.hid (hct 0 (by decide))
 have c1 : Hid (w.cell? ⟨gn, 1, none⟩ = some (.int .i64 (Val.number (v 1)).1)) := Lib.hid (hcn 1 (by decide))
 clear hv h hcn hct
 show Calls _ _ _ _ fun e w' => e = .returned (vv (Cal.spelt (Cal.leftV (Val.asText (v 0)).1 (Val.number (v 1)).1).1 (Cal.leftV (Val.asText (v 0)).1 (Val.number (v 1)).1).2)) ∧ _
 generalize (Val.asText (v 0)).1 = t0 at *
 generalize (Val.number (v 1)).1 = a1 at *
 unfold I64 at nb1
 exact rt17 gn gt 2 cn ct _ _ t0 a1 _ _ _ _ _ w (by decide) hgn hgt (by decide) d0 HX (Lib.hid fun u _ => uleft t0 a1 u (by omega) (by omega)) (Lib.hid fun u _ => rtext14_any _ _ u)
theorem rtxt_18a (w : World) (B : Nat) (v : Nat → Val.V) (nsv tsv bsv vsv : Value) (h : RA w B 1 ⟨#[116, 110]⟩ v nsv tsv bsv vsv) (hv : ∀ k, k < 1 → VB (v k)) : Ret 86 #[.int .i64 18, .agg #[nsv, tsv, bsv, vsv]] w (vv (Cal.work 18 (Cal.inAt ⟨#[116, 110]⟩ v 1))) := by
 have HX : Hid (∀ u, Below w.heap.size w u → Ret 151 #[.agg #[nsv, tsv, bsv, vsv], .int .i64 1, .int .i64 1] u (.int .i64 1)) := Lib.hid fun u hu => ror_any (h.below rfl hu) (by decide) (by decide) 1 1
 have tb0 := asText_le (hv 0 (by decide))
 obtain ⟨gn, cn, rfl, hgn, hcn⟩ := h.nums (by decide)
 obtain ⟨gt, ct, rfl, hgt, hct⟩ := h.txts (by decide)
 have d0 : Hid (w.cell? ⟨gt, 0, none⟩ = some (.string (Val.asText (v 0)).1)) := Lib.hid (hct 0 (by decide))
 clear hv h hcn hct
 show Calls _ _ _ _ fun e w' => e = .returned (vv (Cal.spelt (Cal.rightV (Val.asText (v 0)).1 1).1 (Cal.rightV (Val.asText (v 0)).1 1).2)) ∧ _
 generalize (Val.asText (v 0)).1 = t0 at *
 exact rt18 gn gt 1 cn ct _ _ t0 1 _ _ _ _ _ w (by decide) hgn hgt (by decide) d0 HX (Lib.hid fun u _ => uright t0 1 u (by omega) (by omega)) (Lib.hid fun u _ => rtext14_any _ _ u)
theorem rtxt_18b (w : World) (B : Nat) (v : Nat → Val.V) (nsv tsv bsv vsv : Value) (h : RA w B 2 ⟨#[116, 110]⟩ v nsv tsv bsv vsv) (hv : ∀ k, k < 2 → VB (v k)) : Ret 86 #[.int .i64 18, .agg #[nsv, tsv, bsv, vsv]] w (vv (Cal.work 18 (Cal.inAt ⟨#[116, 110]⟩ v 2))) := by
 have HX : Hid (∀ u, Below w.heap.size w u → Ret 151 #[.agg #[nsv, tsv, bsv, vsv], .int .i64 1, .int .i64 1] u (.int .i64 (Val.number (v 1)).1)) := Lib.hid fun u hu => ror_any (h.below rfl hu) (by decide) (by decide) 1 1
 have tb0 := asText_le (hv 0 (by decide))
 have nb1 := number_in (hv 1 (by decide))
 obtain ⟨gn, cn, rfl, hgn, hcn⟩ := h.nums (by decide)
 obtain ⟨gt, ct, rfl, hgt, hct⟩ := h.txts (by decide)
 have d0 : Hid (w.cell? ⟨gt, 0, none⟩ = some (.string (Val.asText (v 0)).1)) := Lib.hid (hct 0 (by decide))
 have c1 : Hid (w.cell? ⟨gn, 1, none⟩ = some (.int .i64 (Val.number (v 1)).1)) := Lib.hid (hcn 1 (by decide))
 clear hv h hcn hct
 show Calls _ _ _ _ fun e w' => e = .returned (vv (Cal.spelt (Cal.rightV (Val.asText (v 0)).1 (Val.number (v 1)).1).1 (Cal.rightV (Val.asText (v 0)).1 (Val.number (v 1)).1).2)) ∧ _
 generalize (Val.asText (v 0)).1 = t0 at *
 generalize (Val.number (v 1)).1 = a1 at *
 unfold I64 at nb1
 exact rt18 gn gt 2 cn ct _ _ t0 a1 _ _ _ _ _ w (by decide) hgn hgt (by decide) d0 HX (Lib.hid fun u _ => uright t0 a1 u (by omega) (by omega)) (Lib.hid fun u _ => rtext14_any _ _ u)
theorem rtxt_19 (w : World) (B : Nat) (v : Nat → Val.V) (nsv tsv bsv vsv : Value) (h : RA w B 3 ⟨#[116, 110, 110]⟩ v nsv tsv bsv vsv) (hv : ∀ k, k < 3 → VB (v k)) : Ret 86 #[.int .i64 19, .agg #[nsv, tsv, bsv, vsv]] w (vv (Cal.work 19 (Cal.inAt ⟨#[116, 110, 110]⟩ v 3))) := by
 have tb0 := asText_le (hv 0 (by decide))
 have nb1 := number_in (hv 1 (by decide))
 have nb2 := number_in (hv 2 (by decide))
 obtain ⟨gn, cn, rfl, hgn, hcn⟩ := h.nums (by decide)
 obtain ⟨gt, ct, rfl, hgt, hct⟩ := h.txts (by decide)
 have d0 : Hid (w.cell? ⟨gt, 0, none⟩ = some (.string (Val.asText (v 0)).1)) := Lib.hid (hct 0 (by decide))
 have c1 : Hid (w.cell? ⟨gn, 1, none⟩ = some (.int .i64 (Val.number (v 1)).1)) := Lib.hid (hcn 1 (by decide))
 have c2 : Hid (w.cell? ⟨gn, 2, none⟩ = some (.int .i64 (Val.number (v 2)).1)) := Lib.hid (hcn 2 (by decide))
 clear hv h hcn hct
 show Calls _ _ _ _ fun e w' => e = .returned (vv (Cal.spelt (Cal.midV (Val.asText (v 0)).1 (Val.number (v 1)).1 (Val.number (v 2)).1).1 (Cal.midV (Val.asText (v 0)).1 (Val.number (v 1)).1 (Val.number (v 2)).1).2)) ∧ _
 generalize (Val.asText (v 0)).1 = t0 at *
 generalize (Val.number (v 1)).1 = a1 at *
 generalize (Val.number (v 2)).1 = a2 at *
 unfold I64 at nb1
 unfold I64 at nb2
 exact rt19 gn gt 3 cn ct _ _ t0 a1 a2 _ _ _ _ _ w (by decide) hgn hgt (by decide) d0 c1 c2 (Lib.hid fun u _ => umid t0 a1 a2 u (by omega) (by omega) (by omega)) (Lib.hid fun u _ => rtext14_any _ _ u)
theorem rtxt_20 (w : World) (B : Nat) (v : Nat → Val.V) (nsv tsv bsv vsv : Value) (h : RA w B 1 ⟨#[116]⟩ v nsv tsv bsv vsv) (hv : ∀ k, k < 1 → VB (v k)) : Ret 86 #[.int .i64 20, .agg #[nsv, tsv, bsv, vsv]] w (vv (Cal.work 20 (Cal.inAt ⟨#[116]⟩ v 1))) := by
 have tb0 := asText_le (hv 0 (by decide))
 obtain ⟨gn, cn, rfl, hgn, hcn⟩ := h.nums (by decide)
 obtain ⟨gt, ct, rfl, hgt, hct⟩ := h.txts (by decide)
 have d0 : Hid (w.cell? ⟨gt, 0, none⟩ = some (.string (Val.asText (v 0)).1)) := Lib.hid (hct 0 (by decide))
 clear hv h hcn hct
 show Calls _ _ _ _ fun e w' => e = .returned (vv (Cal.txt (eachS upB (Val.asText (v 0)).1))) ∧ _
 generalize (Val.asText (v 0)).1 = t0 at *
 have sz := eachS_size (upB) t0
 rw [txt_spelt _ (by omega)]
 exact rt20 gn gt 1 cn ct _ _ t0 _ _ _ _ w (by decide) hgn hgt (by decide) d0 (Lib.hid fun u _ => rup_any t0 u (by omega)) (Lib.hid fun u _ => rtextS_any _ u)
theorem rtxt_21 (w : World) (B : Nat) (v : Nat → Val.V) (nsv tsv bsv vsv : Value) (h : RA w B 1 ⟨#[116]⟩ v nsv tsv bsv vsv) (hv : ∀ k, k < 1 → VB (v k)) : Ret 86 #[.int .i64 21, .agg #[nsv, tsv, bsv, vsv]] w (vv (Cal.work 21 (Cal.inAt ⟨#[116]⟩ v 1))) := by
 have tb0 := asText_le (hv 0 (by decide))
 obtain ⟨gn, cn, rfl, hgn, hcn⟩ := h.nums (by decide)
 obtain ⟨gt, ct, rfl, hgt, hct⟩ := h.txts (by decide)
 have d0 : Hid (w.cell? ⟨gt, 0, none⟩ = some (.string (Val.asText (v 0)).1)) := Lib.hid (hct 0 (by decide))
 clear hv h hcn hct
 show Calls _ _ _ _ fun e w' => e = .returned (vv (Cal.txt (eachS lowB (Val.asText (v 0)).1))) ∧ _
 generalize (Val.asText (v 0)).1 = t0 at *
 have sz := eachS_size (lowB) t0
 rw [txt_spelt _ (by omega)]
 exact rt21 gn gt 1 cn ct _ _ t0 _ _ _ _ w (by decide) hgn hgt (by decide) d0 (Lib.hid fun u _ => rlow_any t0 u (by omega)) (Lib.hid fun u _ => rtextS_any _ u)
theorem rtxt_22 (w : World) (B : Nat) (v : Nat → Val.V) (nsv tsv bsv vsv : Value) (h : RA w B 1 ⟨#[116]⟩ v nsv tsv bsv vsv) (hv : ∀ k, k < 1 → VB (v k)) : Ret 86 #[.int .i64 22, .agg #[nsv, tsv, bsv, vsv]] w (vv (Cal.work 22 (Cal.inAt ⟨#[116]⟩ v 1))) := by
 have tb0 := asText_le (hv 0 (by decide))
 obtain ⟨gn, cn, rfl, hgn, hcn⟩ := h.nums (by decide)
 obtain ⟨gt, ct, rfl, hgt, hct⟩ := h.txts (by decide)
 have d0 : Hid (w.cell? ⟨gt, 0, none⟩ = some (.string (Val.asText (v 0)).1)) := Lib.hid (hct 0 (by decide))
 clear hv h hcn hct
 show Calls _ _ _ _ fun e w' => e = .returned (vv (Cal.txt (trimS (Val.asText (v 0)).1))) ∧ _
 generalize (Val.asText (v 0)).1 = t0 at *
 have sz := Cal.trimS_size t0
 rw [txt_spelt _ (by omega)]
 exact rt22 gn gt 1 cn ct _ _ t0 _ _ _ _ w (by decide) hgn hgt (by decide) d0 (Lib.hid fun u _ => rtrim_any t0 u (by omega)) (Lib.hid fun u _ => rtextS_any _ u)
theorem rtxt_23 (w : World) (B : Nat) (v : Nat → Val.V) (nsv tsv bsv vsv : Value) (h : RA w B 1 ⟨#[116]⟩ v nsv tsv bsv vsv) (hv : ∀ k, k < 1 → VB (v k)) : Ret 86 #[.int .i64 23, .agg #[nsv, tsv, bsv, vsv]] w (vv (Cal.work 23 (Cal.inAt ⟨#[116]⟩ v 1))) := by
 have tb0 := asText_le (hv 0 (by decide))
 obtain ⟨gn, cn, rfl, hgn, hcn⟩ := h.nums (by decide)
 obtain ⟨gt, ct, rfl, hgt, hct⟩ := h.txts (by decide)
 have d0 : Hid (w.cell? ⟨gt, 0, none⟩ = some (.string (Val.asText (v 0)).1)) := Lib.hid (hct 0 (by decide))
 clear hv h hcn hct
 show Calls _ _ _ _ fun e w' => e = .returned (vv (Cal.txt (turned (Val.asText (v 0)).1))) ∧ _
 generalize (Val.asText (v 0)).1 = t0 at *
 have sz := turned_size t0
 rw [txt_spelt _ (by omega)]
 exact rt23 gn gt 1 cn ct _ _ t0 _ _ _ _ w (by decide) hgn hgt (by decide) d0 (Lib.hid fun u _ => rturn_any t0 u (by omega)) (Lib.hid fun u _ => rtextS_any _ u)
theorem rtxt_24a (w : World) (B : Nat) (v : Nat → Val.V) (nsv tsv bsv vsv : Value) (h : RA w B 2 ⟨#[116, 116, 110]⟩ v nsv tsv bsv vsv) (hv : ∀ k, k < 2 → VB (v k)) : Ret 86 #[.int .i64 24, .agg #[nsv, tsv, bsv, vsv]] w (vv (Cal.work 24 (Cal.inAt ⟨#[116, 116, 110]⟩ v 2))) := by
 have HX : Hid (∀ u, Below w.heap.size w u → Ret 151 #[.agg #[nsv, tsv, bsv, vsv], .int .i64 2, .int .i64 1] u (.int .i64 1)) := Lib.hid fun u hu => ror_any (h.below rfl hu) (by decide) (by decide) 2 1
 have tb0 := asText_le (hv 0 (by decide))
 have tb1 := asText_le (hv 1 (by decide))
 obtain ⟨gn, cn, rfl, hgn, hcn⟩ := h.nums (by decide)
 obtain ⟨gt, ct, rfl, hgt, hct⟩ := h.txts (by decide)
 have d0 : Hid (w.cell? ⟨gt, 0, none⟩ = some (.string (Val.asText (v 0)).1)) := Lib.hid (hct 0 (by decide))
 have d1 : Hid (w.cell? ⟨gt, 1, none⟩ = some (.string (Val.asText (v 1)).1)) := Lib.hid (hct 1 (by decide))
 clear hv h hcn hct
 show Calls _ _ _ _ fun e w' => e = .returned (vv (cond ((Cal.findV (Val.asText (v 0)).1 (Val.asText (v 1)).1 1).2 == 0) (Cal.num (Cal.findV (Val.asText (v 0)).1 (Val.asText (v 1)).1 1).1) (Cal.bad 4))) ∧ _
 generalize (Val.asText (v 0)).1 = t0 at *
 generalize (Val.asText (v 1)).1 = t1 at *
 have HF := Lib.hid fun (u : World) (_ : Below w.heap.size w u) => ufind t0 t1 1 u (by omega)
 generalize Cal.findV t0 t1 1 = p at *
 obtain ⟨r, y⟩ := p
 cases hy : (y == 0) with
 | true => exact rt24 gn gt 2 cn ct _ _ t0 t1 1 r y w (by decide) hgn hgt (by decide) d0 d1 (by rw [bne, hy]; rfl) HX HF
 | false => exact rt24_e gn gt 2 cn ct _ _ t0 t1 1 r y w (by decide) hgn hgt (by decide) d0 d1 (by rw [bne, hy]; rfl) HX HF
theorem rtxt_24b (w : World) (B : Nat) (v : Nat → Val.V) (nsv tsv bsv vsv : Value) (h : RA w B 3 ⟨#[116, 116, 110]⟩ v nsv tsv bsv vsv) (hv : ∀ k, k < 3 → VB (v k)) : Ret 86 #[.int .i64 24, .agg #[nsv, tsv, bsv, vsv]] w (vv (Cal.work 24 (Cal.inAt ⟨#[116, 116, 110]⟩ v 3))) := by
 have HX : Hid (∀ u, Below w.heap.size w u → Ret 151 #[.agg #[nsv, tsv, bsv, vsv], .int .i64 2, .int .i64 1] u (.int .i64 (Val.number (v 2)).1)) := Lib.hid fun u hu => ror_any (h.below rfl hu) (by decide) (by decide) 2 1
 have tb0 := asText_le (hv 0 (by decide))
 have tb1 := asText_le (hv 1 (by decide))
 have nb2 := number_in (hv 2 (by decide))
 obtain ⟨gn, cn, rfl, hgn, hcn⟩ := h.nums (by decide)
 obtain ⟨gt, ct, rfl, hgt, hct⟩ := h.txts (by decide)
 have d0 : Hid (w.cell? ⟨gt, 0, none⟩ = some (.string (Val.asText (v 0)).1)) := Lib.hid (hct 0 (by decide))
 have d1 : Hid (w.cell? ⟨gt, 1, none⟩ = some (.string (Val.asText (v 1)).1)) := Lib.hid (hct 1 (by decide))
 have c2 : Hid (w.cell? ⟨gn, 2, none⟩ = some (.int .i64 (Val.number (v 2)).1)) := Lib.hid (hcn 2 (by decide))
 clear hv h hcn hct
 show Calls _ _ _ _ fun e w' => e = .returned (vv (cond ((Cal.findV (Val.asText (v 0)).1 (Val.asText (v 1)).1 (Val.number (v 2)).1).2 == 0) (Cal.num (Cal.findV (Val.asText (v 0)).1 (Val.asText (v 1)).1 (Val.number (v 2)).1).1) (Cal.bad 4))) ∧ _
 generalize (Val.asText (v 0)).1 = t0 at *
 generalize (Val.asText (v 1)).1 = t1 at *
 generalize (Val.number (v 2)).1 = a2 at *
 unfold I64 at nb2
 have HF := Lib.hid fun (u : World) (_ : Below w.heap.size w u) => ufind t0 t1 a2 u (by omega)
 generalize Cal.findV t0 t1 a2 = p at *
 obtain ⟨r, y⟩ := p
 cases hy : (y == 0) with
 | true => exact rt24 gn gt 3 cn ct _ _ t0 t1 a2 r y w (by decide) hgn hgt (by decide) d0 d1 (by rw [bne, hy]; rfl) HX HF
 | false => exact rt24_e gn gt 3 cn ct _ _ t0 t1 a2 r y w (by decide) hgn hgt (by decide) d0 d1 (by rw [bne, hy]; rfl) HX HF
theorem rtxt_25 (w : World) (B : Nat) (v : Nat → Val.V) (nsv tsv bsv vsv : Value) (h : RA w B 3 ⟨#[116, 116, 116]⟩ v nsv tsv bsv vsv) (hv : ∀ k, k < 3 → VB (v k)) : Ret 86 #[.int .i64 25, .agg #[nsv, tsv, bsv, vsv]] w (vv (Cal.work 25 (Cal.inAt ⟨#[116, 116, 116]⟩ v 3))) := by
 have tb0 := asText_le (hv 0 (by decide))
 have tb1 := asText_le (hv 1 (by decide))
 have tb2 := asText_le (hv 2 (by decide))
 obtain ⟨gn, cn, rfl, hgn, hcn⟩ := h.nums (by decide)
 obtain ⟨gt, ct, rfl, hgt, hct⟩ := h.txts (by decide)
 have d0 : Hid (w.cell? ⟨gt, 0, none⟩ = some (.string (Val.asText (v 0)).1)) := Lib.hid (hct 0 (by decide))
 have d1 : Hid (w.cell? ⟨gt, 1, none⟩ = some (.string (Val.asText (v 1)).1)) := Lib.hid (hct 1 (by decide))
 have d2 : Hid (w.cell? ⟨gt, 2, none⟩ = some (.string (Val.asText (v 2)).1)) := Lib.hid (hct 2 (by decide))
 clear hv h hcn hct
 show Calls _ _ _ _ fun e w' => e = .returned (vv (Cal.spelt (Cal.swapV (Val.asText (v 0)).1 (Val.asText (v 1)).1 (Val.asText (v 2)).1).1 (Cal.swapV (Val.asText (v 0)).1 (Val.asText (v 1)).1 (Val.asText (v 2)).1).2)) ∧ _
 generalize (Val.asText (v 0)).1 = t0 at *
 generalize (Val.asText (v 1)).1 = t1 at *
 generalize (Val.asText (v 2)).1 = t2 at *
 exact rt25 gn gt 3 cn ct _ _ t0 t1 t2 _ _ _ _ _ w (by decide) hgn hgt (by decide) d0 d1 d2 (Lib.hid fun u _ => uswap t0 t1 t2 u (by omega) (by omega) (by omega)) (Lib.hid fun u _ => rtext14_any _ _ u)
theorem rtxt_26 (w : World) (B : Nat) (v : Nat → Val.V) (nsv tsv bsv vsv : Value) (h : RA w B 4 ⟨#[116, 110, 110, 116]⟩ v nsv tsv bsv vsv) (hv : ∀ k, k < 4 → VB (v k)) : Ret 86 #[.int .i64 26, .agg #[nsv, tsv, bsv, vsv]] w (vv (Cal.work 26 (Cal.inAt ⟨#[116, 110, 110, 116]⟩ v 4))) := by
 have tb0 := asText_le (hv 0 (by decide))
 have tb3 := asText_le (hv 3 (by decide))
 have nb1 := number_in (hv 1 (by decide))
 have nb2 := number_in (hv 2 (by decide))
 obtain ⟨gn, cn, rfl, hgn, hcn⟩ := h.nums (by decide)
 obtain ⟨gt, ct, rfl, hgt, hct⟩ := h.txts (by decide)
 have d0 : Hid (w.cell? ⟨gt, 0, none⟩ = some (.string (Val.asText (v 0)).1)) := Lib.hid (hct 0 (by decide))
 have d3 : Hid (w.cell? ⟨gt, 3, none⟩ = some (.string (Val.asText (v 3)).1)) := Lib.hid (hct 3 (by decide))
 have c1 : Hid (w.cell? ⟨gn, 1, none⟩ = some (.int .i64 (Val.number (v 1)).1)) := Lib.hid (hcn 1 (by decide))
 have c2 : Hid (w.cell? ⟨gn, 2, none⟩ = some (.int .i64 (Val.number (v 2)).1)) := Lib.hid (hcn 2 (by decide))
 clear hv h hcn hct
 show Calls _ _ _ _ fun e w' => e = .returned (vv (Cal.replV (Val.asText (v 0)).1 (Val.number (v 1)).1 (Val.number (v 2)).1 (Val.asText (v 3)).1)) ∧ _
 generalize (Val.asText (v 0)).1 = t0 at *
 generalize (Val.asText (v 3)).1 = t3 at *
 generalize (Val.number (v 1)).1 = a1 at *
 generalize (Val.number (v 2)).1 = a2 at *
 unfold I64 at nb1
 unfold I64 at nb2
 exact rt26 gn gt 4 cn ct _ _ t0 a1 a2 t3 _ _ _ w (by decide) hgn hgt (by decide) d0 c1 c2 d3 (Lib.hid fun u _ => rreplace_any t0 t3 a1 a2 u (by omega) (by omega) nb1 nb2)
theorem rtxt_27 (w : World) (B : Nat) (v : Nat → Val.V) (nsv tsv bsv vsv : Value) (h : RA w B 2 ⟨#[116, 110]⟩ v nsv tsv bsv vsv) (hv : ∀ k, k < 2 → VB (v k)) : Ret 86 #[.int .i64 27, .agg #[nsv, tsv, bsv, vsv]] w (vv (Cal.work 27 (Cal.inAt ⟨#[116, 110]⟩ v 2))) := by
 have tb0 := asText_le (hv 0 (by decide))
 have nb1 := number_in (hv 1 (by decide))
 obtain ⟨gn, cn, rfl, hgn, hcn⟩ := h.nums (by decide)
 obtain ⟨gt, ct, rfl, hgt, hct⟩ := h.txts (by decide)
 have d0 : Hid (w.cell? ⟨gt, 0, none⟩ = some (.string (Val.asText (v 0)).1)) := Lib.hid (hct 0 (by decide))
 have c1 : Hid (w.cell? ⟨gn, 1, none⟩ = some (.int .i64 (Val.number (v 1)).1)) := Lib.hid (hcn 1 (by decide))
 clear hv h hcn hct
 show Calls _ _ _ _ fun e w' => e = .returned (vv (Cal.spelt (Cal.timesV (Val.asText (v 0)).1 (Val.number (v 1)).1).1 (Cal.timesV (Val.asText (v 0)).1 (Val.number (v 1)).1).2)) ∧ _
 generalize (Val.asText (v 0)).1 = t0 at *
 generalize (Val.number (v 1)).1 = a1 at *
 unfold I64 at nb1
 exact rt27 gn gt 2 cn ct _ _ t0 a1 _ _ _ _ _ w (by decide) hgn hgt (by decide) d0 c1 (Lib.hid fun u _ => utimes t0 a1 u (by omega) (by omega)) (Lib.hid fun u _ => rtext14_any _ _ u)
theorem rtxt_28 (w : World) (B : Nat) (v : Nat → Val.V) (nsv tsv bsv vsv : Value) (h : RA w B 2 ⟨#[116, 116]⟩ v nsv tsv bsv vsv) (hv : ∀ k, k < 2 → VB (v k)) : Ret 86 #[.int .i64 28, .agg #[nsv, tsv, bsv, vsv]] w (vv (Cal.work 28 (Cal.inAt ⟨#[116, 116]⟩ v 2))) := by
 have tb0 := asText_le (hv 0 (by decide))
 have tb1 := asText_le (hv 1 (by decide))
 obtain ⟨gn, cn, rfl, hgn, hcn⟩ := h.nums (by decide)
 obtain ⟨gt, ct, rfl, hgt, hct⟩ := h.txts (by decide)
 have d0 : Hid (w.cell? ⟨gt, 0, none⟩ = some (.string (Val.asText (v 0)).1)) := Lib.hid (hct 0 (by decide))
 have d1 : Hid (w.cell? ⟨gt, 1, none⟩ = some (.string (Val.asText (v 1)).1)) := Lib.hid (hct 1 (by decide))
 clear hv h hcn hct
 show Calls _ _ _ _ fun e w' => e = .returned (vv (Cal.tru ((Val.asText (v 0)).1.toList == (Val.asText (v 1)).1.toList))) ∧ _
 generalize (Val.asText (v 0)).1 = t0 at *
 generalize (Val.asText (v 1)).1 = t1 at *
 exact rt28 gn gt 2 cn ct _ _ t0 t1 _ _ _ _ w (by decide) hgn hgt (by decide) d0 d1 rfl (Lib.hid fun u _ => rboolS_any _ u)
theorem rtxt_29 (w : World) (B : Nat) (v : Nat → Val.V) (nsv tsv bsv vsv : Value) (h : RA w B 1 ⟨#[116]⟩ v nsv tsv bsv vsv) (hv : ∀ k, k < 1 → VB (v k)) : Ret 86 #[.int .i64 29, .agg #[nsv, tsv, bsv, vsv]] w (vv (Cal.work 29 (Cal.inAt ⟨#[116]⟩ v 1))) := by
 have tb0 := asText_le (hv 0 (by decide))
 obtain ⟨gn, cn, rfl, hgn, hcn⟩ := h.nums (by decide)
 obtain ⟨gt, ct, rfl, hgt, hct⟩ := h.txts (by decide)
 have d0 : Hid (w.cell? ⟨gt, 0, none⟩ = some (.string (Val.asText (v 0)).1)) := Lib.hid (hct 0 (by decide))
 clear hv h hcn hct
 show Calls _ _ _ _ fun e w' => e = .returned (vv (cond ((Cal.codeV (Val.asText (v 0)).1).2 == 0) (Cal.num (Cal.codeV (Val.asText (v 0)).1).1) (Cal.bad 4))) ∧ _
 generalize (Val.asText (v 0)).1 = t0 at *
 have HF := Lib.hid fun (u : World) (_ : Below w.heap.size w u) => ucode t0 u (by omega)
 generalize Cal.codeV t0 = p at *
 obtain ⟨r, y⟩ := p
 cases hy : (y == 0) with
 | true => exact rt29 gn gt 1 cn ct _ _ t0 r y w (by decide) hgn hgt (by decide) d0 (by rw [bne, hy]; rfl) HF
 | false => exact rt29_e gn gt 1 cn ct _ _ t0 r y w (by decide) hgn hgt (by decide) d0 (by rw [bne, hy]; rfl) HF
theorem rtxt_32 (w : World) (B : Nat) (v : Nat → Val.V) (nsv tsv bsv vsv : Value) (h : RA w B 1 ⟨#[116]⟩ v nsv tsv bsv vsv) (hv : ∀ k, k < 1 → VB (v k)) : Ret 86 #[.int .i64 32, .agg #[nsv, tsv, bsv, vsv]] w (vv (Cal.work 32 (Cal.inAt ⟨#[116]⟩ v 1))) := by
 have tb0 := asText_le (hv 0 (by decide))
 obtain ⟨gn, cn, rfl, hgn, hcn⟩ := h.nums (by decide)
 obtain ⟨gt, ct, rfl, hgt, hct⟩ := h.txts (by decide)
 have d0 : Hid (w.cell? ⟨gt, 0, none⟩ = some (.string (Val.asText (v 0)).1)) := Lib.hid (hct 0 (by decide))
 clear hv h hcn hct
 show Calls _ _ _ _ fun e w' => e = .returned (vv (Cal.txt (Val.asText (v 0)).1)) ∧ _
 generalize (Val.asText (v 0)).1 = t0 at *
 rw [txt_spelt _ (by omega)]
 exact rt32 gn gt 1 cn ct _ _ t0 _ _ _ w (by decide) hgn hgt (by decide) d0 (Lib.hid fun u _ => rtextS_any _ u)
end Go.Proofs.YtpiiemneelkpkaaGreatDoor
