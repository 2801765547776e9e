import Derived.Test.YtpiiemneelkpkaaGreatDoorCalErO
import Derived.Test.YtpiiemneelkpkaaGreatDoorCalRs
namespace Go.Proofs.YtpiiemneelkpkaaGreatDoor
open Go.ChangeShapes Go.WideShapes Go.ChangeAt Go.RowKit Go.Deep
theorem bytesVal : Tryz.prog.bytesOf 26 = 32 := by kernel_rfl
section
variable {H : Type} {enc : TypeId × Value → H}
theorem weights_slice {P : Program} {elems spare : List (DataW H)} {t e : TypeId} (hu : P.underlying t = some (.slice e)) : (DataW.slice elems spare).weights P t = (elems.length + spare.length) * P.bytesOf e :: (DataW.weightsAll P e elems ++ DataW.weightsAll P e spare) := by
 unfold DataW.weights
 rw [hu]
theorem vals_in {W : World} {base : Nat} {spare : Nat → Bool} {held : Bool} {fuel : Nat} {v0 : Value} {D0 : DataW H × List MemPlace}
  (hf : DataW.trod enc Tryz.prog W base spare held fuel 24 [v0] = some D0) (hw : ∀ m ∈ D0.1.weights Tryz.prog 24, m ≤ reachBytes) :
  ∃ (a : Option Addr) (l c : Nat), v0 = .slice a l c ∧ ((a = none ∧ l = 0 ∧ c = 0) ∨ ∃ ad, a = some ad) ∧ l ≤ 4398046510976 ∧ ∃ v : Nat → Val.V, HCellP W a l v ∧ ∀ k, k < l → VB (v k) := by
 have hreach : reachBytes = 140737488351232 := by decide
 rw [hreach] at hw
 rcases open_slice Tryz.underlying24 hf with ⟨hcs, hx⟩ | ⟨a', l, cap, m, n, D, Pl, hcs, _, hl, hm, hmm, hx, hi⟩
 ·simp only [List.cons.injEq, and_true] at hcs
  exact ⟨none, 0, 0, hcs, .inl ⟨rfl, rfl, rfl⟩, by omega, fun _ => Cal.zero, fun k h => absurd h (Nat.not_lt_zero k), fun k h => absurd h (Nat.not_lt_zero k)⟩
 ·simp only [List.cons.injEq, and_true] at hcs
  subst hx
  have hlm : l ≤ m := by rw [hmm]; split <;> omega
  simp only [weights_slice Tryz.underlying24, bytesVal, List.length_map, List.length_range] at hw
  have hl32 := hw _ (List.mem_cons_self ..)
  refine ⟨some a', l, cap, hcs, .inr ⟨_, rfl⟩, by omega, ?_⟩
  have step : ∀ i, i < l → ∃ v : Val.V, (∀ q, W.cell? ((a'.add (i * 3)).add q) = [Value.int .i64 v.k, .int .i64 v.n, .string v.t][q]? ∨ 3 ≤ q) ∧ VB v := by
   intro i h
   obtain ⟨cs, hc, htr⟩ := hi i (by omega)
   rw [valCells] at hc
   have hlen : cs.length = 3 := by
    obtain ⟨_, _, _, hlen, _⟩ := struct_open Tryz.underlying26 htr
    rw [hlen]; exact valCells
   obtain ⟨_, _, hat⟩ := World.cells?_some hc
   obtain ⟨c0, c1, c2, rfl⟩ := list3 hlen
   obtain ⟨vk, vn, vt, pv, rfl, rfl, rfl, wv, ev, gv⟩ := val_open htr
   have bv := bounds_i64 wv
   have zv : vt.size ≤ 140737488351232 := by
    rw [Lib.size_eq]
    have h4 := weights_field Tryz.underlying26 ev (i := 2) (T := 9) rfl gv (weights_str (P := Tryz.prog) rfl)
    exact hw _ (List.mem_cons_of_mem _ (List.mem_append_left _ (weightsAll_mem (List.mem_map.2 ⟨i, by simpa using h, rfl⟩) _ h4)))
   refine ⟨⟨vk, vn, vt⟩, fun q => ?_, ⟨bv.1, bv.2, zv⟩⟩
   by_cases hq : q < 3
   ·exact .inl ((hat q hq).trans (by simp))
   ·exact .inr (by omega)
  by_cases h0 : l = 0
  ·exact ⟨fun _ => Cal.zero, fun k h => by omega, fun k h => by omega⟩
  obtain ⟨b, o, sp⟩ := a'
  have hsp : sp = none := by
   obtain ⟨v, hc, _⟩ := step 0 (by omega)
   have g := (hc 0).resolve_right (by omega)
   simpa [Addr.add] using World.cell?_spot g
  subst hsp
  refine ⟨fun i => if h : i < l then Classical.choose (step i h) else Cal.zero, fun i h => ?_, fun i h => ?_⟩
  ·have hs := Classical.choose_spec (step i h)
   simp only [dif_pos h]
   generalize Classical.choose (step i h) = vi at *
   have g : ∀ q, q < 3 → W.cell? ⟨b, o + i * 3 + q, none⟩ = [Value.int .i64 vi.k, .int .i64 vi.n, .string vi.t][q]? := fun q hq => by
    have := (hs.1 q).resolve_right (by omega)
    rw [add_spot] at this
    exact this
   exact ⟨b, o, rfl, World.block_lt_of_cell? W _ (g 0 (by omega)), g 0 (by omega), g 1 (by omega), g 2 (by omega)⟩
  ·simp only [dif_pos h]
   exact (Classical.choose_spec (step i h)).2
theorem list9 {α : Type} {cs : List α} (h : cs.length = 9) : ∃ c0 c1 c2 c3 c4 c5 c6 c7 c8, cs = [c0, c1, c2, c3, c4, c5, c6, c7, c8] := by
 match cs, h with
 | [a, b, c, d, e, f, g, i, j], _ => exact ⟨a, b, c, d, e, f, g, i, j, rfl⟩
theorem cellsOp : Tryz.prog.cellsOf 28 = 9 := by kernel_rfl
theorem cells1_vals : Tryz.prog.cellsOf 24 = 1 := by kernel_rfl
theorem val_ok {w : World} {base : Nat} {spare : Nat → Bool} {held : Bool} {n : Nat} {c0 c1 c2 : Value} {D : DataW H × List MemPlace} (ht : DataW.trod enc Tryz.prog w base spare held n 26 [c0, c1, c2] = some D)
  (hw : ∀ m ∈ D.1.weights Tryz.prog 26, m ≤ reachBytes) : ∃ v : Val.V, c0 = .int .i64 v.k ∧ c1 = .int .i64 v.n ∧ c2 = .string v.t ∧ VB v := by
 obtain ⟨vk, vn, vt, pv, rfl, rfl, rfl, wv, ev, gv⟩ := val_open ht
 have bv := bounds_i64 wv
 have hreach : reachBytes = 140737488351232 := by decide
 have h4 := hw _ (weights_field Tryz.underlying26 ev (i := 2) (T := 9) rfl gv (weights_str (P := Tryz.prog) rfl))
 rw [hreach] at h4
 exact ⟨⟨vk, vn, vt⟩, rfl, rfl, rfl, bv.1, bv.2, by rw [Lib.size_eq]; exact h4⟩
theorem op_open {W : World} {base : Nat} {spare : Nat → Bool} {held : Bool} {n : Nat} {cs : List Value} {D : DataW H × List MemPlace}
  (ht : DataW.trod enc Tryz.prog W base spare held n 28 cs = some D) (hw : ∀ m ∈ D.1.weights Tryz.prog 28, m ≤ reachBytes) : ∃ d : OpD, cs = opC d ∧ OpOK W d := by
 obtain ⟨ys, m', hD, hlen, hy⟩ := struct_open Tryz.underlying28 ht
 rw [cellsOp] at hlen
 obtain ⟨c0, c1, c2, c3, c4, c5, c6, c7, c8, rfl⟩ := list9 hlen
 obtain ⟨y0, e0, t0⟩ := hy 0 _ rfl _ _ _ rfl rfl cells1_int
 obtain ⟨y1, e1, t1⟩ := hy 1 _ rfl _ _ _ rfl rfl cells1_int
 obtain ⟨y2, e2, t2⟩ := hy 2 _ rfl _ _ _ rfl rfl cells1_vals
 obtain ⟨y3, e3, t3⟩ := hy 3 _ rfl _ _ _ rfl rfl valCells
 obtain ⟨y4, e4, t4⟩ := hy 4 _ rfl _ _ _ rfl rfl valCells
 obtain ⟨k, hK, _, _⟩ := DataW.trod_int Tryz.underlying3 t0
 obtain ⟨f, hF, _, _⟩ := DataW.trod_int Tryz.underlying3 t1
 have hK' : [c0] = _ := hK
 have hF' : [c1] = _ := hF
 simp only [List.cons.injEq, and_true] at hK' hF'
 obtain ⟨a, l, c, hA, h1, h2, v, h3, h4⟩ := vals_in (v0 := c2) t2 (fun m hm => hw m (weights_field Tryz.underlying28 hD (i := 2) (T := 24) rfl (by rw [List.getElem?_map, e2]; rfl) hm))
 obtain ⟨x, x0, x1, x2, hx⟩ := val_ok (c0 := c3) (c1 := c4) (c2 := c5) t3 (fun m hm => hw m (weights_field Tryz.underlying28 hD (i := 3) (T := 26) rfl (by rw [List.getElem?_map, e3]; rfl) hm))
 obtain ⟨y, q0, q1, q2, hyy⟩ := val_ok (c0 := c6) (c1 := c7) (c2 := c8) t4 (fun m hm => hw m (weights_field Tryz.underlying28 hD (i := 4) (T := 26) rfl (by rw [List.getElem?_map, e4]; rfl) hm))
 refine ⟨⟨k, f, a, l, c, x, y, v⟩, ?_, h3, h1, h4, hx, hyy, h2⟩
 unfold opC
 rw [hK', hF', hA, x0, x1, x2, q0, q1, q2]
end
theorem bytesOp : 32 ≤ Tryz.prog.bytesOf 28 := by
 have h : decide (32 ≤ Tryz.prog.bytesOf 28) = true := by kernel_rfl
 exact of_decide_eq_true h
theorem ops_of_trod {H : Type} {enc : TypeId × Value → H} {W : World} {a : Option Addr} {l c fuel : Nat} {d : DataW H} {p : List MemPlace} {ts : List TypeId} {ds : List (DataW H)} {j : Nat}
  (hf : DataW.trod enc Tryz.prog W 0 (fun _ => true) true fuel 22 (Value.slice a l c).cells.toList = some (d, p))
  (hsz : (DataW.weightsEach Tryz.prog ts ds).all (· ≤ reachBytes) = true) (ht : ts[j]? = some 22) (hd : ds[j]? = some d) :
  l ≤ 4398046510976 ∧ ∃ o : Nat → OpD, OCellP W a l o := by
 have hw : ∀ m ∈ d.weights Tryz.prog 22, m ≤ reachBytes := fun m hm => by
  have := List.all_eq_true.1 hsz _ (DataW.weights_mem_each ht hd _ hm)
  simpa using this
 have hreach : reachBytes = 140737488351232 := by decide
 have d0 : OpD := ⟨0, 0, none, 0, 0, Cal.zero, Cal.zero, fun _ => Cal.zero⟩
 rcases open_slice Tryz.underlying22 hf with ⟨hcs, hx⟩ | ⟨a', len, cap, m, n, D, Pl, hcs, _, hl, hm, hmm, hx, hi⟩
 ·have e : Value.slice a l c = .slice none 0 0 := by simpa [Value.cells] using hcs
  simp only [Value.slice.injEq] at e
  obtain ⟨_, rfl, rfl⟩ := e
  exact ⟨by omega, fun _ => d0, fun k h => absurd h (Nat.not_lt_zero k)⟩
 ·have e : Value.slice a l c = .slice (some a') len cap := by simpa [Value.cells] using hcs
  simp only [Value.slice.injEq] at e
  obtain ⟨rfl, rfl, rfl⟩ := e
  simp only [Prod.mk.injEq] at hx
  have hlm : l ≤ m := by rw [hmm]; split <;> omega
  have bo := bytesOp
  rw [hx.1] at hw
  simp only [weights_slice Tryz.underlying22, List.length_map, List.length_range] at hw
  have hl32 := hw _ (List.mem_cons_self ..)
  have hmul := Nat.mul_le_mul_left (l + (m - l)) bo
  refine ⟨by omega, ?_⟩
  have step : ∀ i, i < l → ∃ o : OpD, (∀ q u, (opC o)[q]? = some u → W.cell? ((a'.add (i * 9)).add q) = some u) ∧ OpOK W o := by
   intro i h
   obtain ⟨cs, hc, htr⟩ := hi i (by omega)
   rw [cellsOp] at hc
   obtain ⟨o, rfl, ho⟩ := op_open htr (fun q hq => hw _ (List.mem_cons_of_mem _ (List.mem_append_left _ (weightsAll_mem (List.mem_map.2 ⟨i, by simpa using h, rfl⟩) _ hq))))
   obtain ⟨_, _, hat⟩ := World.cells?_some hc
   refine ⟨o, fun q u hu => ?_, ho⟩
   have hq : q < 9 := (List.getElem?_eq_some_iff.1 hu).1
   exact (hat q hq).trans hu
  by_cases h0 : l = 0
  ·exact ⟨fun _ => d0, fun k h => by omega⟩
  obtain ⟨b, o, sp⟩ := a'
  have hsp : sp = none := by
   obtain ⟨v, hc, _⟩ := step 0 (by omega)
   simpa [Addr.add] using World.cell?_spot (hc 0 _ rfl)
  subst hsp
  refine ⟨fun i => if h : i < l then Classical.choose (step i h) else d0, fun i h => ?_⟩
  have hs := Classical.choose_spec (step i h)
  simp only [dif_pos h]
  generalize Classical.choose (step i h) = oi at *
  have g : ∀ q u, (opC oi)[q]? = some u → W.cell? ⟨b, o + i * 9 + q, none⟩ = some u := fun q u hu => by
   have := hs.1 q u hu
   rw [add_spot] at this
   exact this
  exact ⟨hs.2, b, o, rfl, World.block_lt_of_cell? W _ (g 0 _ rfl), g⟩
end Go.Proofs.YtpiiemneelkpkaaGreatDoor
