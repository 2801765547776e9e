/- A slice of values that came in: what stands in it, and how long it and its texts may be. -/
import Derived.Test.YtpiiemneelkpkaaGreatDoorFrameT
import Derived.Test.YtpiiemneelkpkaaGreatDoorGfr
import Derived.Test.YtpiiemneelkpkaaGreatDoorGcp
namespace Go.Proofs.YtpiiemneelkpkaaGreatDoor
open Go.ChangeShapes Go.WideShapes Go.ChangeAt Go.RowKit Go.Deep
theorem laidOutSeat : laidOutB Tryz.prog = true := by kernel_rfl
theorem cells1_int : Tryz.prog.cellsOf 3 = 1 := by kernel_rfl
theorem cells1_int64 : Tryz.prog.cellsOf 2 = 1 := by kernel_rfl
theorem cells1_string : Tryz.prog.cellsOf 9 = 1 := by kernel_rfl
section
variable {H : Type} {enc : TypeId × Value → H}
/-- A value within something that was read. -/
theorem val_open {w : World} {base : Nat} {spare : Nat → Bool} {held : Bool} {n : Nat} {c0 c1 c2 : Value} {D : DataW H × List MemPlace} (ht : DataW.trod enc Tryz.prog w base spare held n 26 [c0, c1, c2] = some D) :
    ∃ (k m : Int) (t : ByteArray) (parts : List (DataW H)), c0 = .int .i64 k ∧ c1 = .int .i64 m ∧ c2 = .string t ∧ (Lit.int .i64 m).wf = true ∧ D.1 = .agg parts ∧ parts[2]? = some (.lit (.string t.data.toList)) := by
  obtain ⟨ys, m', hD, _, hy⟩ := struct_open Tryz.underlying26 ht
  obtain ⟨y0, e0, t0⟩ := hy 0 _ rfl _ _ _ rfl rfl cells1_int
  obtain ⟨y1, e1, t1⟩ := hy 1 _ rfl _ _ _ rfl rfl cells1_int64
  obtain ⟨y2, e2, t2⟩ := hy 2 _ rfl _ _ _ rfl rfl cells1_string
  obtain ⟨k, hK, _, _⟩ := DataW.trod_int Tryz.underlying3 t0
  obtain ⟨x, hX, _, wx⟩ := DataW.trod_int Tryz.underlying2 t1
  obtain ⟨s, hS, ys2, _⟩ := DataW.trod_string Tryz.underlying9 t2
  have hK' : [c0] = _ := hK
  have hX' : [c1] = _ := hX
  have hS' : [c2] = _ := hS
  simp only [List.cons.injEq, and_true] at hK' hX' hS'
  exact ⟨k, x, s, _, hK', hX', hS', wx, hD, by rw [List.getElem?_map, e2, ys2]; rfl⟩
theorem list3 {α : Type} {cs : List α} (h : cs.length = 3) : ∃ c0 c1 c2, cs = [c0, c1, c2] := by
  match cs, h with
  | [a, b, c], _ => exact ⟨a, b, c, rfl⟩
end
theorem vals_of_trod {H : Type} {enc : TypeId × Value → H} {W : World} {a : Option Addr} {l c fuel : Nat} {d : DataW H} {p : List MemPlace} {ts : List TypeId} {ds : List (DataW H)} {j : Nat}
    (hf : DataW.trod enc Tryz.prog W 0 (fun _ => true) true fuel 24 (Value.slice a l c).cells.toList = some (d, p))
    (hsz : (DataW.weightsEach Tryz.prog ts ds).all (· ≤ reachBytes) = true) (ht : ts[j]? = some 24) (hd : ds[j]? = some d) :
    l ≤ c ∧ ∃ v : Nat → Val.V, HCellP W a l v ∧ ∀ k, k < l → VB (v k) := by
  rcases open_slice Tryz.underlying24 hf with ⟨hcs, hx⟩ | ⟨a', len, cap, m, n, D, Pl, hcs, _, hl, hm, hmm, hx, hi⟩
  · have e : Value.slice a l c = .slice none 0 0 := by simpa [Value.cells] using hcs
    simp only [Value.slice.injEq] at e
    obtain ⟨_, rfl, rfl⟩ := e
    exact ⟨Nat.le_refl _, fun _ => Cal.zero, fun k h => absurd h (Nat.not_lt_zero k), fun k h => absurd h (Nat.not_lt_zero k)⟩
  · have e : Value.slice a l c = .slice (some a') len cap := by simpa [Value.cells] using hcs
    simp only [Value.slice.injEq] at e
    obtain ⟨rfl, rfl, rfl⟩ := e
    simp only [Prod.mk.injEq] at hx
    rw [if_pos rfl] at hmm
    have hreach : reachBytes = 140737488351232 := by decide
    refine ⟨hl, ?_⟩
    have step : ∀ i, i < l → ∃ v : Val.V, (∀ q, W.cell? ((a'.add (i * 3)).add q) = [Value.int .i64 v.k, .int .i64 v.n, .string v.t][q]? ∨ 3 ≤ q) ∧ VB v := by
      intro i h
      obtain ⟨cs, hc, htr⟩ := hi i (by omega)
      rw [valCells] at hc
      have hlen : cs.length = 3 := by
        obtain ⟨_, _, _, hlen, _⟩ := struct_open Tryz.underlying26 htr
        rw [hlen]; exact valCells
      obtain ⟨_, _, hat⟩ := World.cells?_some hc
      obtain ⟨c0, c1, c2, rfl⟩ := list3 hlen
      obtain ⟨vk, vn, vt, pv, rfl, rfl, rfl, wv, ev, gv⟩ := val_open htr
      have bv := bounds_i64 wv
      have hm' : D i ∈ (List.range l).map D := List.mem_map.2 ⟨i, by simpa using h, rfl⟩
      have zv : vt.size ≤ 140737488351232 := by
        rw [Lib.size_eq]
        have := sized_in hsz ht (by rw [hd, hx.1]) Tryz.underlying24 hm' (weights_field Tryz.underlying26 ev (i := 2) (T := 9) rfl gv (weights_str rfl))
        rw [hreach] at this
        exact this
      refine ⟨⟨vk, vn, vt⟩, fun q => ?_, ⟨bv.1, bv.2, zv⟩⟩
      by_cases hq : q < 3
      · exact .inl ((hat q hq).trans (by simp))
      · exact .inr (by omega)
    by_cases h0 : l = 0
    · exact ⟨fun _ => Cal.zero, fun k h => by omega, fun k h => by omega⟩
    obtain ⟨b, o, sp⟩ := a'
    have hsp : sp = none := by
      obtain ⟨v, hc, _⟩ := step 0 (by omega)
      have g := (hc 0).resolve_right (by omega)
      simpa [Addr.add] using World.cell?_spot g
    subst hsp
    refine ⟨fun i => if h : i < l then Classical.choose (step i h) else Cal.zero, fun i h => ?_, fun i h => ?_⟩
    · have hs := Classical.choose_spec (step i h)
      simp only [dif_pos h]
      generalize Classical.choose (step i h) = vi at *
      have g : ∀ q, q < 3 → W.cell? ⟨b, o + i * 3 + q, none⟩ = [Value.int .i64 vi.k, .int .i64 vi.n, .string vi.t][q]? := fun q hq => by
        have := (hs.1 q).resolve_right (by omega)
        rw [add_spot] at this
        exact this
      exact ⟨b, o, rfl, World.block_lt_of_cell? W _ (g 0 (by omega)), g 0 (by omega), g 1 (by omega), g 2 (by omega)⟩
    · simp only [dif_pos h]
      exact (Classical.choose_spec (step i h)).2
end Go.Proofs.YtpiiemneelkpkaaGreatDoor
