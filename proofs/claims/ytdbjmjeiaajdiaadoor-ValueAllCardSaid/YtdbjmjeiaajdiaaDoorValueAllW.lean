/- A script of calls on values that came in: what stands in it, and how long it and its texts may be. -/
import Derived.Test.YtdbjmjeiaajdiaaDoorFrameT
import Derived.Test.YtdbjmjeiaajdiaaDoorValW
import Derived.Test.YtdbjmjeiaajdiaaDoorValueAllQ
namespace Go.Proofs.YtdbjmjeiaajdiaaDoor
open Go.ChangeShapes Go.WideShapes Go.ChangeAt Go.RowKit Go.Deep
theorem laidOutSeat : laidOutB Tryd.prog = true := by kernel_rfl
theorem vopCells : Tryd.prog.cellsOf 28 = 8 := by kernel_rfl
theorem vopBytes : Tryd.prog.bytesOf 28 = 88 := by kernel_rfl
theorem cells1_int : Tryd.prog.cellsOf 3 = 1 := by kernel_rfl
theorem cells1_int64 : Tryd.prog.cellsOf 2 = 1 := by kernel_rfl
theorem cells1_string : Tryd.prog.cellsOf 9 = 1 := by kernel_rfl
section
variable {H : Type} {enc : TypeId × Value → H}
/-- A value within something that was read. -/
theorem val_open {w : World} {base : Nat} {spare : Nat → Bool} {held : Bool} {n : Nat} {c0 c1 c2 : Value} {D : DataW H × List MemPlace} (ht : DataW.trod enc Tryd.prog w base spare held n 26 [c0, c1, c2] = some D) :
    ∃ (k m : Int) (t : ByteArray) (parts : List (DataW H)), c0 = .int .i64 k ∧ c1 = .int .i64 m ∧ c2 = .string t ∧ (Lit.int .i64 m).wf = true ∧ D.1 = .agg parts ∧ parts[2]? = some (.lit (.string t.data.toList)) := by
  obtain ⟨ys, m', hD, _, hy⟩ := struct_open Tryd.underlying26 ht
  obtain ⟨y0, e0, t0⟩ := hy 0 _ rfl _ _ _ rfl rfl cells1_int
  obtain ⟨y1, e1, t1⟩ := hy 1 _ rfl _ _ _ rfl rfl cells1_int64
  obtain ⟨y2, e2, t2⟩ := hy 2 _ rfl _ _ _ rfl rfl cells1_string
  obtain ⟨k, hK, _, _⟩ := DataW.trod_int Tryd.underlying3 t0
  obtain ⟨x, hX, _, wx⟩ := DataW.trod_int Tryd.underlying2 t1
  obtain ⟨s, hS, ys2, _⟩ := DataW.trod_string Tryd.underlying9 t2
  have hK' : [c0] = _ := hK
  have hX' : [c1] = _ := hX
  have hS' : [c2] = _ := hS
  simp only [List.cons.injEq, and_true] at hK' hX' hS'
  exact ⟨k, x, s, _, hK', hX', hS', wx, hD, by rw [List.getElem?_map, e2, ys2]; rfl⟩
end
theorem vops_of_trod {H : Type} {enc : TypeId × Value → H} {W : World} {a : Option Addr} {l c fuel : Nat} {d : DataW H} {p : List MemPlace} {ts : List TypeId} {ds : List (DataW H)}
    (hf : DataW.trod enc Tryd.prog W 0 (fun _ => true) true fuel 22 (Value.slice a l c).cells.toList = some (d, p))
    (hsz : (DataW.weightsEach Tryd.prog ts ds).all (· ≤ reachBytes) = true) (ht : ts[0]? = some 22) (hd : ds[0]? = some d) :
    l ≤ 140737488351232 ∧ ∀ i, i < l → ∃ b o, a = some ⟨b, o, none⟩ ∧ b < W.heap.size ∧ VOpAt W b (o + i * 8) := by
  rcases open_slice Tryd.underlying22 hf with ⟨hcs, hx⟩ | ⟨a', len, cap, m, n, D, Pl, hcs, _, hl, hm, hmm, hx, hi⟩
  · have e : Value.slice a l c = .slice none 0 0 := by simpa [Value.cells] using hcs
    simp only [Value.slice.injEq] at e
    obtain ⟨_, rfl, _⟩ := e
    exact ⟨by omega, fun i h => absurd h (Nat.not_lt_zero i)⟩
  · have e : Value.slice a l c = .slice (some a') len cap := by simpa [Value.cells] using hcs
    simp only [Value.slice.injEq] at e
    obtain ⟨rfl, rfl, rfl⟩ := e
    simp only [Prod.mk.injEq] at hx
    rw [if_pos rfl] at hmm
    have hreach : reachBytes = 140737488351232 := by decide
    have hlen := sized_len hsz ht (by rw [hd, hx.1]) Tryd.underlying22
    rw [vopBytes, hreach, List.length_map, List.length_range] at hlen
    refine ⟨by omega, fun i h => ?_⟩
    have step : ∀ i, i < l → ∃ (K : Int) (v u : Val.V) (s : ByteArray), (∀ j, W.cell? ((a'.add (i * 8)).add j) = [Value.int .i64 K, .int .i64 v.k, .int .i64 v.n, .string v.t, .int .i64 u.k, .int .i64 u.n, .string u.t, .string s][j]? ∨ 8 ≤ j) ∧ VB v ∧ VB u ∧ s.size ≤ 140737488351232 := by
      intro i h
      obtain ⟨cs, hc, htr⟩ := hi i (by omega)
      obtain ⟨ys, k, hD, hlen8, hy⟩ := struct_open Tryd.underlying28 htr
      rw [vopCells] at hlen8 hc
      obtain ⟨_, _, hat⟩ := World.cells?_some hc
      obtain ⟨c0, c1, c2, c3, c4, c5, c6, c7, rfl⟩ := list8 hlen8
      obtain ⟨y0, e0, t0⟩ := hy 0 _ rfl _ _ _ rfl rfl cells1_int
      obtain ⟨y1, e1, t1⟩ := hy 1 _ rfl _ _ _ rfl rfl valCells
      obtain ⟨y2, e2, t2⟩ := hy 2 _ rfl _ _ _ rfl rfl valCells
      obtain ⟨y3, e3, t3⟩ := hy 3 _ rfl _ _ _ rfl rfl cells1_string
      obtain ⟨K, hK, _, _⟩ := DataW.trod_int Tryd.underlying3 t0
      obtain ⟨s, hS, ys3, _⟩ := DataW.trod_string Tryd.underlying9 t3
      obtain ⟨vk, vn, vt, pv, rfl, rfl, rfl, wv, ev, gv⟩ := val_open (c0 := c1) (c1 := c2) (c2 := c3) t1
      obtain ⟨uk, un, ut, pu, rfl, rfl, rfl, wu, eu, gu⟩ := val_open (c0 := c4) (c1 := c5) (c2 := c6) t2
      have hK' : [c0] = _ := hK
      have hS' : [c7] = _ := hS
      simp only [List.cons.injEq, and_true] at hK' hS'
      subst hK' hS'
      have bv := bounds_i64 wv
      have bu := bounds_i64 wu
      have hm' : D i ∈ (List.range l).map D := List.mem_map.2 ⟨i, by simpa using h, rfl⟩
      have Z : ∀ {n : Nat}, n ∈ (D i).weights Tryd.prog 28 → n ≤ 140737488351232 := fun hn => by
        have := sized_in hsz ht (by rw [hd, hx.1]) Tryd.underlying22 hm' hn
        rw [hreach] at this
        exact this
      have zs : s.size ≤ 140737488351232 := by
        rw [Lib.size_eq]
        exact Z (weights_field Tryd.underlying28 hD (i := 3) (T := 9) rfl (by rw [List.getElem?_map, e3]; rfl) (weights_str (by rw [ys3])))
      have zv : vt.size ≤ 140737488351232 := by
        rw [Lib.size_eq]
        exact Z (weights_field Tryd.underlying28 hD (i := 1) (T := 26) rfl (by rw [List.getElem?_map, e1]; rfl) (weights_field Tryd.underlying26 ev (i := 2) (T := 9) rfl gv (weights_str rfl)))
      have zu : ut.size ≤ 140737488351232 := by
        rw [Lib.size_eq]
        exact Z (weights_field Tryd.underlying28 hD (i := 2) (T := 26) rfl (by rw [List.getElem?_map, e2]; rfl) (weights_field Tryd.underlying26 eu (i := 2) (T := 9) rfl gu (weights_str rfl)))
      refine ⟨K, ⟨vk, vn, vt⟩, ⟨uk, un, ut⟩, s, fun j => ?_, ⟨bv.1, bv.2, zv⟩, ⟨bu.1, bu.2, zu⟩, zs⟩
      by_cases hj : j < 8
      · exact .inl ((hat j hj).trans (by simp))
      · exact .inr (by omega)
    obtain ⟨b, o, sp⟩ := a'
    have hsp : sp = none := by
      obtain ⟨K, v, u, s, hc, _⟩ := step 0 (by omega)
      have g := (hc 0).resolve_right (by omega)
      simpa [Addr.add] using World.cell?_spot g
    subst hsp
    obtain ⟨K, v, u, s, hc, hv, hu, hs⟩ := step i h
    have g : ∀ j, j < 8 → W.cell? ⟨b, o + i * 8 + j, none⟩ = [Value.int .i64 K, .int .i64 v.k, .int .i64 v.n, .string v.t, .int .i64 u.k, .int .i64 u.n, .string u.t, .string s][j]? := fun j hj => by
      have := (hc j).resolve_right (by omega)
      rwa [add_spot] at this
    exact ⟨b, o, rfl, World.block_lt_of_cell? W _ (g 0 (by omega)), K, v, u, s, ⟨g 0 (by omega), g 1 (by omega), g 2 (by omega), g 3 (by omega), g 4 (by omega), g 5 (by omega), g 6 (by omega), g 7 (by omega)⟩, hv, hu, hs⟩
end Go.Proofs.YtdbjmjeiaajdiaaDoor
