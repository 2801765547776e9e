/- A script of calls on texts that came in: what stands in it, and how long it and its texts may be. -/
import Derived.Test.YtdbjmjeiaajdiaaDoorFrameT
import Derived.Test.YtdbjmjeiaajdiaaDoorRunW
import Derived.Test.YtdbjmjeiaajdiaaDoorShCut
import Derived.Test.YtdbjmjeiaajdiaaDoorR5L
namespace Go.Proofs.YtdbjmjeiaajdiaaDoor
open Go.ChangeShapes Go.WideShapes Go.ChangeAt Go.RowKit Go.Deep
theorem laidOutSeat : laidOutB Tryd.prog = true := by kernel_rfl
theorem sopCells : Tryd.prog.cellsOf 39 = 6 := by kernel_rfl
theorem sopBytes : Tryd.prog.bytesOf 39 = 72 := by kernel_rfl
theorem cells1_int : Tryd.prog.cellsOf 3 = 1 := by kernel_rfl
theorem cells1_int64 : Tryd.prog.cellsOf 2 = 1 := by kernel_rfl
theorem cells1_string : Tryd.prog.cellsOf 9 = 1 := by kernel_rfl
theorem runW_of {W : World} (hL : laidMetH Tryd.prog runLaid W) (hSh : W.ShapedOpen Tryd.prog) : RunW W := by
  obtain ⟨m, hm⟩ := Tryd.laysM145.s1_3 W hSh
  exact ⟨tabs_of_laid hL, ⟨m, hm⟩, World.block_lt_of_cell? W _ hm⟩
theorem sops_of_trod {H : Type} {enc : TypeId × Value → H} {W : World} {a : Option Addr} {l c fuel : Nat} {d : DataW H} {p : List MemPlace} {ts : List TypeId} {ds : List (DataW H)}
    (hf : DataW.trod enc Tryd.prog W 0 (fun _ => true) true fuel 36 (Value.slice a l c).cells.toList = some (d, p))
    (hsz : (DataW.weightsEach Tryd.prog ts ds).all (· ≤ reachBytes) = true) (ht : ts[0]? = some 36) (hd : ds[0]? = some d) :
    l ≤ 140737488351232 ∧ ∀ i, i < l → ∃ b o, a = some ⟨b, o, none⟩ ∧ b < W.heap.size ∧ SOpAt W b (o + i * 6) := by
  rcases open_slice Tryd.underlying36 hf with ⟨hcs, hx⟩ | ⟨a', len, cap, m, n, D, Pl, hcs, _, hl, hm, hmm, hx, hi⟩
  · have e : Value.slice a l c = .slice none 0 0 := by simpa [Value.cells] using hcs
    simp only [Value.slice.injEq] at e
    obtain ⟨_, rfl, _⟩ := e
    exact ⟨by omega, fun i h => absurd h (Nat.not_lt_zero i)⟩
  · have e : Value.slice a l c = .slice (some a') len cap := by simpa [Value.cells] using hcs
    simp only [Value.slice.injEq] at e
    obtain ⟨rfl, rfl, rfl⟩ := e
    simp only [Prod.mk.injEq] at hx
    rw [if_pos rfl] at hmm
    have hreach : reachBytes = 140737488351232 := by decide
    have hlen := sized_len hsz ht (by rw [hd, hx.1]) Tryd.underlying36
    rw [sopBytes, hreach, List.length_map, List.length_range] at hlen
    refine ⟨by omega, fun i h => ?_⟩
    have step : ∀ i, i < l → ∃ (K n m : Int) (s t u : ByteArray), (∀ j, W.cell? ((a'.add (i * 6)).add j) = [Value.int .i64 K, .string s, .string t, .string u, .int .i64 n, .int .i64 m][j]? ∨ 6 ≤ j) ∧ s.size ≤ 140737488351232 ∧ t.size ≤ 140737488351232 ∧ u.size ≤ 140737488351232 ∧ -9223372036854775808 ≤ n ∧ n ≤ 9223372036854775807 ∧ -9223372036854775808 ≤ m ∧ m ≤ 9223372036854775807 := by
      intro i h
      obtain ⟨cs, hc, htr⟩ := hi i (by omega)
      obtain ⟨ys, k, hD, hlen6, hy⟩ := struct_open Tryd.underlying39 htr
      rw [sopCells] at hlen6 hc
      obtain ⟨_, _, hat⟩ := World.cells?_some hc
      obtain ⟨c0, c1, c2, c3, c4, c5, rfl⟩ := list6 hlen6
      obtain ⟨y0, e0, t0⟩ := hy 0 _ rfl _ _ _ rfl rfl cells1_int
      obtain ⟨y1, e1, t1⟩ := hy 1 _ rfl _ _ _ rfl rfl cells1_string
      obtain ⟨y2, e2, t2⟩ := hy 2 _ rfl _ _ _ rfl rfl cells1_string
      obtain ⟨y3, e3, t3⟩ := hy 3 _ rfl _ _ _ rfl rfl cells1_string
      obtain ⟨y4, e4, t4⟩ := hy 4 _ rfl _ _ _ rfl rfl cells1_int64
      obtain ⟨y5, e5, t5⟩ := hy 5 _ rfl _ _ _ rfl rfl cells1_int64
      obtain ⟨K, hK, _, _⟩ := DataW.trod_int Tryd.underlying3 t0
      obtain ⟨s, hS, ys1, _⟩ := DataW.trod_string Tryd.underlying9 t1
      obtain ⟨t, hT, ys2, _⟩ := DataW.trod_string Tryd.underlying9 t2
      obtain ⟨u, hU, ys3, _⟩ := DataW.trod_string Tryd.underlying9 t3
      obtain ⟨n, hn, _, wn⟩ := DataW.trod_int Tryd.underlying2 t4
      obtain ⟨m, hm', _, wm⟩ := DataW.trod_int Tryd.underlying2 t5
      have hK' : [c0] = _ := hK
      have hS' : [c1] = _ := hS
      have hT' : [c2] = _ := hT
      have hU' : [c3] = _ := hU
      have hn' : [c4] = _ := hn
      have hm'' : [c5] = _ := hm'
      simp only [List.cons.injEq, and_true] at hK' hS' hT' hU' hn' hm''
      subst hK' hS' hT' hU' hn' hm''
      have bn := bounds_i64 wn
      have bm := bounds_i64 wm
      have hmem : D i ∈ (List.range l).map D := List.mem_map.2 ⟨i, by simpa using h, rfl⟩
      have Z : ∀ {n : Nat}, n ∈ (D i).weights Tryd.prog 39 → n ≤ 140737488351232 := fun hn => by
        have := sized_in hsz ht (by rw [hd, hx.1]) Tryd.underlying36 hmem hn
        rw [hreach] at this
        exact this
      have z1 : s.size ≤ 140737488351232 := by
        rw [Lib.size_eq]
        exact Z (weights_field Tryd.underlying39 hD (i := 1) (T := 9) rfl (by rw [List.getElem?_map, e1]; rfl) (weights_str (by rw [ys1])))
      have z2 : t.size ≤ 140737488351232 := by
        rw [Lib.size_eq]
        exact Z (weights_field Tryd.underlying39 hD (i := 2) (T := 9) rfl (by rw [List.getElem?_map, e2]; rfl) (weights_str (by rw [ys2])))
      have z3 : u.size ≤ 140737488351232 := by
        rw [Lib.size_eq]
        exact Z (weights_field Tryd.underlying39 hD (i := 3) (T := 9) rfl (by rw [List.getElem?_map, e3]; rfl) (weights_str (by rw [ys3])))
      refine ⟨K, n, m, s, t, u, fun j => ?_, z1, z2, z3, bn.1, bn.2, bm.1, bm.2⟩
      by_cases hj : j < 6
      · exact .inl ((hat j hj).trans (by simp))
      · exact .inr (by omega)
    obtain ⟨b, o, sp⟩ := a'
    have hsp : sp = none := by
      obtain ⟨K, n, m, s, t, u, hc, _⟩ := step 0 (by omega)
      have g := (hc 0).resolve_right (by omega)
      simpa [Addr.add] using World.cell?_spot g
    subst hsp
    obtain ⟨K, n, m, s, t, u, hc, hs⟩ := step i h
    have g : ∀ j, j < 6 → W.cell? ⟨b, o + i * 6 + j, none⟩ = [Value.int .i64 K, .string s, .string t, .string u, .int .i64 n, .int .i64 m][j]? := fun j hj => by
      have := (hc j).resolve_right (by omega)
      rwa [add_spot] at this
    exact ⟨b, o, rfl, World.block_lt_of_cell? W _ (g 0 (by omega)), K, n, m, s, t, u, ⟨g 0 (by omega), g 1 (by omega), g 2 (by omega), g 3 (by omega), g 4 (by omega), g 5 (by omega)⟩, hs⟩
end Go.Proofs.YtdbjmjeiaajdiaaDoor
