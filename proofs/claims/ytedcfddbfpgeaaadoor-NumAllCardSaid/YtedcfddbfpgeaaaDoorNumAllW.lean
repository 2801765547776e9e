/- A script of calls that came in: what stands in it, and how long it and its texts may be. -/
import Derived.Test.YtedcfddbfpgeaaaDoorFrameS
import Derived.Test.YtedcfddbfpgeaaaDoorNumAllQ
namespace Go.Proofs.YtedcfddbfpgeaaaDoor
open Go.ChangeShapes Go.WideShapes Go.ChangeAt Go.RowKit Go.Deep
theorem laidOutSeat : laidOutB Tryd.prog = true := by kernel_rfl
theorem opCells : Tryd.prog.cellsOf 59 = 4 := by kernel_rfl
theorem opBytes : Tryd.prog.bytesOf 59 = 40 := by kernel_rfl
theorem ops_of_trod {H : Type} {enc : TypeId × Value → H} {W : World} {a : Option Addr} {l c fuel : Nat} {d : DataW H} {p : List MemPlace} {ts : List TypeId} {ds : List (DataW H)}
    (hf : DataW.trod enc Tryd.prog W 0 (fun _ => true) true fuel 56 (Value.slice a l c).cells.toList = some (d, p))
    (hsz : (DataW.weightsEach Tryd.prog ts ds).all (· ≤ reachBytes) = true) (ht : ts[0]? = some 56) (hd : ds[0]? = some d) :
    l ≤ 140737488351232 ∧ ∀ i, i < l → ∃ b o, a = some ⟨b, o, none⟩ ∧ b < W.heap.size ∧ OpAt W b (o + i * 4) := by
  rcases open_slice Tryd.underlying56 hf with ⟨hcs, hx⟩ | ⟨a', len, cap, m, n, D, Pl, hcs, _, hl, hm, hmm, hx, hi⟩
  · have e : Value.slice a l c = .slice none 0 0 := by simpa [Value.cells] using hcs
    simp only [Value.slice.injEq] at e
    obtain ⟨_, rfl, _⟩ := e
    exact ⟨by omega, fun i h => absurd h (Nat.not_lt_zero i)⟩
  · have e : Value.slice a l c = .slice (some a') len cap := by simpa [Value.cells] using hcs
    simp only [Value.slice.injEq] at e
    obtain ⟨rfl, rfl, rfl⟩ := e
    simp only [Prod.mk.injEq] at hx
    rw [if_pos rfl] at hmm
    have hreach : reachBytes = 140737488351232 := by decide
    have hlen := sized_len hsz ht (by rw [hd, hx.1]) Tryd.underlying56
    rw [opBytes, hreach, List.length_map, List.length_range] at hlen
    refine ⟨by omega, fun i h => ?_⟩
    obtain ⟨cs, hc, htr⟩ := hi i (by omega)
    obtain ⟨ys, k, hD, hy⟩ := struct_cells Tryd.underlying59 (by kernel_rfl) (by kernel_rfl) hc htr
    obtain ⟨v0, y0, g0, e0, t0⟩ := hy 0 _ rfl
    obtain ⟨v1, y1, g1, e1, t1⟩ := hy 1 _ rfl
    obtain ⟨v2, y2, g2, e2, t2⟩ := hy 2 _ rfl
    obtain ⟨v3, y3, g3, e3, t3⟩ := hy 3 _ rfl
    obtain ⟨K, hK, _, _⟩ := DataW.trod_int Tryd.underlying3 t0
    obtain ⟨x, hX, _, wx⟩ := DataW.trod_int Tryd.underlying2 t1
    obtain ⟨y, hY, _, wy⟩ := DataW.trod_int Tryd.underlying2 t2
    obtain ⟨s, hS, ys3, _⟩ := DataW.trod_string Tryd.underlying9 t3
    simp only [List.cons.injEq, and_true] at hK hX hY hS
    subst hK hX hY hS
    rw [opCells] at g0 g1 g2 g3
    obtain ⟨b, o, sp⟩ := a'
    have hsp : sp = none := by
      have := World.cell?_spot g0
      by_cases h0 : i * 4 = 0
      · simpa [Addr.add, h0] using this
      · by_cases hi0 : i = 0
        · subst hi0; simp at h0
        · have g := (hi 0 (by omega))
          obtain ⟨cs', hc', htr'⟩ := g
          obtain ⟨_, _, _, hy'⟩ := struct_cells Tryd.underlying59 (by kernel_rfl) (by kernel_rfl) hc' htr'
          obtain ⟨_, _, g', _, _⟩ := hy' 0 _ rfl
          simpa [Addr.add] using World.cell?_spot g'
    subst hsp
    have ad : ∀ j, ((⟨b, o, none⟩ : Addr).add (i * 4)).add j = ⟨b, o + i * 4 + j, none⟩ := fun j => by
      unfold Addr.add
      by_cases h1 : i * 4 = 0
      · by_cases h2 : j = 0 <;> simp [h1, h2]
      · by_cases h2 : j = 0 <;> simp [h1, h2]
    rw [ad] at g0 g1 g2 g3
    have bx := bounds_i64 wx
    have by' := bounds_i64 wy
    have hs := sized_elem hsz ht (by rw [hd, hx.1]) Tryd.underlying56 Tryd.underlying59 (parts := ys.map (·.1)) (by rw [← hD]; exact List.mem_map.2 ⟨i, by simpa using h, rfl⟩) (i := 3) (T := 9) (bytes := s.data.toList) rfl (by rw [List.getElem?_map, e3, ys3]; rfl)
    exact ⟨b, o, rfl, World.block_lt_of_cell? W _ g0, K, x, y, s, ⟨g0, g1, g2, g3⟩, bx.1, bx.2, by'.1, by'.2, by rw [Lib.size_eq]; rw [hreach] at hs; exact hs⟩
end Go.Proofs.YtedcfddbfpgeaaaDoor
