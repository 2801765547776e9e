import Derived.Test.YtpiiemneelkpkaaGreatDoorFrameT
import Derived.Test.YtpiiemneelkpkaaGreatDoorGcp
namespace Go.Proofs.YtpiiemneelkpkaaGreatDoor
open Go.ChangeShapes Go.WideShapes Go.ChangeAt Go.RowKit Go.Deep
theorem laidOutSeat : laidOutB Tryz.prog = true := by kernel_rfl
theorem cells1_int : Tryz.prog.cellsOf 3 = 1 := by kernel_rfl
theorem cells1_int64 : Tryz.prog.cellsOf 2 = 1 := by kernel_rfl
theorem cells1_string : Tryz.prog.cellsOf 9 = 1 := by kernel_rfl
section
variable {H : Type} {enc : TypeId × Value → H}
theorem val_open {w : World} {base : Nat} {spare : Nat → Bool} {held : Bool} {n : Nat} {c0 c1 c2 : Value} {D : DataW H × List MemPlace} (ht : DataW.trod enc Tryz.prog w base spare held n 26 [c0, c1, c2] = some D) :
  ∃ (k m : Int) (t : ByteArray) (parts : List (DataW H)), c0 = .int .i64 k ∧ c1 = .int .i64 m ∧ c2 = .string t ∧ (Lit.int .i64 m).wf = true ∧ D.1 = .agg parts ∧ parts[2]? = some (.lit (.string t.data.toList)) := by
 obtain ⟨ys, m', hD, _, hy⟩ := struct_open Tryz.underlying26 ht
 obtain ⟨y0, e0, t0⟩ := hy 0 _ rfl _ _ _ rfl rfl cells1_int
 obtain ⟨y1, e1, t1⟩ := hy 1 _ rfl _ _ _ rfl rfl cells1_int64
 obtain ⟨y2, e2, t2⟩ := hy 2 _ rfl _ _ _ rfl rfl cells1_string
 obtain ⟨k, hK, _, _⟩ := DataW.trod_int Tryz.underlying3 t0
 obtain ⟨x, hX, _, wx⟩ := DataW.trod_int Tryz.underlying2 t1
 obtain ⟨s, hS, ys2, _⟩ := DataW.trod_string Tryz.underlying9 t2
 have hK' : [c0] = _ := hK
 have hX' : [c1] = _ := hX
 have hS' : [c2] = _ := hS
 simp only [List.cons.injEq, and_true] at hK' hX' hS'
 exact ⟨k, x, s, _, hK', hX', hS', wx, hD, by rw [List.getElem?_map, e2, ys2]; rfl⟩
theorem list3 {α : Type} {cs : List α} (h : cs.length = 3) : ∃ c0 c1 c2, cs = [c0, c1, c2] := by
 match cs, h with
 | [a, b, c], _ => exact ⟨a, b, c, rfl⟩
end
end Go.Proofs.YtpiiemneelkpkaaGreatDoor
