import Derived.Below
import Derived.Laws.IdiomRangeMap
import Derived.Lib.Builder
import Derived.WalkKit
import Derived.Test.YtpiiemneelkpkaaGreatDoorProg
namespace Go.Proofs.YtpiiemneelkpkaaGreatDoor
open Go.RowKit
set_option linter.unusedVariables false
theorem blk {w w' : World} {i : Nat} {o : Obj} (hb : Below w.heap.size w w') (k : w.heap[i]? = some o) : w'.heap[i]? = some o := (hb.block _ (Array.getElem?_eq_some_iff.1 k).1).trans k
theorem box1 (w : World) (a : Array Value) (t : TypeId) : Below w.heap.size w (w.alloc (.cells a t)) ∧ (w.alloc (.cells a t)).heap[w.heap.size]? = some (.cells a t (0, 0)) :=
  ⟨(Below.refl _ _).alloc (Nat.le_refl _) _, heap_alloc_new _ _⟩
theorem box2 (w : World) (a : Array Value) (t : TypeId) (b : Array Value) (u : TypeId) : Below w.heap.size w ((w.alloc (.cells a t)).alloc (.cells b u)) ∧
    ((w.alloc (.cells a t)).alloc (.cells b u)).heap[w.heap.size]? = some (.cells a t (0, 0)) ∧ ((w.alloc (.cells a t)).alloc (.cells b u)).heap[(w.heap.size + 1)]? = some (.cells b u (0, 0)) := by
  obtain ⟨h1, h2⟩ := box1 w a t
  refine ⟨h1.alloc h1.size _, (heap_alloc_old _ _ (by simp)).trans h2, ?_⟩
  rw [show w.heap.size + 1 = (w.alloc (.cells a t)).heap.size by simp]
  exact heap_alloc_new _ _
theorem box3 (w : World) (a : Array Value) (t : TypeId) (b : Array Value) (u : TypeId) (c : Array Value) (v : TypeId) : Below w.heap.size w (((w.alloc (.cells a t)).alloc (.cells b u)).alloc (.cells c v)) ∧
    (((w.alloc (.cells a t)).alloc (.cells b u)).alloc (.cells c v)).heap[w.heap.size]? = some (.cells a t (0, 0)) ∧ (((w.alloc (.cells a t)).alloc (.cells b u)).alloc (.cells c v)).heap[(w.heap.size + 1)]? = some (.cells b u (0, 0)) ∧
    (((w.alloc (.cells a t)).alloc (.cells b u)).alloc (.cells c v)).heap[(w.heap.size + 1 + 1)]? = some (.cells c v (0, 0)) := by
  obtain ⟨h1, h2, h3⟩ := box2 w a t b u
  refine ⟨h1.alloc h1.size _, (heap_alloc_old _ _ (by simp; omega)).trans h2, (heap_alloc_old _ _ (by simp)).trans h3, ?_⟩
  rw [show w.heap.size + 1 + 1 = ((w.alloc (.cells a t)).alloc (.cells b u)).heap.size by simp]
  exact heap_alloc_new _ _
theorem set3 {s B i j k : Nat} {a W : World} (hb : Below s a W) (h : s ≤ B) {x y z : Value} : Below s a (((W.setCell ⟨B, i, none⟩ x).setCell ⟨B, j, none⟩ y).setCell ⟨B, k, none⟩ z) :=
  ((hb.setCell (p := ⟨B, i, none⟩) h _).setCell (p := ⟨B, j, none⟩) h _).setCell (p := ⟨B, k, none⟩) h _

abbrev Ret (f : FuncId) (a : Array Value) (w : World) (v : Value) : Prop := Calls Tryz.prog f a w fun e w' => e = .returned v ∧ Below w.heap.size w w'
section
variable {P : Program} {f : FuncId} {a : Array Value} {s i j k : Nat} {w W : World} {v : Value} {x y z : Obj}
theorem go0 (H : Calls P f a W fun e w' => e = .returned v ∧ Below W.heap.size W w') (hb : Below w.heap.size w W) :
    Calls P f a W fun e w' => e = .returned v ∧ Below w.heap.size w w' := H.mono fun e w' h => ⟨h.1, hb.trans (h.2.mono hb.size)⟩
theorem go1 (H : Calls P f a W fun e w' => e = .returned v ∧ Below W.heap.size W w') (hb : Below w.heap.size w W) (k0 : W.heap[i]? = some x) :
    Calls P f a W fun e w' => e = .returned v ∧ Below w.heap.size w w' ∧ w'.heap[i]? = some x := H.mono fun e w' h => ⟨h.1, hb.trans (h.2.mono hb.size), blk h.2 k0⟩
theorem go2 (H : Calls P f a W fun e w' => e = .returned v ∧ Below W.heap.size W w') (hb : Below w.heap.size w W) (k0 : W.heap[i]? = some x) (k1 : W.heap[j]? = some y) :
    Calls P f a W fun e w' => e = .returned v ∧ Below w.heap.size w w' ∧ w'.heap[i]? = some x ∧ w'.heap[j]? = some y := H.mono fun e w' h => ⟨h.1, hb.trans (h.2.mono hb.size), blk h.2 k0, blk h.2 k1⟩
theorem go3 (H : Calls P f a W fun e w' => e = .returned v ∧ Below W.heap.size W w') (hb : Below w.heap.size w W) (k0 : W.heap[i]? = some x) (k1 : W.heap[j]? = some y) (k2 : W.heap[k]? = some z) :
    Calls P f a W fun e w' => e = .returned v ∧ Below w.heap.size w w' ∧ w'.heap[i]? = some x ∧ w'.heap[j]? = some y ∧ w'.heap[k]? = some z := H.mono fun e w' h => ⟨h.1, hb.trans (h.2.mono hb.size), blk h.2 k0, blk h.2 k1, blk h.2 k2⟩
end
theorem ch {w : World} {b : Nat} {cs : Array Value} {T : TypeId} {fr : Nat × Nat} (hb : w.heap[b]? = some (.cells cs T fr)) (j : Nat) : w.cell? ⟨b, j, none⟩ = cs[j]? := Lib.cell_of_heap hb j
end Go.Proofs.YtpiiemneelkpkaaGreatDoor
