import Derived.Test.YtpiiemneelkpkaaGreatDoorCalRb
import Derived.Deep.CutBlock
set_option maxRecDepth 100000
namespace Go.Proofs.YtpiiemneelkpkaaGreatDoor
open Go.RowKit
set_option linter.unusedVariables false
set_option linter.unusedSimpArgs false
theorem looks_1 (w : World) : Calls Tryz.prog 84 #[.int .i64 1] w fun e w' => e = .returned (.string ⟨#[110]⟩) ∧ w = w' := by
 go_enter Tryz.func84, Tryz.ntmps84
 go_wp2
 go_ret
 exact ⟨rfl, rfl⟩
theorem looks_2 (w : World) : Calls Tryz.prog 84 #[.int .i64 2] w fun e w' => e = .returned (.string ⟨#[110]⟩) ∧ w = w' := by
 go_enter Tryz.func84, Tryz.ntmps84
 go_wp2
 go_ret
 exact ⟨rfl, rfl⟩
theorem looks_3 (w : World) : Calls Tryz.prog 84 #[.int .i64 3] w fun e w' => e = .returned (.string ⟨#[110, 110]⟩) ∧ w = w' := by
 go_enter Tryz.func84, Tryz.ntmps84
 go_wp2
 go_ret
 exact ⟨rfl, rfl⟩
theorem looks_4 (w : World) : Calls Tryz.prog 84 #[.int .i64 4] w fun e w' => e = .returned (.string ⟨#[110, 110]⟩) ∧ w = w' := by
 go_enter Tryz.func84, Tryz.ntmps84
 go_wp2
 go_ret
 exact ⟨rfl, rfl⟩
theorem looks_5 (w : World) : Calls Tryz.prog 84 #[.int .i64 5] w fun e w' => e = .returned (.string ⟨#[110, 110]⟩) ∧ w = w' := by
 go_enter Tryz.func84, Tryz.ntmps84
 go_wp2
 go_ret
 exact ⟨rfl, rfl⟩
theorem looks_6 (w : World) : Calls Tryz.prog 84 #[.int .i64 6] w fun e w' => e = .returned (.string ⟨#[110, 110]⟩) ∧ w = w' := by
 go_enter Tryz.func84, Tryz.ntmps84
 go_wp2
 go_ret
 exact ⟨rfl, rfl⟩
theorem looks_7 (w : World) : Calls Tryz.prog 84 #[.int .i64 7] w fun e w' => e = .returned (.string ⟨#[110, 110]⟩) ∧ w = w' := by
 go_enter Tryz.func84, Tryz.ntmps84
 go_wp2
 go_ret
 exact ⟨rfl, rfl⟩
theorem looks_8 (w : World) : Calls Tryz.prog 84 #[.int .i64 8] w fun e w' => e = .returned (.string ⟨#[110]⟩) ∧ w = w' := by
 go_enter Tryz.func84, Tryz.ntmps84
 go_wp2
 go_ret
 exact ⟨rfl, rfl⟩
theorem looks_9 (w : World) : Calls Tryz.prog 84 #[.int .i64 9] w fun e w' => e = .returned (.string ⟨#[110]⟩) ∧ w = w' := by
 go_enter Tryz.func84, Tryz.ntmps84
 go_wp2
 go_ret
 exact ⟨rfl, rfl⟩
theorem looks_10 (w : World) : Calls Tryz.prog 84 #[.int .i64 10] w fun e w' => e = .returned (.string ⟨#[110]⟩) ∧ w = w' := by
 go_enter Tryz.func84, Tryz.ntmps84
 go_wp2
 go_ret
 exact ⟨rfl, rfl⟩
theorem looks_11 (w : World) : Calls Tryz.prog 84 #[.int .i64 11] w fun e w' => e = .returned (.string ⟨#[110, 110]⟩) ∧ w = w' := by
 go_enter Tryz.func84, Tryz.ntmps84
 go_wp2
 go_ret
 exact ⟨rfl, rfl⟩
theorem looks_12 (w : World) : Calls Tryz.prog 84 #[.int .i64 12] w fun e w' => e = .returned (.string ⟨#[110, 110]⟩) ∧ w = w' := by
 go_enter Tryz.func84, Tryz.ntmps84
 go_wp2
 go_ret
 exact ⟨rfl, rfl⟩
theorem looks_13 (w : World) : Calls Tryz.prog 84 #[.int .i64 13] w fun e w' => e = .returned (.string ⟨#[110, 110]⟩) ∧ w = w' := by
 go_enter Tryz.func84, Tryz.ntmps84
 go_wp2
 go_ret
 exact ⟨rfl, rfl⟩
theorem looks_14 (w : World) : Calls Tryz.prog 84 #[.int .i64 14] w fun e w' => e = .returned (.string ⟨#[98]⟩) ∧ w = w' := by
 go_enter Tryz.func84, Tryz.ntmps84
 go_wp2
 go_ret
 exact ⟨rfl, rfl⟩
theorem looks_15 (w : World) : Calls Tryz.prog 84 #[.int .i64 15] w fun e w' => e = .returned (.string ⟨#[110, 110, 110]⟩) ∧ w = w' := by
 go_enter Tryz.func84, Tryz.ntmps84
 go_wp2
 go_ret
 exact ⟨rfl, rfl⟩
theorem looks_16 (w : World) : Calls Tryz.prog 84 #[.int .i64 16] w fun e w' => e = .returned (.string ⟨#[116]⟩) ∧ w = w' := by
 go_enter Tryz.func84, Tryz.ntmps84
 go_wp2
 go_ret
 exact ⟨rfl, rfl⟩
theorem looks_17 (w : World) : Calls Tryz.prog 84 #[.int .i64 17] w fun e w' => e = .returned (.string ⟨#[116, 110]⟩) ∧ w = w' := by
 go_enter Tryz.func84, Tryz.ntmps84
 go_wp2
 go_ret
 exact ⟨rfl, rfl⟩
theorem looks_18 (w : World) : Calls Tryz.prog 84 #[.int .i64 18] w fun e w' => e = .returned (.string ⟨#[116, 110]⟩) ∧ w = w' := by
 go_enter Tryz.func84, Tryz.ntmps84
 go_wp2
 go_ret
 exact ⟨rfl, rfl⟩
theorem looks_19 (w : World) : Calls Tryz.prog 84 #[.int .i64 19] w fun e w' => e = .returned (.string ⟨#[116, 110, 110]⟩) ∧ w = w' := by
 go_enter Tryz.func84, Tryz.ntmps84
 go_wp2
 go_ret
 exact ⟨rfl, rfl⟩
theorem looks_20 (w : World) : Calls Tryz.prog 84 #[.int .i64 20] w fun e w' => e = .returned (.string ⟨#[116]⟩) ∧ w = w' := by
 go_enter Tryz.func84, Tryz.ntmps84
 go_wp2
 go_ret
 exact ⟨rfl, rfl⟩
theorem looks_21 (w : World) : Calls Tryz.prog 84 #[.int .i64 21] w fun e w' => e = .returned (.string ⟨#[116]⟩) ∧ w = w' := by
 go_enter Tryz.func84, Tryz.ntmps84
 go_wp2
 go_ret
 exact ⟨rfl, rfl⟩
theorem looks_22 (w : World) : Calls Tryz.prog 84 #[.int .i64 22] w fun e w' => e = .returned (.string ⟨#[116]⟩) ∧ w = w' := by
 go_enter Tryz.func84, Tryz.ntmps84
 go_wp2
 go_ret
 exact ⟨rfl, rfl⟩
theorem looks_23 (w : World) : Calls Tryz.prog 84 #[.int .i64 23] w fun e w' => e = .returned (.string ⟨#[116]⟩) ∧ w = w' := by
 go_enter Tryz.func84, Tryz.ntmps84
 go_wp2
 go_ret
 exact ⟨rfl, rfl⟩
theorem looks_24 (w : World) : Calls Tryz.prog 84 #[.int .i64 24] w fun e w' => e = .returned (.string ⟨#[116, 116, 110]⟩) ∧ w = w' := by
 go_enter Tryz.func84, Tryz.ntmps84
 go_wp2
 go_ret
 exact ⟨rfl, rfl⟩
theorem looks_25 (w : World) : Calls Tryz.prog 84 #[.int .i64 25] w fun e w' => e = .returned (.string ⟨#[116, 116, 116]⟩) ∧ w = w' := by
 go_enter Tryz.func84, Tryz.ntmps84
 go_wp2
 go_ret
 exact ⟨rfl, rfl⟩
theorem looks_26 (w : World) : Calls Tryz.prog 84 #[.int .i64 26] w fun e w' => e = .returned (.string ⟨#[116, 110, 110, 116]⟩) ∧ w = w' := by
 go_enter Tryz.func84, Tryz.ntmps84
 go_wp2
 go_ret
 exact ⟨rfl, rfl⟩
theorem looks_27 (w : World) : Calls Tryz.prog 84 #[.int .i64 27] w fun e w' => e = .returned (.string ⟨#[116, 110]⟩) ∧ w = w' := by
 go_enter Tryz.func84, Tryz.ntmps84
 go_wp2
 go_ret
 exact ⟨rfl, rfl⟩
theorem looks_28 (w : World) : Calls Tryz.prog 84 #[.int .i64 28] w fun e w' => e = .returned (.string ⟨#[116, 116]⟩) ∧ w = w' := by
 go_enter Tryz.func84, Tryz.ntmps84
 go_wp2
 go_ret
 exact ⟨rfl, rfl⟩
theorem looks_29 (w : World) : Calls Tryz.prog 84 #[.int .i64 29] w fun e w' => e = .returned (.string ⟨#[116]⟩) ∧ w = w' := by
 go_enter Tryz.func84, Tryz.ntmps84
 go_wp2
 go_ret
 exact ⟨rfl, rfl⟩
theorem looks_30 (w : World) : Calls Tryz.prog 84 #[.int .i64 30] w fun e w' => e = .returned (.string ⟨#[110]⟩) ∧ w = w' := by
 go_enter Tryz.func84, Tryz.ntmps84
 go_wp2
 go_ret
 exact ⟨rfl, rfl⟩
theorem looks_31 (w : World) : Calls Tryz.prog 84 #[.int .i64 31] w fun e w' => e = .returned (.string ⟨#[110]⟩) ∧ w = w' := by
 go_enter Tryz.func84, Tryz.ntmps84
 go_wp2
 go_ret
 exact ⟨rfl, rfl⟩
theorem looks_32 (w : World) : Calls Tryz.prog 84 #[.int .i64 32] w fun e w' => e = .returned (.string ⟨#[116]⟩) ∧ w = w' := by
 go_enter Tryz.func84, Tryz.ntmps84
 go_wp2
 go_ret
 exact ⟨rfl, rfl⟩
theorem looks_33 (w : World) : Calls Tryz.prog 84 #[.int .i64 33] w fun e w' => e = .returned (.string ⟨#[118]⟩) ∧ w = w' := by
 go_enter Tryz.func84, Tryz.ntmps84
 go_wp2
 go_ret
 exact ⟨rfl, rfl⟩
theorem looks_34 (w : World) : Calls Tryz.prog 84 #[.int .i64 34] w fun e w' => e = .returned (.string ⟨#[118]⟩) ∧ w = w' := by
 go_enter Tryz.func84, Tryz.ntmps84
 go_wp2
 go_ret
 exact ⟨rfl, rfl⟩
theorem looks_35 (w : World) : Calls Tryz.prog 84 #[.int .i64 35] w fun e w' => e = .returned (.string ⟨#[]⟩) ∧ w = w' := by
 go_enter Tryz.func84, Tryz.ntmps84
 go_wp2
 go_ret
 exact ⟨rfl, rfl⟩
theorem looks_any (f : Nat) (h1 : 1 ≤ f) (h2 : f < 36) (w : World) : Calls Tryz.prog 84 #[.int .i64 (f : Int)] w fun e w' => e = .returned (.string (Cal.how f)) ∧ w = w' := by
 match f, h1, h2 with
 | 0, h, _ => exact absurd h (by decide)
 | 1, _, _ => exact looks_1 w
 | 2, _, _ => exact looks_2 w
 | 3, _, _ => exact looks_3 w
 | 4, _, _ => exact looks_4 w
 | 5, _, _ => exact looks_5 w
 | 6, _, _ => exact looks_6 w
 | 7, _, _ => exact looks_7 w
 | 8, _, _ => exact looks_8 w
 | 9, _, _ => exact looks_9 w
 | 10, _, _ => exact looks_10 w
 | 11, _, _ => exact looks_11 w
 | 12, _, _ => exact looks_12 w
 | 13, _, _ => exact looks_13 w
 | 14, _, _ => exact looks_14 w
 | 15, _, _ => exact looks_15 w
 | 16, _, _ => exact looks_16 w
 | 17, _, _ => exact looks_17 w
 | 18, _, _ => exact looks_18 w
 | 19, _, _ => exact looks_19 w
 | 20, _, _ => exact looks_20 w
 | 21, _, _ => exact looks_21 w
 | 22, _, _ => exact looks_22 w
 | 23, _, _ => exact looks_23 w
 | 24, _, _ => exact looks_24 w
 | 25, _, _ => exact looks_25 w
 | 26, _, _ => exact looks_26 w
 | 27, _, _ => exact looks_27 w
 | 28, _, _ => exact looks_28 w
 | 29, _, _ => exact looks_29 w
 | 30, _, _ => exact looks_30 w
 | 31, _, _ => exact looks_31 w
 | 32, _, _ => exact looks_32 w
 | 33, _, _ => exact looks_33 w
 | 34, _, _ => exact looks_34 w
 | 35, _, _ => exact looks_35 w
 | n + 36, _, h => exact absurd h (by omega)
structure Fld where
 e : TypeId
 sz : Nat
 v : Value
 n : Nat
 xs : List Value
structure AG (w wr : World) (B6 : Nat) (f : Nat → Fld) : Prop where
 b : Below w.heap.size w wr
 z : wr.heap[w.heap.size]? = some (.cells #[.slice none 0 0, .slice none 0 0, .slice none 0 0, .slice none 0 0] 100 (0, 0))
 x : wr.heap[B6]? = some (.cells #[(f 0).v, (f 1).v, (f 2).v, (f 3).v] 100 (0, 0))
 o : ∀ i, i < 4 → wr.ownsRow w.heap.size (f i).e (f i).sz (f i).v (f i).n (f i).xs
 l : w.heap.size < B6
 d : ∀ i j, i < 4 → j < 4 → i ≠ j → (f i).e ≠ (f j).e
 a : ∀ i, i < 4 → (f i).e ≠ 100
section
variable {w wr w' : World} {B6 : Nat} {f g : Nat → Fld}
theorem AG.call (h : AG w wr B6 f) (hb : Below wr.heap.size wr w') : AG w w' B6 f :=
 ⟨h.b.trans (hb.mono h.b.size), (hb.block _ (Array.getElem?_eq_some_iff.1 h.z).1).trans h.z, (hb.block _ (Array.getElem?_eq_some_iff.1 h.x).1).trans h.x, fun i hi => ownsRow_below (h.o i hi) hb, h.l, h.d, h.a⟩
theorem AG.alloc (h : AG w wr B6 f) (o : Obj) : AG w (wr.alloc o) B6 f := h.call ((Below.refl _ _).alloc (Nat.le_refl _) o)
theorem AG.same (h : AG w wr B6 f) (e : ∀ i, i < 4 → f i = g i) : AG w wr B6 g :=
 ⟨h.b, h.z, by rw [← e 0 (by omega), ← e 1 (by omega), ← e 2 (by omega), ← e 3 (by omega)]; exact h.x, fun i hi => by rw [← e i hi]; exact h.o i hi, h.l, fun i j hi hj => by rw [← e i hi, ← e j hj]; exact h.d i j hi hj, fun i hi => by rw [← e i hi]; exact h.a i hi⟩
theorem AG.push (h : AG w wr B6 f) (i : Nat) (hi : i < 4) {w5 : World} {v' : Value} {o : Obj} {n' : Nat} {xs' : List Value} (hgrow : (wr.alloc o).grownBy w5 (f i).v.ownBlock) (hown : w5.ownsRow w.heap.size (f i).e (f i).sz v' n' xs') :
  w5.heap[B6]? = wr.heap[B6]? ∧ AG w (w5.setCell ⟨B6, i, none⟩ v') B6 (fun j => if j = i then ⟨(f i).e, (f i).sz, v', n', xs'⟩ else f j) := by
 have kept : ∀ {b : Nat} {c : Array Value} {e : Nat}, wr.heap[b]? = some (.cells c e (0, 0)) → e ≠ (f i).e → w5.heap[b]? = wr.heap[b]? := fun {b c e} hb he => by
  have hl := (Array.getElem?_eq_some_iff.1 hb).1
  exact (hgrow.block b (by simp; omega) (own_ne (h.o i hi) hb he)).trans (heap_alloc_old _ _ hl)
 have hA := h.a i hi
 have h6 := kept h.x (fun e => hA e.symm)
 have ne6 : ∀ {b : Nat} {c : Array Value} {e : Nat}, w5.heap[b]? = some (.cells c e (0, 0)) → e ≠ 100 → b ≠ B6 := fun {b c e} hb he eb => by
  rw [eb, h6, h.x] at hb
  simp only [Option.some.injEq, Obj.cells.injEq] at hb
  exact he hb.2.1.symm
 have ne6' : ∀ {b : Nat} {c : Array Value} {e : Nat}, wr.heap[b]? = some (.cells c e (0, 0)) → e ≠ 100 → b ≠ B6 := fun {b c e} hb he eb => by
  rw [eb, h.x] at hb
  simp only [Option.some.injEq, Obj.cells.injEq] at hb
  exact he hb.2.1.symm
 have hb5 : Below w.heap.size w w5 := (h.b.alloc h.b.size o).grown hgrow (by have := h.b.size; simp; omega) (fun j hj => (((h.o i hi).alloc o).lt j hj).1)
 refine ⟨h6, hb5.setCell (p := ⟨B6, i, none⟩) (by have := h.l; show w.heap.size ≤ B6; omega) _, ?_, ?_, fun j hj => ?_, h.l, fun j k hj hk hjk => ?_, fun j hj => ?_⟩
 ·exact (set_other _ (Nat.ne_of_lt h.l)).trans ((kept h.z (fun e => hA e.symm)).trans h.z)
 ·have := heap_setCell_same w5 B6 i _ 100 v' (h6.trans h.x)
  rw [this]
  match i, hi with
  | 0, _ => rfl
  | 1, _ => rfl
  | 2, _ => rfl
  | 3, _ => rfl
 ·show World.ownsRow _ _ (if j = i then _ else _ : Fld).e (if j = i then _ else _ : Fld).sz (if j = i then _ else _ : Fld).v (if j = i then _ else _ : Fld).n (if j = i then _ else _ : Fld).xs
  by_cases e : j = i
  ·rw [if_pos e]
   exact ownsRow_same hown fun b c hb => set_other v' (ne6 hb hA)
  ·rw [if_neg e]
   exact ownsRow_same (h.o j hj) fun b c hb => (set_other _ (ne6' hb (h.a j hj))).trans (kept hb (h.d j i hj hi e))
 ·show (if j = i then _ else _ : Fld).e ≠ (if k = i then _ else _ : Fld).e
  have hji := h.d j k hj hk hjk
  by_cases e1 : j = i <;> by_cases e2 : k = i
  ·exact absurd (e1.trans e2.symm) hjk
  ·rw [if_pos e1, if_neg e2]; subst e1; exact hji
  ·rw [if_neg e1, if_pos e2]; subst e2; exact hji
  ·rw [if_neg e1, if_neg e2]; exact hji
 ·show (if j = i then _ else _ : Fld).e ≠ _
  by_cases e1 : j = i
  ·rw [if_pos e1]; exact hA
  ·rw [if_neg e1]; exact h.a j hj
end
theorem infoBool : (Tryz.prog.info? 4).map (fun i => (i.zero, i.size, i.bytes)) = some (some (.bool false), 1, 1) := by kernel_rfl
theorem step_append_eq2 {P : Program} {ops : Array Oper} {o : Oper} {a : Act} {w : World} {K : Act → World → Prop} {Q : Exit → Act → World → Prop} {E : Prop}
  (hg : o.guard = none) (s x : Operand) (t u : TypeId) (hop : o.op = Op.call { callee := Callee.builtin Builtin.append, args := #[s, x], argTypes := #[t, u] })
  (v y : Value) (hs : a.eval s = v) (hx : a.eval x = y) (v' : Value) (w' : World) (hrun : (Builtin.append_ #[t, u] o.type #[v, y]).run P w = .ok v' w') (hK : K (a.put o.dst v') w') :
  if Region.wanted o (yielded ops a.tmps) = true then Oper.wp P o a w K Q else E := by
 have hw : Region.wanted o (yielded ops a.tmps) = true := by simp [Region.wanted, hg]
 rw [if_pos hw]
 unfold Oper.wp
 simp [execOp, hop, resolve, invoke, builtin, hs, hx, hrun, Result.andThen]
 exact hK
theorem infoVR : (Tryz.prog.info? 26).map (fun i => (i.zero, i.size, i.bytes)) = some (some (.agg #[.int .i64 0, .int .i64 0, .string ⟨#[]⟩]), 3, 32) := by kernel_rfl
namespace Cal
def chA (s : ByteArray) (k : Nat) : Nat := (s.data.toList.getD k 0).toNat
def numA (s : ByteArray) (v : Nat → Val.V) (k : Nat) : Int := cond (chA s k == 110) (Val.number (v k)).1 0
def txtA (s : ByteArray) (v : Nat → Val.V) (k : Nat) : ByteArray := cond (chA s k == 116) (Val.asText (v k)).1 ⟨#[]⟩
def truA (s : ByteArray) (v : Nat → Val.V) (k : Nat) : Bool := cond (chA s k == 98) (Val.truth (v k)).1 false
def codR (s : ByteArray) (v : Nat → Val.V) (k : Nat) : Int := cond (chA s k == 110) (Val.number (v k)).2 <| cond (chA s k == 116) (Val.asText (v k)).2 <| cond (chA s k == 98) (Val.truth (v k)).2 0
end Cal
def rowsF (nsv tsv bsv vsv : Value) (s : ByteArray) (v : Nat → Val.V) (m : Nat) : Nat → Fld
 | 0 => ⟨2, 1, nsv, m, (List.range m).map fun k => .int .i64 (Cal.numA s v k)⟩
 | 1 => ⟨9, 1, tsv, m, (List.range m).map fun k => .string (Cal.txtA s v k)⟩
 | 2 => ⟨4, 1, bsv, m, (List.range m).map fun k => .bool (Cal.truA s v k)⟩
 | _ => ⟨26, 3, vsv, m, (List.range m).flatMap fun k => [.int .i64 (v k).k, .int .i64 (v k).n, .string (v k).t]⟩
theorem map_next {α : Type} (g : Nat → α) (m : Nat) : (List.range (m + 1)).map g = (List.range m).map g ++ [g m] := by rw [List.range_succ, List.map_append]; rfl
theorem flat_next {α : Type} (g : Nat → List α) (m : Nat) : (List.range (m + 1)).flatMap g = (List.range m).flatMap g ++ g m := by rw [List.range_succ, List.flatMap_append]; simp
theorem ix_r (s : ByteArray) (m : Nat) (h : m < s.size) (w : World) : (Instr.index 9 (.string s) (.int .i64 (m : Int))).run Tryz.prog w = .ok (.int .u8 (Cal.chA s m : Int)) w := by
 have h1 : 0 ≤ (m : Int) ∧ (m : Int) < (s.size : Int) := by omega
 have e2 : s.data.toList.getD m 0 = s[m] := by
  rw [List.getD_eq_getElem?_getD, List.getElem?_eq_getElem (by rw [← Lib.size_eq]; exact h)]
  rfl
 unfold Cal.chA
 rw [e2]
 simp [go_sem, h]
theorem own_any {w : World} {base : Nat} {e : TypeId} {size : Nat} {v : Value} {n : Nat} {xs : List Value} (h : w.ownsRow base e size v n xs) : ∃ a cap, v = .slice a n cap := by
 rcases h.2 with ⟨rfl, rfl⟩ | ⟨g, cap, cur, rfl, _⟩
 ·exact ⟨none, 0, rfl⟩
 ·exact ⟨_, cap, rfl⟩
def LookPost (w : World) (n : Nat) (s : ByteArray) (v : Nat → Val.V) (rz : Int) (e : Ending) (w' : World) : Prop :=
 Below w.heap.size w w' ∧ ((rz ≠ 0 ∧ e = .returned (.tuple #[.agg #[.slice none 0 0, .slice none 0 0, .slice none 0 0, .slice none 0 0], .int .i64 rz])) ∨
  (rz = 0 ∧ ∃ nsv tsv bsv vsv, e = .returned (.tuple #[.agg #[nsv, tsv, bsv, vsv], .int .i64 0]) ∧ ∀ i, i < 4 → w'.ownsRow w.heap.size (rowsF nsv tsv bsv vsv s v n i).e (rowsF nsv tsv bsv vsv s v n i).sz (rowsF nsv tsv bsv vsv s v n i).v (rowsF nsv tsv bsv vsv s v n i).n (rowsF nsv tsv bsv vsv s v n i).xs))
set_option maxHeartbeats 16000000 in
theorem look_walk (f : Int) (n : Nat) (s : ByteArray) (v : Nat → Val.V) (a : Option Addr) (cap : Nat) (rz : Int) (w : World)
  (HS : Hid (∀ w, Calls Tryz.prog 84 #[.int .i64 f] w fun e w' => e = .returned (.string s) ∧ w = w')) (hsz : n ≤ s.size) (h10 : s.size ≤ 10) (HCell : Hid (HCellP w a n v)) (HVB : Hid (∀ k, k < n → VB (v k)))
  (HE : Hid (∀ m, m < n → (∀ j, j < m → Cal.codR s v j = 0) → (Cal.codR s v m != 0) = true → Cal.codR s v m = rz)) (HZ : Hid ((∀ m, m < n → Cal.codR s v m = 0) → rz = 0)) :
  Calls Tryz.prog 81 #[.int .i64 f, .slice a n cap] w (LookPost w n s v rz) := by
 go_enter Tryz.func81, Tryz.ntmps81
 go_wp2_with (fail)
 refine (HS.out _).mono ?_
 rintro e w1 ⟨rfl, rfl⟩
 have hA : AG w ((w.alloc (Obj.cells #[.slice none 0 0, .slice none 0 0, .slice none 0 0, .slice none 0 0] 100)).alloc (Obj.cells #[.slice none 0 0, .slice none 0 0, .slice none 0 0, .slice none 0 0] 100)) (w.heap.size + 1) (rowsF (.slice none 0 0) (.slice none 0 0) (.slice none 0 0) (.slice none 0 0) s v 0) := by
  refine ⟨((Below.refl _ _).alloc (Nat.le_refl _) _).alloc (by simp) _, (heap_alloc_old _ _ (by simp)).trans (heap_alloc_new _ _), ?_, fun i hi => ?_, by omega, fun i j hi hj hij => ?_, fun i hi => ?_⟩
  ·rw [show w.heap.size + 1 = (w.alloc (Obj.cells #[.slice none 0 0, .slice none 0 0, .slice none 0 0, .slice none 0 0] 100)).heap.size by simp]
   exact heap_alloc_new _ _
  ·match i, hi with
   | 0, _ => exact World.ownsRow_nil _ _ _ _
   | 1, _ => exact World.ownsRow_nil _ _ _ _
   | 2, _ => exact World.ownsRow_nil _ _ _ _
   | 3, _ => exact World.ownsRow_nil _ _ _ _
  ·match i, j, hi, hj, hij with
   | 0, 1, _, _, _ | 0, 2, _, _, _ | 0, 3, _, _, _ | 1, 0, _, _, _ | 1, 2, _, _, _ | 1, 3, _, _, _ | 2, 0, _, _, _ | 2, 1, _, _, _ | 2, 3, _, _, _ | 3, 0, _, _, _ | 3, 1, _, _, _ | 3, 2, _, _, _ => exact fun h => by cases h
   | 0, 0, _, _, h | 1, 1, _, _, h | 2, 2, _, _, h | 3, 3, _, _, h => exact absurd rfl h
  ·match i, hi with
   | 0, _ | 1, _ | 2, _ | 3, _ => exact fun h => by cases h
 go_wp2_with (fail)
 generalize ((w.alloc (Obj.cells #[.slice none 0 0, .slice none 0 0, .slice none 0 0, .slice none 0 0] 100)).alloc (Obj.cells #[.slice none 0 0, .slice none 0 0, .slice none 0 0, .slice none 0 0] 100)) = W1 at *
 go_loopw [8] (fun i wr => ∃ (m : Nat) (nsv tsv bsv vsv : Value), m ≤ n ∧ i = .int .i64 (m : Int) ∧ AG w wr (w.heap.size + 1) (rowsF nsv tsv bsv vsv s v m) ∧ Hid (∀ j, j < m → Cal.codR s v j = 0)) (fun i _ => n - (intOf i).toNat)
 case atStart => exact ⟨0, _, _, _, _, Nat.zero_le _, rfl, hA, Lib.hid (fun j hj => by omega)⟩
 case round =>
 obtain ⟨m, nsv, tsv, bsv, vsv, hk, rfl, hL, HCode⟩ := hrel
 clear hA
 by_cases hlt : m < n
 ·obtain ⟨b, o, rfl, hbl, q0, q1, q2⟩ := HCell.out m hlt
  have c0 := (hL.b.cell (p := ⟨b, o + m * 3, none⟩) hbl).trans q0
  have c1 := (hL.b.cell (p := ⟨b, o + m * 3 + 1, none⟩) hbl).trans q1
  have c2 := (hL.b.cell (p := ⟨b, o + m * 3 + 2, none⟩) hbl).trans q2
  have HQ := Lib.hid (⟨q0, q1, q2⟩ : _ ∧ _ ∧ _)
  clear q0 q1 q2 HZ
  have hvb := HVB.out m hlt
  have hix := ix_r s m (by omega)
  have hE := Lib.hid (HE.out m hlt HCode.out)
  have HNext : Hid (Cal.codR s v m = 0 → ∀ j, j < m + 1 → Cal.codR s v j = 0) := Lib.hid (fun e j hj => by
   by_cases h : j = m
   ·subst h; exact e
   ·exact HCode.out j (by omega))
  clear HE HCode
  have HNU := Lib.hid (fun w' => rnumber_any (v m) w' hvb)
  have HTX := Lib.hid (fun w' => rastext_any (v m) w' hvb)
  have HTR := Lib.hid (fun w' => rtruth_any (v m) w')
  have HCase : Hid ((Cal.chA s m = 110 ∧ Cal.codR s v m = (Val.number (v m)).2 ∧ Cal.numA s v m = (Val.number (v m)).1 ∧ Cal.txtA s v m = ⟨#[]⟩ ∧ Cal.truA s v m = false) ∨
   (Cal.chA s m = 116 ∧ Cal.codR s v m = (Val.asText (v m)).2 ∧ Cal.numA s v m = 0 ∧ Cal.txtA s v m = (Val.asText (v m)).1 ∧ Cal.truA s v m = false) ∨
   (Cal.chA s m = 98 ∧ Cal.codR s v m = (Val.truth (v m)).2 ∧ Cal.numA s v m = 0 ∧ Cal.txtA s v m = ⟨#[]⟩ ∧ Cal.truA s v m = (Val.truth (v m)).1) ∨
   (Cal.chA s m ≠ 110 ∧ Cal.chA s m ≠ 116 ∧ Cal.chA s m ≠ 98 ∧ Cal.codR s v m = 0 ∧ Cal.numA s v m = 0 ∧ Cal.txtA s v m = ⟨#[]⟩ ∧ Cal.truA s v m = false)) := Lib.hid (by
   unfold Cal.codR Cal.numA Cal.txtA Cal.truA
   by_cases h1 : Cal.chA s m = 110
   ·rw [h1]; exact .inl ⟨rfl, rfl, rfl, rfl, rfl⟩
   ·by_cases h2 : Cal.chA s m = 116
    ·rw [h2]; exact .inr (.inl ⟨rfl, rfl, rfl, rfl, rfl⟩)
    ·by_cases h3 : Cal.chA s m = 98
     ·rw [h3]; exact .inr (.inr (.inl ⟨rfl, rfl, rfl, rfl, rfl⟩))
     ·have g1 : (Cal.chA s m == 110) = false := by simpa using h1
      have g2 : (Cal.chA s m == 116) = false := by simpa using h2
      have g3 : (Cal.chA s m == 98) = false := by simpa using h3
      rw [g1, g2, g3]
      exact .inr (.inr (.inr ⟨h1, h2, h3, rfl, rfl, rfl, rfl⟩)))
  go_upto_block 2 with (fail)
  go_cut [9, 10, 11, 12] from 15 to 84 (fun ec x t b' wx => ec = .int .i64 (Cal.codR s v m) ∧ x = .int .i64 (Cal.numA s v m) ∧ t = .string (Cal.txtA s v m) ∧ b' = .bool (Cal.truA s v m) ∧ AG w wx (w.heap.size + 1) (rowsF nsv tsv bsv vsv s v m))
  case first =>
   rcases HCase.out with ⟨h, e1, e2, e3, e4⟩ | ⟨h, e1, e2, e3, e4⟩ | ⟨h, e1, e2, e3, e4⟩ | ⟨h1, h2, h3, e1, e2, e3, e4⟩
   ·have g1 : ((Cal.chA s m : Int) == 110) = true := by rw [h]; rfl
    have HX := Lib.hid (⟨e1, e2, e3, e4⟩ : _ ∧ _ ∧ _ ∧ _)
    clear e1 e2 e3 e4 h HCase
    generalize Val.number (v m) = pr at *
    generalize v m = vm at *
    obtain ⟨kk, kn, kt⟩ := vm
    obtain ⟨p1, p2⟩ := pr
    go_wp2_with (fail)
    refine (HNU.out _).mono ?_
    rintro e w2 ⟨rfl, hb2⟩
    go_wp2_with (fail)
    go_meet
    exact ⟨by rw [HX.out.1], by rw [HX.out.2.1], by rw [HX.out.2.2.1], by rw [HX.out.2.2.2], hL.call hb2⟩
   ·have g1 : ((Cal.chA s m : Int) == 110) = false := by rw [h]; rfl
    have g2 : ((Cal.chA s m : Int) == 116) = true := by rw [h]; rfl
    have HX := Lib.hid (⟨e1, e2, e3, e4⟩ : _ ∧ _ ∧ _ ∧ _)
    clear e1 e2 e3 e4 h HCase
    generalize Val.asText (v m) = pr at *
    generalize v m = vm at *
    obtain ⟨kk, kn, kt⟩ := vm
    obtain ⟨p1, p2⟩ := pr
    go_wp2_with (fail)
    refine (HTX.out _).mono ?_
    rintro e w2 ⟨rfl, hb2⟩
    go_wp2_with (fail)
    go_meet
    exact ⟨by rw [HX.out.1], by rw [HX.out.2.1], by rw [HX.out.2.2.1], by rw [HX.out.2.2.2], hL.call hb2⟩
   ·have g1 : ((Cal.chA s m : Int) == 110) = false := by rw [h]; rfl
    have g2 : ((Cal.chA s m : Int) == 116) = false := by rw [h]; rfl
    have g3 : ((Cal.chA s m : Int) == 98) = true := by rw [h]; rfl
    have HX := Lib.hid (⟨e1, e2, e3, e4⟩ : _ ∧ _ ∧ _ ∧ _)
    clear e1 e2 e3 e4 h HCase
    generalize Val.truth (v m) = pr at *
    generalize v m = vm at *
    obtain ⟨kk, kn, kt⟩ := vm
    obtain ⟨p1, p2⟩ := pr
    go_wp2_with (fail)
    refine (HTR.out _).mono ?_
    rintro e w2 ⟨rfl, hb2⟩
    go_wp2_with (fail)
    go_meet
    exact ⟨by rw [HX.out.1], by rw [HX.out.2.1], by rw [HX.out.2.2.1], by rw [HX.out.2.2.2], hL.call hb2⟩
   ·have g1 : ((Cal.chA s m : Int) == 110) = false := by rw [beq_eq_false_iff_ne]; omega
    have g2 : ((Cal.chA s m : Int) == 116) = false := by rw [beq_eq_false_iff_ne]; omega
    have g3 : ((Cal.chA s m : Int) == 98) = false := by rw [beq_eq_false_iff_ne]; omega
    have HX := Lib.hid (⟨e1, e2, e3, e4⟩ : _ ∧ _ ∧ _ ∧ _)
    clear e1 e2 e3 e4 h1 h2 h3 HCase
    go_wp2_with (fail)
    go_meet
    exact ⟨by rw [HX.out.1], by rw [HX.out.2.1], by rw [HX.out.2.2.1], by rw [HX.out.2.2.2], hL⟩
  case rest =>
  obtain ⟨rfl, rfl, rfl, rfl, hL⟩ := hcut
  clear c0 c1 c2 hix HNU HTX HTR HCase
  have hm10 : m ≤ 9 := by omega
  have HNx : Hid (∀ nsv tsv bsv vsv w5 (F : Nat → Fld), F 0 = ⟨2, 1, nsv, m + 1, ((List.range m).map fun k => .int .i64 (Cal.numA s v k)) ++ [.int .i64 (Cal.numA s v m)]⟩ → F 1 = ⟨9, 1, tsv, m + 1, ((List.range m).map fun k => .string (Cal.txtA s v k)) ++ [.string (Cal.txtA s v m)]⟩ → F 2 = ⟨4, 1, bsv, m + 1, ((List.range m).map fun k => .bool (Cal.truA s v k)) ++ [.bool (Cal.truA s v m)]⟩ →
   F 3 = ⟨26, 3, vsv, m + 1, ((List.range m).flatMap fun k => [.int .i64 (v k).k, .int .i64 (v k).n, .string (v k).t]) ++ [.int .i64 (v m).k, .int .i64 (v m).n, .string (v m).t]⟩ → AG w w5 (w.heap.size + 1) F → AG w w5 (w.heap.size + 1) (rowsF nsv tsv bsv vsv s v (m + 1))) := Lib.hid (fun nsv tsv bsv vsv w5 F h0 h1 h2 h3 h => h.same fun i hi => by
   match i, hi with
   | 0, _ => rw [h0]; show (⟨_, _, _, _, _⟩ : Fld) = ⟨_, _, _, _, _⟩; rw [map_next]
   | 1, _ => rw [h1]; show (⟨_, _, _, _, _⟩ : Fld) = ⟨_, _, _, _, _⟩; rw [map_next]
   | 2, _ => rw [h2]; show (⟨_, _, _, _, _⟩ : Fld) = ⟨_, _, _, _, _⟩; rw [map_next]
   | 3, _ => rw [h3]; show (⟨_, _, _, _, _⟩ : Fld) = ⟨_, _, _, _, _⟩; rw [flat_next])
  generalize Cal.codR s v m = ec at *
  generalize hxm : Cal.numA s v m = x at *
  generalize htm : Cal.txtA s v m = t at *
  generalize hbm : Cal.truA s v m = b' at *
  have HM := Lib.hid (⟨hxm, htm, hbm⟩ : _ ∧ _ ∧ _)
  clear hxm htm hbm
  cases he : (ec != 0) with
  | true =>
   obtain rfl := hE.out he
   have z0 := ch hL.z 0
   have z1 := ch hL.z 1
   have z2 := ch hL.z 2
   have z3 := ch hL.z 3
   have f0 := Lib.frozen_of_heap hL.z 0
   have f1 := Lib.frozen_of_heap hL.z 1
   have f2 := Lib.frozen_of_heap hL.z 2
   have f3 := Lib.frozen_of_heap hL.z 3
   simp at z0 z1 z2 z3
   have hb := hL.b
   have hne : ec ≠ 0 := by simpa using he
   have HNE := Lib.hid hne
   clear hL HNx HNext hne
   go_wp2_with (fail)
   exact bodyPost_ret (v := .tuple #[.agg #[.slice none 0 0, .slice none 0 0, .slice none 0 0, .slice none 0 0], .int .i64 ec]) (by simp [results, Tryz.results81, go_sem, z0, z1, z2, z3]) rfl ⟨(set3 hb (by simp)).setCell (p := ⟨w.heap.size, 3, none⟩) (by simp) _, .inl ⟨HNE.out, rfl⟩⟩
  | false =>
  have he0 : ec = 0 := by simpa using he
  have HN2 := Lib.hid (HNext.out he0)
  clear HNext hE he0
  have a0 := ch hL.x 0
  simp [rowsF] at a0
  obtain ⟨i0, hi, hz0, hz1, hz2⟩ := info_parts infoI64
  go_wp2_with (first | (at_builtin; refine wpList_append_own _ rfl _ _ 81 rfl w.heap.size 2 i0 (.int .i64 0) 1 8 Tryz.underlying81 hi hz0 hz1 hz2 rfl (by decide) _ _ _ rfl ((hL.alloc _).o 0 (by omega)) ⟨wc.heap.size, 0, none⟩ 1 1 [.int .i64 x] rfl rfl ?c1n ?c2n ?c3n ?c4n ?c5n ?_) | fail)
  case c1n =>
   intro q u hq
   match q, hq with
   | 0, hq => simp at hq; subst hq; simp [Addr.add]
  case c2n => intro u hu; simp at hu; subst hu; rfl
  case c3n => show m + 1 ≤ maxLen; unfold maxLen; omega
  case c4n => show (m + 1) * 8 ≤ _; omega
  case c5n => have := hL.b.size; simp; omega
  intro v0 y0 hown hgrow _
  obtain ⟨h6, hL5⟩ := hL.push 0 (by omega) hgrow hown
  obtain ⟨g0, cp0, rfl⟩ := row_shape (n := m) hown
  have d0 := ch (h6.trans hL.x) 0
  have e0 := Lib.frozen_of_heap (h6.trans hL.x) 0
  simp [rowsF] at d0
  clear hL hown hgrow h6 a0 hi hz0 hz1 hz2
  have hL := hL5
  clear hL5
  go_upto_region 18 with (fail)
  generalize (y0.setCell ⟨w.heap.size + 1, 0, none⟩ (.slice (some ⟨g0, 0, none⟩) (m + 1) cp0)) = V1 at *
  clear d0 e0
  have a1 := ch hL.x 1
  simp [rowsF] at a1
  obtain ⟨i0, hi, hz0, hz1, hz2⟩ := info_parts infoStr
  go_wp2_with (first | (at_builtin; refine wpList_append_own _ rfl _ _ 82 rfl w.heap.size 9 i0 (.string ⟨#[]⟩) 1 16 Tryz.underlying82 hi hz0 hz1 hz2 rfl (by decide) _ _ _ rfl ((hL.alloc _).o 1 (by omega)) ⟨V1.heap.size, 0, none⟩ 1 1 [.string t] rfl rfl ?c1t ?c2t ?c3t ?c4t ?c5t ?_) | fail)
  case c1t =>
   intro q u hq
   match q, hq with
   | 0, hq => simp at hq; subst hq; simp [Addr.add]
  case c2t => intro u hu; simp at hu; subst hu; rfl
  case c3t => show m + 1 ≤ maxLen; unfold maxLen; omega
  case c4t => show (m + 1) * 16 ≤ _; omega
  case c5t => have := hL.b.size; simp; omega
  intro v1 y1 hown hgrow _
  obtain ⟨h6, hL5⟩ := hL.push 1 (by omega) hgrow hown
  obtain ⟨g1, cp1, rfl⟩ := row_shape (n := m) hown
  have d1 := ch (h6.trans hL.x) 1
  have e1 := Lib.frozen_of_heap (h6.trans hL.x) 1
  simp [rowsF] at d1
  clear hL hown hgrow h6 a1 hi hz0 hz1 hz2
  have hL := hL5
  clear hL5
  go_upto_region 19 with (fail)
  generalize (y1.setCell ⟨w.heap.size + 1, 1, none⟩ (.slice (some ⟨g1, 0, none⟩) (m + 1) cp1)) = V2 at *
  clear d1 e1
  have a2 := ch hL.x 2
  simp [rowsF] at a2
  obtain ⟨i0, hi, hz0, hz1, hz2⟩ := info_parts infoBool
  go_wp2_with (first | (at_builtin; refine wpList_append_own _ rfl _ _ 98 rfl w.heap.size 4 i0 (.bool false) 1 1 Tryz.underlying98 hi hz0 hz1 hz2 rfl (by decide) _ _ _ rfl ((hL.alloc _).o 2 (by omega)) ⟨V2.heap.size, 0, none⟩ 1 1 [.bool b'] rfl rfl ?c1b ?c2b ?c3b ?c4b ?c5b ?_) | fail)
  case c1b =>
   intro q u hq
   match q, hq with
   | 0, hq => simp at hq; subst hq; simp [Addr.add]
  case c2b => intro u hu; simp at hu; subst hu; rfl
  case c3b => show m + 1 ≤ maxLen; unfold maxLen; omega
  case c4b => show m ≤ _; omega
  case c5b => have := hL.b.size; simp; omega
  intro v2 y2 hown hgrow _
  obtain ⟨h6, hL5⟩ := hL.push 2 (by omega) hgrow hown
  obtain ⟨g2, cp2, rfl⟩ := row_shape (n := m) hown
  have d2 := ch (h6.trans hL.x) 2
  have e2 := Lib.frozen_of_heap (h6.trans hL.x) 2
  simp [rowsF] at d2
  clear hL hown hgrow h6 a2 hi hz0 hz1 hz2
  have hL := hL5
  clear hL5
  go_upto_region 20 with (fail)
  generalize (y2.setCell ⟨w.heap.size + 1, 2, none⟩ (.slice (some ⟨g2, 0, none⟩) (m + 1) cp2)) = V3 at *
  clear d2 e2
  obtain ⟨q0, q1, q2⟩ := HQ.out
  have c0 := (hL.b.cell (p := ⟨b, o + m * 3, none⟩) hbl).trans q0
  have c1 := (hL.b.cell (p := ⟨b, o + m * 3 + 1, none⟩) hbl).trans q1
  have c2 := (hL.b.cell (p := ⟨b, o + m * 3 + 2, none⟩) hbl).trans q2
  have a3 := ch hL.x 3
  simp [rowsF] at a3
  have a3' := fun o => Lib.cell_of_heap (hL.alloc o).x 3
  simp [rowsF] at a3'
  have hLd := hL.call ((Below.refl _ _).drew : Below V3.heap.size V3 V3.drew)
  have hz3 : (V3.drew.alloc (Obj.cells #[.int .i64 (v m).k, .int .i64 (v m).n, .string (v m).t] 26)).heap[V3.heap.size]? = some (.cells #[.int .i64 (v m).k, .int .i64 (v m).n, .string (v m).t] 26 (0, 0)) := heap_alloc_new V3.drew _
  obtain ⟨p0, p1, p2⟩ := val_cells hz3
  obtain ⟨i0, hi, hz0, hz1, hz2⟩ := info_parts infoVR
  obtain ⟨v3, y3, hrun, hown, hgrow, _⟩ := run_append_own (P := Tryz.prog) (V3.drew.alloc (Obj.cells #[.int .i64 (v m).k, .int .i64 (v m).n, .string (v m).t] 26)) w.heap.size 24 24 26 i0 (.agg #[.int .i64 0, .int .i64 0, .string ⟨#[]⟩]) 3 32 Tryz.underlying24 hi hz0 hz1 hz2 rfl (by decide) vsv m _ ((hLd.alloc _).o 3 (by omega)) ⟨V3.heap.size, 0, none⟩ 1 1 [.int .i64 (v m).k, .int .i64 (v m).n, .string (v m).t] rfl (by
   intro q u hq
   match q, hq with
   | 0, hq => simp at hq; subst hq; simpa [Addr.add] using p0
   | 1, hq => simp at hq; subst hq; simpa [Addr.add] using p1
   | 2, hq => simp at hq; subst hq; simpa [Addr.add] using p2
   | q + 3, hq => simp at hq) (by intro u hu; simp at hu; rcases hu with rfl | rfl | rfl <;> rfl) (by unfold maxLen; omega) (by omega) (by have := hL.b.size; simp; omega)
  obtain ⟨h6, hL5⟩ := hLd.push 3 (by omega) hgrow hown
  obtain ⟨g3, cp3, rfl⟩ := row_shape (n := m) hown
  have d3 := ch (h6.trans hLd.x) 3
  have e3 := Lib.frozen_of_heap (h6.trans hLd.x) 3
  simp [rowsF] at d3
  have HR := Lib.hid hrun
  have HL5 := Lib.hid (HNx.out _ _ _ _ _ _ rfl rfl rfl rfl hL5)
  clear hL hLd hrun hown hgrow h6 hL5 hz3 p0 p1 p2 hi hz0 hz1 hz2 q0 q1 q2 HNx
  go_region_law (refine step_append_eq2 rfl (.tmp 77) (.tmp 82) 24 24 rfl _ _ rfl rfl _ _ HR.out ?_)
  all_goals (try go_wp2)
  all_goals
   go_roundw
   case rel => exact ⟨m + 1, _, _, _, _, by omega, by go_num, HL5.out, HN2⟩
   case measure => simp [intOf] <;> omega
 ·obtain rfl : m = n := by omega
  obtain rfl := HZ.out HCode.out
  obtain ⟨b0, k0, rfl⟩ : ∃ a cap, nsv = .slice a m cap := own_any (hL.o 0 (by omega))
  obtain ⟨b1, k1, rfl⟩ : ∃ a cap, tsv = .slice a m cap := own_any (hL.o 1 (by omega))
  obtain ⟨b2, k2, rfl⟩ : ∃ a cap, bsv = .slice a m cap := own_any (hL.o 2 (by omega))
  obtain ⟨b3, k3, rfl⟩ : ∃ a cap, vsv = .slice a m cap := own_any (hL.o 3 (by omega))
  have z0 := ch hL.z 0
  have z1 := ch hL.z 1
  have z2 := ch hL.z 2
  have z3 := ch hL.z 3
  have f0 := Lib.frozen_of_heap hL.z 0
  have f1 := Lib.frozen_of_heap hL.z 1
  have f2 := Lib.frozen_of_heap hL.z 2
  have f3 := Lib.frozen_of_heap hL.z 3
  have a0 := ch hL.x 0
  have a1 := ch hL.x 1
  have a2 := ch hL.x 2
  have a3 := ch hL.x 3
  simp [rowsF] at a0 a1 a2 a3
  simp at z0 z1 z2 z3
  have hb := hL.b
  have HL := Lib.hid hL
  clear hL HE HZ HCode
  go_wp2_with (fail)
  refine bodyPost_ret (v := .tuple #[.agg #[.slice b0 m k0, .slice b1 m k1, .slice b2 m k2, .slice b3 m k3], .int .i64 0]) (by simp [results, Tryz.results81, go_sem, z0, z1, z2, z3]) rfl ⟨(set3 hb (by simp)).setCell (p := ⟨w.heap.size, 3, none⟩) (by simp) _, .inr ⟨rfl, _, _, _, _, rfl, fun i hi => ?_⟩⟩
  refine ownsRow_same (HL.out.o i hi) fun q c hq => ?_
  have hne : q ≠ w.heap.size := fun e => by
   have hz := HL.out.z
   rw [← e, hq] at hz
   simp only [Option.some.injEq, Obj.cells.injEq] at hz
   exact HL.out.a i hi hz.2.1
  exact (set_other _ hne).trans ((set_other _ hne).trans ((set_other _ hne).trans (set_other _ hne)))
end Go.Proofs.YtpiiemneelkpkaaGreatDoor
