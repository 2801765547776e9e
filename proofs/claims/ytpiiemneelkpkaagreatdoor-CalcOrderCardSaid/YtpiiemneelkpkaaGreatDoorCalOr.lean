/- The walk of quadrillelaw14.CalcOrder. -/
import Derived.Test.YtpiiemneelkpkaaGreatDoorGcb
import Derived.Test.YtpiiemneelkpkaaGreatDoorGcp
import Derived.LoopTactic
import Derived.OwnWalk
import Derived.BigQuiet
import Derived.Deep.RegionHeld3
import Derived.Deep.DeepCutAuto
import Derived.Laws.EntriesVeiled
namespace Go.Proofs.YtpiiemneelkpkaaGreatDoor
open Go.RowKit
set_option linter.unusedVariables false
theorem infoVT : (Tryz.prog.info? 26).map (fun i => (i.zero, i.size, i.bytes)) = some (some (.agg #[.int .i64 0, .int .i64 0, .string ⟨#[]⟩]), 3, 32) := by kernel_rfl
/-- The cells of the comparisons' answers. -/
def csR (R : Int → Val.V) (k : Nat) : List Value := Cal.argC ((List.range k).map fun (i : Nat) => R (7 + (i : Int)))
theorem csR_succ (R : Int → Val.V) (k : Nat) : csR R (k + 1) = csR R k ++ [.int .i64 (R (7 + (k : Int))).k, .int .i64 (R (7 + (k : Int))).n, .string (R (7 + (k : Int))).t] := by
  unfold csR Cal.argC
  rw [List.range_succ, List.map_append, List.flatMap_append]
  rfl
theorem csR_get (R : Int → Val.V) (k i : Nat) (h : i < k) : (csR R k)[i * 3]? = some (.int .i64 (R (7 + (i : Int))).k) ∧ (csR R k)[i * 3 + 1]? = some (.int .i64 (R (7 + (i : Int))).n) ∧ (csR R k)[i * 3 + 2]? = some (.string (R (7 + (i : Int))).t) := by
  have := argC_get ((List.range k).map fun (i : Nat) => R (7 + (i : Int))) i (by simpa using h)
  have e : Cal.arg ((List.range k).map fun (i : Nat) => R (7 + (i : Int))) i = R (7 + (i : Int)) := by
    unfold Cal.arg
    rw [List.getD_eq_getElem?_getD, List.getElem?_map, List.getElem?_range h]
    rfl
  rw [e] at this
  exact this
/-- What the loop of the comparisons carries. -/
structure LO (w wr : World) (x y : Val.V) (lv : Value) (k : Nat) (cs : List Value) : Prop where
  b : Below w.heap.size w wr
  x : wr.heap[w.heap.size]? = some (.cells #[.int .i64 x.k, .int .i64 x.n, .string x.t] 26 (0, 0))
  y : wr.heap[w.heap.size + 1]? = some (.cells #[.int .i64 y.k, .int .i64 y.n, .string y.t] 26 (0, 0))
  o : wr.ownsRow (w.heap.size + 2) 26 3 lv k cs
section
variable {w wr w' : World} {x y : Val.V} {lv v' : Value} {k : Nat} {cs news : List Value}
theorem LO.call (h : LO w wr x y lv k cs) (hb : Below wr.heap.size wr w') : LO w w' x y lv k cs :=
  ⟨h.b.trans (hb.mono h.b.size), (hb.block _ (Array.getElem?_eq_some_iff.1 h.x).1).trans h.x, (hb.block _ (Array.getElem?_eq_some_iff.1 h.y).1).trans h.y, ownsRow_below h.o hb⟩
theorem LO.alloc (h : LO w wr x y lv k cs) (o : Obj) : LO w (wr.alloc o) x y lv k cs := h.call ((Below.refl _ _).alloc (Nat.le_refl _) o)
theorem LO.grown (h : LO w wr x y lv k cs) (hg : wr.grownBy w' lv.ownBlock) (ho : w'.ownsRow (w.heap.size + 2) 26 3 v' (k + 1) (cs ++ news)) : LO w w' x y v' (k + 1) (cs ++ news) := by
  have hx := (Array.getElem?_eq_some_iff.1 h.x).1
  have hy := (Array.getElem?_eq_some_iff.1 h.y).1
  have ne : ∀ j, lv.ownBlock = some j → w.heap.size + 2 ≤ j := fun j hj => (h.o.lt j hj).1
  refine ⟨h.b.grown hg h.b.size (fun j hj => by have := ne j hj; omega), (hg.block _ hx (fun e => ?_)).trans h.x, (hg.block _ hy (fun e => ?_)).trans h.y, ho⟩
  · have := ne _ e.symm; omega
  · have := ne _ e.symm; omega
theorem LO.kept {B : Nat} (h : LO w wr x y lv k cs) (hg : wr.grownBy w' (some B)) (hB : w.heap.size + 2 ≤ B) (hne : lv.ownBlock ≠ some B) : LO w w' x y lv k cs :=
  ⟨h.b.grown hg h.b.size (fun j hj => by cases hj; omega), (hg.block _ (Array.getElem?_eq_some_iff.1 h.x).1 (fun e => by cases e; omega)).trans h.x, (hg.block _ (Array.getElem?_eq_some_iff.1 h.y).1 (fun e => by cases e; omega)).trans h.y, h.o.kept hg (.inr hne)⟩
theorem set3_grown (W : World) (B : Nat) (a b c : Value) : W.grownBy (((W.setCell ⟨B, 0, none⟩ a).setCell ⟨B, 1, none⟩ b).setCell ⟨B, 2, none⟩ c) (some B) := by
  have h : ∀ (W : World) (j : Nat) (v : Value), W.grownBy (W.setCell ⟨B, j, none⟩ v) (some B) := fun W j v => ⟨rfl, rfl, rfl, by simp, fun k _ hk => heap_setCell_other _ _ _ _ (fun e => hk (by rw [show k = B from e]))⟩
  exact ((h W 0 a).next (h _ 1 b)).next (h _ 2 c)
theorem set3_heap {W : World} {B : Nat} {a b c d e f : Value} {T : TypeId} (h : W.heap[B]? = some (.cells #[a, b, c] T (0, 0))) : (((W.setCell ⟨B, 0, none⟩ d).setCell ⟨B, 1, none⟩ e).setCell ⟨B, 2, none⟩ f).heap[B]? = some (.cells #[d, e, f] T (0, 0)) :=
  heap_setCell_same _ B 2 _ T f (heap_setCell_same _ B 1 _ T e (heap_setCell_same W B 0 _ T d h))
theorem LO.cells {g cap : Nat} (h : LO w wr x y (.slice (some ⟨g, 0, none⟩) k cap) k cs) (j : Nat) (u : Value) (hu : cs[j]? = some u) : wr.cell? ⟨g, j, none⟩ = some u := by
  have hadd : (⟨g, 0, none⟩ : Addr).add j = ⟨g, j, none⟩ := by unfold Addr.add; split <;> simp_all
  rw [← hadd]
  exact h.o.cells rfl j u hu
end

set_option maxRecDepth 100000 in
set_option maxHeartbeats 20000000 in
theorem order14 (x y : Val.V) (R R2 : Int → Val.V) (w : World) (hN : NumW w) (hT : TxtW w)
    (HB : Hid (∀ (op : Int) (v : World), Below w.heap.size w v → Calls Tryz.prog 13 #[.int .i64 op, vv x, vv y] v fun e w' => e = .returned (vv (R op)) ∧ Below v.heap.size v w'))
    (HBy : Hid (∀ (op : Int) (v : World), Below w.heap.size w v → Calls Tryz.prog 13 #[.int .i64 op, vv y, vv x] v fun e w' => e = .returned (vv (R2 op)) ∧ Below v.heap.size v w'))
    (HM : Hid (∀ v, Calls Tryz.prog 19 #[vv x] v fun e w' => e = .returned (.bool (Val.mayB x)) ∧ Below v.heap.size v w')) (HM2 : Hid (∀ v, Calls Tryz.prog 19 #[vv y] v fun e w' => e = .returned (.bool (Val.mayB y)) ∧ Below v.heap.size v w'))
    (HC : Hid ((Val.mayB x = false ∧ ∀ op : Int, 1 ≤ op → op ≤ 12 → R op = ⟨4, 4, ⟨#[]⟩⟩) ∨ (Val.mayB x = true ∧ x.k = 4 ∧ ∀ op : Int, 1 ≤ op → op ≤ 12 → R op = x) ∨
      (Val.mayB x = true ∧ (x.k == 4) = false ∧ Val.mayB y = false ∧ ∀ op : Int, 1 ≤ op → op ≤ 12 → R op = ⟨4, 4, ⟨#[]⟩⟩) ∨ (Val.mayB x = true ∧ (x.k == 4) = false ∧ Val.mayB y = true ∧ y.k = 4 ∧ ∀ op : Int, 1 ≤ op → op ≤ 12 → R op = y) ∨
      (Val.mayB x = true ∧ (x.k == 4) = false ∧ Val.mayB y = true ∧ (y.k == 4) = false ∧ ∃ c : Int, (c = -1 ∨ c = 0 ∨ c = 1) ∧ (∀ op : Int, 7 ≤ op → op ≤ 12 → R op = Cal.tru (Cal.related op c)) ∧ ∀ op : Int, (op = 7 ∨ op = 11) → R2 op = Cal.tru (Cal.related op (-c))))) :
    Calls Tryz.prog 7 #[vv x, vv y] w fun e w' => e = .returned (.bool true) ∧ Below w.heap.size w w' := by
  have HBEG : Hid (∀ v, Below w.heap.size w v → Calls Tryz.prog 8 #[] v fun e w' => e = .returned (.bool true) ∧ Below v.heap.size v w') := Lib.hid (fun v hb => begun14 v (hN.below hb) (hT.below rfl hb))
  have HBAD := Lib.hid lbad_any
  obtain ⟨xk, xn, xt⟩ := x
  obtain ⟨yk, yn, yt⟩ := y
  go_enter Tryz.func7, Tryz.ntmps7
  go_upto_region 1 with (fail)
  have hL0 : LO w ((w.alloc (Obj.cells #[.int .i64 xk, .int .i64 xn, .string xt] 26)).alloc (Obj.cells #[.int .i64 yk, .int .i64 yn, .string yt] 26)) ⟨xk, xn, xt⟩ ⟨yk, yn, yt⟩ (.slice none 0 0) 0 [] := by
    refine ⟨((Below.refl _ _).alloc (Nat.le_refl w.heap.size) _).alloc (by simp) _, (heap_alloc_old _ _ (by simp)).trans (heap_alloc_new _ _), ?_, World.ownsRow_nil _ _ _ _⟩
    rw [show w.heap.size + 1 = (w.alloc (Obj.cells #[.int .i64 xk, .int .i64 xn, .string xt] 26)).heap.size by simp]
    exact heap_alloc_new _ _
  generalize ((w.alloc (Obj.cells #[.int .i64 xk, .int .i64 xn, .string xt] 26)).alloc (Obj.cells #[.int .i64 yk, .int .i64 yn, .string yt] 26)) = W0 at *
  go_wp2_with (fail)
  refine (HBEG.out _ hL0.b).mono ?_
  rintro e w1 ⟨rfl, hb1⟩
  replace hL0 := hL0.call hb1
  clear hb1
  go_wp2_with (fail)
  go_loopw [5, 6] (fun lv i wr => ∃ k : Nat, k ≤ 6 ∧ i = .int .i64 (7 + (k : Int)) ∧ LO w wr ⟨xk, xn, xt⟩ ⟨yk, yn, yt⟩ lv k (csR R k)) (fun _ i _ => 13 - (intOf i).toNat)
  case atStart => exact ⟨0, Nat.zero_le _, rfl, hL0⟩
  case round =>
  obtain ⟨k, hk, rfl, hL⟩ := hrel
  obtain ⟨x0, x1, x2⟩ := val_cells hL.x
  obtain ⟨y0, y1, y2⟩ := val_cells hL.y
  by_cases hlt : k < 6
  · have hc : decide (7 + (k : Int) ≤ 12) = true := by simp; omega
    have hw : IntKind.i64.wrap (7 + (k : Int) + 1) = 7 + ((k + 1 : Nat) : Int) := by rw [IntKind.wrap_i64]; omega
    go_wp2_with (fail)
    refine (HB.out _ _ hL.b).mono ?_
    rintro e w2 ⟨rfl, hb2⟩
    replace hL := hL.call hb2
    clear hb2 x0 x1 x2 y0 y1 y2
    have HNext := Lib.hid (csR_succ R k)
    generalize R (7 + (k : Int)) = r at *
    obtain ⟨rk, rn, rt⟩ := r
    generalize csR R k = cs at *
    obtain ⟨i0, hi, hz0, hz1, hz2⟩ := info_parts infoVT
    have hL2 := fun o o2 => (hL.alloc o).alloc o2
    go_wp2_with (first | (at_builtin; refine wpList_append_own _ rfl _ _ 24 rfl (w.heap.size + 2) 26 i0 (.agg #[.int .i64 0, .int .i64 0, .string ⟨#[]⟩]) 3 32 Tryz.underlying24 hi hz0 hz1 hz2 rfl (by decide) _ _ _ rfl ((hL2 _ _).o) ⟨w2.heap.size + 1, 0, none⟩ 1 1 [.int .i64 rk, .int .i64 rn, .string rt] rfl rfl ?c1n ?c2n ?c3n ?c4n ?c5n ?_) | fail)
    case c1n =>
      have hz : ((w2.alloc (Obj.cells #[.int .i64 rk, .int .i64 rn, .string rt] 26)).alloc (Obj.cells #[.int .i64 rk, .int .i64 rn, .string rt] 26)).heap[w2.heap.size + 1]? = some (.cells #[.int .i64 rk, .int .i64 rn, .string rt] 26 (0, 0)) := by
        rw [show w2.heap.size + 1 = (w2.alloc (Obj.cells #[.int .i64 rk, .int .i64 rn, .string rt] 26)).heap.size by simp]
        exact heap_alloc_new _ _
      obtain ⟨q0, q1, q2⟩ := val_cells hz
      intro q u hq
      match q, hq with
      | 0, hq => simp at hq; subst hq; simp [Addr.add]
      | 1, hq => simp at hq; subst hq; simp [Addr.add]
      | 2, hq => simp at hq; subst hq; simp [Addr.add]
      | q + 3, hq => simp at hq
    case c2n => intro u hu; simp at hu; rcases hu with rfl | rfl | rfl <;> rfl
    case c3n => unfold maxLen; omega
    case c4n => omega
    case c5n => have := (Array.getElem?_eq_some_iff.1 hL.y).1; simp; omega
    intro v' w5 hown hgrow _
    have hL3 := ((hL.alloc _).alloc _).grown hgrow hown
    rw [← HNext.out] at hL3
    obtain ⟨g, cp', rfl⟩ := row_shape hown
    clear hL hL2 hown hgrow hi
    go_wp2_with (fail)
    go_roundw
    case rel => exact ⟨k + 1, by omega, by first | rfl | (rw [hw]), hL3⟩
    case measure => simp [intOf]; omega
  · obtain rfl : k = 6 := by omega
    have hc : decide (7 + ((6 : Nat) : Int) ≤ 12) = false := by decide
    obtain ⟨g, cap, rfl⟩ := row_shape (n := 5) hL.o
    have hcl := fun j u hu => hL.cells (g := g) (cap := cap) j u hu
    rcases HC.out with ⟨hm, hR⟩ | ⟨hm, hk4, hR⟩ | ⟨hm, hk4, hm2, hR⟩ | ⟨hm, hk4, hm2, hk5, hR⟩ | ⟨hm, hk4, hm2, hk5, hR⟩
    · rw [hm] at HM
      clear hm HC HM2
      go_wp2_with (fail)
      refine (HM.out _).mono ?_
      rintro e w3 ⟨rfl, hb3⟩
      replace hL := hL.call hb3
      clear hb3
      obtain ⟨x0, x1, x2⟩ := val_cells hL.x
      obtain ⟨y0, y1, y2⟩ := val_cells hL.y
      have hgl := (hL.o.lt g rfl).2
      have hk : (w3.alloc (Obj.cells #[.int .i64 xk, .int .i64 xn, .string xt] 26)).heap[w3.heap.size]? = some (.cells #[.int .i64 xk, .int .i64 xn, .string xt] 26 (0, 0)) := heap_alloc_new _ _
      have hlt := (Array.getElem?_eq_some_iff.1 hL.y).1
      have hLa := fun o => hL.alloc o
      have xa := fun o => val_cells (hLa o).x
      have ya := fun o => val_cells (hLa o).y
      go_wp2_with (fail)
      refine (HM.out _).mono ?_
      rintro e w4 ⟨rfl, hb⟩
      replace hk := (hb.block _ (Array.getElem?_eq_some_iff.1 hk).1).trans hk
      replace hL := (hL.alloc (Obj.cells #[.int .i64 xk, .int .i64 xn, .string xt] 26)).call hb
      clear hb hLa xa ya
      clear x0 x1 x2 y0 y1 y2
      generalize w3.heap.size = B at *
      have hB2 : w.heap.size + 2 ≤ B := by omega
      have hgB : ¬ g = B := by omega
      go_wp2_with (fail)
      refine (HBAD.out _ _).mono ?_
      rintro e w5 ⟨rfl, hb⟩
      replace hk := (hb.block _ (Array.getElem?_eq_some_iff.1 hk).1).trans hk
      replace hL := hL.call hb
      clear hb
      obtain ⟨z0, z1, z2⟩ := val_cells hk
      obtain ⟨f0, f1, f2⟩ := val_frozen hk
      go_upto_region 13 with (fail)
      replace hL := hL.kept (set3_grown w5 B (.int .i64 4) (.int .i64 4) (.string ⟨#[]⟩)) hB2 (by simp [Value.ownBlock]; omega)
      replace hk := set3_heap (d := .int .i64 4) (e := .int .i64 4) (f := .string ⟨#[]⟩) hk
      clear z0 z1 z2 f0 f1 f2
      generalize (((w5.setCell ⟨B, 0, none⟩ (.int .i64 4)).setCell ⟨B, 1, none⟩ (.int .i64 4)).setCell ⟨B, 2, none⟩ (.string ⟨#[]⟩)) = W9 at *
      have HB1 : Hid (∀ v, Below w.heap.size w v → Calls Tryz.prog 13 #[.int .i64 1, .agg #[.int .i64 xk, .int .i64 xn, .string xt], .agg #[.int .i64 yk, .int .i64 yn, .string yt]] v fun e w' => e = .returned (.agg #[.int .i64 4, .int .i64 4, .string ⟨#[]⟩]) ∧ Below v.heap.size v w') := Lib.hid (fun v hb => by have := HB.out 1 v hb; rw [hR 1 (by decide) (by decide)] at this; exact this)
      have HB6 : Hid (∀ v, Below w.heap.size w v → Calls Tryz.prog 13 #[.int .i64 6, .agg #[.int .i64 xk, .int .i64 xn, .string xt], .agg #[.int .i64 yk, .int .i64 yn, .string yt]] v fun e w' => e = .returned (.agg #[.int .i64 4, .int .i64 4, .string ⟨#[]⟩]) ∧ Below v.heap.size v w') := Lib.hid (fun v hb => by have := HB.out 6 v hb; rw [hR 6 (by decide) (by decide)] at this; exact this)
      obtain ⟨x0, x1, x2⟩ := val_cells hL.x
      obtain ⟨y0, y1, y2⟩ := val_cells hL.y
      obtain ⟨z0, z1, z2⟩ := val_cells hk
      have hcl := fun j u hu => hL.cells (g := g) (cap := cap) j u hu
      have c0 := csR_get R 6 0 (by decide)
      have c5 := csR_get R 6 5 (by decide)
      rw [show R (7 + ((0 : Nat) : Int)) = ⟨4, 4, ⟨#[]⟩⟩ from hR 7 (by decide) (by decide)] at c0
      rw [show R (7 + ((5 : Nat) : Int)) = ⟨4, 4, ⟨#[]⟩⟩ from hR 12 (by decide) (by decide)] at c5
      have hS : W9.cell? ⟨w.heap.size, 0, none⟩ = some (.int .i64 xk) ∧ W9.cell? ⟨w.heap.size, 1, none⟩ = some (.int .i64 xn) ∧ W9.cell? ⟨w.heap.size, 2, none⟩ = some (.string xt) ∧ W9.cell? ⟨(w.heap.size + 1), 0, none⟩ = some (.int .i64 yk) ∧ W9.cell? ⟨(w.heap.size + 1), 1, none⟩ = some (.int .i64 yn) ∧ W9.cell? ⟨(w.heap.size + 1), 2, none⟩ = some (.string yt) ∧ W9.cell? ⟨B, 0, none⟩ = some (.int .i64 4) ∧ W9.cell? ⟨B, 1, none⟩ = some (.int .i64 4) ∧ W9.cell? ⟨B, 2, none⟩ = some (.string ⟨#[]⟩) ∧ W9.cell? ⟨g, 0, none⟩ = some (.int .i64 4) ∧ W9.cell? ⟨g, 1, none⟩ = some (.int .i64 4) ∧ W9.cell? ⟨g, 2, none⟩ = some (.string ⟨#[]⟩) ∧ W9.cell? ⟨g, 15, none⟩ = some (.int .i64 4) ∧ W9.cell? ⟨g, 16, none⟩ = some (.int .i64 4) ∧ W9.cell? ⟨g, 17, none⟩ = some (.string ⟨#[]⟩) := ⟨x0, x1, x2, y0, y1, y2, z0, z1, z2, hcl 0 _ c0.1, hcl 1 _ c0.2.1, hcl 2 _ c0.2.2, hcl 15 _ c5.1, hcl 16 _ c5.2.1, hcl 17 _ c5.2.2⟩
      clear x0 x1 x2 y0 y1 y2 z0 z1 z2 hcl c0 c5
      have hB : Below W9.heap.size W9 W9.drew := (Below.refl _ _).drew
      go_region_held3 (fun w' => w'.cell? ⟨w.heap.size, 0, none⟩ = some (.int .i64 xk) ∧ w'.cell? ⟨w.heap.size, 1, none⟩ = some (.int .i64 xn) ∧ w'.cell? ⟨w.heap.size, 2, none⟩ = some (.string xt) ∧ w'.cell? ⟨(w.heap.size + 1), 0, none⟩ = some (.int .i64 yk) ∧ w'.cell? ⟨(w.heap.size + 1), 1, none⟩ = some (.int .i64 yn) ∧ w'.cell? ⟨(w.heap.size + 1), 2, none⟩ = some (.string yt) ∧ w'.cell? ⟨B, 0, none⟩ = some (.int .i64 4) ∧ w'.cell? ⟨B, 1, none⟩ = some (.int .i64 4) ∧ w'.cell? ⟨B, 2, none⟩ = some (.string ⟨#[]⟩) ∧ w'.cell? ⟨g, 0, none⟩ = some (.int .i64 4) ∧ w'.cell? ⟨g, 1, none⟩ = some (.int .i64 4) ∧ w'.cell? ⟨g, 2, none⟩ = some (.string ⟨#[]⟩) ∧ w'.cell? ⟨g, 15, none⟩ = some (.int .i64 4) ∧ w'.cell? ⟨g, 16, none⟩ = some (.int .i64 4) ∧ w'.cell? ⟨g, 17, none⟩ = some (.string ⟨#[]⟩))
        (first | go_keep | exact ⟨(hB.cell (p := ⟨w.heap.size, 0, none⟩) (Array.getElem?_eq_some_iff.1 hL.x).1).trans hS.1, (hB.cell (p := ⟨w.heap.size, 1, none⟩) (Array.getElem?_eq_some_iff.1 hL.x).1).trans hS.2.1, (hB.cell (p := ⟨w.heap.size, 2, none⟩) (Array.getElem?_eq_some_iff.1 hL.x).1).trans hS.2.2.1, (hB.cell (p := ⟨(w.heap.size + 1), 0, none⟩) (Array.getElem?_eq_some_iff.1 hL.y).1).trans hS.2.2.2.1, (hB.cell (p := ⟨(w.heap.size + 1), 1, none⟩) (Array.getElem?_eq_some_iff.1 hL.y).1).trans hS.2.2.2.2.1, (hB.cell (p := ⟨(w.heap.size + 1), 2, none⟩) (Array.getElem?_eq_some_iff.1 hL.y).1).trans hS.2.2.2.2.2.1, (hB.cell (p := ⟨B, 0, none⟩) (Array.getElem?_eq_some_iff.1 hk).1).trans hS.2.2.2.2.2.2.1, (hB.cell (p := ⟨B, 1, none⟩) (Array.getElem?_eq_some_iff.1 hk).1).trans hS.2.2.2.2.2.2.2.1, (hB.cell (p := ⟨B, 2, none⟩) (Array.getElem?_eq_some_iff.1 hk).1).trans hS.2.2.2.2.2.2.2.2.1, (hB.cell (p := ⟨g, 0, none⟩) (hL.o.lt g rfl).2).trans hS.2.2.2.2.2.2.2.2.2.1, (hB.cell (p := ⟨g, 1, none⟩) (hL.o.lt g rfl).2).trans hS.2.2.2.2.2.2.2.2.2.2.1, (hB.cell (p := ⟨g, 2, none⟩) (hL.o.lt g rfl).2).trans hS.2.2.2.2.2.2.2.2.2.2.2.1, (hB.cell (p := ⟨g, 15, none⟩) (hL.o.lt g rfl).2).trans hS.2.2.2.2.2.2.2.2.2.2.2.2.1, (hB.cell (p := ⟨g, 16, none⟩) (hL.o.lt g rfl).2).trans hS.2.2.2.2.2.2.2.2.2.2.2.2.2.1, (hB.cell (p := ⟨g, 17, none⟩) (hL.o.lt g rfl).2).trans hS.2.2.2.2.2.2.2.2.2.2.2.2.2.2⟩)
        (first | (go_at_call 13; with_reducible refine (HB1.out _ (hL.b.trans (hB.mono hL.b.size))).mono ?_; rintro e v ⟨rfl, hbn⟩; replace hB := hB.trans (hbn.mono hB.size); clear hbn) | (go_at_call 13; with_reducible refine (HB6.out _ (hL.b.trans (hB.mono hL.b.size))).mono ?_; rintro e v ⟨rfl, hbn⟩; replace hB := hB.trans (hbn.mono hB.size); clear hbn))
      go_wp2
      go_ret
      exact ⟨rfl, hL.b.trans (hB.mono hL.b.size)⟩
    · rw [hm] at HM
      subst hk4
      clear hm HC HM2
      go_wp2_with (fail)
      refine (HM.out _).mono ?_
      rintro e w3 ⟨rfl, hb3⟩
      replace hL := hL.call hb3
      clear hb3
      obtain ⟨x0, x1, x2⟩ := val_cells hL.x
      obtain ⟨y0, y1, y2⟩ := val_cells hL.y
      have hgl := (hL.o.lt g rfl).2
      have hk : (w3.alloc (Obj.cells #[.int .i64 4, .int .i64 xn, .string xt] 26)).heap[w3.heap.size]? = some (.cells #[.int .i64 4, .int .i64 xn, .string xt] 26 (0, 0)) := heap_alloc_new _ _
      have hlt := (Array.getElem?_eq_some_iff.1 hL.y).1
      have hLa := fun o => hL.alloc o
      have xa := fun o => val_cells (hLa o).x
      have ya := fun o => val_cells (hLa o).y
      go_wp2_with (fail)
      refine (HM.out _).mono ?_
      rintro e w4 ⟨rfl, hb⟩
      replace hk := (hb.block _ (Array.getElem?_eq_some_iff.1 hk).1).trans hk
      replace hL := (hL.alloc (Obj.cells #[.int .i64 4, .int .i64 xn, .string xt] 26)).call hb
      clear hb hLa xa ya
      clear x0 x1 x2 y0 y1 y2
      generalize w3.heap.size = B at *
      have hgB : ¬ g = B := by omega
      go_upto_region 13 with (fail)
      have HB1 : Hid (∀ v, Below w.heap.size w v → Calls Tryz.prog 13 #[.int .i64 1, .agg #[.int .i64 4, .int .i64 xn, .string xt], .agg #[.int .i64 yk, .int .i64 yn, .string yt]] v fun e w' => e = .returned (.agg #[.int .i64 4, .int .i64 xn, .string xt]) ∧ Below v.heap.size v w') := Lib.hid (fun v hb => by have := HB.out 1 v hb; rw [hR 1 (by decide) (by decide)] at this; exact this)
      have HB6 : Hid (∀ v, Below w.heap.size w v → Calls Tryz.prog 13 #[.int .i64 6, .agg #[.int .i64 4, .int .i64 xn, .string xt], .agg #[.int .i64 yk, .int .i64 yn, .string yt]] v fun e w' => e = .returned (.agg #[.int .i64 4, .int .i64 xn, .string xt]) ∧ Below v.heap.size v w') := Lib.hid (fun v hb => by have := HB.out 6 v hb; rw [hR 6 (by decide) (by decide)] at this; exact this)
      obtain ⟨x0, x1, x2⟩ := val_cells hL.x
      obtain ⟨y0, y1, y2⟩ := val_cells hL.y
      obtain ⟨z0, z1, z2⟩ := val_cells hk
      have hcl := fun j u hu => hL.cells (g := g) (cap := cap) j u hu
      have c0 := csR_get R 6 0 (by decide)
      have c5 := csR_get R 6 5 (by decide)
      rw [show R (7 + ((0 : Nat) : Int)) = ⟨4, xn, xt⟩ from hR 7 (by decide) (by decide)] at c0
      rw [show R (7 + ((5 : Nat) : Int)) = ⟨4, xn, xt⟩ from hR 12 (by decide) (by decide)] at c5
      have hS : w4.cell? ⟨w.heap.size, 0, none⟩ = some (.int .i64 4) ∧ w4.cell? ⟨w.heap.size, 1, none⟩ = some (.int .i64 xn) ∧ w4.cell? ⟨w.heap.size, 2, none⟩ = some (.string xt) ∧ w4.cell? ⟨(w.heap.size + 1), 0, none⟩ = some (.int .i64 yk) ∧ w4.cell? ⟨(w.heap.size + 1), 1, none⟩ = some (.int .i64 yn) ∧ w4.cell? ⟨(w.heap.size + 1), 2, none⟩ = some (.string yt) ∧ w4.cell? ⟨B, 0, none⟩ = some (.int .i64 4) ∧ w4.cell? ⟨B, 1, none⟩ = some (.int .i64 xn) ∧ w4.cell? ⟨B, 2, none⟩ = some (.string xt) ∧ w4.cell? ⟨g, 0, none⟩ = some (.int .i64 4) ∧ w4.cell? ⟨g, 1, none⟩ = some (.int .i64 xn) ∧ w4.cell? ⟨g, 2, none⟩ = some (.string xt) ∧ w4.cell? ⟨g, 15, none⟩ = some (.int .i64 4) ∧ w4.cell? ⟨g, 16, none⟩ = some (.int .i64 xn) ∧ w4.cell? ⟨g, 17, none⟩ = some (.string xt) := ⟨x0, x1, x2, y0, y1, y2, z0, z1, z2, hcl 0 _ c0.1, hcl 1 _ c0.2.1, hcl 2 _ c0.2.2, hcl 15 _ c5.1, hcl 16 _ c5.2.1, hcl 17 _ c5.2.2⟩
      clear x0 x1 x2 y0 y1 y2 z0 z1 z2 hcl c0 c5
      have hB : Below w4.heap.size w4 w4.drew := (Below.refl _ _).drew
      go_region_held3 (fun w' => w'.cell? ⟨w.heap.size, 0, none⟩ = some (.int .i64 4) ∧ w'.cell? ⟨w.heap.size, 1, none⟩ = some (.int .i64 xn) ∧ w'.cell? ⟨w.heap.size, 2, none⟩ = some (.string xt) ∧ w'.cell? ⟨(w.heap.size + 1), 0, none⟩ = some (.int .i64 yk) ∧ w'.cell? ⟨(w.heap.size + 1), 1, none⟩ = some (.int .i64 yn) ∧ w'.cell? ⟨(w.heap.size + 1), 2, none⟩ = some (.string yt) ∧ w'.cell? ⟨B, 0, none⟩ = some (.int .i64 4) ∧ w'.cell? ⟨B, 1, none⟩ = some (.int .i64 xn) ∧ w'.cell? ⟨B, 2, none⟩ = some (.string xt) ∧ w'.cell? ⟨g, 0, none⟩ = some (.int .i64 4) ∧ w'.cell? ⟨g, 1, none⟩ = some (.int .i64 xn) ∧ w'.cell? ⟨g, 2, none⟩ = some (.string xt) ∧ w'.cell? ⟨g, 15, none⟩ = some (.int .i64 4) ∧ w'.cell? ⟨g, 16, none⟩ = some (.int .i64 xn) ∧ w'.cell? ⟨g, 17, none⟩ = some (.string xt))
        (first | go_keep | exact ⟨(hB.cell (p := ⟨w.heap.size, 0, none⟩) (Array.getElem?_eq_some_iff.1 hL.x).1).trans hS.1, (hB.cell (p := ⟨w.heap.size, 1, none⟩) (Array.getElem?_eq_some_iff.1 hL.x).1).trans hS.2.1, (hB.cell (p := ⟨w.heap.size, 2, none⟩) (Array.getElem?_eq_some_iff.1 hL.x).1).trans hS.2.2.1, (hB.cell (p := ⟨(w.heap.size + 1), 0, none⟩) (Array.getElem?_eq_some_iff.1 hL.y).1).trans hS.2.2.2.1, (hB.cell (p := ⟨(w.heap.size + 1), 1, none⟩) (Array.getElem?_eq_some_iff.1 hL.y).1).trans hS.2.2.2.2.1, (hB.cell (p := ⟨(w.heap.size + 1), 2, none⟩) (Array.getElem?_eq_some_iff.1 hL.y).1).trans hS.2.2.2.2.2.1, (hB.cell (p := ⟨B, 0, none⟩) (Array.getElem?_eq_some_iff.1 hk).1).trans hS.2.2.2.2.2.2.1, (hB.cell (p := ⟨B, 1, none⟩) (Array.getElem?_eq_some_iff.1 hk).1).trans hS.2.2.2.2.2.2.2.1, (hB.cell (p := ⟨B, 2, none⟩) (Array.getElem?_eq_some_iff.1 hk).1).trans hS.2.2.2.2.2.2.2.2.1, (hB.cell (p := ⟨g, 0, none⟩) (hL.o.lt g rfl).2).trans hS.2.2.2.2.2.2.2.2.2.1, (hB.cell (p := ⟨g, 1, none⟩) (hL.o.lt g rfl).2).trans hS.2.2.2.2.2.2.2.2.2.2.1, (hB.cell (p := ⟨g, 2, none⟩) (hL.o.lt g rfl).2).trans hS.2.2.2.2.2.2.2.2.2.2.2.1, (hB.cell (p := ⟨g, 15, none⟩) (hL.o.lt g rfl).2).trans hS.2.2.2.2.2.2.2.2.2.2.2.2.1, (hB.cell (p := ⟨g, 16, none⟩) (hL.o.lt g rfl).2).trans hS.2.2.2.2.2.2.2.2.2.2.2.2.2.1, (hB.cell (p := ⟨g, 17, none⟩) (hL.o.lt g rfl).2).trans hS.2.2.2.2.2.2.2.2.2.2.2.2.2.2⟩)
        (first | (go_at_call 13; with_reducible refine (HB1.out _ (hL.b.trans (hB.mono hL.b.size))).mono ?_; rintro e v ⟨rfl, hbn⟩; replace hB := hB.trans (hbn.mono hB.size); clear hbn) | (go_at_call 13; with_reducible refine (HB6.out _ (hL.b.trans (hB.mono hL.b.size))).mono ?_; rintro e v ⟨rfl, hbn⟩; replace hB := hB.trans (hbn.mono hB.size); clear hbn))
      go_wp2
      go_ret
      exact ⟨rfl, hL.b.trans (hB.mono hL.b.size)⟩
    · rw [hm] at HM
      rw [hm2] at HM2
      clear hm hm2 HC
      go_wp2_with (fail)
      refine (HM.out _).mono ?_
      rintro e w3 ⟨rfl, hb3⟩
      replace hL := hL.call hb3
      clear hb3
      obtain ⟨x0, x1, x2⟩ := val_cells hL.x
      obtain ⟨y0, y1, y2⟩ := val_cells hL.y
      go_wp2_with (fail)
      refine (HM2.out _).mono ?_
      rintro e w4 ⟨rfl, hb4⟩
      replace hL := hL.call hb4
      clear hb4
      obtain ⟨x0, x1, x2⟩ := val_cells hL.x
      obtain ⟨y0, y1, y2⟩ := val_cells hL.y
      have hgl := (hL.o.lt g rfl).2
      have hk : (w4.alloc (Obj.cells #[.int .i64 yk, .int .i64 yn, .string yt] 26)).heap[w4.heap.size]? = some (.cells #[.int .i64 yk, .int .i64 yn, .string yt] 26 (0, 0)) := heap_alloc_new _ _
      have hlt := (Array.getElem?_eq_some_iff.1 hL.y).1
      have hLa := fun o => hL.alloc o
      have xa := fun o => val_cells (hLa o).x
      have ya := fun o => val_cells (hLa o).y
      go_wp2_with (fail)
      refine (HM2.out _).mono ?_
      rintro e w5 ⟨rfl, hb⟩
      replace hk := (hb.block _ (Array.getElem?_eq_some_iff.1 hk).1).trans hk
      replace hL := (hL.alloc (Obj.cells #[.int .i64 yk, .int .i64 yn, .string yt] 26)).call hb
      clear hb hLa xa ya
      clear x0 x1 x2 y0 y1 y2
      generalize w4.heap.size = B at *
      have hB2 : w.heap.size + 2 ≤ B := by omega
      have hgB : ¬ g = B := by omega
      go_wp2_with (fail)
      refine (HBAD.out _ _).mono ?_
      rintro e w6 ⟨rfl, hb⟩
      replace hk := (hb.block _ (Array.getElem?_eq_some_iff.1 hk).1).trans hk
      replace hL := hL.call hb
      clear hb
      obtain ⟨z0, z1, z2⟩ := val_cells hk
      obtain ⟨f0, f1, f2⟩ := val_frozen hk
      go_upto_region 18 with (fail)
      replace hL := hL.kept (set3_grown w6 B (.int .i64 4) (.int .i64 4) (.string ⟨#[]⟩)) hB2 (by simp [Value.ownBlock]; omega)
      replace hk := set3_heap (d := .int .i64 4) (e := .int .i64 4) (f := .string ⟨#[]⟩) hk
      clear z0 z1 z2 f0 f1 f2
      generalize (((w6.setCell ⟨B, 0, none⟩ (.int .i64 4)).setCell ⟨B, 1, none⟩ (.int .i64 4)).setCell ⟨B, 2, none⟩ (.string ⟨#[]⟩)) = W9 at *
      have HB2 : Hid (∀ v, Below w.heap.size w v → Calls Tryz.prog 13 #[.int .i64 2, .agg #[.int .i64 xk, .int .i64 xn, .string xt], .agg #[.int .i64 yk, .int .i64 yn, .string yt]] v fun e w' => e = .returned (.agg #[.int .i64 4, .int .i64 4, .string ⟨#[]⟩]) ∧ Below v.heap.size v w') := Lib.hid (fun v hb => by have := HB.out 2 v hb; rw [hR 2 (by decide) (by decide)] at this; exact this)
      obtain ⟨x0, x1, x2⟩ := val_cells hL.x
      obtain ⟨y0, y1, y2⟩ := val_cells hL.y
      obtain ⟨z0, z1, z2⟩ := val_cells hk
      have hcl := fun j u hu => hL.cells (g := g) (cap := cap) j u hu
      have c0 := csR_get R 6 0 (by decide)
      have c5 := csR_get R 6 5 (by decide)
      rw [show R (7 + ((0 : Nat) : Int)) = ⟨4, 4, ⟨#[]⟩⟩ from hR 7 (by decide) (by decide)] at c0
      rw [show R (7 + ((5 : Nat) : Int)) = ⟨4, 4, ⟨#[]⟩⟩ from hR 12 (by decide) (by decide)] at c5
      have hS : W9.cell? ⟨w.heap.size, 0, none⟩ = some (.int .i64 xk) ∧ W9.cell? ⟨w.heap.size, 1, none⟩ = some (.int .i64 xn) ∧ W9.cell? ⟨w.heap.size, 2, none⟩ = some (.string xt) ∧ W9.cell? ⟨(w.heap.size + 1), 0, none⟩ = some (.int .i64 yk) ∧ W9.cell? ⟨(w.heap.size + 1), 1, none⟩ = some (.int .i64 yn) ∧ W9.cell? ⟨(w.heap.size + 1), 2, none⟩ = some (.string yt) ∧ W9.cell? ⟨B, 0, none⟩ = some (.int .i64 4) ∧ W9.cell? ⟨B, 1, none⟩ = some (.int .i64 4) ∧ W9.cell? ⟨B, 2, none⟩ = some (.string ⟨#[]⟩) ∧ W9.cell? ⟨g, 0, none⟩ = some (.int .i64 4) ∧ W9.cell? ⟨g, 1, none⟩ = some (.int .i64 4) ∧ W9.cell? ⟨g, 2, none⟩ = some (.string ⟨#[]⟩) ∧ W9.cell? ⟨g, 15, none⟩ = some (.int .i64 4) ∧ W9.cell? ⟨g, 16, none⟩ = some (.int .i64 4) ∧ W9.cell? ⟨g, 17, none⟩ = some (.string ⟨#[]⟩) := ⟨x0, x1, x2, y0, y1, y2, z0, z1, z2, hcl 0 _ c0.1, hcl 1 _ c0.2.1, hcl 2 _ c0.2.2, hcl 15 _ c5.1, hcl 16 _ c5.2.1, hcl 17 _ c5.2.2⟩
      clear x0 x1 x2 y0 y1 y2 z0 z1 z2 hcl c0 c5
      have hB : Below W9.heap.size W9 W9.drew := (Below.refl _ _).drew
      go_region_held3 (fun w' => w'.cell? ⟨w.heap.size, 0, none⟩ = some (.int .i64 xk) ∧ w'.cell? ⟨w.heap.size, 1, none⟩ = some (.int .i64 xn) ∧ w'.cell? ⟨w.heap.size, 2, none⟩ = some (.string xt) ∧ w'.cell? ⟨(w.heap.size + 1), 0, none⟩ = some (.int .i64 yk) ∧ w'.cell? ⟨(w.heap.size + 1), 1, none⟩ = some (.int .i64 yn) ∧ w'.cell? ⟨(w.heap.size + 1), 2, none⟩ = some (.string yt) ∧ w'.cell? ⟨B, 0, none⟩ = some (.int .i64 4) ∧ w'.cell? ⟨B, 1, none⟩ = some (.int .i64 4) ∧ w'.cell? ⟨B, 2, none⟩ = some (.string ⟨#[]⟩) ∧ w'.cell? ⟨g, 0, none⟩ = some (.int .i64 4) ∧ w'.cell? ⟨g, 1, none⟩ = some (.int .i64 4) ∧ w'.cell? ⟨g, 2, none⟩ = some (.string ⟨#[]⟩) ∧ w'.cell? ⟨g, 15, none⟩ = some (.int .i64 4) ∧ w'.cell? ⟨g, 16, none⟩ = some (.int .i64 4) ∧ w'.cell? ⟨g, 17, none⟩ = some (.string ⟨#[]⟩))
        (first | go_keep | exact ⟨(hB.cell (p := ⟨w.heap.size, 0, none⟩) (Array.getElem?_eq_some_iff.1 hL.x).1).trans hS.1, (hB.cell (p := ⟨w.heap.size, 1, none⟩) (Array.getElem?_eq_some_iff.1 hL.x).1).trans hS.2.1, (hB.cell (p := ⟨w.heap.size, 2, none⟩) (Array.getElem?_eq_some_iff.1 hL.x).1).trans hS.2.2.1, (hB.cell (p := ⟨(w.heap.size + 1), 0, none⟩) (Array.getElem?_eq_some_iff.1 hL.y).1).trans hS.2.2.2.1, (hB.cell (p := ⟨(w.heap.size + 1), 1, none⟩) (Array.getElem?_eq_some_iff.1 hL.y).1).trans hS.2.2.2.2.1, (hB.cell (p := ⟨(w.heap.size + 1), 2, none⟩) (Array.getElem?_eq_some_iff.1 hL.y).1).trans hS.2.2.2.2.2.1, (hB.cell (p := ⟨B, 0, none⟩) (Array.getElem?_eq_some_iff.1 hk).1).trans hS.2.2.2.2.2.2.1, (hB.cell (p := ⟨B, 1, none⟩) (Array.getElem?_eq_some_iff.1 hk).1).trans hS.2.2.2.2.2.2.2.1, (hB.cell (p := ⟨B, 2, none⟩) (Array.getElem?_eq_some_iff.1 hk).1).trans hS.2.2.2.2.2.2.2.2.1, (hB.cell (p := ⟨g, 0, none⟩) (hL.o.lt g rfl).2).trans hS.2.2.2.2.2.2.2.2.2.1, (hB.cell (p := ⟨g, 1, none⟩) (hL.o.lt g rfl).2).trans hS.2.2.2.2.2.2.2.2.2.2.1, (hB.cell (p := ⟨g, 2, none⟩) (hL.o.lt g rfl).2).trans hS.2.2.2.2.2.2.2.2.2.2.2.1, (hB.cell (p := ⟨g, 15, none⟩) (hL.o.lt g rfl).2).trans hS.2.2.2.2.2.2.2.2.2.2.2.2.1, (hB.cell (p := ⟨g, 16, none⟩) (hL.o.lt g rfl).2).trans hS.2.2.2.2.2.2.2.2.2.2.2.2.2.1, (hB.cell (p := ⟨g, 17, none⟩) (hL.o.lt g rfl).2).trans hS.2.2.2.2.2.2.2.2.2.2.2.2.2.2⟩)
        (first | (go_at_call 13; with_reducible refine (HB2.out _ (hL.b.trans (hB.mono hL.b.size))).mono ?_; rintro e v ⟨rfl, hbn⟩; replace hB := hB.trans (hbn.mono hB.size); clear hbn))
      go_wp2
      go_ret
      exact ⟨rfl, hL.b.trans (hB.mono hL.b.size)⟩
    · rw [hm] at HM
      rw [hm2] at HM2
      subst hk5
      clear hm hm2 HC
      go_wp2_with (fail)
      refine (HM.out _).mono ?_
      rintro e w3 ⟨rfl, hb3⟩
      replace hL := hL.call hb3
      clear hb3
      obtain ⟨x0, x1, x2⟩ := val_cells hL.x
      obtain ⟨y0, y1, y2⟩ := val_cells hL.y
      go_wp2_with (fail)
      refine (HM2.out _).mono ?_
      rintro e w4 ⟨rfl, hb4⟩
      replace hL := hL.call hb4
      clear hb4
      obtain ⟨x0, x1, x2⟩ := val_cells hL.x
      obtain ⟨y0, y1, y2⟩ := val_cells hL.y
      have hgl := (hL.o.lt g rfl).2
      have hk : (w4.alloc (Obj.cells #[.int .i64 4, .int .i64 yn, .string yt] 26)).heap[w4.heap.size]? = some (.cells #[.int .i64 4, .int .i64 yn, .string yt] 26 (0, 0)) := heap_alloc_new _ _
      have hlt := (Array.getElem?_eq_some_iff.1 hL.y).1
      have hLa := fun o => hL.alloc o
      have xa := fun o => val_cells (hLa o).x
      have ya := fun o => val_cells (hLa o).y
      go_wp2_with (fail)
      refine (HM2.out _).mono ?_
      rintro e w5 ⟨rfl, hb⟩
      replace hk := (hb.block _ (Array.getElem?_eq_some_iff.1 hk).1).trans hk
      replace hL := (hL.alloc (Obj.cells #[.int .i64 4, .int .i64 yn, .string yt] 26)).call hb
      clear hb hLa xa ya
      clear x0 x1 x2 y0 y1 y2
      generalize w4.heap.size = B at *
      have hgB : ¬ g = B := by omega
      go_upto_region 18 with (fail)
      have HB2 : Hid (∀ v, Below w.heap.size w v → Calls Tryz.prog 13 #[.int .i64 2, .agg #[.int .i64 xk, .int .i64 xn, .string xt], .agg #[.int .i64 4, .int .i64 yn, .string yt]] v fun e w' => e = .returned (.agg #[.int .i64 4, .int .i64 yn, .string yt]) ∧ Below v.heap.size v w') := Lib.hid (fun v hb => by have := HB.out 2 v hb; rw [hR 2 (by decide) (by decide)] at this; exact this)
      obtain ⟨x0, x1, x2⟩ := val_cells hL.x
      obtain ⟨y0, y1, y2⟩ := val_cells hL.y
      obtain ⟨z0, z1, z2⟩ := val_cells hk
      have hcl := fun j u hu => hL.cells (g := g) (cap := cap) j u hu
      have c0 := csR_get R 6 0 (by decide)
      have c5 := csR_get R 6 5 (by decide)
      rw [show R (7 + ((0 : Nat) : Int)) = ⟨4, yn, yt⟩ from hR 7 (by decide) (by decide)] at c0
      rw [show R (7 + ((5 : Nat) : Int)) = ⟨4, yn, yt⟩ from hR 12 (by decide) (by decide)] at c5
      have hS : w5.cell? ⟨w.heap.size, 0, none⟩ = some (.int .i64 xk) ∧ w5.cell? ⟨w.heap.size, 1, none⟩ = some (.int .i64 xn) ∧ w5.cell? ⟨w.heap.size, 2, none⟩ = some (.string xt) ∧ w5.cell? ⟨(w.heap.size + 1), 0, none⟩ = some (.int .i64 4) ∧ w5.cell? ⟨(w.heap.size + 1), 1, none⟩ = some (.int .i64 yn) ∧ w5.cell? ⟨(w.heap.size + 1), 2, none⟩ = some (.string yt) ∧ w5.cell? ⟨B, 0, none⟩ = some (.int .i64 4) ∧ w5.cell? ⟨B, 1, none⟩ = some (.int .i64 yn) ∧ w5.cell? ⟨B, 2, none⟩ = some (.string yt) ∧ w5.cell? ⟨g, 0, none⟩ = some (.int .i64 4) ∧ w5.cell? ⟨g, 1, none⟩ = some (.int .i64 yn) ∧ w5.cell? ⟨g, 2, none⟩ = some (.string yt) ∧ w5.cell? ⟨g, 15, none⟩ = some (.int .i64 4) ∧ w5.cell? ⟨g, 16, none⟩ = some (.int .i64 yn) ∧ w5.cell? ⟨g, 17, none⟩ = some (.string yt) := ⟨x0, x1, x2, y0, y1, y2, z0, z1, z2, hcl 0 _ c0.1, hcl 1 _ c0.2.1, hcl 2 _ c0.2.2, hcl 15 _ c5.1, hcl 16 _ c5.2.1, hcl 17 _ c5.2.2⟩
      clear x0 x1 x2 y0 y1 y2 z0 z1 z2 hcl c0 c5
      have hB : Below w5.heap.size w5 w5.drew := (Below.refl _ _).drew
      go_region_held3 (fun w' => w'.cell? ⟨w.heap.size, 0, none⟩ = some (.int .i64 xk) ∧ w'.cell? ⟨w.heap.size, 1, none⟩ = some (.int .i64 xn) ∧ w'.cell? ⟨w.heap.size, 2, none⟩ = some (.string xt) ∧ w'.cell? ⟨(w.heap.size + 1), 0, none⟩ = some (.int .i64 4) ∧ w'.cell? ⟨(w.heap.size + 1), 1, none⟩ = some (.int .i64 yn) ∧ w'.cell? ⟨(w.heap.size + 1), 2, none⟩ = some (.string yt) ∧ w'.cell? ⟨B, 0, none⟩ = some (.int .i64 4) ∧ w'.cell? ⟨B, 1, none⟩ = some (.int .i64 yn) ∧ w'.cell? ⟨B, 2, none⟩ = some (.string yt) ∧ w'.cell? ⟨g, 0, none⟩ = some (.int .i64 4) ∧ w'.cell? ⟨g, 1, none⟩ = some (.int .i64 yn) ∧ w'.cell? ⟨g, 2, none⟩ = some (.string yt) ∧ w'.cell? ⟨g, 15, none⟩ = some (.int .i64 4) ∧ w'.cell? ⟨g, 16, none⟩ = some (.int .i64 yn) ∧ w'.cell? ⟨g, 17, none⟩ = some (.string yt))
        (first | go_keep | exact ⟨(hB.cell (p := ⟨w.heap.size, 0, none⟩) (Array.getElem?_eq_some_iff.1 hL.x).1).trans hS.1, (hB.cell (p := ⟨w.heap.size, 1, none⟩) (Array.getElem?_eq_some_iff.1 hL.x).1).trans hS.2.1, (hB.cell (p := ⟨w.heap.size, 2, none⟩) (Array.getElem?_eq_some_iff.1 hL.x).1).trans hS.2.2.1, (hB.cell (p := ⟨(w.heap.size + 1), 0, none⟩) (Array.getElem?_eq_some_iff.1 hL.y).1).trans hS.2.2.2.1, (hB.cell (p := ⟨(w.heap.size + 1), 1, none⟩) (Array.getElem?_eq_some_iff.1 hL.y).1).trans hS.2.2.2.2.1, (hB.cell (p := ⟨(w.heap.size + 1), 2, none⟩) (Array.getElem?_eq_some_iff.1 hL.y).1).trans hS.2.2.2.2.2.1, (hB.cell (p := ⟨B, 0, none⟩) (Array.getElem?_eq_some_iff.1 hk).1).trans hS.2.2.2.2.2.2.1, (hB.cell (p := ⟨B, 1, none⟩) (Array.getElem?_eq_some_iff.1 hk).1).trans hS.2.2.2.2.2.2.2.1, (hB.cell (p := ⟨B, 2, none⟩) (Array.getElem?_eq_some_iff.1 hk).1).trans hS.2.2.2.2.2.2.2.2.1, (hB.cell (p := ⟨g, 0, none⟩) (hL.o.lt g rfl).2).trans hS.2.2.2.2.2.2.2.2.2.1, (hB.cell (p := ⟨g, 1, none⟩) (hL.o.lt g rfl).2).trans hS.2.2.2.2.2.2.2.2.2.2.1, (hB.cell (p := ⟨g, 2, none⟩) (hL.o.lt g rfl).2).trans hS.2.2.2.2.2.2.2.2.2.2.2.1, (hB.cell (p := ⟨g, 15, none⟩) (hL.o.lt g rfl).2).trans hS.2.2.2.2.2.2.2.2.2.2.2.2.1, (hB.cell (p := ⟨g, 16, none⟩) (hL.o.lt g rfl).2).trans hS.2.2.2.2.2.2.2.2.2.2.2.2.2.1, (hB.cell (p := ⟨g, 17, none⟩) (hL.o.lt g rfl).2).trans hS.2.2.2.2.2.2.2.2.2.2.2.2.2.2⟩)
        (first | (go_at_call 13; with_reducible refine (HB2.out _ (hL.b.trans (hB.mono hL.b.size))).mono ?_; rintro e v ⟨rfl, hbn⟩; replace hB := hB.trans (hbn.mono hB.size); clear hbn))
      go_wp2
      go_ret
      exact ⟨rfl, hL.b.trans (hB.mono hL.b.size)⟩
    · rw [hm] at HM
      rw [hm2] at HM2
      clear hm hm2 HC
      go_wp2_with (fail)
      refine (HM.out _).mono ?_
      rintro e w3 ⟨rfl, hb3⟩
      replace hL := hL.call hb3
      clear hb3
      obtain ⟨x0, x1, x2⟩ := val_cells hL.x
      obtain ⟨y0, y1, y2⟩ := val_cells hL.y
      go_wp2_with (fail)
      refine (HM2.out _).mono ?_
      rintro e w4 ⟨rfl, hb4⟩
      replace hL := hL.call hb4
      clear hb4
      obtain ⟨x0, x1, x2⟩ := val_cells hL.x
      obtain ⟨y0, y1, y2⟩ := val_cells hL.y
      obtain ⟨c, hc3, hR, hS⟩ := hR
      have s7 := hS 7 (.inl rfl)
      have s11 := hS 11 (.inr rfl)
      have HY7 := Lib.hid (fun v hb => HBy.out 7 v hb)
      have HY11 := Lib.hid (fun v hb => HBy.out 11 v hb)
      rw [s7] at HY7
      rw [s11] at HY11
      have HK : Hid (∀ i, i < 6 → w4.cell? ⟨g, i * 3, none⟩ = some (.int .i64 2)) := Lib.hid (fun i hi => by
        have h := hL.cells (g := g) (cap := cap) (i * 3) _ (csR_get R 6 i hi).1
        rw [hR (7 + (i : Int)) (by omega) (by omega)] at h
        exact h)
      clear HB HBy s7 s11 hS HBAD HBEG HM HM2
      have HN : Hid (∀ i, i < 6 → w4.cell? ⟨g, i * 3 + 1, none⟩ = some (.int .i64 (cond (Cal.related (7 + (i : Int)) c) 1 0))) := Lib.hid (fun i hi => by
        have h := hL.cells (g := g) (cap := cap) (i * 3 + 1) _ (csR_get R 6 i hi).2.1
        rw [hR (7 + (i : Int)) (by omega) (by omega)] at h
        exact h)
      clear hR
      go_wp2_with (fail)
      go_loopw [10] (fun i wr => wr = w4 ∧ ∃ k : Nat, k ≤ 6 ∧ i = .int .i64 (k : Int)) (fun i _ => 6 - (intOf i).toNat)
      case atStart => exact ⟨rfl, 0, Nat.zero_le _, rfl⟩
      case round =>
      obtain ⟨rfl, k, hk, rfl⟩ := hrel
      by_cases hlt : k < 6
      · have ck := HK.out k hlt
        go_wp2_with (fail)
        go_roundw
        case rel => exact ⟨by first | trivial | rfl, k + 1, by omega, by go_num⟩
        case measure => simp [intOf]; omega
      · obtain rfl : k = 6 := by omega
        clear HK hlt
        rcases hc3 with rfl | rfl | rfl
        · have n0 : wr.cell? ⟨g, 1, none⟩ = some (.int .i64 0) := HN.out 0 (by decide)
          have n1 : wr.cell? ⟨g, 4, none⟩ = some (.int .i64 1) := HN.out 1 (by decide)
          have n2 : wr.cell? ⟨g, 7, none⟩ = some (.int .i64 1) := HN.out 2 (by decide)
          have n3 : wr.cell? ⟨g, 10, none⟩ = some (.int .i64 1) := HN.out 3 (by decide)
          have n4 : wr.cell? ⟨g, 13, none⟩ = some (.int .i64 0) := HN.out 4 (by decide)
          have n5 : wr.cell? ⟨g, 16, none⟩ = some (.int .i64 0) := HN.out 5 (by decide)
          have K7 : Hid (∀ v, Below w.heap.size w v → Calls Tryz.prog 13 #[.int .i64 7, .agg #[.int .i64 yk, .int .i64 yn, .string yt], .agg #[.int .i64 xk, .int .i64 xn, .string xt]] v fun e w' => e = .returned (.agg #[.int .i64 2, .int .i64 0, .string ⟨#[]⟩]) ∧ Below v.heap.size v w') := Lib.hid HY7.out
          have K11 : Hid (∀ v, Below w.heap.size w v → Calls Tryz.prog 13 #[.int .i64 11, .agg #[.int .i64 yk, .int .i64 yn, .string yt], .agg #[.int .i64 xk, .int .i64 xn, .string xt]] v fun e w' => e = .returned (.agg #[.int .i64 2, .int .i64 1, .string ⟨#[]⟩]) ∧ Below v.heap.size v w') := Lib.hid HY11.out
          clear HY7 HY11 HN
          have a0 : IntKind.i64.wrap 0 = 0 := by decide
          have a1 : IntKind.i64.wrap 1 = 1 := by decide
          have hfld : ∀ (n : Int) (w : World), (Instr.field 26 (.agg #[.int .i64 2, .int .i64 n, .string ⟨#[]⟩]) 1).run Tryz.prog w = .ok (.int .i64 n) w := fun n w => by kernel_rfl
          go_wp2_with (fail)
          go_quiet (fail)
          replace hL := hL.call (⟨rfl, rfl, rfl, Nat.le_refl _, fun _ _ => rfl⟩ : Below wr.heap.size wr (wr.drewN nq))
          clear n0 n1 n2 n3 n4 n5 x0 x1 x2 y0 y1 y2
          obtain ⟨x0, x1, x2⟩ := val_cells hL.x
          obtain ⟨y0, y1, y2⟩ := val_cells hL.y
          go_wp2_with (fail)
          refine (K7.out _ hL.b).mono ?_
          rintro e w6 ⟨rfl, hb6⟩
          replace hL := hL.call hb6
          clear hb6
          obtain ⟨x0, x1, x2⟩ := val_cells hL.x
          obtain ⟨y0, y1, y2⟩ := val_cells hL.y
          go_wp2_with (fail)
          refine (K11.out _ hL.b).mono ?_
          rintro e w7 ⟨rfl, hb7⟩
          replace hL := hL.call hb7
          clear hb7
          obtain ⟨x0, x1, x2⟩ := val_cells hL.x
          obtain ⟨y0, y1, y2⟩ := val_cells hL.y
          go_wp2
          go_ret
          exact ⟨rfl, hL.b⟩
        · have n0 : wr.cell? ⟨g, 1, none⟩ = some (.int .i64 1) := HN.out 0 (by decide)
          have n1 : wr.cell? ⟨g, 4, none⟩ = some (.int .i64 0) := HN.out 1 (by decide)
          have n2 : wr.cell? ⟨g, 7, none⟩ = some (.int .i64 0) := HN.out 2 (by decide)
          have n3 : wr.cell? ⟨g, 10, none⟩ = some (.int .i64 1) := HN.out 3 (by decide)
          have n4 : wr.cell? ⟨g, 13, none⟩ = some (.int .i64 0) := HN.out 4 (by decide)
          have n5 : wr.cell? ⟨g, 16, none⟩ = some (.int .i64 1) := HN.out 5 (by decide)
          have K7 : Hid (∀ v, Below w.heap.size w v → Calls Tryz.prog 13 #[.int .i64 7, .agg #[.int .i64 yk, .int .i64 yn, .string yt], .agg #[.int .i64 xk, .int .i64 xn, .string xt]] v fun e w' => e = .returned (.agg #[.int .i64 2, .int .i64 1, .string ⟨#[]⟩]) ∧ Below v.heap.size v w') := Lib.hid HY7.out
          have K11 : Hid (∀ v, Below w.heap.size w v → Calls Tryz.prog 13 #[.int .i64 11, .agg #[.int .i64 yk, .int .i64 yn, .string yt], .agg #[.int .i64 xk, .int .i64 xn, .string xt]] v fun e w' => e = .returned (.agg #[.int .i64 2, .int .i64 0, .string ⟨#[]⟩]) ∧ Below v.heap.size v w') := Lib.hid HY11.out
          clear HY7 HY11 HN
          have a0 : IntKind.i64.wrap 0 = 0 := by decide
          have a1 : IntKind.i64.wrap 1 = 1 := by decide
          have hfld : ∀ (n : Int) (w : World), (Instr.field 26 (.agg #[.int .i64 2, .int .i64 n, .string ⟨#[]⟩]) 1).run Tryz.prog w = .ok (.int .i64 n) w := fun n w => by kernel_rfl
          go_wp2_with (fail)
          go_quiet (fail)
          replace hL := hL.call (⟨rfl, rfl, rfl, Nat.le_refl _, fun _ _ => rfl⟩ : Below wr.heap.size wr (wr.drewN nq))
          clear n0 n1 n2 n3 n4 n5 x0 x1 x2 y0 y1 y2
          obtain ⟨x0, x1, x2⟩ := val_cells hL.x
          obtain ⟨y0, y1, y2⟩ := val_cells hL.y
          go_wp2_with (fail)
          refine (K7.out _ hL.b).mono ?_
          rintro e w6 ⟨rfl, hb6⟩
          replace hL := hL.call hb6
          clear hb6
          obtain ⟨x0, x1, x2⟩ := val_cells hL.x
          obtain ⟨y0, y1, y2⟩ := val_cells hL.y
          go_wp2_with (fail)
          refine (K11.out _ hL.b).mono ?_
          rintro e w7 ⟨rfl, hb7⟩
          replace hL := hL.call hb7
          clear hb7
          obtain ⟨x0, x1, x2⟩ := val_cells hL.x
          obtain ⟨y0, y1, y2⟩ := val_cells hL.y
          go_wp2
          go_ret
          exact ⟨rfl, hL.b⟩
        · have n0 : wr.cell? ⟨g, 1, none⟩ = some (.int .i64 0) := HN.out 0 (by decide)
          have n1 : wr.cell? ⟨g, 4, none⟩ = some (.int .i64 1) := HN.out 1 (by decide)
          have n2 : wr.cell? ⟨g, 7, none⟩ = some (.int .i64 0) := HN.out 2 (by decide)
          have n3 : wr.cell? ⟨g, 10, none⟩ = some (.int .i64 0) := HN.out 3 (by decide)
          have n4 : wr.cell? ⟨g, 13, none⟩ = some (.int .i64 1) := HN.out 4 (by decide)
          have n5 : wr.cell? ⟨g, 16, none⟩ = some (.int .i64 1) := HN.out 5 (by decide)
          have K7 : Hid (∀ v, Below w.heap.size w v → Calls Tryz.prog 13 #[.int .i64 7, .agg #[.int .i64 yk, .int .i64 yn, .string yt], .agg #[.int .i64 xk, .int .i64 xn, .string xt]] v fun e w' => e = .returned (.agg #[.int .i64 2, .int .i64 0, .string ⟨#[]⟩]) ∧ Below v.heap.size v w') := Lib.hid HY7.out
          have K11 : Hid (∀ v, Below w.heap.size w v → Calls Tryz.prog 13 #[.int .i64 11, .agg #[.int .i64 yk, .int .i64 yn, .string yt], .agg #[.int .i64 xk, .int .i64 xn, .string xt]] v fun e w' => e = .returned (.agg #[.int .i64 2, .int .i64 0, .string ⟨#[]⟩]) ∧ Below v.heap.size v w') := Lib.hid HY11.out
          clear HY7 HY11 HN
          have a0 : IntKind.i64.wrap 0 = 0 := by decide
          have a1 : IntKind.i64.wrap 1 = 1 := by decide
          have hfld : ∀ (n : Int) (w : World), (Instr.field 26 (.agg #[.int .i64 2, .int .i64 n, .string ⟨#[]⟩]) 1).run Tryz.prog w = .ok (.int .i64 n) w := fun n w => by kernel_rfl
          go_wp2_with (fail)
          go_quiet (fail)
          replace hL := hL.call (⟨rfl, rfl, rfl, Nat.le_refl _, fun _ _ => rfl⟩ : Below wr.heap.size wr (wr.drewN nq))
          clear n0 n1 n2 n3 n4 n5 x0 x1 x2 y0 y1 y2
          obtain ⟨x0, x1, x2⟩ := val_cells hL.x
          obtain ⟨y0, y1, y2⟩ := val_cells hL.y
          go_wp2_with (fail)
          refine (K7.out _ hL.b).mono ?_
          rintro e w6 ⟨rfl, hb6⟩
          replace hL := hL.call hb6
          clear hb6
          obtain ⟨x0, x1, x2⟩ := val_cells hL.x
          obtain ⟨y0, y1, y2⟩ := val_cells hL.y
          go_wp2_with (fail)
          refine (K11.out _ hL.b).mono ?_
          rintro e w7 ⟨rfl, hb7⟩
          replace hL := hL.call hb7
          clear hb7
          obtain ⟨x0, x1, x2⟩ := val_cells hL.x
          obtain ⟨y0, y1, y2⟩ := val_cells hL.y
          go_wp2
          go_ret
          exact ⟨rfl, hL.b⟩
end Go.Proofs.YtpiiemneelkpkaaGreatDoor
