import Derived.Test.YtpiiemneelkpkaaGreatDoorGck
import Derived.Deep.RegionWith
import Derived.LoopN
import Derived.Handy
set_option maxRecDepth 100000
namespace Go.Proofs.YtpiiemneelkpkaaGreatDoor
open Go.RowKit
set_option linter.unusedVariables false
structure Box3 (w v : World) (k n : Int) (t : ByteArray) (i m : Int) (s : ByteArray) : Prop where
 b : Below w.heap.size w v
 x : v.heap[w.heap.size]? = some (.cells #[.int .i64 k, .int .i64 n, .string t] 26 (0, 0))
 y : v.heap[w.heap.size + 1]? = some (.cells #[.int .i64 i, .int .i64 m, .string s] 26 (0, 0))
 z : v.heap[w.heap.size + 1 + 1]? = some (.cells #[.int .i64 0, .int .i64 0, .string ⟨#[]⟩] 26 (0, 0))
 l : w.heap.size + 1 + 1 < v.heap.size
theorem Box3.start (w : World) (k n : Int) (t : ByteArray) (i m : Int) (s : ByteArray) : Box3 w (((w.alloc (.cells #[.int .i64 k, .int .i64 n, .string t] 26 (0, 0))).alloc (.cells #[.int .i64 i, .int .i64 m, .string s] 26 (0, 0))).alloc (.cells #[.int .i64 0, .int .i64 0, .string ⟨#[]⟩] 26 (0, 0))) k n t i m s := by
 refine ⟨(((Below.refl _ _).alloc (Nat.le_refl _) _).alloc (by simp) _).alloc (by simp; omega) _, ?_, ?_, ?_, by simp⟩
 ·exact (heap_alloc_old _ _ (by simp; omega)).trans ((heap_alloc_old _ _ (by simp)).trans (heap_alloc_new _ _))
 ·refine (heap_alloc_old _ _ (by simp)).trans ?_
  rw [show w.heap.size + 1 = (w.alloc (Obj.cells #[.int .i64 k, .int .i64 n, .string t] 26)).heap.size by simp]
  exact heap_alloc_new _ _
 ·rw [show w.heap.size + 1 + 1 = ((w.alloc (Obj.cells #[.int .i64 k, .int .i64 n, .string t] 26)).alloc (.cells #[.int .i64 i, .int .i64 m, .string s] 26 (0, 0))).heap.size by simp]
  exact heap_alloc_new _ _
theorem Box3.call {w v v' : World} {k n : Int} {t : ByteArray} {i m : Int} {s : ByteArray} (h : Box3 w v k n t i m s) (hb : Below v.heap.size v v') : Box3 w v' k n t i m s :=
 ⟨h.b.trans (hb.mono h.b.size), (hb.block _ (by have := h.l; omega)).trans h.x, (hb.block _ (by have := h.l; omega)).trans h.y, (hb.block _ h.l).trans h.z, Nat.lt_of_lt_of_le h.l hb.size⟩
theorem Box3.call2 {w v v' : World} {k n : Int} {t : ByteArray} {i m : Int} {s : ByteArray} (h : Box3 w v k n t i m s) (hb : Below v.drew.heap.size v.drew v') : Box3 w v' k n t i m s :=
 (show Box3 w v.drew k n t i m s from ⟨h.b.drew, h.x, h.y, h.z, h.l⟩).call hb
theorem Box3.set {w v : World} {k n k' n' : Int} {t t' : ByteArray} {i m i' m' : Int} {s s' : ByteArray} (h : Box3 w v k n t i m s) :
  Box3 w ((((((v.setCell ⟨w.heap.size, 0, none⟩ (.int .i64 k')).setCell ⟨w.heap.size, 1, none⟩ (.int .i64 n')).setCell ⟨w.heap.size, 2, none⟩ (.string t')).setCell ⟨w.heap.size + 1, 0, none⟩ (.int .i64 i')).setCell ⟨w.heap.size + 1, 1, none⟩ (.int .i64 m')).setCell ⟨w.heap.size + 1, 2, none⟩ (.string s')) k' n' t' i' m' s' := by
 obtain ⟨h1, h2, h3, h4⟩ := two_set (k' := k') (n' := n') (t' := t') (i' := i') (m' := m') (s' := s') h.x h.y h.b (by have := h.l; omega)
 have h5 := h.z
 have e : ∀ (u : World) (b : Nat) (j : Nat) (x : Value), b ≠ w.heap.size + 1 + 1 → (u.setCell ⟨b, j, none⟩ x).heap[w.heap.size + 1 + 1]? = u.heap[w.heap.size + 1 + 1]? := fun u b j x hb => heap_setCell_other _ _ _ _ (by simpa using hb.symm)
 have h6 : ((((((v.setCell ⟨w.heap.size, 0, none⟩ (.int .i64 k')).setCell ⟨w.heap.size, 1, none⟩ (.int .i64 n')).setCell ⟨w.heap.size, 2, none⟩ (.string t')).setCell ⟨w.heap.size + 1, 0, none⟩ (.int .i64 i')).setCell ⟨w.heap.size + 1, 1, none⟩ (.int .i64 m')).setCell ⟨w.heap.size + 1, 2, none⟩ (.string s')).heap[w.heap.size + 1 + 1]? = some (.cells #[.int .i64 0, .int .i64 0, .string ⟨#[]⟩] 26 (0, 0)) := by
  rw [e _ _ _ _ (by omega), e _ _ _ _ (by omega), e _ _ _ _ (by omega), e _ _ _ _ (by omega), e _ _ _ _ (by omega), e _ _ _ _ (by omega)]
  exact h5
 exact ⟨h1, h2, h3, h6, (Array.getElem?_eq_some_iff.1 h6).1⟩
theorem bin_out (op k n i m : Int) (t s : ByteArray) (w : World) (h : (decide (op < 1) = true) ∨ (decide (op < 1) = false ∧ decide (12 < op) = true)) : Ret 13 #[.int .i64 op, .agg #[.int .i64 k, .int .i64 n, .string t], .agg #[.int .i64 i, .int .i64 m, .string s]] w (.agg #[.int .i64 4, .int .i64 4, .string ⟨#[]⟩]) := by
 have HE := Lib.hid (fun w => cfault_any 4 w)
 have HB := Lib.hid (Box3.start w k n t i m s)
 rcases h with h1 | ⟨h1, h2⟩
 all_goals
  go_enter Tryz.func13, Tryz.ntmps13
  go_wp2_with (fail)
  refine (HE.out _).mono ?_
  rintro e w3 ⟨rfl, hb3⟩
  have hB := HB.out.call hb3
  clear hb3 h1
  obtain ⟨z0, z1, z2⟩ := val_cells hB.z
  obtain ⟨h0, h1, h2⟩ := val_frozen hB.z
  have hs := hB.b
  clear hB
  go_wp2
  exact bodyPost_ret (v := .agg #[.int .i64 4, .int .i64 4, .string ⟨#[]⟩]) (by simp [results, Tryz.results13, go_sem, z0, z1, z2]) rfl ⟨rfl, ((hs.setCell (p := ⟨w.heap.size + 1 + 1, 0, none⟩) (show w.heap.size ≤ w.heap.size + 1 + 1 by omega) _).setCell (p := ⟨w.heap.size + 1 + 1, 1, none⟩) (show w.heap.size ≤ w.heap.size + 1 + 1 by omega) _).setCell (p := ⟨w.heap.size + 1 + 1, 2, none⟩) (show w.heap.size ≤ w.heap.size + 1 + 1 by omega) _⟩
def BinJoin (w : World) (gk gn : Int) (gt : ByteArray) (hk hn : Int) (ht : ByteArray) (rk rn : Int) (rt : ByteArray) : Prop :=
 ∃ (a b : ByteArray) (z y : Int), a.size ≤ 40000 ∧ b.size ≤ 40000 ∧ Hid (∀ w', Below w.heap.size w w' → Calls Tryz.prog 30 #[.agg #[.int .i64 gk, .int .i64 gn, .string gt]] w' fun e w'' => e = .returned (.tuple #[.string a, .int .i64 z]) ∧ Below w'.heap.size w' w'') ∧ Hid (∀ w', Below w.heap.size w w' → Calls Tryz.prog 30 #[.agg #[.int .i64 hk, .int .i64 hn, .string ht]] w' fun e w'' => e = .returned (.tuple #[.string b, .int .i64 y]) ∧ Below w'.heap.size w' w'') ∧ Hid (∀ w, Ret 31 #[.string (a ++ b), .int .i64 0] w (.agg #[.int .i64 rk, .int .i64 rn, .string rt]))
def BinRel (w : World) (op gk gn : Int) (gt : ByteArray) (hk hn : Int) (ht : ByteArray) (rk rn : Int) (rt : ByteArray) : Prop :=
 ∃ (c : Int) (b : Bool), Hid (∀ w, Ret 34 #[.agg #[.int .i64 gk, .int .i64 gn, .string gt], .agg #[.int .i64 hk, .int .i64 hn, .string ht]] w (.int .i64 c)) ∧ Hid (∀ w, Calls Tryz.prog 33 #[.int .i64 op, .int .i64 c] w fun e w' => e = .returned (.bool b) ∧ w = w') ∧ Hid (∀ w, Ret 32 #[.bool b] w (.agg #[.int .i64 rk, .int .i64 rn, .string rt]))
def BinTold (F : FuncId) (a b rk rn : Int) (rt : ByteArray) : Prop := ∃ u v : Int, Hid (Bin2 F a b (.int .i64 u) (.int .i64 v)) ∧ Hid (∀ w, Ret 36 #[.int .i64 u, .int .i64 v] w (.agg #[.int .i64 rk, .int .i64 rn, .string rt]))
def BinFits (F : FuncId) (a b rk rn : Int) (rt : ByteArray) : Prop := ∃ (u : Int) (v : Bool), Hid (Bin2 F a b (.int .i64 u) (.bool v)) ∧ Hid (∀ w, Ret 38 #[.int .i64 u, .bool v] w (.agg #[.int .i64 rk, .int .i64 rn, .string rt]))
def BinNum (w : World) (op gk gn : Int) (gt : ByteArray) (hk hn : Int) (ht : ByteArray) (rk rn : Int) (rt : ByteArray) : Prop :=
  ∃ (a b z y : Int), Hid (∀ w', Below w.heap.size w w' → Calls Tryz.prog 35 #[.agg #[.int .i64 gk, .int .i64 gn, .string gt]] w' fun e w'' => e = .returned (.tuple #[.int .i64 a, .int .i64 z]) ∧ Below w'.heap.size w' w'') ∧ Hid (∀ w', Below w.heap.size w w' → Calls Tryz.prog 35 #[.agg #[.int .i64 hk, .int .i64 hn, .string ht]] w' fun e w'' => e = .returned (.tuple #[.int .i64 b, .int .i64 y]) ∧ Below w'.heap.size w' w'') ∧
    (((z != 0) = true ∧ Hid (∀ w, Ret 28 #[.int .i64 z] w (.agg #[.int .i64 rk, .int .i64 rn, .string rt]))) ∨ (z = 0 ∧ (y != 0) = true ∧ Hid (∀ w, Ret 28 #[.int .i64 y] w (.agg #[.int .i64 rk, .int .i64 rn, .string rt]))) ∨
     (z = 0 ∧ y = 0 ∧ ((op = 1 ∧ BinTold 37 a b rk rn rt) ∨ (op = 2 ∧ BinFits 39 a b rk rn rt) ∨ (op = 3 ∧ BinTold 40 a b rk rn rt) ∨ (op = 4 ∧ BinFits 41 a b rk rn rt) ∨ (op = 5 ∧ BinFits 42 a b rk rn rt))))
def BinCase (w : World) (op gk gn : Int) (gt : ByteArray) (hk hn : Int) (ht : ByteArray) (rk rn : Int) (rt : ByteArray) : Prop :=
 ((gk == 4) = true ∧ gk = rk ∧ gn = rn ∧ gt = rt) ∨ ((gk == 4) = false ∧ (hk == 4) = true ∧ hk = rk ∧ hn = rn ∧ ht = rt) ∨
 ((gk == 4) = false ∧ (hk == 4) = false ∧ ((op = 6 ∧ BinJoin w gk gn gt hk hn ht rk rn rt) ∨ ((op = 7 ∨ op = 8 ∨ op = 9 ∨ op = 10 ∨ op = 11 ∨ op = 12) ∧ BinRel w op gk gn gt hk hn ht rk rn rt) ∨ ((op = 1 ∨ op = 2 ∨ op = 3 ∨ op = 4 ∨ op = 5) ∧ BinNum w op gk gn gt hk hn ht rk rn rt)))
set_option maxHeartbeats 6400000 in
theorem bin_at (op k n i m gk gn hk hn : Int) (t s gt ht : ByteArray) (w : World)
  (HX0 : ∀ w, Ret 29 #[.agg #[.int .i64 k, .int .i64 n, .string t]] w (.agg #[.int .i64 gk, .int .i64 gn, .string gt]))
  (HY0 : ∀ w, Ret 29 #[.agg #[.int .i64 i, .int .i64 m, .string s]] w (.agg #[.int .i64 hk, .int .i64 hn, .string ht]))
  (o1 : decide (op < 1) = false) (o2 : decide (12 < op) = false)
  (rk rn : Int) (rt : ByteArray) (HC0 : BinCase w op gk gn gt hk hn ht rk rn rt) : Ret 13 #[.int .i64 op, .agg #[.int .i64 k, .int .i64 n, .string t], .agg #[.int .i64 i, .int .i64 m, .string s]] w (.agg #[.int .i64 rk, .int .i64 rn, .string rt]) := by
 have HC := Lib.hid HC0
 clear HC0
 have HX := Lib.hid HX0
 have HY := Lib.hid HY0
 have HB := Lib.hid (Box3.start w k n t i m s)
 clear HX0 HY0
 go_enter Tryz.func13, Tryz.ntmps13
 go_upto_region 3 with (fail)
 have hB := HB.out
 clear HB
 generalize (((w.alloc (.cells #[.int .i64 k, .int .i64 n, .string t] 26 (0, 0))).alloc (.cells #[.int .i64 i, .int .i64 m, .string s] 26 (0, 0))).alloc (.cells #[.int .i64 0, .int .i64 0, .string ⟨#[]⟩] 26 (0, 0))) = W0 at *
 go_cut [25] (fun s wx => Box3 w wx gk gn gt hk hn ht)
 case first =>
  obtain ⟨x0, x1, x2⟩ := val_cells hB.x
  obtain ⟨y0, y1, y2⟩ := val_cells hB.y
  obtain ⟨f0, f1, f2⟩ := val_frozen hB.x
  obtain ⟨g0, g1, g2⟩ := val_frozen hB.y
  go_region_with (go_at_call 29; (first | with_reducible refine (HX.out _).mono ?_ | with_reducible refine (HY.out _).mono ?_); rintro e v ⟨rfl, hbn⟩; clear x0 x1 x2 y0 y1 y2 f0 f1 f2 g0 g1 g2; (first | replace hB := hB.call hbn | replace hB := hB.call2 hbn); clear hbn; obtain ⟨x0, x1, x2⟩ := val_cells hB.x; obtain ⟨y0, y1, y2⟩ := val_cells hB.y; obtain ⟨f0, f1, f2⟩ := val_frozen hB.x; obtain ⟨g0, g1, g2⟩ := val_frozen hB.y)
  all_goals
   go_wp2_with (fail)
   go_meet
   exact hB.set
 case rest =>
 clear hB HX HY
 have hB := hcut
 clear hcut
 obtain ⟨x0, x1, x2⟩ := val_cells hB.x
 obtain ⟨y0, y1, y2⟩ := val_cells hB.y
 go_upto_block 0 with (fail)
 clear x0 x1 x2 y0 y1 y2
 have hs := heap_alloc_new wc (.cells #[.int .i64 gk, .int .i64 gn, .string gt, .int .i64 hk, .int .i64 hn, .string ht] 26 (0, 0))
 have hb := (Below.refl wc.heap.size wc).alloc (Nat.le_refl _) (.cells #[.int .i64 gk, .int .i64 gn, .string gt, .int .i64 hk, .int .i64 hn, .string ht] 26 (0, 0))
 have hB1 := hB.call hb
 have hlB := hB.l
 clear hB hb
 generalize wc.alloc (.cells #[.int .i64 gk, .int .i64 gn, .string gt, .int .i64 hk, .int .i64 hn, .string ht] 26 (0, 0)) = W1 at *
 generalize wc.heap.size = B1 at *
 have s0 := ch hs 0
 have s1 := ch hs 1
 have s2 := ch hs 2
 have s3 := ch hs 3
 have s4 := ch hs 4
 have s5 := ch hs 5
 simp at s0 s1 s2 s3 s4 s5
 have hlt := (Array.getElem?_eq_some_iff.1 hs).1
 clear hs
 rcases HC.out with ⟨t1, rfl, rfl, rfl⟩ | ⟨t1, t2, rfl, rfl, rfl⟩ | ⟨t1, t2, HC2⟩
 ·clear HC
  have hA := fun o => hB1.call ((Below.refl W1.heap.size W1).alloc (Nat.le_refl _) o)
  have z0 := fun o => (val_cells (hA o).z).1
  have z1 := fun o => (val_cells (hA o).z).2.1
  have z2 := fun o => (val_cells (hA o).z).2.2
  have h0 := fun o => (val_frozen (hA o).z).1
  have h1 := fun o => (val_frozen (hA o).z).2.1
  have h2 := fun o => (val_frozen (hA o).z).2.2
  have hs := fun o => (hA o).b
  clear hA hB1
  go_wp2_with (fail)
  refine wp_loop_rounds 1 ?_
  rw [rounds_succ]
  go_wp2_with (fail)
  exact bodyPost_ret (v := .agg #[.int .i64 gk, .int .i64 gn, .string gt]) (by simp [results, Tryz.results13, go_sem, z0, z1, z2]) rfl ⟨rfl, (((hs _).setCell (p := ⟨w.heap.size + 1 + 1, 0, none⟩) (show w.heap.size ≤ w.heap.size + 1 + 1 by omega) _).setCell (p := ⟨w.heap.size + 1 + 1, 1, none⟩) (show w.heap.size ≤ w.heap.size + 1 + 1 by omega) _).setCell (p := ⟨w.heap.size + 1 + 1, 2, none⟩) (show w.heap.size ≤ w.heap.size + 1 + 1 by omega) _⟩
 ·clear HC
  have hA := fun o => hB1.call ((Below.refl W1.heap.size W1).alloc (Nat.le_refl _) o)
  have hA2 := fun o o2 => (hA o).call ((Below.refl (W1.alloc o).heap.size (W1.alloc o)).alloc (Nat.le_refl _) o2)
  have z0 := fun o o2 => (val_cells (hA2 o o2).z).1
  have z1 := fun o o2 => (val_cells (hA2 o o2).z).2.1
  have z2 := fun o o2 => (val_cells (hA2 o o2).z).2.2
  have h0 := fun o o2 => (val_frozen (hA2 o o2).z).1
  have h1 := fun o o2 => (val_frozen (hA2 o o2).z).2.1
  have h2 := fun o o2 => (val_frozen (hA2 o o2).z).2.2
  have hs := fun o o2 => (hA2 o o2).b
  clear hA hA2 hB1
  go_wp2_with (fail)
  refine wp_loop_rounds 2 ?_
  rw [rounds_succ]
  go_wp2_with (fail)
  rw [rounds_succ]
  go_wp2_with (fail)
  exact bodyPost_ret (v := .agg #[.int .i64 hk, .int .i64 hn, .string ht]) (by simp [results, Tryz.results13, go_sem, z0, z1, z2]) rfl ⟨rfl, (((hs _ _).setCell (p := ⟨w.heap.size + 1 + 1, 0, none⟩) (show w.heap.size ≤ w.heap.size + 1 + 1 by omega) _).setCell (p := ⟨w.heap.size + 1 + 1, 1, none⟩) (show w.heap.size ≤ w.heap.size + 1 + 1 by omega) _).setCell (p := ⟨w.heap.size + 1 + 1, 2, none⟩) (show w.heap.size ≤ w.heap.size + 1 + 1 by omega) _⟩
 ·clear HC
  have HC := Lib.hid HC2
  clear HC2
  go_cut [32] (fun s wx => Box3 w wx gk gn gt hk hn ht)
  case first =>
   have hA := fun o => hB1.call ((Below.refl W1.heap.size W1).alloc (Nat.le_refl _) o)
   have hA2 := fun o o2 => (hA o).call ((Below.refl (W1.alloc o).heap.size (W1.alloc o)).alloc (Nat.le_refl _) o2)
   have HA := Lib.hid hA2
   clear hA hA2 hB1
   go_wp2_with (fail)
   refine wp_loop_rounds 3 ?_
   rw [rounds_succ]
   go_wp2_with (fail)
   rw [rounds_succ]
   go_wp2_with (fail)
   rw [rounds_succ]
   go_wp2_with (fail)
   go_meet
   exact HA.out _ _
  case rest =>
  clear hB1 s0 s1 s2 s3 s4 s5 hlt hlB
  have hB := hcut
  clear hcut
  obtain ⟨x0, x1, x2⟩ := val_cells hB.x
  obtain ⟨y0, y1, y2⟩ := val_cells hB.y
  rcases HC.out with ⟨rfl, a, b, z, y, ha, hb, H1, H2, H3⟩ | ⟨ho, c, bl, H1, H2, H3⟩ | ⟨ho, a, b, z, y, H1, H2, H3⟩
  ·clear HC
   go_wp2_with (fail)
   refine (H1.out _ hB.b).mono ?_
   rintro e wn ⟨rfl, hbn⟩
   replace hB := hB.call hbn
   clear hbn x0 x1 x2 y0 y1 y2
   obtain ⟨x0, x1, x2⟩ := val_cells hB.x
   obtain ⟨y0, y1, y2⟩ := val_cells hB.y
   go_wp2_with (fail)
   refine (H2.out _ hB.b).mono ?_
   rintro e wn ⟨rfl, hbn⟩
   replace hB := hB.call hbn
   clear hbn x0 x1 x2 y0 y1 y2
   obtain ⟨x0, x1, x2⟩ := val_cells hB.x
   obtain ⟨y0, y1, y2⟩ := val_cells hB.y
   go_wp2_with (fail)
   refine (H3.out _).mono ?_
   rintro e wn ⟨rfl, hbn⟩
   replace hB := hB.call hbn
   clear hbn x0 x1 x2 y0 y1 y2
   obtain ⟨x0, x1, x2⟩ := val_cells hB.x
   obtain ⟨y0, y1, y2⟩ := val_cells hB.y
   clear x0 x1 x2 y0 y1 y2
   obtain ⟨z0, z1, z2⟩ := val_cells hB.z
   obtain ⟨h0, h1, h2⟩ := val_frozen hB.z
   have hs := hB.b
   clear hB
   go_wp2
   exact bodyPost_ret (v := .agg #[.int .i64 rk, .int .i64 rn, .string rt]) (by simp [results, Tryz.results13, go_sem, z0, z1, z2]) rfl ⟨rfl, ((hs.setCell (p := ⟨w.heap.size + 1 + 1, 0, none⟩) (show w.heap.size ≤ w.heap.size + 1 + 1 by omega) _).setCell (p := ⟨w.heap.size + 1 + 1, 1, none⟩) (show w.heap.size ≤ w.heap.size + 1 + 1 by omega) _).setCell (p := ⟨w.heap.size + 1 + 1, 2, none⟩) (show w.heap.size ≤ w.heap.size + 1 + 1 by omega) _⟩
  ·clear HC
   rcases ho with rfl | rfl | rfl | rfl | rfl | rfl
   all_goals
    go_wp2_with (fail)
    refine (H1.out _).mono ?_
    rintro e wn ⟨rfl, hbn⟩
    replace hB := hB.call hbn
    clear hbn x0 x1 x2 y0 y1 y2
    obtain ⟨x0, x1, x2⟩ := val_cells hB.x
    obtain ⟨y0, y1, y2⟩ := val_cells hB.y
    go_wp2_with (fail)
    refine (H2.out _).mono ?_
    rintro e wn ⟨rfl, rfl⟩
    go_wp2_with (fail)
    refine (H3.out _).mono ?_
    rintro e wn ⟨rfl, hbn⟩
    replace hB := hB.call hbn
    clear hbn x0 x1 x2 y0 y1 y2
    obtain ⟨x0, x1, x2⟩ := val_cells hB.x
    obtain ⟨y0, y1, y2⟩ := val_cells hB.y
    clear x0 x1 x2 y0 y1 y2
    obtain ⟨z0, z1, z2⟩ := val_cells hB.z
    obtain ⟨h0, h1, h2⟩ := val_frozen hB.z
    have hs := hB.b
    clear hB
    go_wp2
    exact bodyPost_ret (v := .agg #[.int .i64 rk, .int .i64 rn, .string rt]) (by simp [results, Tryz.results13, go_sem, z0, z1, z2]) rfl ⟨rfl, ((hs.setCell (p := ⟨w.heap.size + 1 + 1, 0, none⟩) (show w.heap.size ≤ w.heap.size + 1 + 1 by omega) _).setCell (p := ⟨w.heap.size + 1 + 1, 1, none⟩) (show w.heap.size ≤ w.heap.size + 1 + 1 by omega) _).setCell (p := ⟨w.heap.size + 1 + 1, 2, none⟩) (show w.heap.size ≤ w.heap.size + 1 + 1 by omega) _⟩
  ·clear HC
   rcases H3 with ⟨t3, H3⟩ | ⟨rfl, t3, H3⟩ | ⟨rfl, rfl, H3⟩
   ·rcases ho with rfl | rfl | rfl | rfl | rfl
    all_goals
     go_wp2_with (fail)
     refine (H1.out _ hB.b).mono ?_
     rintro e wn ⟨rfl, hbn⟩
     replace hB := hB.call hbn
     clear hbn x0 x1 x2 y0 y1 y2
     obtain ⟨x0, x1, x2⟩ := val_cells hB.x
     obtain ⟨y0, y1, y2⟩ := val_cells hB.y
     go_wp2_with (fail)
     refine (H2.out _ hB.b).mono ?_
     rintro e wn ⟨rfl, hbn⟩
     replace hB := hB.call hbn
     clear hbn x0 x1 x2 y0 y1 y2
     obtain ⟨x0, x1, x2⟩ := val_cells hB.x
     obtain ⟨y0, y1, y2⟩ := val_cells hB.y
     go_wp2_with (fail)
     refine (H3.out _).mono ?_
     rintro e wn ⟨rfl, hbn⟩
     replace hB := hB.call hbn
     clear hbn x0 x1 x2 y0 y1 y2
     obtain ⟨x0, x1, x2⟩ := val_cells hB.x
     obtain ⟨y0, y1, y2⟩ := val_cells hB.y
     clear x0 x1 x2 y0 y1 y2
     obtain ⟨z0, z1, z2⟩ := val_cells hB.z
     obtain ⟨h0, h1, h2⟩ := val_frozen hB.z
     have hs := hB.b
     clear hB
     go_wp2
     exact bodyPost_ret (v := .agg #[.int .i64 rk, .int .i64 rn, .string rt]) (by simp [results, Tryz.results13, go_sem, z0, z1, z2]) rfl ⟨rfl, ((hs.setCell (p := ⟨w.heap.size + 1 + 1, 0, none⟩) (show w.heap.size ≤ w.heap.size + 1 + 1 by omega) _).setCell (p := ⟨w.heap.size + 1 + 1, 1, none⟩) (show w.heap.size ≤ w.heap.size + 1 + 1 by omega) _).setCell (p := ⟨w.heap.size + 1 + 1, 2, none⟩) (show w.heap.size ≤ w.heap.size + 1 + 1 by omega) _⟩
   ·rcases ho with rfl | rfl | rfl | rfl | rfl
    all_goals
     go_wp2_with (fail)
     refine (H1.out _ hB.b).mono ?_
     rintro e wn ⟨rfl, hbn⟩
     replace hB := hB.call hbn
     clear hbn x0 x1 x2 y0 y1 y2
     obtain ⟨x0, x1, x2⟩ := val_cells hB.x
     obtain ⟨y0, y1, y2⟩ := val_cells hB.y
     go_wp2_with (fail)
     refine (H2.out _ hB.b).mono ?_
     rintro e wn ⟨rfl, hbn⟩
     replace hB := hB.call hbn
     clear hbn x0 x1 x2 y0 y1 y2
     obtain ⟨x0, x1, x2⟩ := val_cells hB.x
     obtain ⟨y0, y1, y2⟩ := val_cells hB.y
     go_wp2_with (fail)
     refine (H3.out _).mono ?_
     rintro e wn ⟨rfl, hbn⟩
     replace hB := hB.call hbn
     clear hbn x0 x1 x2 y0 y1 y2
     obtain ⟨x0, x1, x2⟩ := val_cells hB.x
     obtain ⟨y0, y1, y2⟩ := val_cells hB.y
     clear x0 x1 x2 y0 y1 y2
     obtain ⟨z0, z1, z2⟩ := val_cells hB.z
     obtain ⟨h0, h1, h2⟩ := val_frozen hB.z
     have hs := hB.b
     clear hB
     go_wp2
     exact bodyPost_ret (v := .agg #[.int .i64 rk, .int .i64 rn, .string rt]) (by simp [results, Tryz.results13, go_sem, z0, z1, z2]) rfl ⟨rfl, ((hs.setCell (p := ⟨w.heap.size + 1 + 1, 0, none⟩) (show w.heap.size ≤ w.heap.size + 1 + 1 by omega) _).setCell (p := ⟨w.heap.size + 1 + 1, 1, none⟩) (show w.heap.size ≤ w.heap.size + 1 + 1 by omega) _).setCell (p := ⟨w.heap.size + 1 + 1, 2, none⟩) (show w.heap.size ≤ w.heap.size + 1 + 1 by omega) _⟩
   ·rcases H3 with ⟨rfl, u, v, H3, H4⟩ | ⟨rfl, u, v, H3, H4⟩ | ⟨rfl, u, v, H3, H4⟩ | ⟨rfl, u, v, H3, H4⟩ | ⟨rfl, u, v, H3, H4⟩
    all_goals
     go_wp2_with (fail)
     refine (H1.out _ hB.b).mono ?_
     rintro e wn ⟨rfl, hbn⟩
     replace hB := hB.call hbn
     clear hbn x0 x1 x2 y0 y1 y2
     obtain ⟨x0, x1, x2⟩ := val_cells hB.x
     obtain ⟨y0, y1, y2⟩ := val_cells hB.y
     go_wp2_with (fail)
     refine (H2.out _ hB.b).mono ?_
     rintro e wn ⟨rfl, hbn⟩
     replace hB := hB.call hbn
     clear hbn x0 x1 x2 y0 y1 y2
     obtain ⟨x0, x1, x2⟩ := val_cells hB.x
     obtain ⟨y0, y1, y2⟩ := val_cells hB.y
     go_wp2_with (fail)
     refine (H3.out _).mono ?_
     rintro e wn ⟨rfl, hbn⟩
     replace hB := hB.call hbn
     clear hbn x0 x1 x2 y0 y1 y2
     obtain ⟨x0, x1, x2⟩ := val_cells hB.x
     obtain ⟨y0, y1, y2⟩ := val_cells hB.y
     go_wp2_with (fail)
     refine (H4.out _).mono ?_
     rintro e wn ⟨rfl, hbn⟩
     replace hB := hB.call hbn
     clear hbn x0 x1 x2 y0 y1 y2
     obtain ⟨x0, x1, x2⟩ := val_cells hB.x
     obtain ⟨y0, y1, y2⟩ := val_cells hB.y
     clear x0 x1 x2 y0 y1 y2
     obtain ⟨z0, z1, z2⟩ := val_cells hB.z
     obtain ⟨h0, h1, h2⟩ := val_frozen hB.z
     have hs := hB.b
     clear hB
     go_wp2
     exact bodyPost_ret (v := .agg #[.int .i64 rk, .int .i64 rn, .string rt]) (by simp [results, Tryz.results13, go_sem, z0, z1, z2]) rfl ⟨rfl, ((hs.setCell (p := ⟨w.heap.size + 1 + 1, 0, none⟩) (show w.heap.size ≤ w.heap.size + 1 + 1 by omega) _).setCell (p := ⟨w.heap.size + 1 + 1, 1, none⟩) (show w.heap.size ≤ w.heap.size + 1 + 1 by omega) _).setCell (p := ⟨w.heap.size + 1 + 1, 2, none⟩) (show w.heap.size ≤ w.heap.size + 1 + 1 by omega) _⟩
end Go.Proofs.YtpiiemneelkpkaaGreatDoor
