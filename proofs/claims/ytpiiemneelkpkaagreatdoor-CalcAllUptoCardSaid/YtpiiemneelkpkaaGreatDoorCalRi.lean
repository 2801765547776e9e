import Derived.Test.YtpiiemneelkpkaaGreatDoorCalRh
set_option maxRecDepth 100000
namespace Go.Proofs.YtpiiemneelkpkaaGreatDoor
open Go.RowKit
set_option linter.unusedVariables false
set_option linter.unusedSimpArgs false
theorem RA.vals {w : World} {B n : Nat} {s : ByteArray} {v : Nat → Val.V} {nsv tsv bsv vsv : Value} (h : RA w B n s v nsv tsv bsv vsv) (hn : 0 < n) : ∃ b c, vsv = .slice (some ⟨b, 0, none⟩) n c ∧ b < w.heap.size ∧ w.cell? ⟨b, 0, none⟩ = some (.int .i64 (v 0).k) ∧ w.cell? ⟨b, 1, none⟩ = some (.int .i64 (v 0).n) ∧ w.cell? ⟨b, 2, none⟩ = some (.string (v 0).t) := by
 have h3 : w.ownsRow B 26 3 vsv n ((List.range n).flatMap fun k => [.int .i64 (v k).k, .int .i64 (v k).n, .string (v k).t]) := h.o 3 (by omega)
 rcases h3.2 with ⟨_, h0⟩ | ⟨b, c, cur, rfl, _, hb, _⟩
 ·omega
 ·have hx : ∀ k x, ((List.range n).flatMap fun k => [Value.int .i64 (v k).k, .int .i64 (v k).n, .string (v k).t])[k]? = some x → w.cell? ⟨b, k, none⟩ = some x := fun k x hk => by
   have := h3.cells (g := b) rfl k x hk
   have hadd : (⟨b, 0, none⟩ : Addr).add k = ⟨b, k, none⟩ := by unfold Addr.add; split <;> simp_all
   rwa [hadd] at this
  obtain ⟨m, rfl⟩ : ∃ m, n = m + 1 := ⟨n - 1, by omega⟩
  rw [List.range_succ_eq_map] at hx
  exact ⟨b, c, rfl, (Array.getElem?_eq_some_iff.1 hb).1, hx 0 _ (by simp), hx 1 _ (by simp), hx 2 _ (by simp)⟩
theorem row_e (f : Int) (n : Nat) (s : ByteArray) (v : Nat → Val.V) (a : Option Addr) (cap : Nat) (rz : Int) (w : World)
  (HL : Hid (∀ u, Below w.heap.size w u → Calls Tryz.prog 81 #[.int .i64 f, .slice a n cap] u (LookPost u n s v rz))) (t : (rz != 0) = true) :
  Ret 52 #[.int .i64 f, .slice a n cap] w (.agg #[.int .i64 4, .int .i64 rz, .string ⟨#[]⟩]) := by
 obtain ⟨hb, k0⟩ := box1 w #[.int .i64 0, .int .i64 0, .string ⟨#[]⟩] 26
 go_enter Tryz.func52, Tryz.ntmps52
 go_wp2_with (fail)
 generalize (w.alloc (Obj.cells #[.int .i64 0, .int .i64 0, .string ⟨#[]⟩] 26)) = W0 at *
 refine (HL.out _ hb).mono ?_
 rintro e w0 ⟨hb0, ⟨hz, rfl⟩ | ⟨hz, _⟩⟩
 rotate_left
 ·rw [hz] at t; exact absurd t (by decide)
 replace k0 := blk hb0 k0
 replace hb := hb.trans (hb0.mono hb.size)
 clear hb0
 have hlt : w.heap.size < w0.heap.size := (Array.getElem?_eq_some_iff.1 k0).1
 replace k0 := (heap_alloc_old w0 (Obj.cells #[.slice none 0 0, .slice none 0 0, .slice none 0 0, .slice none 0 0] 100) hlt).trans k0
 have k1 : (w0.alloc (Obj.cells #[.slice none 0 0, .slice none 0 0, .slice none 0 0, .slice none 0 0] 100)).heap[w0.heap.size]? = some (.cells #[.slice none 0 0, .slice none 0 0, .slice none 0 0, .slice none 0 0] 100 (0, 0)) := heap_alloc_new _ _
 have hold : Below w0.heap.size w0 (w0.alloc (Obj.cells #[.slice none 0 0, .slice none 0 0, .slice none 0 0, .slice none 0 0] 100)) := (Below.refl _ _).alloc (Nat.le_refl _) _
 replace hb := hb.alloc hb.size (Obj.cells #[.slice none 0 0, .slice none 0 0, .slice none 0 0, .slice none 0 0] 100)
 have c10 := ch k1 0
 have c11 := ch k1 1
 have c12 := ch k1 2
 have c13 := ch k1 3
 simp at c10 c11 c12 c13
 go_wp2_with (fail)
 generalize (w0.alloc (Obj.cells #[.slice none 0 0, .slice none 0 0, .slice none 0 0, .slice none 0 0] 100)) = W1 at *
 refine (rbad14 rz _).mono ?_
 rintro e w1 ⟨rfl, hb1⟩
 clear c10 c11 c12 c13 k1
 replace k0 := blk hb1 k0
 replace hb := hb.trans (hb1.mono hb.size)
 clear hb1
 obtain ⟨z0, z1, z2⟩ := val_cells k0
 obtain ⟨f0, f1, f2⟩ := val_frozen k0
 clear k0
 go_wp2
 exact bodyPost_ret (v := .agg #[.int .i64 4, .int .i64 rz, .string ⟨#[]⟩]) (by simp [results, Tryz.results52, go_sem, z0, z1, z2]) rfl ⟨rfl, set3 hb (by omega)⟩
theorem row_14 (rk rn : Int) (rt : ByteArray) (n : Nat) (s : ByteArray) (v : Nat → Val.V) (a : Option Addr) (cap : Nat) (rz : Int) (w : World)
  (HL : Hid (∀ u, Below w.heap.size w u → Calls Tryz.prog 81 #[.int .i64 14, .slice a n cap] u (LookPost u n s v rz))) (hz0 : rz = 0) (hn : 0 < n) (hn2 : n ≤ 100) (HB : Hid (∀ u, Ret 50 #[.bool (!Cal.truA s v 0)] u (.agg #[.int .i64 rk, .int .i64 rn, .string rt]))) :
  Ret 52 #[.int .i64 14, .slice a n cap] w (.agg #[.int .i64 rk, .int .i64 rn, .string rt]) := by
 obtain ⟨hb, k0⟩ := box1 w #[.int .i64 0, .int .i64 0, .string ⟨#[]⟩] 26
 go_enter Tryz.func52, Tryz.ntmps52
 go_wp2_with (fail)
 generalize (w.alloc (Obj.cells #[.int .i64 0, .int .i64 0, .string ⟨#[]⟩] 26)) = W0 at *
 refine (HL.out _ hb).mono ?_
 rintro e w0 ⟨hb0, ⟨hz, _⟩ | ⟨hz, nsv, tsv, bsv, vsv, rfl, hO⟩⟩
 ·exact absurd hz0 hz
 replace k0 := blk hb0 k0
 replace hb := hb.trans (hb0.mono hb.size)
 clear hb0
 subst hz0
 clear hz
 have hRA : RA w0 W0.heap.size n s v nsv tsv bsv vsv := ⟨hO⟩
 clear hO
 obtain ⟨a0, q0, rfl⟩ := (own_any (hRA.o 0 (by omega)) : ∃ b c, nsv = .slice b n c)
 obtain ⟨a1, q1, rfl⟩ := (own_any (hRA.o 1 (by omega)) : ∃ b c, tsv = .slice b n c)
 obtain ⟨a3, q3, rfl⟩ := (own_any (hRA.o 3 (by omega)) : ∃ b c, vsv = .slice b n c)
 obtain ⟨g, gc, rfl, hg, hc⟩ := hRA.bools hn
 have d0 := hc 0 (by omega)
 clear hc hRA
 have hlt : w.heap.size < w0.heap.size := (Array.getElem?_eq_some_iff.1 k0).1
 replace k0 := (heap_alloc_old w0 (Obj.cells #[.slice a0 n q0, .slice a1 n q1, .slice (some ⟨g, 0, none⟩) n gc, .slice a3 n q3] 100) hlt).trans k0
 have k1 : (w0.alloc (Obj.cells #[.slice a0 n q0, .slice a1 n q1, .slice (some ⟨g, 0, none⟩) n gc, .slice a3 n q3] 100)).heap[w0.heap.size]? = some (.cells #[.slice a0 n q0, .slice a1 n q1, .slice (some ⟨g, 0, none⟩) n gc, .slice a3 n q3] 100 (0, 0)) := heap_alloc_new _ _
 have hold : Below w0.heap.size w0 (w0.alloc (Obj.cells #[.slice a0 n q0, .slice a1 n q1, .slice (some ⟨g, 0, none⟩) n gc, .slice a3 n q3] 100)) := (Below.refl _ _).alloc (Nat.le_refl _) _
 replace hb := hb.alloc hb.size (Obj.cells #[.slice a0 n q0, .slice a1 n q1, .slice (some ⟨g, 0, none⟩) n gc, .slice a3 n q3] 100)
 have c10 := ch k1 0
 have c11 := ch k1 1
 have c12 := ch k1 2
 have c13 := ch k1 3
 simp at c10 c11 c12 c13
 have e0 := (hold.cell (p := ⟨g, 0, none⟩) hg).trans d0
 clear hold
 go_wp2_with (fail)
 generalize (w0.alloc (Obj.cells #[.slice a0 n q0, .slice a1 n q1, .slice (some ⟨g, 0, none⟩) n gc, .slice a3 n q3] 100)) = W1 at *
 refine (go1 (HB.out _) hb k0).mono ?_; clear hb k0; rintro e w1 ⟨rfl, hb, k0⟩
 clear c10 c11 c12 c13 k1
 clear e0 d0
 obtain ⟨z0, z1, z2⟩ := val_cells k0
 obtain ⟨f0, f1, f2⟩ := val_frozen k0
 clear k0
 go_wp2
 exact bodyPost_ret (v := .agg #[.int .i64 rk, .int .i64 rn, .string rt]) (by simp [results, Tryz.results52, go_sem, z0, z1, z2]) rfl ⟨rfl, set3 hb (by omega)⟩
theorem row_30 (x : ByteArray) (z : Int) (rk rn : Int) (rt : ByteArray) (n : Nat) (s : ByteArray) (v : Nat → Val.V) (a : Option Addr) (cap : Nat) (rz : Int) (w : World)
  (HL : Hid (∀ u, Below w.heap.size w u → Calls Tryz.prog 81 #[.int .i64 30, .slice a n cap] u (LookPost u n s v rz))) (hz0 : rz = 0) (hn : 0 < n) (hn2 : n ≤ 100) (HF : Hid (∀ u, Ret 83 #[.int .i64 (Cal.numA s v 0)] u (.tuple #[.string x, .int .i64 z]))) (HT : Hid (∀ u, Ret 82 #[.string x, .int .i64 z] u (.agg #[.int .i64 rk, .int .i64 rn, .string rt]))) :
  Ret 52 #[.int .i64 30, .slice a n cap] w (.agg #[.int .i64 rk, .int .i64 rn, .string rt]) := by
 obtain ⟨hb, k0⟩ := box1 w #[.int .i64 0, .int .i64 0, .string ⟨#[]⟩] 26
 go_enter Tryz.func52, Tryz.ntmps52
 go_wp2_with (fail)
 generalize (w.alloc (Obj.cells #[.int .i64 0, .int .i64 0, .string ⟨#[]⟩] 26)) = W0 at *
 refine (HL.out _ hb).mono ?_
 rintro e w0 ⟨hb0, ⟨hz, _⟩ | ⟨hz, nsv, tsv, bsv, vsv, rfl, hO⟩⟩
 ·exact absurd hz0 hz
 replace k0 := blk hb0 k0
 replace hb := hb.trans (hb0.mono hb.size)
 clear hb0
 subst hz0
 clear hz
 have hRA : RA w0 W0.heap.size n s v nsv tsv bsv vsv := ⟨hO⟩
 clear hO
 obtain ⟨a1, q1, rfl⟩ := (own_any (hRA.o 1 (by omega)) : ∃ b c, tsv = .slice b n c)
 obtain ⟨a2, q2, rfl⟩ := (own_any (hRA.o 2 (by omega)) : ∃ b c, bsv = .slice b n c)
 obtain ⟨a3, q3, rfl⟩ := (own_any (hRA.o 3 (by omega)) : ∃ b c, vsv = .slice b n c)
 obtain ⟨g, gc, rfl, hg, hc⟩ := hRA.nums hn
 have d0 := hc 0 (by omega)
 clear hc hRA
 have hlt : w.heap.size < w0.heap.size := (Array.getElem?_eq_some_iff.1 k0).1
 replace k0 := (heap_alloc_old w0 (Obj.cells #[.slice (some ⟨g, 0, none⟩) n gc, .slice a1 n q1, .slice a2 n q2, .slice a3 n q3] 100) hlt).trans k0
 have k1 : (w0.alloc (Obj.cells #[.slice (some ⟨g, 0, none⟩) n gc, .slice a1 n q1, .slice a2 n q2, .slice a3 n q3] 100)).heap[w0.heap.size]? = some (.cells #[.slice (some ⟨g, 0, none⟩) n gc, .slice a1 n q1, .slice a2 n q2, .slice a3 n q3] 100 (0, 0)) := heap_alloc_new _ _
 have hold : Below w0.heap.size w0 (w0.alloc (Obj.cells #[.slice (some ⟨g, 0, none⟩) n gc, .slice a1 n q1, .slice a2 n q2, .slice a3 n q3] 100)) := (Below.refl _ _).alloc (Nat.le_refl _) _
 replace hb := hb.alloc hb.size (Obj.cells #[.slice (some ⟨g, 0, none⟩) n gc, .slice a1 n q1, .slice a2 n q2, .slice a3 n q3] 100)
 have c10 := ch k1 0
 have c11 := ch k1 1
 have c12 := ch k1 2
 have c13 := ch k1 3
 simp at c10 c11 c12 c13
 have e0 := (hold.cell (p := ⟨g, 0, none⟩) hg).trans d0
 clear hold
 go_wp2_with (fail)
 generalize (w0.alloc (Obj.cells #[.slice (some ⟨g, 0, none⟩) n gc, .slice a1 n q1, .slice a2 n q2, .slice a3 n q3] 100)) = W1 at *
 refine (go1 (HF.out _) hb k0).mono ?_; clear hb k0; rintro e w1 ⟨rfl, hb, k0⟩
 go_wp2_with (fail)
 refine (go1 (HT.out _) hb k0).mono ?_; clear hb k0; rintro e w2 ⟨rfl, hb, k0⟩
 clear c10 c11 c12 c13 k1
 clear e0 d0
 obtain ⟨z0, z1, z2⟩ := val_cells k0
 obtain ⟨f0, f1, f2⟩ := val_frozen k0
 clear k0
 go_wp2
 exact bodyPost_ret (v := .agg #[.int .i64 rk, .int .i64 rn, .string rt]) (by simp [results, Tryz.results52, go_sem, z0, z1, z2]) rfl ⟨rfl, set3 hb (by omega)⟩
theorem row_31 (n : Nat) (s : ByteArray) (v : Nat → Val.V) (a : Option Addr) (cap : Nat) (rz : Int) (w : World)
  (HL : Hid (∀ u, Below w.heap.size w u → Calls Tryz.prog 81 #[.int .i64 31, .slice a n cap] u (LookPost u n s v rz))) (hz0 : rz = 0) (hn : 0 < n) (hn2 : n ≤ 100) :
  Ret 52 #[.int .i64 31, .slice a n cap] w (.agg #[.int .i64 1, .int .i64 (Cal.numA s v 0), .string ⟨#[]⟩]) := by
 obtain ⟨hb, k0⟩ := box1 w #[.int .i64 0, .int .i64 0, .string ⟨#[]⟩] 26
 go_enter Tryz.func52, Tryz.ntmps52
 go_wp2_with (fail)
 generalize (w.alloc (Obj.cells #[.int .i64 0, .int .i64 0, .string ⟨#[]⟩] 26)) = W0 at *
 refine (HL.out _ hb).mono ?_
 rintro e w0 ⟨hb0, ⟨hz, _⟩ | ⟨hz, nsv, tsv, bsv, vsv, rfl, hO⟩⟩
 ·exact absurd hz0 hz
 replace k0 := blk hb0 k0
 replace hb := hb.trans (hb0.mono hb.size)
 clear hb0
 subst hz0
 clear hz
 have hRA : RA w0 W0.heap.size n s v nsv tsv bsv vsv := ⟨hO⟩
 clear hO
 obtain ⟨a1, q1, rfl⟩ := (own_any (hRA.o 1 (by omega)) : ∃ b c, tsv = .slice b n c)
 obtain ⟨a2, q2, rfl⟩ := (own_any (hRA.o 2 (by omega)) : ∃ b c, bsv = .slice b n c)
 obtain ⟨a3, q3, rfl⟩ := (own_any (hRA.o 3 (by omega)) : ∃ b c, vsv = .slice b n c)
 obtain ⟨g, gc, rfl, hg, hc⟩ := hRA.nums hn
 have d0 := hc 0 (by omega)
 clear hc hRA
 have hlt : w.heap.size < w0.heap.size := (Array.getElem?_eq_some_iff.1 k0).1
 replace k0 := (heap_alloc_old w0 (Obj.cells #[.slice (some ⟨g, 0, none⟩) n gc, .slice a1 n q1, .slice a2 n q2, .slice a3 n q3] 100) hlt).trans k0
 have k1 : (w0.alloc (Obj.cells #[.slice (some ⟨g, 0, none⟩) n gc, .slice a1 n q1, .slice a2 n q2, .slice a3 n q3] 100)).heap[w0.heap.size]? = some (.cells #[.slice (some ⟨g, 0, none⟩) n gc, .slice a1 n q1, .slice a2 n q2, .slice a3 n q3] 100 (0, 0)) := heap_alloc_new _ _
 have hold : Below w0.heap.size w0 (w0.alloc (Obj.cells #[.slice (some ⟨g, 0, none⟩) n gc, .slice a1 n q1, .slice a2 n q2, .slice a3 n q3] 100)) := (Below.refl _ _).alloc (Nat.le_refl _) _
 replace hb := hb.alloc hb.size (Obj.cells #[.slice (some ⟨g, 0, none⟩) n gc, .slice a1 n q1, .slice a2 n q2, .slice a3 n q3] 100)
 have c10 := ch k1 0
 have c11 := ch k1 1
 have c12 := ch k1 2
 have c13 := ch k1 3
 simp at c10 c11 c12 c13
 have e0 := (hold.cell (p := ⟨g, 0, none⟩) hg).trans d0
 clear hold
 go_wp2_with (fail)
 generalize (w0.alloc (Obj.cells #[.slice (some ⟨g, 0, none⟩) n gc, .slice a1 n q1, .slice a2 n q2, .slice a3 n q3] 100)) = W1 at *
 refine (go1 (rnum14 _ _) hb k0).mono ?_; clear hb k0; rintro e w1 ⟨rfl, hb, k0⟩
 clear c10 c11 c12 c13 k1
 clear e0 d0
 obtain ⟨z0, z1, z2⟩ := val_cells k0
 obtain ⟨f0, f1, f2⟩ := val_frozen k0
 clear k0
 go_wp2
 exact bodyPost_ret (v := .agg #[.int .i64 1, .int .i64 (Cal.numA s v 0), .string ⟨#[]⟩]) (by simp [results, Tryz.results52, go_sem, z0, z1, z2]) rfl ⟨rfl, set3 hb (by omega)⟩
theorem row_35 (n : Nat) (s : ByteArray) (v : Nat → Val.V) (a : Option Addr) (cap : Nat) (rz : Int) (w : World)
  (HL : Hid (∀ u, Below w.heap.size w u → Calls Tryz.prog 81 #[.int .i64 35, .slice a n cap] u (LookPost u n s v rz))) (hz0 : rz = 0) :
  Ret 52 #[.int .i64 35, .slice a n cap] w (.agg #[.int .i64 4, .int .i64 6, .string ⟨#[]⟩]) := by
 obtain ⟨hb, k0⟩ := box1 w #[.int .i64 0, .int .i64 0, .string ⟨#[]⟩] 26
 go_enter Tryz.func52, Tryz.ntmps52
 go_wp2_with (fail)
 generalize (w.alloc (Obj.cells #[.int .i64 0, .int .i64 0, .string ⟨#[]⟩] 26)) = W0 at *
 refine (HL.out _ hb).mono ?_
 rintro e w0 ⟨hb0, ⟨hz, _⟩ | ⟨hz, nsv, tsv, bsv, vsv, rfl, hO⟩⟩
 ·exact absurd hz0 hz
 replace k0 := blk hb0 k0
 replace hb := hb.trans (hb0.mono hb.size)
 clear hb0
 subst hz0
 clear hz
 have hRA : RA w0 W0.heap.size n s v nsv tsv bsv vsv := ⟨hO⟩
 clear hO
 obtain ⟨a0, q0, rfl⟩ := (own_any (hRA.o 0 (by omega)) : ∃ b c, nsv = .slice b n c)
 obtain ⟨a1, q1, rfl⟩ := (own_any (hRA.o 1 (by omega)) : ∃ b c, tsv = .slice b n c)
 obtain ⟨a2, q2, rfl⟩ := (own_any (hRA.o 2 (by omega)) : ∃ b c, bsv = .slice b n c)
 obtain ⟨a3, q3, rfl⟩ := (own_any (hRA.o 3 (by omega)) : ∃ b c, vsv = .slice b n c)
 clear hRA
 have hlt : w.heap.size < w0.heap.size := (Array.getElem?_eq_some_iff.1 k0).1
 replace k0 := (heap_alloc_old w0 (Obj.cells #[.slice a0 n q0, .slice a1 n q1, .slice a2 n q2, .slice a3 n q3] 100) hlt).trans k0
 have k1 : (w0.alloc (Obj.cells #[.slice a0 n q0, .slice a1 n q1, .slice a2 n q2, .slice a3 n q3] 100)).heap[w0.heap.size]? = some (.cells #[.slice a0 n q0, .slice a1 n q1, .slice a2 n q2, .slice a3 n q3] 100 (0, 0)) := heap_alloc_new _ _
 have hold : Below w0.heap.size w0 (w0.alloc (Obj.cells #[.slice a0 n q0, .slice a1 n q1, .slice a2 n q2, .slice a3 n q3] 100)) := (Below.refl _ _).alloc (Nat.le_refl _) _
 replace hb := hb.alloc hb.size (Obj.cells #[.slice a0 n q0, .slice a1 n q1, .slice a2 n q2, .slice a3 n q3] 100)
 have c10 := ch k1 0
 have c11 := ch k1 1
 have c12 := ch k1 2
 have c13 := ch k1 3
 simp at c10 c11 c12 c13
 clear hold
 go_wp2_with (fail)
 generalize (w0.alloc (Obj.cells #[.slice a0 n q0, .slice a1 n q1, .slice a2 n q2, .slice a3 n q3] 100)) = W1 at *
 refine (go1 (rbad14 6 _) hb k0).mono ?_; clear hb k0; rintro e w1 ⟨rfl, hb, k0⟩
 clear c10 c11 c12 c13 k1
 obtain ⟨z0, z1, z2⟩ := val_cells k0
 obtain ⟨f0, f1, f2⟩ := val_frozen k0
 clear k0
 go_wp2
 exact bodyPost_ret (v := .agg #[.int .i64 4, .int .i64 6, .string ⟨#[]⟩]) (by simp [results, Tryz.results52, go_sem, z0, z1, z2]) rfl ⟨rfl, set3 hb (by omega)⟩
theorem row_33_i (n : Nat) (s : ByteArray) (v : Nat → Val.V) (a : Option Addr) (cap : Nat) (rz : Int) (w : World)
  (HL : Hid (∀ u, Below w.heap.size w u → Calls Tryz.prog 81 #[.int .i64 33, .slice a n cap] u (LookPost u n s v rz))) (hz0 : rz = 0) (hn : 0 < n) (hn2 : n ≤ 100) (t0 : ((v 0).k == 1) = true) :
  Ret 52 #[.int .i64 33, .slice a n cap] w (.agg #[.int .i64 1, .int .i64 (v 0).n, .string ⟨#[]⟩]) := by
 obtain ⟨hb, k0⟩ := box1 w #[.int .i64 0, .int .i64 0, .string ⟨#[]⟩] 26
 go_enter Tryz.func52, Tryz.ntmps52
 go_wp2_with (fail)
 generalize (w.alloc (Obj.cells #[.int .i64 0, .int .i64 0, .string ⟨#[]⟩] 26)) = W0 at *
 refine (HL.out _ hb).mono ?_
 rintro e w0 ⟨hb0, ⟨hz, _⟩ | ⟨hz, nsv, tsv, bsv, vsv, rfl, hO⟩⟩
 ·exact absurd hz0 hz
 replace k0 := blk hb0 k0
 replace hb := hb.trans (hb0.mono hb.size)
 clear hb0
 subst hz0
 clear hz
 have hRA : RA w0 W0.heap.size n s v nsv tsv bsv vsv := ⟨hO⟩
 clear hO
 obtain ⟨a0, q0, rfl⟩ := (own_any (hRA.o 0 (by omega)) : ∃ b c, nsv = .slice b n c)
 obtain ⟨a1, q1, rfl⟩ := (own_any (hRA.o 1 (by omega)) : ∃ b c, tsv = .slice b n c)
 obtain ⟨a2, q2, rfl⟩ := (own_any (hRA.o 2 (by omega)) : ∃ b c, bsv = .slice b n c)
 obtain ⟨g, gc, rfl, hg, d0, d1, d2⟩ := hRA.vals hn
 clear hRA
 have hlt : w.heap.size < w0.heap.size := (Array.getElem?_eq_some_iff.1 k0).1
 replace k0 := (heap_alloc_old w0 (Obj.cells #[.slice a0 n q0, .slice a1 n q1, .slice a2 n q2, .slice (some ⟨g, 0, none⟩) n gc] 100) hlt).trans k0
 have k1 : (w0.alloc (Obj.cells #[.slice a0 n q0, .slice a1 n q1, .slice a2 n q2, .slice (some ⟨g, 0, none⟩) n gc] 100)).heap[w0.heap.size]? = some (.cells #[.slice a0 n q0, .slice a1 n q1, .slice a2 n q2, .slice (some ⟨g, 0, none⟩) n gc] 100 (0, 0)) := heap_alloc_new _ _
 have hold : Below w0.heap.size w0 (w0.alloc (Obj.cells #[.slice a0 n q0, .slice a1 n q1, .slice a2 n q2, .slice (some ⟨g, 0, none⟩) n gc] 100)) := (Below.refl _ _).alloc (Nat.le_refl _) _
 replace hb := hb.alloc hb.size (Obj.cells #[.slice a0 n q0, .slice a1 n q1, .slice a2 n q2, .slice (some ⟨g, 0, none⟩) n gc] 100)
 have c10 := ch k1 0
 have c11 := ch k1 1
 have c12 := ch k1 2
 have c13 := ch k1 3
 simp at c10 c11 c12 c13
 have e0 := (hold.cell (p := ⟨g, 0, none⟩) hg).trans d0
 have e1 := (hold.cell (p := ⟨g, 1, none⟩) hg).trans d1
 have e2 := (hold.cell (p := ⟨g, 2, none⟩) hg).trans d2
 clear hold
 go_wp2_with (fail)
 generalize (w0.alloc (Obj.cells #[.slice a0 n q0, .slice a1 n q1, .slice a2 n q2, .slice (some ⟨g, 0, none⟩) n gc] 100)) = W1 at *
 refine (go1 (rnum14 _ _) hb k0).mono ?_; clear hb k0; rintro e w1 ⟨rfl, hb, k0⟩
 clear c10 c11 c12 c13 k1
 clear e0 d0 e1 d1 e2 d2
 obtain ⟨z0, z1, z2⟩ := val_cells k0
 obtain ⟨f0, f1, f2⟩ := val_frozen k0
 clear k0
 go_wp2
 exact bodyPost_ret (v := .agg #[.int .i64 1, .int .i64 (v 0).n, .string ⟨#[]⟩]) (by simp [results, Tryz.results52, go_sem, z0, z1, z2]) rfl ⟨rfl, set3 hb (by omega)⟩
theorem row_33_b (n : Nat) (s : ByteArray) (v : Nat → Val.V) (a : Option Addr) (cap : Nat) (rz : Int) (w : World)
  (HL : Hid (∀ u, Below w.heap.size w u → Calls Tryz.prog 81 #[.int .i64 33, .slice a n cap] u (LookPost u n s v rz))) (hz0 : rz = 0) (hn : 0 < n) (hn2 : n ≤ 100) (t0 : ((v 0).k == 1) = false) (t1 : ((v 0).k == 2) = true) :
  Ret 52 #[.int .i64 33, .slice a n cap] w (.agg #[.int .i64 1, .int .i64 (v 0).n, .string ⟨#[]⟩]) := by
 obtain ⟨hb, k0⟩ := box1 w #[.int .i64 0, .int .i64 0, .string ⟨#[]⟩] 26
 go_enter Tryz.func52, Tryz.ntmps52
 go_wp2_with (fail)
 generalize (w.alloc (Obj.cells #[.int .i64 0, .int .i64 0, .string ⟨#[]⟩] 26)) = W0 at *
 refine (HL.out _ hb).mono ?_
 rintro e w0 ⟨hb0, ⟨hz, _⟩ | ⟨hz, nsv, tsv, bsv, vsv, rfl, hO⟩⟩
 ·exact absurd hz0 hz
 replace k0 := blk hb0 k0
 replace hb := hb.trans (hb0.mono hb.size)
 clear hb0
 subst hz0
 clear hz
 have hRA : RA w0 W0.heap.size n s v nsv tsv bsv vsv := ⟨hO⟩
 clear hO
 obtain ⟨a0, q0, rfl⟩ := (own_any (hRA.o 0 (by omega)) : ∃ b c, nsv = .slice b n c)
 obtain ⟨a1, q1, rfl⟩ := (own_any (hRA.o 1 (by omega)) : ∃ b c, tsv = .slice b n c)
 obtain ⟨a2, q2, rfl⟩ := (own_any (hRA.o 2 (by omega)) : ∃ b c, bsv = .slice b n c)
 obtain ⟨g, gc, rfl, hg, d0, d1, d2⟩ := hRA.vals hn
 clear hRA
 have hlt : w.heap.size < w0.heap.size := (Array.getElem?_eq_some_iff.1 k0).1
 replace k0 := (heap_alloc_old w0 (Obj.cells #[.slice a0 n q0, .slice a1 n q1, .slice a2 n q2, .slice (some ⟨g, 0, none⟩) n gc] 100) hlt).trans k0
 have k1 : (w0.alloc (Obj.cells #[.slice a0 n q0, .slice a1 n q1, .slice a2 n q2, .slice (some ⟨g, 0, none⟩) n gc] 100)).heap[w0.heap.size]? = some (.cells #[.slice a0 n q0, .slice a1 n q1, .slice a2 n q2, .slice (some ⟨g, 0, none⟩) n gc] 100 (0, 0)) := heap_alloc_new _ _
 have hold : Below w0.heap.size w0 (w0.alloc (Obj.cells #[.slice a0 n q0, .slice a1 n q1, .slice a2 n q2, .slice (some ⟨g, 0, none⟩) n gc] 100)) := (Below.refl _ _).alloc (Nat.le_refl _) _
 replace hb := hb.alloc hb.size (Obj.cells #[.slice a0 n q0, .slice a1 n q1, .slice a2 n q2, .slice (some ⟨g, 0, none⟩) n gc] 100)
 have c10 := ch k1 0
 have c11 := ch k1 1
 have c12 := ch k1 2
 have c13 := ch k1 3
 simp at c10 c11 c12 c13
 have e0 := (hold.cell (p := ⟨g, 0, none⟩) hg).trans d0
 have e1 := (hold.cell (p := ⟨g, 1, none⟩) hg).trans d1
 have e2 := (hold.cell (p := ⟨g, 2, none⟩) hg).trans d2
 clear hold
 go_wp2_with (fail)
 generalize (w0.alloc (Obj.cells #[.slice a0 n q0, .slice a1 n q1, .slice a2 n q2, .slice (some ⟨g, 0, none⟩) n gc] 100)) = W1 at *
 refine (go1 (rnum14 _ _) hb k0).mono ?_; clear hb k0; rintro e w1 ⟨rfl, hb, k0⟩
 clear c10 c11 c12 c13 k1
 clear e0 d0 e1 d1 e2 d2
 obtain ⟨z0, z1, z2⟩ := val_cells k0
 obtain ⟨f0, f1, f2⟩ := val_frozen k0
 clear k0
 go_wp2
 exact bodyPost_ret (v := .agg #[.int .i64 1, .int .i64 (v 0).n, .string ⟨#[]⟩]) (by simp [results, Tryz.results52, go_sem, z0, z1, z2]) rfl ⟨rfl, set3 hb (by omega)⟩
theorem row_33_o (n : Nat) (s : ByteArray) (v : Nat → Val.V) (a : Option Addr) (cap : Nat) (rz : Int) (w : World)
  (HL : Hid (∀ u, Below w.heap.size w u → Calls Tryz.prog 81 #[.int .i64 33, .slice a n cap] u (LookPost u n s v rz))) (hz0 : rz = 0) (hn : 0 < n) (hn2 : n ≤ 100) (t0 : ((v 0).k == 1) = false) (t1 : ((v 0).k == 2) = false) :
  Ret 52 #[.int .i64 33, .slice a n cap] w (.agg #[.int .i64 1, .int .i64 0, .string ⟨#[]⟩]) := by
 obtain ⟨hb, k0⟩ := box1 w #[.int .i64 0, .int .i64 0, .string ⟨#[]⟩] 26
 go_enter Tryz.func52, Tryz.ntmps52
 go_wp2_with (fail)
 generalize (w.alloc (Obj.cells #[.int .i64 0, .int .i64 0, .string ⟨#[]⟩] 26)) = W0 at *
 refine (HL.out _ hb).mono ?_
 rintro e w0 ⟨hb0, ⟨hz, _⟩ | ⟨hz, nsv, tsv, bsv, vsv, rfl, hO⟩⟩
 ·exact absurd hz0 hz
 replace k0 := blk hb0 k0
 replace hb := hb.trans (hb0.mono hb.size)
 clear hb0
 subst hz0
 clear hz
 have hRA : RA w0 W0.heap.size n s v nsv tsv bsv vsv := ⟨hO⟩
 clear hO
 obtain ⟨a0, q0, rfl⟩ := (own_any (hRA.o 0 (by omega)) : ∃ b c, nsv = .slice b n c)
 obtain ⟨a1, q1, rfl⟩ := (own_any (hRA.o 1 (by omega)) : ∃ b c, tsv = .slice b n c)
 obtain ⟨a2, q2, rfl⟩ := (own_any (hRA.o 2 (by omega)) : ∃ b c, bsv = .slice b n c)
 obtain ⟨g, gc, rfl, hg, d0, d1, d2⟩ := hRA.vals hn
 clear hRA
 have hlt : w.heap.size < w0.heap.size := (Array.getElem?_eq_some_iff.1 k0).1
 replace k0 := (heap_alloc_old w0 (Obj.cells #[.slice a0 n q0, .slice a1 n q1, .slice a2 n q2, .slice (some ⟨g, 0, none⟩) n gc] 100) hlt).trans k0
 have k1 : (w0.alloc (Obj.cells #[.slice a0 n q0, .slice a1 n q1, .slice a2 n q2, .slice (some ⟨g, 0, none⟩) n gc] 100)).heap[w0.heap.size]? = some (.cells #[.slice a0 n q0, .slice a1 n q1, .slice a2 n q2, .slice (some ⟨g, 0, none⟩) n gc] 100 (0, 0)) := heap_alloc_new _ _
 have hold : Below w0.heap.size w0 (w0.alloc (Obj.cells #[.slice a0 n q0, .slice a1 n q1, .slice a2 n q2, .slice (some ⟨g, 0, none⟩) n gc] 100)) := (Below.refl _ _).alloc (Nat.le_refl _) _
 replace hb := hb.alloc hb.size (Obj.cells #[.slice a0 n q0, .slice a1 n q1, .slice a2 n q2, .slice (some ⟨g, 0, none⟩) n gc] 100)
 have c10 := ch k1 0
 have c11 := ch k1 1
 have c12 := ch k1 2
 have c13 := ch k1 3
 simp at c10 c11 c12 c13
 have e0 := (hold.cell (p := ⟨g, 0, none⟩) hg).trans d0
 have e1 := (hold.cell (p := ⟨g, 1, none⟩) hg).trans d1
 have e2 := (hold.cell (p := ⟨g, 2, none⟩) hg).trans d2
 clear hold
 go_wp2_with (fail)
 generalize (w0.alloc (Obj.cells #[.slice a0 n q0, .slice a1 n q1, .slice a2 n q2, .slice (some ⟨g, 0, none⟩) n gc] 100)) = W1 at *
 refine (go1 (rnum14 _ _) hb k0).mono ?_; clear hb k0; rintro e w1 ⟨rfl, hb, k0⟩
 clear c10 c11 c12 c13 k1
 clear e0 d0 e1 d1 e2 d2
 obtain ⟨z0, z1, z2⟩ := val_cells k0
 obtain ⟨f0, f1, f2⟩ := val_frozen k0
 clear k0
 go_wp2
 exact bodyPost_ret (v := .agg #[.int .i64 1, .int .i64 0, .string ⟨#[]⟩]) (by simp [results, Tryz.results52, go_sem, z0, z1, z2]) rfl ⟨rfl, set3 hb (by omega)⟩
theorem row_34_t (n : Nat) (s : ByteArray) (v : Nat → Val.V) (a : Option Addr) (cap : Nat) (rz : Int) (w : World)
  (HL : Hid (∀ u, Below w.heap.size w u → Calls Tryz.prog 81 #[.int .i64 34, .slice a n cap] u (LookPost u n s v rz))) (hz0 : rz = 0) (hn : 0 < n) (hn2 : n ≤ 100) (t0 : ((v 0).k == 3) = true) :
  Ret 52 #[.int .i64 34, .slice a n cap] w (.agg #[.int .i64 (v 0).k, .int .i64 (v 0).n, .string (v 0).t]) := by
 obtain ⟨hb, k0⟩ := box1 w #[.int .i64 0, .int .i64 0, .string ⟨#[]⟩] 26
 go_enter Tryz.func52, Tryz.ntmps52
 go_wp2_with (fail)
 generalize (w.alloc (Obj.cells #[.int .i64 0, .int .i64 0, .string ⟨#[]⟩] 26)) = W0 at *
 refine (HL.out _ hb).mono ?_
 rintro e w0 ⟨hb0, ⟨hz, _⟩ | ⟨hz, nsv, tsv, bsv, vsv, rfl, hO⟩⟩
 ·exact absurd hz0 hz
 replace k0 := blk hb0 k0
 replace hb := hb.trans (hb0.mono hb.size)
 clear hb0
 subst hz0
 clear hz
 have hRA : RA w0 W0.heap.size n s v nsv tsv bsv vsv := ⟨hO⟩
 clear hO
 obtain ⟨a0, q0, rfl⟩ := (own_any (hRA.o 0 (by omega)) : ∃ b c, nsv = .slice b n c)
 obtain ⟨a1, q1, rfl⟩ := (own_any (hRA.o 1 (by omega)) : ∃ b c, tsv = .slice b n c)
 obtain ⟨a2, q2, rfl⟩ := (own_any (hRA.o 2 (by omega)) : ∃ b c, bsv = .slice b n c)
 obtain ⟨g, gc, rfl, hg, d0, d1, d2⟩ := hRA.vals hn
 clear hRA
 have hlt : w.heap.size < w0.heap.size := (Array.getElem?_eq_some_iff.1 k0).1
 replace k0 := (heap_alloc_old w0 (Obj.cells #[.slice a0 n q0, .slice a1 n q1, .slice a2 n q2, .slice (some ⟨g, 0, none⟩) n gc] 100) hlt).trans k0
 have k1 : (w0.alloc (Obj.cells #[.slice a0 n q0, .slice a1 n q1, .slice a2 n q2, .slice (some ⟨g, 0, none⟩) n gc] 100)).heap[w0.heap.size]? = some (.cells #[.slice a0 n q0, .slice a1 n q1, .slice a2 n q2, .slice (some ⟨g, 0, none⟩) n gc] 100 (0, 0)) := heap_alloc_new _ _
 have hold : Below w0.heap.size w0 (w0.alloc (Obj.cells #[.slice a0 n q0, .slice a1 n q1, .slice a2 n q2, .slice (some ⟨g, 0, none⟩) n gc] 100)) := (Below.refl _ _).alloc (Nat.le_refl _) _
 replace hb := hb.alloc hb.size (Obj.cells #[.slice a0 n q0, .slice a1 n q1, .slice a2 n q2, .slice (some ⟨g, 0, none⟩) n gc] 100)
 have c10 := ch k1 0
 have c11 := ch k1 1
 have c12 := ch k1 2
 have c13 := ch k1 3
 simp at c10 c11 c12 c13
 have e0 := (hold.cell (p := ⟨g, 0, none⟩) hg).trans d0
 have e1 := (hold.cell (p := ⟨g, 1, none⟩) hg).trans d1
 have e2 := (hold.cell (p := ⟨g, 2, none⟩) hg).trans d2
 clear hold
 go_upto_region 16 with (fail)
 generalize (w0.alloc (Obj.cells #[.slice a0 n q0, .slice a1 n q1, .slice a2 n q2, .slice (some ⟨g, 0, none⟩) n gc] 100)) = W1 at *
 clear c10 c11 c12 c13
 have c10 := ch k1 0
 have c11 := ch k1 1
 have c12 := ch k1 2
 have c13 := ch k1 3
 simp at c10 c11 c12 c13
 clear k1 d0 d1 d2
 obtain ⟨z0, z1, z2⟩ := val_cells k0
 obtain ⟨f0, f1, f2⟩ := val_frozen k0
 clear k0
 go_wp2
 exact bodyPost_ret (v := .agg #[.int .i64 (v 0).k, .int .i64 (v 0).n, .string (v 0).t]) (by simp [results, Tryz.results52, go_sem, z0, z1, z2]) rfl ⟨rfl, set3 hb (by omega)⟩
theorem row_34_o (rk rn : Int) (rt : ByteArray) (n : Nat) (s : ByteArray) (v : Nat → Val.V) (a : Option Addr) (cap : Nat) (rz : Int) (w : World)
  (HL : Hid (∀ u, Below w.heap.size w u → Calls Tryz.prog 81 #[.int .i64 34, .slice a n cap] u (LookPost u n s v rz))) (hz0 : rz = 0) (hn : 0 < n) (hn2 : n ≤ 100) (t0 : ((v 0).k == 3) = false) (HT : Hid (∀ u, Ret 58 #[.string ⟨#[]⟩] u (.agg #[.int .i64 rk, .int .i64 rn, .string rt]))) :
  Ret 52 #[.int .i64 34, .slice a n cap] w (.agg #[.int .i64 rk, .int .i64 rn, .string rt]) := by
 obtain ⟨hb, k0⟩ := box1 w #[.int .i64 0, .int .i64 0, .string ⟨#[]⟩] 26
 go_enter Tryz.func52, Tryz.ntmps52
 go_wp2_with (fail)
 generalize (w.alloc (Obj.cells #[.int .i64 0, .int .i64 0, .string ⟨#[]⟩] 26)) = W0 at *
 refine (HL.out _ hb).mono ?_
 rintro e w0 ⟨hb0, ⟨hz, _⟩ | ⟨hz, nsv, tsv, bsv, vsv, rfl, hO⟩⟩
 ·exact absurd hz0 hz
 replace k0 := blk hb0 k0
 replace hb := hb.trans (hb0.mono hb.size)
 clear hb0
 subst hz0
 clear hz
 have hRA : RA w0 W0.heap.size n s v nsv tsv bsv vsv := ⟨hO⟩
 clear hO
 obtain ⟨a0, q0, rfl⟩ := (own_any (hRA.o 0 (by omega)) : ∃ b c, nsv = .slice b n c)
 obtain ⟨a1, q1, rfl⟩ := (own_any (hRA.o 1 (by omega)) : ∃ b c, tsv = .slice b n c)
 obtain ⟨a2, q2, rfl⟩ := (own_any (hRA.o 2 (by omega)) : ∃ b c, bsv = .slice b n c)
 obtain ⟨g, gc, rfl, hg, d0, d1, d2⟩ := hRA.vals hn
 clear hRA
 have hlt : w.heap.size < w0.heap.size := (Array.getElem?_eq_some_iff.1 k0).1
 replace k0 := (heap_alloc_old w0 (Obj.cells #[.slice a0 n q0, .slice a1 n q1, .slice a2 n q2, .slice (some ⟨g, 0, none⟩) n gc] 100) hlt).trans k0
 have k1 : (w0.alloc (Obj.cells #[.slice a0 n q0, .slice a1 n q1, .slice a2 n q2, .slice (some ⟨g, 0, none⟩) n gc] 100)).heap[w0.heap.size]? = some (.cells #[.slice a0 n q0, .slice a1 n q1, .slice a2 n q2, .slice (some ⟨g, 0, none⟩) n gc] 100 (0, 0)) := heap_alloc_new _ _
 have hold : Below w0.heap.size w0 (w0.alloc (Obj.cells #[.slice a0 n q0, .slice a1 n q1, .slice a2 n q2, .slice (some ⟨g, 0, none⟩) n gc] 100)) := (Below.refl _ _).alloc (Nat.le_refl _) _
 replace hb := hb.alloc hb.size (Obj.cells #[.slice a0 n q0, .slice a1 n q1, .slice a2 n q2, .slice (some ⟨g, 0, none⟩) n gc] 100)
 have c10 := ch k1 0
 have c11 := ch k1 1
 have c12 := ch k1 2
 have c13 := ch k1 3
 simp at c10 c11 c12 c13
 have e0 := (hold.cell (p := ⟨g, 0, none⟩) hg).trans d0
 have e1 := (hold.cell (p := ⟨g, 1, none⟩) hg).trans d1
 have e2 := (hold.cell (p := ⟨g, 2, none⟩) hg).trans d2
 clear hold
 go_wp2_with (fail)
 generalize (w0.alloc (Obj.cells #[.slice a0 n q0, .slice a1 n q1, .slice a2 n q2, .slice (some ⟨g, 0, none⟩) n gc] 100)) = W1 at *
 refine (go1 (HT.out _) hb k0).mono ?_; clear hb k0; rintro e w1 ⟨rfl, hb, k0⟩
 clear c10 c11 c12 c13 k1
 clear e0 d0 e1 d1 e2 d2
 obtain ⟨z0, z1, z2⟩ := val_cells k0
 obtain ⟨f0, f1, f2⟩ := val_frozen k0
 clear k0
 go_wp2
 exact bodyPost_ret (v := .agg #[.int .i64 rk, .int .i64 rn, .string rt]) (by simp [results, Tryz.results52, go_sem, z0, z1, z2]) rfl ⟨rfl, set3 hb (by omega)⟩
theorem row_numbers (f : Int) (rk rn : Int) (rt : ByteArray) (n : Nat) (s : ByteArray) (v : Nat → Val.V) (a : Option Addr) (cap : Nat) (rz : Int) (w : World)
  (HL : Hid (∀ u, Below w.heap.size w u → Calls Tryz.prog 81 #[.int .i64 f, .slice a n cap] u (LookPost u n s v rz))) (hz0 : rz = 0) (n14 : (f == 14) = false) (n30 : (f == 30) = false) (n31 : (f == 31) = false) (n33 : (f == 33) = false) (n34 : (f == 34) = false) (n35 : (f == 35) = false) (HS : Hid (∀ u, Ret 84 #[.int .i64 f] u (.string s))) (hs : 0 < s.size) (t0 : (((Cal.chA s 0 : Nat) : Int) == 110) = true) (HN : Hid (∀ (u : World) (B : Nat) nsv tsv bsv vsv, RA u B n s v nsv tsv bsv vsv → Ret 85 #[.int .i64 f, .agg #[nsv, tsv, bsv, vsv]] u (.agg #[.int .i64 rk, .int .i64 rn, .string rt]))) :
  Ret 52 #[.int .i64 f, .slice a n cap] w (.agg #[.int .i64 rk, .int .i64 rn, .string rt]) := by
 obtain ⟨hb, k0⟩ := box1 w #[.int .i64 0, .int .i64 0, .string ⟨#[]⟩] 26
 have ix0 : ∀ w, (Instr.index 9 (.string s) (.int .i64 0)).run Tryz.prog w = .ok (.int .u8 (Cal.chA s 0 : Int)) w := fun w => ix_r s 0 hs w
 go_enter Tryz.func52, Tryz.ntmps52
 go_wp2_with (fail)
 generalize (w.alloc (Obj.cells #[.int .i64 0, .int .i64 0, .string ⟨#[]⟩] 26)) = W0 at *
 refine (HL.out _ hb).mono ?_
 rintro e w0 ⟨hb0, ⟨hz, _⟩ | ⟨hz, nsv, tsv, bsv, vsv, rfl, hO⟩⟩
 ·exact absurd hz0 hz
 replace k0 := blk hb0 k0
 replace hb := hb.trans (hb0.mono hb.size)
 clear hb0
 subst hz0
 clear hz
 have hRA : RA w0 W0.heap.size n s v nsv tsv bsv vsv := ⟨hO⟩
 clear hO
 obtain ⟨a0, q0, rfl⟩ := (own_any (hRA.o 0 (by omega)) : ∃ b c, nsv = .slice b n c)
 obtain ⟨a1, q1, rfl⟩ := (own_any (hRA.o 1 (by omega)) : ∃ b c, tsv = .slice b n c)
 obtain ⟨a2, q2, rfl⟩ := (own_any (hRA.o 2 (by omega)) : ∃ b c, bsv = .slice b n c)
 obtain ⟨a3, q3, rfl⟩ := (own_any (hRA.o 3 (by omega)) : ∃ b c, vsv = .slice b n c)
 have hlt : w.heap.size < w0.heap.size := (Array.getElem?_eq_some_iff.1 k0).1
 replace k0 := (heap_alloc_old w0 (Obj.cells #[.slice a0 n q0, .slice a1 n q1, .slice a2 n q2, .slice a3 n q3] 100) hlt).trans k0
 have k1 : (w0.alloc (Obj.cells #[.slice a0 n q0, .slice a1 n q1, .slice a2 n q2, .slice a3 n q3] 100)).heap[w0.heap.size]? = some (.cells #[.slice a0 n q0, .slice a1 n q1, .slice a2 n q2, .slice a3 n q3] 100 (0, 0)) := heap_alloc_new _ _
 have hold : Below w0.heap.size w0 (w0.alloc (Obj.cells #[.slice a0 n q0, .slice a1 n q1, .slice a2 n q2, .slice a3 n q3] 100)) := (Below.refl _ _).alloc (Nat.le_refl _) _
 replace hb := hb.alloc hb.size (Obj.cells #[.slice a0 n q0, .slice a1 n q1, .slice a2 n q2, .slice a3 n q3] 100)
 have c10 := ch k1 0
 have c11 := ch k1 1
 have c12 := ch k1 2
 have c13 := ch k1 3
 simp at c10 c11 c12 c13
 go_wp2_with (fail)
 generalize (w0.alloc (Obj.cells #[.slice a0 n q0, .slice a1 n q1, .slice a2 n q2, .slice a3 n q3] 100)) = W1 at *
 refine (HS.out _).mono ?_
 rintro e w1 ⟨rfl, hb1⟩
 replace k1 := blk hb1 k1
 replace hold := hold.trans (hb1.mono hold.size)
 clear c10 c11 c12 c13
 have c10 := ch k1 0
 have c11 := ch k1 1
 have c12 := ch k1 2
 have c13 := ch k1 3
 simp at c10 c11 c12 c13
 replace k0 := blk hb1 k0
 replace hb := hb.trans (hb1.mono hb.size)
 clear hb1
 go_wp2_with (fail)
 refine (HN.out _ _ _ _ _ _ (hRA.below rfl hold)).mono ?_
 rintro e w2 ⟨rfl, hb2⟩
 replace k1 := blk hb2 k1
 replace hold := hold.trans (hb2.mono hold.size)
 clear c10 c11 c12 c13
 have c10 := ch k1 0
 have c11 := ch k1 1
 have c12 := ch k1 2
 have c13 := ch k1 3
 simp at c10 c11 c12 c13
 replace k0 := blk hb2 k0
 replace hb := hb.trans (hb2.mono hb.size)
 clear hb2
 clear hold hRA
 clear c10 c11 c12 c13 k1
 obtain ⟨z0, z1, z2⟩ := val_cells k0
 obtain ⟨f0, f1, f2⟩ := val_frozen k0
 clear k0
 go_wp2
 exact bodyPost_ret (v := .agg #[.int .i64 rk, .int .i64 rn, .string rt]) (by simp [results, Tryz.results52, go_sem, z0, z1, z2]) rfl ⟨rfl, set3 hb (by omega)⟩
theorem row_texts (f : Int) (rk rn : Int) (rt : ByteArray) (n : Nat) (s : ByteArray) (v : Nat → Val.V) (a : Option Addr) (cap : Nat) (rz : Int) (w : World)
  (HL : Hid (∀ u, Below w.heap.size w u → Calls Tryz.prog 81 #[.int .i64 f, .slice a n cap] u (LookPost u n s v rz))) (hz0 : rz = 0) (n14 : (f == 14) = false) (n30 : (f == 30) = false) (n31 : (f == 31) = false) (n33 : (f == 33) = false) (n34 : (f == 34) = false) (n35 : (f == 35) = false) (HS : Hid (∀ u, Ret 84 #[.int .i64 f] u (.string s))) (hs : 0 < s.size) (t0 : (((Cal.chA s 0 : Nat) : Int) == 110) = false) (HN : Hid (∀ (u : World) (B : Nat) nsv tsv bsv vsv, RA u B n s v nsv tsv bsv vsv → Ret 86 #[.int .i64 f, .agg #[nsv, tsv, bsv, vsv]] u (.agg #[.int .i64 rk, .int .i64 rn, .string rt]))) :
  Ret 52 #[.int .i64 f, .slice a n cap] w (.agg #[.int .i64 rk, .int .i64 rn, .string rt]) := by
 obtain ⟨hb, k0⟩ := box1 w #[.int .i64 0, .int .i64 0, .string ⟨#[]⟩] 26
 have ix0 : ∀ w, (Instr.index 9 (.string s) (.int .i64 0)).run Tryz.prog w = .ok (.int .u8 (Cal.chA s 0 : Int)) w := fun w => ix_r s 0 hs w
 go_enter Tryz.func52, Tryz.ntmps52
 go_wp2_with (fail)
 generalize (w.alloc (Obj.cells #[.int .i64 0, .int .i64 0, .string ⟨#[]⟩] 26)) = W0 at *
 refine (HL.out _ hb).mono ?_
 rintro e w0 ⟨hb0, ⟨hz, _⟩ | ⟨hz, nsv, tsv, bsv, vsv, rfl, hO⟩⟩
 ·exact absurd hz0 hz
 replace k0 := blk hb0 k0
 replace hb := hb.trans (hb0.mono hb.size)
 clear hb0
 subst hz0
 clear hz
 have hRA : RA w0 W0.heap.size n s v nsv tsv bsv vsv := ⟨hO⟩
 clear hO
 obtain ⟨a0, q0, rfl⟩ := (own_any (hRA.o 0 (by omega)) : ∃ b c, nsv = .slice b n c)
 obtain ⟨a1, q1, rfl⟩ := (own_any (hRA.o 1 (by omega)) : ∃ b c, tsv = .slice b n c)
 obtain ⟨a2, q2, rfl⟩ := (own_any (hRA.o 2 (by omega)) : ∃ b c, bsv = .slice b n c)
 obtain ⟨a3, q3, rfl⟩ := (own_any (hRA.o 3 (by omega)) : ∃ b c, vsv = .slice b n c)
 have hlt : w.heap.size < w0.heap.size := (Array.getElem?_eq_some_iff.1 k0).1
 replace k0 := (heap_alloc_old w0 (Obj.cells #[.slice a0 n q0, .slice a1 n q1, .slice a2 n q2, .slice a3 n q3] 100) hlt).trans k0
 have k1 : (w0.alloc (Obj.cells #[.slice a0 n q0, .slice a1 n q1, .slice a2 n q2, .slice a3 n q3] 100)).heap[w0.heap.size]? = some (.cells #[.slice a0 n q0, .slice a1 n q1, .slice a2 n q2, .slice a3 n q3] 100 (0, 0)) := heap_alloc_new _ _
 have hold : Below w0.heap.size w0 (w0.alloc (Obj.cells #[.slice a0 n q0, .slice a1 n q1, .slice a2 n q2, .slice a3 n q3] 100)) := (Below.refl _ _).alloc (Nat.le_refl _) _
 replace hb := hb.alloc hb.size (Obj.cells #[.slice a0 n q0, .slice a1 n q1, .slice a2 n q2, .slice a3 n q3] 100)
 have c10 := ch k1 0
 have c11 := ch k1 1
 have c12 := ch k1 2
 have c13 := ch k1 3
 simp at c10 c11 c12 c13
 go_wp2_with (fail)
 generalize (w0.alloc (Obj.cells #[.slice a0 n q0, .slice a1 n q1, .slice a2 n q2, .slice a3 n q3] 100)) = W1 at *
 refine (HS.out _).mono ?_
 rintro e w1 ⟨rfl, hb1⟩
 replace k1 := blk hb1 k1
 replace hold := hold.trans (hb1.mono hold.size)
 clear c10 c11 c12 c13
 have c10 := ch k1 0
 have c11 := ch k1 1
 have c12 := ch k1 2
 have c13 := ch k1 3
 simp at c10 c11 c12 c13
 replace k0 := blk hb1 k0
 replace hb := hb.trans (hb1.mono hb.size)
 clear hb1
 go_wp2_with (fail)
 refine (HN.out _ _ _ _ _ _ (hRA.below rfl hold)).mono ?_
 rintro e w2 ⟨rfl, hb2⟩
 replace k1 := blk hb2 k1
 replace hold := hold.trans (hb2.mono hold.size)
 clear c10 c11 c12 c13
 have c10 := ch k1 0
 have c11 := ch k1 1
 have c12 := ch k1 2
 have c13 := ch k1 3
 simp at c10 c11 c12 c13
 replace k0 := blk hb2 k0
 replace hb := hb.trans (hb2.mono hb.size)
 clear hb2
 clear hold hRA
 clear c10 c11 c12 c13 k1
 obtain ⟨z0, z1, z2⟩ := val_cells k0
 obtain ⟨f0, f1, f2⟩ := val_frozen k0
 clear k0
 go_wp2
 exact bodyPost_ret (v := .agg #[.int .i64 rk, .int .i64 rn, .string rt]) (by simp [results, Tryz.results52, go_sem, z0, z1, z2]) rfl ⟨rfl, set3 hb (by omega)⟩
end Go.Proofs.YtpiiemneelkpkaaGreatDoor
