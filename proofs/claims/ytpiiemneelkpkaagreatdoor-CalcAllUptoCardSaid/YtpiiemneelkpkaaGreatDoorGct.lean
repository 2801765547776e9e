import Derived.Test.YtpiiemneelkpkaaGreatDoorGr5
import Derived.Test.YtpiiemneelkpkaaGreatDoorGck
import Derived.LoopTactic
set_option maxRecDepth 100000
namespace Go.Proofs.YtpiiemneelkpkaaGreatDoor
open Go.RowKit
set_option linter.unusedVariables false
namespace Cal
def fct : Nat → Int
 | 0 => 1
 | k + 1 => ((k : Int) + 1) * fct k
theorem fct_fits : ∀ k, k ≤ 20 → 1 ≤ fct k ∧ fct k ≤ 2432902008176640000 := by
 have h : ∀ k : Fin 21, 1 ≤ fct k.val ∧ fct k.val ≤ 2432902008176640000 := by decide +kernel
 exact fun k hk => h ⟨k, by omega⟩
def bitV (o : Nat) (a b : Int) : Int := IntKind.i64.wrap ((match o with | 0 => BitVec.ofInt 64 a &&& BitVec.ofInt 64 b | 1 => BitVec.ofInt 64 a ||| BitVec.ofInt 64 b | _ => BitVec.ofInt 64 a ^^^ BitVec.ofInt 64 b).toNat)
def nA (I : In) (i : Nat) : Int := I.ns.getD i 0
def tA (I : In) (i : Nat) : ByteArray := I.ts.getD i cE
def orA (I : In) : Int := I.ns.getD 0 1
def pos (o : Nat) (a b : Int) : Val.V := cond (decide (a < 0) || decide (b < 0)) (bad 2) (num (bitV o a b))
def signV (n : Int) : Int := if n < 0 then -1 else if 0 < n then 1 else 0
def replT (s : ByteArray) (f n : Int) (t : ByteArray) : ByteArray := s.extract 0 (Run.adv s (f - 1).toNat 0) ++ t ++ s.extract (Run.adv s ((f - 1).toNat + n.toNat) 0) s.size
def replV (s : ByteArray) (f n : Int) (t : ByteArray) : Val.V := if f < 1 ∨ n < 0 then bad 4 else spelt (replT s f n t) 0
def work (f : Nat) (I : In) : Val.V := match f with
 | 1 => cond (decide (nA I 0 < 0)) (fits (Ref.fitV (0 - nA I 0)) (Ref.fitB (0 - nA I 0))) (num (nA I 0))
 | 2 => num (signV (nA I 0))
 | 3 => told (modV (nA I 0) (nA I 1)).1 (modV (nA I 0) (nA I 1)).2
 | 4 => told (quoV (nA I 0) (nA I 1)).1 (quoV (nA I 0) (nA I 1)).2
 | 5 => told (powV (nA I 0) (nA I 1)).1 (powV (nA I 0) (nA I 1)).2
 | 6 => told (gcdV (nA I 0) (nA I 1)).1 (gcdV (nA I 0) (nA I 1)).2
 | 7 => told (lcmV (nA I 0) (nA I 1)).1 (lcmV (nA I 0) (nA I 1)).2
 | 8 => if nA I 0 < 0 ∨ 20 < nA I 0 then bad 2 else num (fct (nA I 0).toNat)
 | 9 => tru ((nA I 0).tmod 2 == 0)
 | 10 => tru ((nA I 0).tmod 2 != 0)
 | 11 => pos 0 (nA I 0) (nA I 1)
 | 12 => pos 1 (nA I 0) (nA I 1)
 | 13 => pos 2 (nA I 0) (nA I 1)
 | 14 => tru (!I.b)
 | 15 => if nA I 2 < nA I 1 then bad 2 else num (max (nA I 1) (min (nA I 0) (nA I 2)))
 | 16 => num (lenV (tA I 0))
 | 17 => spelt (leftV (tA I 0) (orA I)).1 (leftV (tA I 0) (orA I)).2
 | 18 => spelt (rightV (tA I 0) (orA I)).1 (rightV (tA I 0) (orA I)).2
 | 19 => spelt (midV (tA I 0) (nA I 0) (nA I 1)).1 (midV (tA I 0) (nA I 0) (nA I 1)).2
 | 20 => txt (eachS upB (tA I 0))
 | 21 => txt (eachS lowB (tA I 0))
 | 22 => txt (trimS (tA I 0))
 | 23 => txt (turned (tA I 0))
 | 24 => cond ((findV (tA I 0) (tA I 1) (orA I)).2 == 0) (num (findV (tA I 0) (tA I 1) (orA I)).1) (bad 4)
 | 25 => spelt (swapV (tA I 0) (tA I 1) (tA I 2)).1 (swapV (tA I 0) (tA I 1) (tA I 2)).2
 | 26 => replV (tA I 0) (nA I 0) (nA I 1) (tA I 1)
 | 27 => spelt (timesV (tA I 0) (nA I 0)).1 (timesV (tA I 0) (nA I 0)).2
 | 28 => tru ((tA I 0).toList == (tA I 1).toList)
 | 29 => cond ((codeV (tA I 0)).2 == 0) (num (codeV (tA I 0)).1) (bad 4)
 | 30 => spelt (charV (nA I 0)).1 (charV (nA I 0)).2
 | 31 => num (nA I 0)
 | 32 => txt (tA I 0)
 | 33 => cond (I.v.k == 1 || I.v.k == 2) (num I.v.n) (num 0)
 | 34 => cond (I.v.k == 3) I.v (txt cE)
 | _ => bad 6
end Cal
end Go.Proofs.YtpiiemneelkpkaaGreatDoor
namespace Go.Proofs.YtpiiemneelkpkaaGreatDoor
open Go.RowKit
set_option linter.unusedVariables false
structure CW (W W1 : World) (nsv tsv : Value) (I : Cal.In) : Prop where
 b : Below W.heap.size W W1
 x : W1.heap[W.heap.size]? = some (.cells #[nsv, tsv, .bool I.b, .int .i64 I.v.k, .int .i64 I.v.n, .string I.v.t] 84 (0, 0))
 y : W1.heap[W.heap.size + 1]? = some (.cells #[.int .i64 0, .int .i64 0, .string ⟨#[]⟩] 26 (0, 0))
 l : W.heap.size + 1 < W1.heap.size
section
variable {W W1 W2 : World} {nsv tsv : Value} {I : Cal.In}
theorem CW.start (W : World) (nsv tsv : Value) (I : Cal.In) : CW W ((W.alloc (.cells #[nsv, tsv, .bool I.b, .int .i64 I.v.k, .int .i64 I.v.n, .string I.v.t] 84)).alloc (.cells #[.int .i64 0, .int .i64 0, .string ⟨#[]⟩] 26)) nsv tsv I := by
 refine ⟨((Below.refl _ _).alloc (Nat.le_refl W.heap.size) _).alloc (by simp) _, (heap_alloc_old _ _ (by simp)).trans (heap_alloc_new _ _), ?_, by simp⟩
 rw [show W.heap.size + 1 = (W.alloc (.cells #[nsv, tsv, .bool I.b, .int .i64 I.v.k, .int .i64 I.v.n, .string I.v.t] 84)).heap.size by simp]
 exact heap_alloc_new _ _
theorem CW.call (h : CW W W1 nsv tsv I) (hb : Below W1.heap.size W1 W2) : CW W W2 nsv tsv I :=
 ⟨h.b.trans (hb.mono h.b.size), (hb.block _ (Array.getElem?_eq_some_iff.1 h.x).1).trans h.x, (hb.block _ h.l).trans h.y, Nat.lt_of_lt_of_le h.l hb.size⟩
theorem CW.drew (h : CW W W1 nsv tsv I) : CW W W1.drew nsv tsv I := ⟨h.b.drew, h.x, h.y, h.l⟩
theorem CW.drewN (h : CW W W1 nsv tsv I) (n : Nat) : CW W (W1.drewN n) nsv tsv I := h.call ⟨rfl, rfl, rfl, Nat.le_refl _, fun _ _ => rfl⟩
theorem CW.old (h : CW W W1 nsv tsv I) {p : Addr} {v : Value} (hc : W.cell? p = some v) (hp : p.block < W.heap.size) : W1.cell? p = some v := (h.b.cell hp).trans hc
theorem CW.xs (h : CW W W1 nsv tsv I) : W1.cell? ⟨W.heap.size, 0, none⟩ = some nsv ∧ W1.cell? ⟨W.heap.size, 1, none⟩ = some tsv ∧ W1.cell? ⟨W.heap.size, 2, none⟩ = some (.bool I.b) ∧ W1.cell? ⟨W.heap.size, 3, none⟩ = some (.int .i64 I.v.k) ∧ W1.cell? ⟨W.heap.size, 4, none⟩ = some (.int .i64 I.v.n) ∧ W1.cell? ⟨W.heap.size, 5, none⟩ = some (.string I.v.t) :=
 ⟨by simpa using Lib.cell_of_heap h.x 0, by simpa using Lib.cell_of_heap h.x 1, by simpa using Lib.cell_of_heap h.x 2, by simpa using Lib.cell_of_heap h.x 3, by simpa using Lib.cell_of_heap h.x 4, by simpa using Lib.cell_of_heap h.x 5⟩
theorem CW.out (h : CW W W1 nsv tsv I) (a b c : Value) : Below W.heap.size W (((W1.setCell ⟨W.heap.size + 1, 0, none⟩ a).setCell ⟨W.heap.size + 1, 1, none⟩ b).setCell ⟨W.heap.size + 1, 2, none⟩ c) :=
 set3 h.b (by simp)
end
theorem cnum_any (n : Int) (w : World) : Ret 47 #[.int .i64 n] w (vv (Cal.num n)) := cnumber_any n w
theorem cbad_any (n : Int) (w : World) : Ret 28 #[.int .i64 n] w (vv (Cal.bad n)) := cfault_any n w
theorem ctxt_any (s : ByteArray) (w : World) : Ret 70 #[.string s] w (vv (Cal.txt s)) := ctext_any s w
theorem two1_any (fid : FuncId) (hcf : ∀ args w, (callFunc fid args).run Tryz.prog w = .ok (.enter fid args) w) (a b u x : Int) (W : World) (g gc : Nat) (tsv : Value) (bb bT : Nat) (I : Cal.In) (hg : g < W.heap.size) (c0 : W.cell? ⟨g, 0, none⟩ = some (.int .i64 a)) (c1 : W.cell? ⟨g, 1, none⟩ = some (.int .i64 b)) (hbx : W.heap[bb]? = some (.cells #[.func (.func fid) #[] #[]] bT (0, 0))) (hf : ∀ w, Below W.heap.size W w → Ret fid #[.int .i64 a, .int .i64 b] w (.tuple #[.int .i64 u, .int .i64 x])) :
  Ret 172 #[.agg #[.slice (some ⟨g, 0, none⟩) 2 gc, tsv, .bool I.b, .int .i64 I.v.k, .int .i64 I.v.n, .string I.v.t], .pointer (some ⟨bb, 0, none⟩)] W (vv (Cal.told u x)) := by
 have HF := Lib.hid (hf)
 have HT := Lib.hid (fun w => ctold_any u x w)
 clear hf
 generalize Cal.told u x = r at *
 obtain ⟨rk, rn, rt⟩ := r
 have hL := CW.start W (.slice (some ⟨g, 0, none⟩) 2 gc) (tsv) I
 go_enter Tryz.func172, Tryz.ntmps172
 go_upto_region 1 with (fail)
 generalize ((W.alloc (.cells #[.slice (some ⟨g, 0, none⟩) 2 gc, tsv, .bool I.b, .int .i64 I.v.k, .int .i64 I.v.n, .string I.v.t] 84)).alloc (.cells #[.int .i64 0, .int .i64 0, .string ⟨#[]⟩] 26)) = W1 at *
 have b0 := hL.old (by simpa using Lib.cell_of_heap hbx 0 : W.cell? ⟨bb, 0, none⟩ = some (.func (.func fid) #[] #[])) (Array.getElem?_eq_some_iff.1 hbx).1
 obtain ⟨x0, x1, x2, x3, x4, x5⟩ := hL.xs
 replace c0 := hL.old c0 hg
 replace c1 := hL.old c1 hg
 have hS : W1.cell? ⟨bb, 0, none⟩ = some (.func (.func fid) #[] #[]) ∧ W1.cell? ⟨W.heap.size, 0, none⟩ = some (.slice (some ⟨g, 0, none⟩) 2 gc) ∧ W1.cell? ⟨g, 0, none⟩ = some (.int .i64 a) ∧ W1.cell? ⟨g, 1, none⟩ = some (.int .i64 b) := ⟨b0, x0, c0, c1⟩
 clear b0 x0 c0 c1
 have nbb : ¬ W.heap.size + 1 = bb := by have := (Array.getElem?_eq_some_iff.1 hbx).1; omega
 have mbb : ¬ bb = W.heap.size + 1 := by have := (Array.getElem?_eq_some_iff.1 hbx).1; omega
 have ng : ¬ W.heap.size + 1 = g := by omega
 have mg : ¬ g = W.heap.size + 1 := by omega
 go_region_held3 (fun w' => w'.cell? ⟨bb, 0, none⟩ = some (.func (.func fid) #[] #[]) ∧ w'.cell? ⟨W.heap.size, 0, none⟩ = some (.slice (some ⟨g, 0, none⟩) 2 gc) ∧ w'.cell? ⟨g, 0, none⟩ = some (.int .i64 a) ∧ w'.cell? ⟨g, 1, none⟩ = some (.int .i64 b))
  (first | go_keep | exact ⟨(hb4.cell (p := ⟨bb, 0, none⟩) (Nat.lt_of_lt_of_le (Array.getElem?_eq_some_iff.1 hbx).1 hL.b.size)).trans hS.1, (hb4.cell (p := ⟨W.heap.size, 0, none⟩) (by have := hL.l; show W.heap.size < W1.heap.size; omega)).trans hS.2.1, (hb4.cell (p := ⟨g, 0, none⟩) (Nat.lt_of_lt_of_le hg hL.b.size)).trans hS.2.2.1, (hb4.cell (p := ⟨g, 1, none⟩) (Nat.lt_of_lt_of_le hg hL.b.size)).trans hS.2.2.2⟩ | exact ⟨(hb5.cell (p := ⟨bb, 0, none⟩) (Nat.lt_of_lt_of_le (Array.getElem?_eq_some_iff.1 hbx).1 hL.b.size)).trans hS.1, (hb5.cell (p := ⟨W.heap.size, 0, none⟩) (by have := hL.l; show W.heap.size < W1.heap.size; omega)).trans hS.2.1, (hb5.cell (p := ⟨g, 0, none⟩) (Nat.lt_of_lt_of_le hg hL.b.size)).trans hS.2.2.1, (hb5.cell (p := ⟨g, 1, none⟩) (Nat.lt_of_lt_of_le hg hL.b.size)).trans hS.2.2.2⟩ | ((try dsimp only); (repeat' apply And.intro) <;> go_keep))
  (first | (with_reducible refine (HF.out _ hL.b.drew).mono ?_; rintro e w4 ⟨rfl, hb4⟩) | (go_at_call 36; refine (HT.out _).mono ?_; rintro e w5 ⟨rfl, hb5⟩; replace hb5 := Below.trans hb4 (hb5.mono hb4.size); have hM := hL.drew.call hb5; obtain ⟨y0, y1, y2⟩ := val_cells hM.y; obtain ⟨f0, f1, f2⟩ := val_frozen hM.y))
 go_wp2
 exact bodyPost_ret (v := .agg #[.int .i64 rk, .int .i64 rn, .string rt]) (by simp [results, Tryz.results172, go_sem, y0, y1, y2]) rfl ⟨rfl, hM.out _ _ _⟩
theorem pos1_a (fid : FuncId) (a b : Int) (t0 : decide (a < 0) = true) (W : World) (g gc : Nat) (tsv : Value) (bb bT : Nat) (I : Cal.In) (hg : g < W.heap.size) (c0 : W.cell? ⟨g, 0, none⟩ = some (.int .i64 a)) (c1 : W.cell? ⟨g, 1, none⟩ = some (.int .i64 b)) (hbx : W.heap[bb]? = some (.cells #[.func (.func fid) #[] #[]] bT (0, 0))) :
  Ret 175 #[.agg #[.slice (some ⟨g, 0, none⟩) 2 gc, tsv, .bool I.b, .int .i64 I.v.k, .int .i64 I.v.n, .string I.v.t], .pointer (some ⟨bb, 0, none⟩)] W (vv (Cal.bad 2)) := by
 have H9 := Lib.hid (fun w => cbad_any 2 w)
 generalize Cal.bad 2 = r at *
 obtain ⟨rk, rn, rt⟩ := r
 have hL := CW.start W (.slice (some ⟨g, 0, none⟩) 2 gc) (tsv) I
 go_enter Tryz.func175, Tryz.ntmps175
 go_upto_region 1 with (fail)
 generalize ((W.alloc (.cells #[.slice (some ⟨g, 0, none⟩) 2 gc, tsv, .bool I.b, .int .i64 I.v.k, .int .i64 I.v.n, .string I.v.t] 84)).alloc (.cells #[.int .i64 0, .int .i64 0, .string ⟨#[]⟩] 26)) = W1 at *
 have b0 := hL.old (by simpa using Lib.cell_of_heap hbx 0 : W.cell? ⟨bb, 0, none⟩ = some (.func (.func fid) #[] #[])) (Array.getElem?_eq_some_iff.1 hbx).1
 obtain ⟨x0, x1, x2, x3, x4, x5⟩ := hL.xs
 replace c0 := hL.old c0 hg
 replace c1 := hL.old c1 hg
 go_wp2_with (fail)
 refine (H9.out _).mono ?_
 rintro e w4 ⟨rfl, hb4⟩
 replace hL := hL.call hb4
 clear hb4
 clear x0 x1 x2 x3 x4 x5
 obtain ⟨y0, y1, y2⟩ := val_cells hL.y
 obtain ⟨f0, f1, f2⟩ := val_frozen hL.y
 go_wp2
 exact bodyPost_ret (v := .agg #[.int .i64 rk, .int .i64 rn, .string rt]) (by simp [results, Tryz.results175, go_sem, y0, y1, y2]) rfl ⟨rfl, hL.out _ _ _⟩
theorem pos1_b (fid : FuncId) (a b : Int) (t0 : decide (a < 0) = false) (t1 : decide (b < 0) = true) (W : World) (g gc : Nat) (tsv : Value) (bb bT : Nat) (I : Cal.In) (hg : g < W.heap.size) (c0 : W.cell? ⟨g, 0, none⟩ = some (.int .i64 a)) (c1 : W.cell? ⟨g, 1, none⟩ = some (.int .i64 b)) (hbx : W.heap[bb]? = some (.cells #[.func (.func fid) #[] #[]] bT (0, 0))) :
  Ret 175 #[.agg #[.slice (some ⟨g, 0, none⟩) 2 gc, tsv, .bool I.b, .int .i64 I.v.k, .int .i64 I.v.n, .string I.v.t], .pointer (some ⟨bb, 0, none⟩)] W (vv (Cal.bad 2)) := by
 have H9 := Lib.hid (fun w => cbad_any 2 w)
 generalize Cal.bad 2 = r at *
 obtain ⟨rk, rn, rt⟩ := r
 have hL := CW.start W (.slice (some ⟨g, 0, none⟩) 2 gc) (tsv) I
 go_enter Tryz.func175, Tryz.ntmps175
 go_upto_region 1 with (fail)
 generalize ((W.alloc (.cells #[.slice (some ⟨g, 0, none⟩) 2 gc, tsv, .bool I.b, .int .i64 I.v.k, .int .i64 I.v.n, .string I.v.t] 84)).alloc (.cells #[.int .i64 0, .int .i64 0, .string ⟨#[]⟩] 26)) = W1 at *
 have b0 := hL.old (by simpa using Lib.cell_of_heap hbx 0 : W.cell? ⟨bb, 0, none⟩ = some (.func (.func fid) #[] #[])) (Array.getElem?_eq_some_iff.1 hbx).1
 obtain ⟨x0, x1, x2, x3, x4, x5⟩ := hL.xs
 replace c0 := hL.old c0 hg
 replace c1 := hL.old c1 hg
 go_wp2_with (fail)
 refine (H9.out _).mono ?_
 rintro e w4 ⟨rfl, hb4⟩
 replace hL := hL.call hb4
 clear hb4
 clear x0 x1 x2 x3 x4 x5
 obtain ⟨y0, y1, y2⟩ := val_cells hL.y
 obtain ⟨f0, f1, f2⟩ := val_frozen hL.y
 go_wp2
 exact bodyPost_ret (v := .agg #[.int .i64 rk, .int .i64 rn, .string rt]) (by simp [results, Tryz.results175, go_sem, y0, y1, y2]) rfl ⟨rfl, hL.out _ _ _⟩
theorem pos1_c (fid : FuncId) (hcf : ∀ args w, (callFunc fid args).run Tryz.prog w = .ok (.enter fid args) w) (a b u : Int) (t0 : decide (a < 0) = false) (t1 : decide (b < 0) = false) (W : World) (g gc : Nat) (tsv : Value) (bb bT : Nat) (I : Cal.In) (hg : g < W.heap.size) (c0 : W.cell? ⟨g, 0, none⟩ = some (.int .i64 a)) (c1 : W.cell? ⟨g, 1, none⟩ = some (.int .i64 b)) (hbx : W.heap[bb]? = some (.cells #[.func (.func fid) #[] #[]] bT (0, 0))) (hf : ∀ w, Below W.heap.size W w → Ret fid #[.int .i64 a, .int .i64 b] w (.int .i64 u)) :
  Ret 175 #[.agg #[.slice (some ⟨g, 0, none⟩) 2 gc, tsv, .bool I.b, .int .i64 I.v.k, .int .i64 I.v.n, .string I.v.t], .pointer (some ⟨bb, 0, none⟩)] W (vv (Cal.num u)) := by
 have HF := Lib.hid (hf)
 have H9 := Lib.hid (fun w => cnum_any u w)
 clear hf
 generalize Cal.num u = r at *
 obtain ⟨rk, rn, rt⟩ := r
 have hL := CW.start W (.slice (some ⟨g, 0, none⟩) 2 gc) (tsv) I
 go_enter Tryz.func175, Tryz.ntmps175
 go_upto_region 1 with (fail)
 generalize ((W.alloc (.cells #[.slice (some ⟨g, 0, none⟩) 2 gc, tsv, .bool I.b, .int .i64 I.v.k, .int .i64 I.v.n, .string I.v.t] 84)).alloc (.cells #[.int .i64 0, .int .i64 0, .string ⟨#[]⟩] 26)) = W1 at *
 have b0 := hL.old (by simpa using Lib.cell_of_heap hbx 0 : W.cell? ⟨bb, 0, none⟩ = some (.func (.func fid) #[] #[])) (Array.getElem?_eq_some_iff.1 hbx).1
 obtain ⟨x0, x1, x2, x3, x4, x5⟩ := hL.xs
 replace c0 := hL.old c0 hg
 replace c1 := hL.old c1 hg
 go_upto_region 3 with (fail)
 have hS : W1.cell? ⟨bb, 0, none⟩ = some (.func (.func fid) #[] #[]) ∧ W1.cell? ⟨W.heap.size, 0, none⟩ = some (.slice (some ⟨g, 0, none⟩) 2 gc) ∧ W1.cell? ⟨g, 0, none⟩ = some (.int .i64 a) ∧ W1.cell? ⟨g, 1, none⟩ = some (.int .i64 b) := ⟨b0, x0, c0, c1⟩
 clear b0 x0 c0 c1
 have nbb : ¬ W.heap.size + 1 = bb := by have := (Array.getElem?_eq_some_iff.1 hbx).1; omega
 have mbb : ¬ bb = W.heap.size + 1 := by have := (Array.getElem?_eq_some_iff.1 hbx).1; omega
 have ng : ¬ W.heap.size + 1 = g := by omega
 have mg : ¬ g = W.heap.size + 1 := by omega
 go_region_held3 (fun w' => w'.cell? ⟨bb, 0, none⟩ = some (.func (.func fid) #[] #[]) ∧ w'.cell? ⟨W.heap.size, 0, none⟩ = some (.slice (some ⟨g, 0, none⟩) 2 gc) ∧ w'.cell? ⟨g, 0, none⟩ = some (.int .i64 a) ∧ w'.cell? ⟨g, 1, none⟩ = some (.int .i64 b))
  (first | go_keep | exact ⟨(hb4.cell (p := ⟨bb, 0, none⟩) (Nat.lt_of_lt_of_le (Array.getElem?_eq_some_iff.1 hbx).1 hL.b.size)).trans hS.1, (hb4.cell (p := ⟨W.heap.size, 0, none⟩) (by have := hL.l; show W.heap.size < W1.heap.size; omega)).trans hS.2.1, (hb4.cell (p := ⟨g, 0, none⟩) (Nat.lt_of_lt_of_le hg hL.b.size)).trans hS.2.2.1, (hb4.cell (p := ⟨g, 1, none⟩) (Nat.lt_of_lt_of_le hg hL.b.size)).trans hS.2.2.2⟩ | exact ⟨(hb5.cell (p := ⟨bb, 0, none⟩) (Nat.lt_of_lt_of_le (Array.getElem?_eq_some_iff.1 hbx).1 hL.b.size)).trans hS.1, (hb5.cell (p := ⟨W.heap.size, 0, none⟩) (by have := hL.l; show W.heap.size < W1.heap.size; omega)).trans hS.2.1, (hb5.cell (p := ⟨g, 0, none⟩) (Nat.lt_of_lt_of_le hg hL.b.size)).trans hS.2.2.1, (hb5.cell (p := ⟨g, 1, none⟩) (Nat.lt_of_lt_of_le hg hL.b.size)).trans hS.2.2.2⟩ | ((try dsimp only); (repeat' apply And.intro) <;> go_keep))
  (first | (with_reducible refine (HF.out _ hL.b.drew).mono ?_; rintro e w4 ⟨rfl, hb4⟩) | (go_at_call 47; refine (H9.out _).mono ?_; rintro e w5 ⟨rfl, hb5⟩; replace hb5 := Below.trans hb4 (hb5.mono hb4.size); have hM := hL.drew.call hb5; obtain ⟨y0, y1, y2⟩ := val_cells hM.y; obtain ⟨f0, f1, f2⟩ := val_frozen hM.y))
 go_wp2
 exact bodyPost_ret (v := .agg #[.int .i64 rk, .int .i64 rn, .string rt]) (by simp [results, Tryz.results175, go_sem, y0, y1, y2]) rfl ⟨rfl, hM.out _ _ _⟩
theorem wk1a (a : Int) (ha : I64 a) (t0 : decide (a < 0) = true) (W : World) (g gc : Nat) (tsv : Value) (I : Cal.In) (hg : g < W.heap.size) (c0 : W.cell? ⟨g, 0, none⟩ = some (.int .i64 a)) :
  Ret 104 #[.agg #[.slice (some ⟨g, 0, none⟩) 1 gc, tsv, .bool I.b, .int .i64 I.v.k, .int .i64 I.v.n, .string I.v.t]] W (vv (Cal.fits (Ref.fitV (0 - a)) (Ref.fitB (0 - a)))) := by
 have H1 := Lib.hid (fun w => csub 0 a ⟨by decide, by decide⟩ ha w)
 have H2 := Lib.hid (fun w => cfits_any (Ref.fitV (0 - a)) (Ref.fitB (0 - a)) w)
 generalize Ref.fitV (0 - a) = u at *
 generalize Ref.fitB (0 - a) = b at *
 generalize Cal.fits u b = r at *
 obtain ⟨rk, rn, rt⟩ := r
 have hL := CW.start W (.slice (some ⟨g, 0, none⟩) 1 gc) (tsv) I
 go_enter Tryz.func104, Tryz.ntmps104
 go_upto_region 1 with (fail)
 generalize ((W.alloc (.cells #[.slice (some ⟨g, 0, none⟩) 1 gc, tsv, .bool I.b, .int .i64 I.v.k, .int .i64 I.v.n, .string I.v.t] 84)).alloc (.cells #[.int .i64 0, .int .i64 0, .string ⟨#[]⟩] 26)) = W1 at *
 obtain ⟨x0, x1, x2, x3, x4, x5⟩ := hL.xs
 replace c0 := hL.old c0 hg
 go_wp2_with (fail)
 refine (H1.out _).mono ?_
 rintro e w4 ⟨rfl, hb4⟩
 replace hL := hL.call hb4
 clear hb4
 obtain ⟨x0, x1, x2, x3, x4, x5⟩ := hL.xs
 go_wp2_with (fail)
 refine (H2.out _).mono ?_
 rintro e w5 ⟨rfl, hb5⟩
 replace hL := hL.call hb5
 clear hb5
 clear x0 x1 x2 x3 x4 x5
 obtain ⟨y0, y1, y2⟩ := val_cells hL.y
 obtain ⟨f0, f1, f2⟩ := val_frozen hL.y
 go_wp2
 exact bodyPost_ret (v := .agg #[.int .i64 rk, .int .i64 rn, .string rt]) (by simp [results, Tryz.results104, go_sem, y0, y1, y2]) rfl ⟨rfl, hL.out _ _ _⟩
theorem wk1b (a : Int) (t0 : decide (a < 0) = false) (W : World) (g gc : Nat) (tsv : Value) (I : Cal.In) (hg : g < W.heap.size) (c0 : W.cell? ⟨g, 0, none⟩ = some (.int .i64 a)) :
  Ret 104 #[.agg #[.slice (some ⟨g, 0, none⟩) 1 gc, tsv, .bool I.b, .int .i64 I.v.k, .int .i64 I.v.n, .string I.v.t]] W (vv (Cal.num a)) := by
 have H9 := Lib.hid (fun w => cnum_any a w)
 generalize Cal.num a = r at *
 obtain ⟨rk, rn, rt⟩ := r
 have hL := CW.start W (.slice (some ⟨g, 0, none⟩) 1 gc) (tsv) I
 go_enter Tryz.func104, Tryz.ntmps104
 go_upto_region 1 with (fail)
 generalize ((W.alloc (.cells #[.slice (some ⟨g, 0, none⟩) 1 gc, tsv, .bool I.b, .int .i64 I.v.k, .int .i64 I.v.n, .string I.v.t] 84)).alloc (.cells #[.int .i64 0, .int .i64 0, .string ⟨#[]⟩] 26)) = W1 at *
 obtain ⟨x0, x1, x2, x3, x4, x5⟩ := hL.xs
 replace c0 := hL.old c0 hg
 go_wp2_with (fail)
 refine (H9.out _).mono ?_
 rintro e w4 ⟨rfl, hb4⟩
 replace hL := hL.call hb4
 clear hb4
 clear x0 x1 x2 x3 x4 x5
 obtain ⟨y0, y1, y2⟩ := val_cells hL.y
 obtain ⟨f0, f1, f2⟩ := val_frozen hL.y
 go_wp2
 exact bodyPost_ret (v := .agg #[.int .i64 rk, .int .i64 rn, .string rt]) (by simp [results, Tryz.results104, go_sem, y0, y1, y2]) rfl ⟨rfl, hL.out _ _ _⟩
theorem wk2a (a : Int) (t0 : decide (a < 0) = true) (W : World) (g gc : Nat) (tsv : Value) (I : Cal.In) (hg : g < W.heap.size) (c0 : W.cell? ⟨g, 0, none⟩ = some (.int .i64 a)) :
  Ret 105 #[.agg #[.slice (some ⟨g, 0, none⟩) 1 gc, tsv, .bool I.b, .int .i64 I.v.k, .int .i64 I.v.n, .string I.v.t]] W (vv (Cal.num (-1))) := by
 have H9 := Lib.hid (fun w => cnum_any (-1) w)
 generalize Cal.num (-1) = r at *
 obtain ⟨rk, rn, rt⟩ := r
 have hL := CW.start W (.slice (some ⟨g, 0, none⟩) 1 gc) (tsv) I
 go_enter Tryz.func105, Tryz.ntmps105
 go_upto_region 1 with (fail)
 generalize ((W.alloc (.cells #[.slice (some ⟨g, 0, none⟩) 1 gc, tsv, .bool I.b, .int .i64 I.v.k, .int .i64 I.v.n, .string I.v.t] 84)).alloc (.cells #[.int .i64 0, .int .i64 0, .string ⟨#[]⟩] 26)) = W1 at *
 obtain ⟨x0, x1, x2, x3, x4, x5⟩ := hL.xs
 replace c0 := hL.old c0 hg
 go_wp2_with (fail)
 refine (H9.out _).mono ?_
 rintro e w4 ⟨rfl, hb4⟩
 replace hL := hL.call hb4
 clear hb4
 clear x0 x1 x2 x3 x4 x5
 obtain ⟨y0, y1, y2⟩ := val_cells hL.y
 obtain ⟨f0, f1, f2⟩ := val_frozen hL.y
 go_wp2
 exact bodyPost_ret (v := .agg #[.int .i64 rk, .int .i64 rn, .string rt]) (by simp [results, Tryz.results105, go_sem, y0, y1, y2]) rfl ⟨rfl, hL.out _ _ _⟩
theorem wk2b (a : Int) (t0 : decide (a < 0) = false) (t1 : decide (0 < a) = true) (W : World) (g gc : Nat) (tsv : Value) (I : Cal.In) (hg : g < W.heap.size) (c0 : W.cell? ⟨g, 0, none⟩ = some (.int .i64 a)) :
  Ret 105 #[.agg #[.slice (some ⟨g, 0, none⟩) 1 gc, tsv, .bool I.b, .int .i64 I.v.k, .int .i64 I.v.n, .string I.v.t]] W (vv (Cal.num 1)) := by
 have H9 := Lib.hid (fun w => cnum_any 1 w)
 generalize Cal.num 1 = r at *
 obtain ⟨rk, rn, rt⟩ := r
 have hL := CW.start W (.slice (some ⟨g, 0, none⟩) 1 gc) (tsv) I
 go_enter Tryz.func105, Tryz.ntmps105
 go_upto_region 1 with (fail)
 generalize ((W.alloc (.cells #[.slice (some ⟨g, 0, none⟩) 1 gc, tsv, .bool I.b, .int .i64 I.v.k, .int .i64 I.v.n, .string I.v.t] 84)).alloc (.cells #[.int .i64 0, .int .i64 0, .string ⟨#[]⟩] 26)) = W1 at *
 obtain ⟨x0, x1, x2, x3, x4, x5⟩ := hL.xs
 replace c0 := hL.old c0 hg
 go_wp2_with (fail)
 refine (H9.out _).mono ?_
 rintro e w4 ⟨rfl, hb4⟩
 replace hL := hL.call hb4
 clear hb4
 clear x0 x1 x2 x3 x4 x5
 obtain ⟨y0, y1, y2⟩ := val_cells hL.y
 obtain ⟨f0, f1, f2⟩ := val_frozen hL.y
 go_wp2
 exact bodyPost_ret (v := .agg #[.int .i64 rk, .int .i64 rn, .string rt]) (by simp [results, Tryz.results105, go_sem, y0, y1, y2]) rfl ⟨rfl, hL.out _ _ _⟩
theorem wk2c (a : Int) (t0 : decide (a < 0) = false) (t1 : decide (0 < a) = false) (W : World) (g gc : Nat) (tsv : Value) (I : Cal.In) (hg : g < W.heap.size) (c0 : W.cell? ⟨g, 0, none⟩ = some (.int .i64 a)) :
  Ret 105 #[.agg #[.slice (some ⟨g, 0, none⟩) 1 gc, tsv, .bool I.b, .int .i64 I.v.k, .int .i64 I.v.n, .string I.v.t]] W (vv (Cal.num 0)) := by
 have H9 := Lib.hid (fun w => cnum_any 0 w)
 generalize Cal.num 0 = r at *
 obtain ⟨rk, rn, rt⟩ := r
 have hL := CW.start W (.slice (some ⟨g, 0, none⟩) 1 gc) (tsv) I
 go_enter Tryz.func105, Tryz.ntmps105
 go_upto_region 1 with (fail)
 generalize ((W.alloc (.cells #[.slice (some ⟨g, 0, none⟩) 1 gc, tsv, .bool I.b, .int .i64 I.v.k, .int .i64 I.v.n, .string I.v.t] 84)).alloc (.cells #[.int .i64 0, .int .i64 0, .string ⟨#[]⟩] 26)) = W1 at *
 obtain ⟨x0, x1, x2, x3, x4, x5⟩ := hL.xs
 replace c0 := hL.old c0 hg
 go_wp2_with (fail)
 refine (H9.out _).mono ?_
 rintro e w4 ⟨rfl, hb4⟩
 replace hL := hL.call hb4
 clear hb4
 clear x0 x1 x2 x3 x4 x5
 obtain ⟨y0, y1, y2⟩ := val_cells hL.y
 obtain ⟨f0, f1, f2⟩ := val_frozen hL.y
 go_wp2
 exact bodyPost_ret (v := .agg #[.int .i64 rk, .int .i64 rn, .string rt]) (by simp [results, Tryz.results105, go_sem, y0, y1, y2]) rfl ⟨rfl, hL.out _ _ _⟩
theorem wk9 (a : Int) (b : Bool) (hb : (a.tmod 2 == 0) = b) (W : World) (g gc : Nat) (tsv : Value) (I : Cal.In) (hg : g < W.heap.size) (c0 : W.cell? ⟨g, 0, none⟩ = some (.int .i64 a)) :
  Ret 111 #[.agg #[.slice (some ⟨g, 0, none⟩) 1 gc, tsv, .bool I.b, .int .i64 I.v.k, .int .i64 I.v.n, .string I.v.t]] W (vv (Cal.tru b)) := by
 have H9 := Lib.hid (fun w => ctruth_any b w)
 generalize Cal.tru b = r at *
 obtain ⟨rk, rn, rt⟩ := r
 have hL := CW.start W (.slice (some ⟨g, 0, none⟩) 1 gc) (tsv) I
 go_enter Tryz.func111, Tryz.ntmps111
 go_upto_region 1 with (fail)
 generalize ((W.alloc (.cells #[.slice (some ⟨g, 0, none⟩) 1 gc, tsv, .bool I.b, .int .i64 I.v.k, .int .i64 I.v.n, .string I.v.t] 84)).alloc (.cells #[.int .i64 0, .int .i64 0, .string ⟨#[]⟩] 26)) = W1 at *
 obtain ⟨x0, x1, x2, x3, x4, x5⟩ := hL.xs
 replace c0 := hL.old c0 hg
 go_wp2_with (fail)
 refine (H9.out _).mono ?_
 rintro e w4 ⟨rfl, hb4⟩
 replace hL := hL.call hb4
 clear hb4
 clear x0 x1 x2 x3 x4 x5
 obtain ⟨y0, y1, y2⟩ := val_cells hL.y
 obtain ⟨f0, f1, f2⟩ := val_frozen hL.y
 go_wp2
 exact bodyPost_ret (v := .agg #[.int .i64 rk, .int .i64 rn, .string rt]) (by simp [results, Tryz.results111, go_sem, y0, y1, y2]) rfl ⟨rfl, hL.out _ _ _⟩
theorem wk10 (a : Int) (b : Bool) (hb : (a.tmod 2 != 0) = b) (W : World) (g gc : Nat) (tsv : Value) (I : Cal.In) (hg : g < W.heap.size) (c0 : W.cell? ⟨g, 0, none⟩ = some (.int .i64 a)) :
  Ret 112 #[.agg #[.slice (some ⟨g, 0, none⟩) 1 gc, tsv, .bool I.b, .int .i64 I.v.k, .int .i64 I.v.n, .string I.v.t]] W (vv (Cal.tru b)) := by
 have H9 := Lib.hid (fun w => ctruth_any b w)
 generalize Cal.tru b = r at *
 obtain ⟨rk, rn, rt⟩ := r
 have hL := CW.start W (.slice (some ⟨g, 0, none⟩) 1 gc) (tsv) I
 go_enter Tryz.func112, Tryz.ntmps112
 go_upto_region 1 with (fail)
 generalize ((W.alloc (.cells #[.slice (some ⟨g, 0, none⟩) 1 gc, tsv, .bool I.b, .int .i64 I.v.k, .int .i64 I.v.n, .string I.v.t] 84)).alloc (.cells #[.int .i64 0, .int .i64 0, .string ⟨#[]⟩] 26)) = W1 at *
 obtain ⟨x0, x1, x2, x3, x4, x5⟩ := hL.xs
 replace c0 := hL.old c0 hg
 go_wp2_with (fail)
 refine (H9.out _).mono ?_
 rintro e w4 ⟨rfl, hb4⟩
 replace hL := hL.call hb4
 clear hb4
 clear x0 x1 x2 x3 x4 x5
 obtain ⟨y0, y1, y2⟩ := val_cells hL.y
 obtain ⟨f0, f1, f2⟩ := val_frozen hL.y
 go_wp2
 exact bodyPost_ret (v := .agg #[.int .i64 rk, .int .i64 rn, .string rt]) (by simp [results, Tryz.results112, go_sem, y0, y1, y2]) rfl ⟨rfl, hL.out _ _ _⟩
theorem wk14 (b : Bool) (W : World) (nsv : Value) (tsv : Value) (I : Cal.In)  (hb : (!I.b) = b) :
  Ret 117 #[.agg #[nsv, tsv, .bool I.b, .int .i64 I.v.k, .int .i64 I.v.n, .string I.v.t]] W (vv (Cal.tru b)) := by
 have H9 := Lib.hid (fun w => ctruth_any b w)
 generalize Cal.tru b = r at *
 obtain ⟨rk, rn, rt⟩ := r
 have hL := CW.start W (nsv) (tsv) I
 go_enter Tryz.func117, Tryz.ntmps117
 go_upto_region 1 with (fail)
 generalize ((W.alloc (.cells #[nsv, tsv, .bool I.b, .int .i64 I.v.k, .int .i64 I.v.n, .string I.v.t] 84)).alloc (.cells #[.int .i64 0, .int .i64 0, .string ⟨#[]⟩] 26)) = W1 at *
 obtain ⟨x0, x1, x2, x3, x4, x5⟩ := hL.xs
 go_wp2_with (fail)
 refine (H9.out _).mono ?_
 rintro e w4 ⟨rfl, hb4⟩
 replace hL := hL.call hb4
 clear hb4
 clear x0 x1 x2 x3 x4 x5
 obtain ⟨y0, y1, y2⟩ := val_cells hL.y
 obtain ⟨f0, f1, f2⟩ := val_frozen hL.y
 go_wp2
 exact bodyPost_ret (v := .agg #[.int .i64 rk, .int .i64 rn, .string rt]) (by simp [results, Tryz.results117, go_sem, y0, y1, y2]) rfl ⟨rfl, hL.out _ _ _⟩
theorem wk15a (a lo hi : Int) (t0 : decide (hi < lo) = true) (W : World) (g gc : Nat) (tsv : Value) (I : Cal.In) (hg : g < W.heap.size) (c0 : W.cell? ⟨g, 0, none⟩ = some (.int .i64 a)) (c1 : W.cell? ⟨g, 1, none⟩ = some (.int .i64 lo)) (c2 : W.cell? ⟨g, 2, none⟩ = some (.int .i64 hi)) :
  Ret 118 #[.agg #[.slice (some ⟨g, 0, none⟩) 3 gc, tsv, .bool I.b, .int .i64 I.v.k, .int .i64 I.v.n, .string I.v.t]] W (vv (Cal.bad 2)) := by
 have H9 := Lib.hid (fun w => cbad_any 2 w)
 generalize Cal.bad 2 = r at *
 obtain ⟨rk, rn, rt⟩ := r
 have hL := CW.start W (.slice (some ⟨g, 0, none⟩) 3 gc) (tsv) I
 go_enter Tryz.func118, Tryz.ntmps118
 go_upto_region 1 with (fail)
 generalize ((W.alloc (.cells #[.slice (some ⟨g, 0, none⟩) 3 gc, tsv, .bool I.b, .int .i64 I.v.k, .int .i64 I.v.n, .string I.v.t] 84)).alloc (.cells #[.int .i64 0, .int .i64 0, .string ⟨#[]⟩] 26)) = W1 at *
 obtain ⟨x0, x1, x2, x3, x4, x5⟩ := hL.xs
 replace c0 := hL.old c0 hg
 replace c1 := hL.old c1 hg
 replace c2 := hL.old c2 hg
 go_quiet (fail)
 replace hL := hL.drewN nq
 go_wp2_with (fail)
 refine (H9.out _).mono ?_
 rintro e w4 ⟨rfl, hb4⟩
 replace hL := hL.call hb4
 clear hb4
 clear x0 x1 x2 x3 x4 x5
 obtain ⟨y0, y1, y2⟩ := val_cells hL.y
 obtain ⟨f0, f1, f2⟩ := val_frozen hL.y
 go_wp2
 exact bodyPost_ret (v := .agg #[.int .i64 rk, .int .i64 rn, .string rt]) (by simp [results, Tryz.results118, go_sem, y0, y1, y2]) rfl ⟨rfl, hL.out _ _ _⟩
theorem wk15b (a lo hi p q : Int) (t0 : decide (hi < lo) = false) (e0 : min a hi = p) (e1 : max lo p = q) (W : World) (g gc : Nat) (tsv : Value) (I : Cal.In) (hg : g < W.heap.size) (c0 : W.cell? ⟨g, 0, none⟩ = some (.int .i64 a)) (c1 : W.cell? ⟨g, 1, none⟩ = some (.int .i64 lo)) (c2 : W.cell? ⟨g, 2, none⟩ = some (.int .i64 hi)) :
  Ret 118 #[.agg #[.slice (some ⟨g, 0, none⟩) 3 gc, tsv, .bool I.b, .int .i64 I.v.k, .int .i64 I.v.n, .string I.v.t]] W (vv (Cal.num q)) := by
 have H9 := Lib.hid (fun w => cnum_any q w)
 generalize Cal.num q = r at *
 obtain ⟨rk, rn, rt⟩ := r
 have hL := CW.start W (.slice (some ⟨g, 0, none⟩) 3 gc) (tsv) I
 go_enter Tryz.func118, Tryz.ntmps118
 go_upto_region 1 with (fail)
 generalize ((W.alloc (.cells #[.slice (some ⟨g, 0, none⟩) 3 gc, tsv, .bool I.b, .int .i64 I.v.k, .int .i64 I.v.n, .string I.v.t] 84)).alloc (.cells #[.int .i64 0, .int .i64 0, .string ⟨#[]⟩] 26)) = W1 at *
 obtain ⟨x0, x1, x2, x3, x4, x5⟩ := hL.xs
 replace c0 := hL.old c0 hg
 replace c1 := hL.old c1 hg
 replace c2 := hL.old c2 hg
 go_quiet (fail)
 replace hL := hL.drewN nq
 go_wp2_with (fail)
 refine (H9.out _).mono ?_
 rintro e w4 ⟨rfl, hb4⟩
 replace hL := hL.call hb4
 clear hb4
 clear x0 x1 x2 x3 x4 x5
 obtain ⟨y0, y1, y2⟩ := val_cells hL.y
 obtain ⟨f0, f1, f2⟩ := val_frozen hL.y
 go_wp2
 exact bodyPost_ret (v := .agg #[.int .i64 rk, .int .i64 rn, .string rt]) (by simp [results, Tryz.results118, go_sem, y0, y1, y2]) rfl ⟨rfl, hL.out _ _ _⟩
theorem wk31 (a : Int) (W : World) (g gc : Nat) (tsv : Value) (I : Cal.In) (hg : g < W.heap.size) (c0 : W.cell? ⟨g, 0, none⟩ = some (.int .i64 a)) :
  Ret 119 #[.agg #[.slice (some ⟨g, 0, none⟩) 1 gc, tsv, .bool I.b, .int .i64 I.v.k, .int .i64 I.v.n, .string I.v.t]] W (vv (Cal.num a)) := by
 have H9 := Lib.hid (fun w => cnum_any a w)
 generalize Cal.num a = r at *
 obtain ⟨rk, rn, rt⟩ := r
 have hL := CW.start W (.slice (some ⟨g, 0, none⟩) 1 gc) (tsv) I
 go_enter Tryz.func119, Tryz.ntmps119
 go_upto_region 1 with (fail)
 generalize ((W.alloc (.cells #[.slice (some ⟨g, 0, none⟩) 1 gc, tsv, .bool I.b, .int .i64 I.v.k, .int .i64 I.v.n, .string I.v.t] 84)).alloc (.cells #[.int .i64 0, .int .i64 0, .string ⟨#[]⟩] 26)) = W1 at *
 obtain ⟨x0, x1, x2, x3, x4, x5⟩ := hL.xs
 replace c0 := hL.old c0 hg
 go_wp2_with (fail)
 refine (H9.out _).mono ?_
 rintro e w4 ⟨rfl, hb4⟩
 replace hL := hL.call hb4
 clear hb4
 clear x0 x1 x2 x3 x4 x5
 obtain ⟨y0, y1, y2⟩ := val_cells hL.y
 obtain ⟨f0, f1, f2⟩ := val_frozen hL.y
 go_wp2
 exact bodyPost_ret (v := .agg #[.int .i64 rk, .int .i64 rn, .string rt]) (by simp [results, Tryz.results119, go_sem, y0, y1, y2]) rfl ⟨rfl, hL.out _ _ _⟩
theorem wk33a (W : World) (nsv : Value) (tsv : Value) (I : Cal.In)  (t0 : (I.v.k == 1) = true) :
  Ret 120 #[.agg #[nsv, tsv, .bool I.b, .int .i64 I.v.k, .int .i64 I.v.n, .string I.v.t]] W (vv (Cal.num I.v.n)) := by
 have H9 := Lib.hid (fun w => cnum_any I.v.n w)
 generalize Cal.num I.v.n = r at *
 obtain ⟨rk, rn, rt⟩ := r
 have hL := CW.start W (nsv) (tsv) I
 go_enter Tryz.func120, Tryz.ntmps120
 go_upto_region 1 with (fail)
 generalize ((W.alloc (.cells #[nsv, tsv, .bool I.b, .int .i64 I.v.k, .int .i64 I.v.n, .string I.v.t] 84)).alloc (.cells #[.int .i64 0, .int .i64 0, .string ⟨#[]⟩] 26)) = W1 at *
 obtain ⟨x0, x1, x2, x3, x4, x5⟩ := hL.xs
 go_wp2_with (fail)
 refine (H9.out _).mono ?_
 rintro e w4 ⟨rfl, hb4⟩
 replace hL := hL.call hb4
 clear hb4
 clear x0 x1 x2 x3 x4 x5
 obtain ⟨y0, y1, y2⟩ := val_cells hL.y
 obtain ⟨f0, f1, f2⟩ := val_frozen hL.y
 go_wp2
 exact bodyPost_ret (v := .agg #[.int .i64 rk, .int .i64 rn, .string rt]) (by simp [results, Tryz.results120, go_sem, y0, y1, y2]) rfl ⟨rfl, hL.out _ _ _⟩
theorem wk33b (W : World) (nsv : Value) (tsv : Value) (I : Cal.In)  (t0 : (I.v.k == 1) = false) (t1 : (I.v.k == 2) = true) :
  Ret 120 #[.agg #[nsv, tsv, .bool I.b, .int .i64 I.v.k, .int .i64 I.v.n, .string I.v.t]] W (vv (Cal.num I.v.n)) := by
 have H9 := Lib.hid (fun w => cnum_any I.v.n w)
 generalize Cal.num I.v.n = r at *
 obtain ⟨rk, rn, rt⟩ := r
 have hL := CW.start W (nsv) (tsv) I
 go_enter Tryz.func120, Tryz.ntmps120
 go_upto_region 1 with (fail)
 generalize ((W.alloc (.cells #[nsv, tsv, .bool I.b, .int .i64 I.v.k, .int .i64 I.v.n, .string I.v.t] 84)).alloc (.cells #[.int .i64 0, .int .i64 0, .string ⟨#[]⟩] 26)) = W1 at *
 obtain ⟨x0, x1, x2, x3, x4, x5⟩ := hL.xs
 go_wp2_with (fail)
 refine (H9.out _).mono ?_
 rintro e w4 ⟨rfl, hb4⟩
 replace hL := hL.call hb4
 clear hb4
 clear x0 x1 x2 x3 x4 x5
 obtain ⟨y0, y1, y2⟩ := val_cells hL.y
 obtain ⟨f0, f1, f2⟩ := val_frozen hL.y
 go_wp2
 exact bodyPost_ret (v := .agg #[.int .i64 rk, .int .i64 rn, .string rt]) (by simp [results, Tryz.results120, go_sem, y0, y1, y2]) rfl ⟨rfl, hL.out _ _ _⟩
theorem wk33c (W : World) (nsv : Value) (tsv : Value) (I : Cal.In)  (t0 : (I.v.k == 1) = false) (t1 : (I.v.k == 2) = false) :
  Ret 120 #[.agg #[nsv, tsv, .bool I.b, .int .i64 I.v.k, .int .i64 I.v.n, .string I.v.t]] W (vv (Cal.num 0)) := by
 have H9 := Lib.hid (fun w => cnum_any 0 w)
 generalize Cal.num 0 = r at *
 obtain ⟨rk, rn, rt⟩ := r
 have hL := CW.start W (nsv) (tsv) I
 go_enter Tryz.func120, Tryz.ntmps120
 go_upto_region 1 with (fail)
 generalize ((W.alloc (.cells #[nsv, tsv, .bool I.b, .int .i64 I.v.k, .int .i64 I.v.n, .string I.v.t] 84)).alloc (.cells #[.int .i64 0, .int .i64 0, .string ⟨#[]⟩] 26)) = W1 at *
 obtain ⟨x0, x1, x2, x3, x4, x5⟩ := hL.xs
 go_wp2_with (fail)
 refine (H9.out _).mono ?_
 rintro e w4 ⟨rfl, hb4⟩
 replace hL := hL.call hb4
 clear hb4
 clear x0 x1 x2 x3 x4 x5
 obtain ⟨y0, y1, y2⟩ := val_cells hL.y
 obtain ⟨f0, f1, f2⟩ := val_frozen hL.y
 go_wp2
 exact bodyPost_ret (v := .agg #[.int .i64 rk, .int .i64 rn, .string rt]) (by simp [results, Tryz.results120, go_sem, y0, y1, y2]) rfl ⟨rfl, hL.out _ _ _⟩
theorem wk35 (W : World) (nsv : Value) (tsv : Value) (I : Cal.In)  :
  Ret 121 #[.agg #[nsv, tsv, .bool I.b, .int .i64 I.v.k, .int .i64 I.v.n, .string I.v.t]] W (vv (Cal.bad 6)) := by
 have H9 := Lib.hid (fun w => cbad_any 6 w)
 generalize Cal.bad 6 = r at *
 obtain ⟨rk, rn, rt⟩ := r
 have hL := CW.start W (nsv) (tsv) I
 go_enter Tryz.func121, Tryz.ntmps121
 go_upto_region 1 with (fail)
 generalize ((W.alloc (.cells #[nsv, tsv, .bool I.b, .int .i64 I.v.k, .int .i64 I.v.n, .string I.v.t] 84)).alloc (.cells #[.int .i64 0, .int .i64 0, .string ⟨#[]⟩] 26)) = W1 at *
 obtain ⟨x0, x1, x2, x3, x4, x5⟩ := hL.xs
 go_wp2_with (fail)
 refine (H9.out _).mono ?_
 rintro e w4 ⟨rfl, hb4⟩
 replace hL := hL.call hb4
 clear hb4
 clear x0 x1 x2 x3 x4 x5
 obtain ⟨y0, y1, y2⟩ := val_cells hL.y
 obtain ⟨f0, f1, f2⟩ := val_frozen hL.y
 go_wp2
 exact bodyPost_ret (v := .agg #[.int .i64 rk, .int .i64 rn, .string rt]) (by simp [results, Tryz.results121, go_sem, y0, y1, y2]) rfl ⟨rfl, hL.out _ _ _⟩
end Go.Proofs.YtpiiemneelkpkaaGreatDoor
namespace Go.Proofs.YtpiiemneelkpkaaGreatDoor
open Go.RowKit
set_option linter.unusedVariables false
theorem wk26a (s t : ByteArray) (f n : Int) (t0 : decide (f < 1) = true) (W : World) (g gc : Nat) (h hc : Nat) (I : Cal.In) (hg : g < W.heap.size) (c0 : W.cell? ⟨g, 0, none⟩ = some (.int .i64 f)) (c1 : W.cell? ⟨g, 1, none⟩ = some (.int .i64 n)) (hh : h < W.heap.size) (d0 : W.cell? ⟨h, 0, none⟩ = some (.string s)) (d1 : W.cell? ⟨h, 1, none⟩ = some (.string t)) :
  Ret 140 #[.agg #[.slice (some ⟨g, 0, none⟩) 2 gc, .slice (some ⟨h, 0, none⟩) 2 hc, .bool I.b, .int .i64 I.v.k, .int .i64 I.v.n, .string I.v.t]] W (vv (Cal.bad 4)) := by
 have H9 := Lib.hid (fun w => cbad_any 4 w)
 generalize Cal.bad 4 = r at *
 obtain ⟨rk, rn, rt⟩ := r
 have hL := CW.start W (.slice (some ⟨g, 0, none⟩) 2 gc) (.slice (some ⟨h, 0, none⟩) 2 hc) I
 go_enter Tryz.func140, Tryz.ntmps140
 go_upto_region 1 with (fail)
 generalize ((W.alloc (.cells #[.slice (some ⟨g, 0, none⟩) 2 gc, .slice (some ⟨h, 0, none⟩) 2 hc, .bool I.b, .int .i64 I.v.k, .int .i64 I.v.n, .string I.v.t] 84)).alloc (.cells #[.int .i64 0, .int .i64 0, .string ⟨#[]⟩] 26)) = W1 at *
 obtain ⟨x0, x1, x2, x3, x4, x5⟩ := hL.xs
 replace c0 := hL.old c0 hg
 replace c1 := hL.old c1 hg
 replace d0 := hL.old d0 hh
 replace d1 := hL.old d1 hh
 go_quiet (fail)
 replace hL := hL.drewN nq
 go_wp2_with (fail)
 refine (H9.out _).mono ?_
 rintro e w4 ⟨rfl, hb4⟩
 replace hL := hL.call hb4
 clear hb4
 clear x0 x1 x2 x3 x4 x5
 obtain ⟨y0, y1, y2⟩ := val_cells hL.y
 obtain ⟨f0, f1, f2⟩ := val_frozen hL.y
 go_wp2
 exact bodyPost_ret (v := .agg #[.int .i64 rk, .int .i64 rn, .string rt]) (by simp [results, Tryz.results140, go_sem, y0, y1, y2]) rfl ⟨rfl, hL.out _ _ _⟩
theorem wk26b (s t : ByteArray) (f n : Int) (t0 : decide (f < 1) = false) (t1 : decide (n < 0) = true) (W : World) (g gc : Nat) (h hc : Nat) (I : Cal.In) (hg : g < W.heap.size) (c0 : W.cell? ⟨g, 0, none⟩ = some (.int .i64 f)) (c1 : W.cell? ⟨g, 1, none⟩ = some (.int .i64 n)) (hh : h < W.heap.size) (d0 : W.cell? ⟨h, 0, none⟩ = some (.string s)) (d1 : W.cell? ⟨h, 1, none⟩ = some (.string t)) :
  Ret 140 #[.agg #[.slice (some ⟨g, 0, none⟩) 2 gc, .slice (some ⟨h, 0, none⟩) 2 hc, .bool I.b, .int .i64 I.v.k, .int .i64 I.v.n, .string I.v.t]] W (vv (Cal.bad 4)) := by
 have H9 := Lib.hid (fun w => cbad_any 4 w)
 generalize Cal.bad 4 = r at *
 obtain ⟨rk, rn, rt⟩ := r
 have hL := CW.start W (.slice (some ⟨g, 0, none⟩) 2 gc) (.slice (some ⟨h, 0, none⟩) 2 hc) I
 go_enter Tryz.func140, Tryz.ntmps140
 go_upto_region 1 with (fail)
 generalize ((W.alloc (.cells #[.slice (some ⟨g, 0, none⟩) 2 gc, .slice (some ⟨h, 0, none⟩) 2 hc, .bool I.b, .int .i64 I.v.k, .int .i64 I.v.n, .string I.v.t] 84)).alloc (.cells #[.int .i64 0, .int .i64 0, .string ⟨#[]⟩] 26)) = W1 at *
 obtain ⟨x0, x1, x2, x3, x4, x5⟩ := hL.xs
 replace c0 := hL.old c0 hg
 replace c1 := hL.old c1 hg
 replace d0 := hL.old d0 hh
 replace d1 := hL.old d1 hh
 go_quiet (fail)
 replace hL := hL.drewN nq
 go_wp2_with (fail)
 refine (H9.out _).mono ?_
 rintro e w4 ⟨rfl, hb4⟩
 replace hL := hL.call hb4
 clear hb4
 clear x0 x1 x2 x3 x4 x5
 obtain ⟨y0, y1, y2⟩ := val_cells hL.y
 obtain ⟨f0, f1, f2⟩ := val_frozen hL.y
 go_wp2
 exact bodyPost_ret (v := .agg #[.int .i64 rk, .int .i64 rn, .string rt]) (by simp [results, Tryz.results140, go_sem, y0, y1, y2]) rfl ⟨rfl, hL.out _ _ _⟩
theorem wk26c (s t A O : ByteArray) (f n x : Int) (r : Val.V) (hs : s.size ≤ 40000) (ht : t.size ≤ 40000) (t0 : decide (f < 1) = false) (t1 : decide (n < 0) = false) (hf : f ≤ 9223372036854775807) (hn : n ≤ 9223372036854775807)
  (hA : Cal.leftV s (f - 1) = (A, 0)) (hO : Cal.midV s f n = (O, x)) (k : Nat) (hk : A.size + O.size = k) (hks : k ≤ s.size) (hr : Cal.spelt (A ++ t ++ s.extract k s.size) 0 = r)
  (W : World) (g gc h hc : Nat) (I : Cal.In) (hg : g < W.heap.size) (c0 : W.cell? ⟨g, 0, none⟩ = some (.int .i64 f)) (c1 : W.cell? ⟨g, 1, none⟩ = some (.int .i64 n)) (hh : h < W.heap.size) (d0 : W.cell? ⟨h, 0, none⟩ = some (.string s)) (d1 : W.cell? ⟨h, 1, none⟩ = some (.string t)) :
  Ret 140 #[.agg #[.slice (some ⟨g, 0, none⟩) 2 gc, .slice (some ⟨h, 0, none⟩) 2 hc, .bool I.b, .int .i64 I.v.k, .int .i64 I.v.n, .string I.v.t]] W (vv r) := by
 have hf1 : 1 ≤ f := by simpa using t0
 have H1 := Lib.hid (fun (y : Int) (hy : y = f - 1) w => by have := tleft s (f - 1) w (by omega) (by omega); rw [hA] at this; rw [hy]; exact this : ∀ (y : Int) (hy : y = f - 1) (w : World), Ret 125 #[.string s, .int .i64 y] w (.tuple #[.string A, .int .i64 0]))
 have H2 := Lib.hid (fun w => tmid s f n w (by omega) hn hf)
 rw [hO] at H2
 have H3 := Lib.hid (fun (u : ByteArray) (hu : u = A ++ t ++ s.extract k s.size) w => by rw [hu, ← hr]; exact cspelt_any _ 0 w : ∀ (u : ByteArray) (hu : u = A ++ t ++ s.extract k s.size) (w : World), Ret 31 #[.string u, .int .i64 0] w (vv r))
 clear hA hO hr
 obtain ⟨rk, rn, rt⟩ := r
 have hL := CW.start W (.slice (some ⟨g, 0, none⟩) 2 gc) (.slice (some ⟨h, 0, none⟩) 2 hc) I
 go_enter Tryz.func140, Tryz.ntmps140
 go_upto_region 1 with (fail)
 generalize ((W.alloc (.cells #[.slice (some ⟨g, 0, none⟩) 2 gc, .slice (some ⟨h, 0, none⟩) 2 hc, .bool I.b, .int .i64 I.v.k, .int .i64 I.v.n, .string I.v.t] 84)).alloc (.cells #[.int .i64 0, .int .i64 0, .string ⟨#[]⟩] 26)) = W1 at *
 obtain ⟨x0, x1, x2, x3, x4, x5⟩ := hL.xs
 have c0' := hL.old c0 hg
 have c1' := hL.old c1 hg
 have d0' := hL.old d0 hh
 have d1' := hL.old d1 hh
 go_quiet (fail)
 replace hL := hL.drewN nq
 clear x0 x1 x2 x3 x4 x5 c0' c1' d0' d1'
 go_wp2_with (fail)
 refine (H1.out _ (by first | rfl | omega | (rw [IntKind.wrap_i64]; omega)) _).mono ?_
 rintro e w4 ⟨rfl, hb4⟩
 replace hL := hL.call hb4
 clear hb4
 go_wp2_with (fail)
 refine (H2.out _).mono ?_
 rintro e w5 ⟨rfl, hb5⟩
 replace hL := hL.call hb5
 clear hb5
 go_upto_region 6 with (fail)
 have x1 := hL.xs.2.1
 have d1' := hL.old d1 hh
 have e1 : IntKind.i64.wrap ((A.size : Int) + (O.size : Int)) = (k : Int) := by rw [IntKind.wrap_i64]; omega
 have s1 : A.size ≤ 40000 := by omega
 have s2 : O.size ≤ 40000 := by omega
 have s3 : (A ++ t).size ≤ 80000 := by rw [ByteArray.size_append]; omega
 have s4 : (s.extract k s.size).size ≤ 40000 := by rw [ByteArray.size_extract]; omega
 have nh : ¬ W.heap.size + 1 = h := by omega
 have mh : ¬ h = W.heap.size + 1 := by omega
 have q1 : ¬ (9223372036854775807 < A.size + t.size) := by omega
 have q2 : ¬ (9223372036854775807 < (A ++ t).size + (s.extract k s.size).size) := by omega
 have r1 : ∀ w, (Op.stringOp .add A t).run Tryz.prog w = .ok (.string (A ++ t)) w := fun w => run_string_add_sum w _ _ (by omega)
 have r2 : ∀ w, (Op.stringOp .add (A ++ t) (s.extract k s.size)).run Tryz.prog w = .ok (.string (A ++ t ++ s.extract k s.size)) w := fun w => run_string_add_sum w _ _ (by omega)
 have hS : w5.cell? ⟨W.heap.size, 1, none⟩ = some (.slice (some ⟨h, 0, none⟩) 2 hc) ∧ w5.cell? ⟨h, 1, none⟩ = some (.string t) := ⟨x1, d1'⟩
 clear x1 d1'
 go_region_held3 (fun w' => w'.cell? ⟨W.heap.size, 1, none⟩ = some (.slice (some ⟨h, 0, none⟩) 2 hc) ∧ w'.cell? ⟨h, 1, none⟩ = some (.string t))
  (first | go_keep | exact ⟨(hb6.cell (p := ⟨W.heap.size, 1, none⟩) (by have := hL.l; show W.heap.size < w5.heap.size; omega)).trans hS.1, (hb6.cell (p := ⟨h, 1, none⟩) (Nat.lt_of_lt_of_le hh hL.b.size)).trans hS.2⟩ | ((try dsimp only); (repeat' apply And.intro) <;> go_keep))
  (first | (go_at_call 31; refine (H3.out _ (by first | rfl | simp) _).mono ?_; rintro e w6 ⟨rfl, hb6⟩; have hM := hL.drew.call hb6; obtain ⟨y0, y1, y2⟩ := val_cells hM.y; obtain ⟨f0, f1, f2⟩ := val_frozen hM.y))
 go_wp2
 exact bodyPost_ret (v := .agg #[.int .i64 rk, .int .i64 rn, .string rt]) (by simp [results, Tryz.results140, go_sem, y0, y1, y2]) rfl ⟨rfl, hM.out _ _ _⟩
theorem wk8a (a : Int) (t0 : decide (a < 0) = true) (W : World) (g gc : Nat) (tsv : Value) (I : Cal.In) (hg : g < W.heap.size) (c0 : W.cell? ⟨g, 0, none⟩ = some (.int .i64 a)) :
  Ret 110 #[.agg #[.slice (some ⟨g, 0, none⟩) 1 gc, tsv, .bool I.b, .int .i64 I.v.k, .int .i64 I.v.n, .string I.v.t]] W (vv (Cal.bad 2)) := by
 have H9 := Lib.hid (fun w => cbad_any 2 w)
 generalize Cal.bad 2 = r at *
 obtain ⟨rk, rn, rt⟩ := r
 have hL := CW.start W (.slice (some ⟨g, 0, none⟩) 1 gc) (tsv) I
 go_enter Tryz.func110, Tryz.ntmps110
 go_upto_region 1 with (fail)
 generalize ((W.alloc (.cells #[.slice (some ⟨g, 0, none⟩) 1 gc, tsv, .bool I.b, .int .i64 I.v.k, .int .i64 I.v.n, .string I.v.t] 84)).alloc (.cells #[.int .i64 0, .int .i64 0, .string ⟨#[]⟩] 26)) = W1 at *
 obtain ⟨x0, x1, x2, x3, x4, x5⟩ := hL.xs
 replace c0 := hL.old c0 hg
 go_wp2_with (fail)
 refine (H9.out _).mono ?_
 rintro e w4 ⟨rfl, hb4⟩
 replace hL := hL.call hb4
 clear hb4
 clear x0 x1 x2 x3 x4 x5
 obtain ⟨y0, y1, y2⟩ := val_cells hL.y
 obtain ⟨f0, f1, f2⟩ := val_frozen hL.y
 go_wp2
 exact bodyPost_ret (v := .agg #[.int .i64 rk, .int .i64 rn, .string rt]) (by simp [results, Tryz.results110, go_sem, y0, y1, y2]) rfl ⟨rfl, hL.out _ _ _⟩
theorem wk8b (a : Int) (t0 : decide (a < 0) = false) (t1 : decide (20 < a) = true) (W : World) (g gc : Nat) (tsv : Value) (I : Cal.In) (hg : g < W.heap.size) (c0 : W.cell? ⟨g, 0, none⟩ = some (.int .i64 a)) :
  Ret 110 #[.agg #[.slice (some ⟨g, 0, none⟩) 1 gc, tsv, .bool I.b, .int .i64 I.v.k, .int .i64 I.v.n, .string I.v.t]] W (vv (Cal.bad 2)) := by
 have H9 := Lib.hid (fun w => cbad_any 2 w)
 generalize Cal.bad 2 = r at *
 obtain ⟨rk, rn, rt⟩ := r
 have hL := CW.start W (.slice (some ⟨g, 0, none⟩) 1 gc) (tsv) I
 go_enter Tryz.func110, Tryz.ntmps110
 go_upto_region 1 with (fail)
 generalize ((W.alloc (.cells #[.slice (some ⟨g, 0, none⟩) 1 gc, tsv, .bool I.b, .int .i64 I.v.k, .int .i64 I.v.n, .string I.v.t] 84)).alloc (.cells #[.int .i64 0, .int .i64 0, .string ⟨#[]⟩] 26)) = W1 at *
 obtain ⟨x0, x1, x2, x3, x4, x5⟩ := hL.xs
 replace c0 := hL.old c0 hg
 go_wp2_with (fail)
 refine (H9.out _).mono ?_
 rintro e w4 ⟨rfl, hb4⟩
 replace hL := hL.call hb4
 clear hb4
 clear x0 x1 x2 x3 x4 x5
 obtain ⟨y0, y1, y2⟩ := val_cells hL.y
 obtain ⟨f0, f1, f2⟩ := val_frozen hL.y
 go_wp2
 exact bodyPost_ret (v := .agg #[.int .i64 rk, .int .i64 rn, .string rt]) (by simp [results, Tryz.results110, go_sem, y0, y1, y2]) rfl ⟨rfl, hL.out _ _ _⟩
theorem wk8c (n : Nat) (hn : n ≤ 20) (W : World) (g gc : Nat) (tsv : Value) (I : Cal.In) (hg : g < W.heap.size) (c0 : W.cell? ⟨g, 0, none⟩ = some (.int .i64 (n : Int))) :
  Ret 110 #[.agg #[.slice (some ⟨g, 0, none⟩) 1 gc, tsv, .bool I.b, .int .i64 I.v.k, .int .i64 I.v.n, .string I.v.t]] W (vv (Cal.num (Cal.fct n))) := by
 have t0 : decide ((n : Int) < 0) = false := by simp
 have t1 : decide (20 < (n : Int)) = false := by simp; omega
 have H9 := Lib.hid (fun (z : Int) (hz : z = Cal.fct n) w => by rw [hz]; exact cnum_any _ w : ∀ (z : Int) (hz : z = Cal.fct n) (w : World), Ret 47 #[.int .i64 z] w (vv (Cal.num (Cal.fct n))))
 generalize Cal.num (Cal.fct n) = r at *
 obtain ⟨rk, rn, rt⟩ := r
 have hL := CW.start W (.slice (some ⟨g, 0, none⟩) 1 gc) tsv I
 go_enter Tryz.func110, Tryz.ntmps110
 go_upto_region 1 with (fail)
 generalize ((W.alloc (.cells #[.slice (some ⟨g, 0, none⟩) 1 gc, tsv, .bool I.b, .int .i64 I.v.k, .int .i64 I.v.n, .string I.v.t] 84)).alloc (.cells #[.int .i64 0, .int .i64 0, .string ⟨#[]⟩] 26)) = W1 at *
 have x0 := hL.xs.1
 replace c0 := hL.old c0 hg
 go_wp2_with (fail)
 go_loopw [3, 4] (fun p i wr => wr = W1 ∧ ∃ k : Nat, 1 ≤ k ∧ (k ≤ n ∨ k = 1) ∧ p = .int .i64 (Cal.fct k) ∧ i = .int .i64 ((k : Int) + 1)) (fun p i _ => n + 1 - (intOf i).toNat)
 case atStart => exact ⟨rfl, 1, Nat.le_refl _, .inr rfl, rfl, rfl⟩
 case round =>
 obtain ⟨rfl, k, hk1, hk, rfl, rfl⟩ := hrel
 by_cases hlt : k < n
 ·have hm : IntKind.i64.wrap (Cal.fct k * ((k : Int) + 1)) = Cal.fct (k + 1) := by
   have := Cal.fct_fits (k + 1) (by omega)
   rw [show Cal.fct k * ((k : Int) + 1) = Cal.fct (k + 1) by rw [Int.mul_comm]; rfl, IntKind.wrap_i64]
   omega
  have hi : IntKind.i64.wrap ((k : Int) + 1 + 1) = ((k + 1 : Nat) : Int) + 1 := by rw [IntKind.wrap_i64]; omega
  have hc : decide ((k : Int) + 1 ≤ (n : Int)) = true := by simp; omega
  go_wp2_with (fail)
  go_roundw
  case rel => exact ⟨by first | trivial | rfl, k + 1, by omega, .inl (by omega), by first | rfl | (rw [hm]), by first | rfl | go_num⟩
  case measure => simp [intOf]; omega
 ·have hc : decide ((k : Int) + 1 ≤ (n : Int)) = false := by simp; omega
  have he : Cal.fct k = Cal.fct n := by
   rcases Nat.eq_zero_or_pos n with rfl | h
   ·obtain rfl : k = 1 := by omega
    rfl
   ·obtain rfl : k = n := by omega
    rfl
  go_wp2_with (fail)
  refine (H9.out _ rfl _).mono ?_
  rintro e w4 ⟨rfl, hb4⟩
  replace hL := hL.call hb4
  clear hb4 x0 c0
  obtain ⟨y0, y1, y2⟩ := val_cells hL.y
  obtain ⟨f0, f1, f2⟩ := val_frozen hL.y
  go_wp2
  exact bodyPost_ret (v := .agg #[.int .i64 rk, .int .i64 rn, .string rt]) (by simp [results, Tryz.results110, go_sem, y0, y1, y2]) rfl ⟨rfl, hL.out _ _ _⟩
end Go.Proofs.YtpiiemneelkpkaaGreatDoor
