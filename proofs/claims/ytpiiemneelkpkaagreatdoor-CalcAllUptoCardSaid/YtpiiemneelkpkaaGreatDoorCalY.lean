import Derived.Test.YtpiiemneelkpkaaGreatDoorGct
set_option maxRecDepth 100000
namespace Go.Proofs.YtpiiemneelkpkaaGreatDoor
open Go.RowKit
set_option linter.unusedVariables false
theorem or_0 (a : Option Addr) (cap : Nat) (w : World) : Ret 126 #[.slice a 0 cap, .int .i64 0] w (.int .i64 1) := by
 go_enter Tryz.func126, Tryz.ntmps126
 go_wp2
 go_ret
 exact ⟨rfl, Below.refl _ _⟩
theorem or_1 (a : Int) (g cap : Nat) (w : World) (c : w.cell? ⟨g, 0, none⟩ = some (.int .i64 a)) : Ret 126 #[.slice (some ⟨g, 0, none⟩) 1 cap, .int .i64 0] w (.int .i64 a) := by
 go_enter Tryz.func126, Tryz.ntmps126
 go_wp2
 go_ret
 exact ⟨rfl, Below.refl _ _⟩
theorem bit_0 (a b : Int) (w : World) : Ret 114 #[.int .i64 a, .int .i64 b] w (.int .i64 (Cal.bitV 0 a b)) := by
 go_enter Tryz.func114, Tryz.ntmps114
 go_wp2
 go_ret
 exact ⟨rfl, Below.refl _ _⟩
theorem bit_1 (a b : Int) (w : World) : Ret 115 #[.int .i64 a, .int .i64 b] w (.int .i64 (Cal.bitV 1 a b)) := by
 go_enter Tryz.func115, Tryz.ntmps115
 go_wp2
 go_ret
 exact ⟨rfl, Below.refl _ _⟩
theorem bit_2 (a b : Int) (w : World) : Ret 116 #[.int .i64 a, .int .i64 b] w (.int .i64 (Cal.bitV 2 a b)) := by
 go_enter Tryz.func116, Tryz.ntmps116
 go_wp2
 go_ret
 exact ⟨rfl, Below.refl _ _⟩
theorem plain1_any (fid : FuncId) (hcf : ∀ args w, (callFunc fid args).run Tryz.prog w = .ok (.enter fid args) w) (s u : ByteArray) (W : World) (nsv : Value) (h hc : Nat) (bb bT : Nat) (I : Cal.In) (hh : h < W.heap.size) (d0 : W.cell? ⟨h, 0, none⟩ = some (.string s)) (hbx : W.heap[bb]? = some (.cells #[.func (.func fid) #[] #[]] bT (0, 0))) (hf : ∀ w, Below W.heap.size W w → Ret fid #[.string s] w (.string u)) :
  Ret 177 #[.agg #[nsv, .slice (some ⟨h, 0, none⟩) 1 hc, .bool I.b, .int .i64 I.v.k, .int .i64 I.v.n, .string I.v.t], .pointer (some ⟨bb, 0, none⟩)] W (vv (Cal.txt u)) := by
 have HF := Lib.hid (hf)
 have H9 := Lib.hid (fun w => ctxt_any u w)
 clear hf
 generalize Cal.txt u = r at *
 obtain ⟨rk, rn, rt⟩ := r
 have hL := CW.start W (nsv) (.slice (some ⟨h, 0, none⟩) 1 hc) I
 go_enter Tryz.func177, Tryz.ntmps177
 go_upto_region 1 with (fail)
 generalize ((W.alloc (.cells #[nsv, .slice (some ⟨h, 0, none⟩) 1 hc, .bool I.b, .int .i64 I.v.k, .int .i64 I.v.n, .string I.v.t] 84)).alloc (.cells #[.int .i64 0, .int .i64 0, .string ⟨#[]⟩] 26)) = W1 at *
 have b0 := hL.old (by simpa using Lib.cell_of_heap hbx 0 : W.cell? ⟨bb, 0, none⟩ = some (.func (.func fid) #[] #[])) (Array.getElem?_eq_some_iff.1 hbx).1
 obtain ⟨x0, x1, x2, x3, x4, x5⟩ := hL.xs
 replace d0 := hL.old d0 hh
 have hS : W1.cell? ⟨bb, 0, none⟩ = some (.func (.func fid) #[] #[]) ∧ W1.cell? ⟨W.heap.size, 1, none⟩ = some (.slice (some ⟨h, 0, none⟩) 1 hc) ∧ W1.cell? ⟨h, 0, none⟩ = some (.string s) := ⟨b0, x1, d0⟩
 clear b0 x1 d0
 have nbb : ¬ W.heap.size + 1 = bb := by have := (Array.getElem?_eq_some_iff.1 hbx).1; omega
 have mbb : ¬ bb = W.heap.size + 1 := by have := (Array.getElem?_eq_some_iff.1 hbx).1; omega
 have nh : ¬ W.heap.size + 1 = h := by omega
 have mh : ¬ h = W.heap.size + 1 := by omega
 go_region_held3 (fun w' => w'.cell? ⟨bb, 0, none⟩ = some (.func (.func fid) #[] #[]) ∧ w'.cell? ⟨W.heap.size, 1, none⟩ = some (.slice (some ⟨h, 0, none⟩) 1 hc) ∧ w'.cell? ⟨h, 0, none⟩ = some (.string s))
  (first | go_keep | exact ⟨(hb4.cell (p := ⟨bb, 0, none⟩) (Nat.lt_of_lt_of_le (Array.getElem?_eq_some_iff.1 hbx).1 hL.b.size)).trans hS.1, (hb4.cell (p := ⟨W.heap.size, 1, none⟩) (by have := hL.l; show W.heap.size < W1.heap.size; omega)).trans hS.2.1, (hb4.cell (p := ⟨h, 0, none⟩) (Nat.lt_of_lt_of_le hh hL.b.size)).trans hS.2.2⟩ | exact ⟨(hb5.cell (p := ⟨bb, 0, none⟩) (Nat.lt_of_lt_of_le (Array.getElem?_eq_some_iff.1 hbx).1 hL.b.size)).trans hS.1, (hb5.cell (p := ⟨W.heap.size, 1, none⟩) (by have := hL.l; show W.heap.size < W1.heap.size; omega)).trans hS.2.1, (hb5.cell (p := ⟨h, 0, none⟩) (Nat.lt_of_lt_of_le hh hL.b.size)).trans hS.2.2⟩ | ((try dsimp only); (repeat' apply And.intro) <;> go_keep))
  (first | (with_reducible refine (HF.out _ hL.b.drew).mono ?_; rintro e w4 ⟨rfl, hb4⟩) | (go_at_call 70; refine (H9.out _).mono ?_; rintro e w5 ⟨rfl, hb5⟩; replace hb5 := Below.trans hb4 (hb5.mono hb4.size); have hM := hL.drew.call hb5; obtain ⟨y0, y1, y2⟩ := val_cells hM.y; obtain ⟨f0, f1, f2⟩ := val_frozen hM.y))
 go_wp2
 exact bodyPost_ret (v := .agg #[.int .i64 rk, .int .i64 rn, .string rt]) (by simp [results, Tryz.results177, go_sem, y0, y1, y2]) rfl ⟨rfl, hM.out _ _ _⟩
theorem wk16 (s : ByteArray) (hs : s.size ≤ 40000) (W : World) (nsv : Value) (h hc : Nat) (I : Cal.In) (hh : h < W.heap.size) (d0 : W.cell? ⟨h, 0, none⟩ = some (.string s)) :
  Ret 122 #[.agg #[nsv, .slice (some ⟨h, 0, none⟩) 1 hc, .bool I.b, .int .i64 I.v.k, .int .i64 I.v.n, .string I.v.t]] W (vv (Cal.num (Run.cnt s 0 : Int))) := by
 have H1 := Lib.hid (fun w => len_any s w (by omega))
 have H9 := Lib.hid (fun w => cnum_any (Run.cnt s 0 : Int) w)
 generalize Cal.num (Run.cnt s 0 : Int) = r at *
 obtain ⟨rk, rn, rt⟩ := r
 have hL := CW.start W (nsv) (.slice (some ⟨h, 0, none⟩) 1 hc) I
 go_enter Tryz.func122, Tryz.ntmps122
 go_upto_region 1 with (fail)
 generalize ((W.alloc (.cells #[nsv, .slice (some ⟨h, 0, none⟩) 1 hc, .bool I.b, .int .i64 I.v.k, .int .i64 I.v.n, .string I.v.t] 84)).alloc (.cells #[.int .i64 0, .int .i64 0, .string ⟨#[]⟩] 26)) = W1 at *
 obtain ⟨x0, x1, x2, x3, x4, x5⟩ := hL.xs
 replace d0 := hL.old d0 hh
 go_wp2_with (fail)
 refine (H1.out _).mono ?_
 rintro e w4 ⟨rfl, hb4⟩
 replace hL := hL.call hb4
 clear hb4
 obtain ⟨x0, x1, x2, x3, x4, x5⟩ := hL.xs
 go_wp2_with (fail)
 refine (H9.out _).mono ?_
 rintro e w5 ⟨rfl, hb5⟩
 replace hL := hL.call hb5
 clear hb5
 clear x0 x1 x2 x3 x4 x5
 obtain ⟨y0, y1, y2⟩ := val_cells hL.y
 obtain ⟨f0, f1, f2⟩ := val_frozen hL.y
 go_wp2
 exact bodyPost_ret (v := .agg #[.int .i64 rk, .int .i64 rn, .string rt]) (by simp [results, Tryz.results122, go_sem, y0, y1, y2]) rfl ⟨rfl, hL.out _ _ _⟩
theorem wk17a (s : ByteArray) (hs : s.size ≤ 40000) (u : ByteArray) (x : Int) (hu : Cal.leftV s 1 = (u, x)) (W : World) (na : Option Addr) (nc : Nat) (h hc : Nat) (I : Cal.In) (hh : h < W.heap.size) (d0 : W.cell? ⟨h, 0, none⟩ = some (.string s)) :
  Ret 124 #[.agg #[.slice na 0 nc, .slice (some ⟨h, 0, none⟩) 1 hc, .bool I.b, .int .i64 I.v.k, .int .i64 I.v.n, .string I.v.t]] W (vv (Cal.spelt u x)) := by
 have H1 := Lib.hid (fun w => or_0 na nc w)
 have H2 := Lib.hid (fun w => tleft s 1 w (by omega) (by decide))
 have H9 := Lib.hid (fun w => cspelt_any u x w)
 rw [hu] at H2
 clear hu
 generalize Cal.spelt u x = r at *
 obtain ⟨rk, rn, rt⟩ := r
 have hL := CW.start W (.slice na 0 nc) (.slice (some ⟨h, 0, none⟩) 1 hc) I
 go_enter Tryz.func124, Tryz.ntmps124
 go_upto_region 1 with (fail)
 generalize ((W.alloc (.cells #[.slice na 0 nc, .slice (some ⟨h, 0, none⟩) 1 hc, .bool I.b, .int .i64 I.v.k, .int .i64 I.v.n, .string I.v.t] 84)).alloc (.cells #[.int .i64 0, .int .i64 0, .string ⟨#[]⟩] 26)) = W1 at *
 obtain ⟨x0, x1, x2, x3, x4, x5⟩ := hL.xs
 replace d0 := hL.old d0 hh
 have hS : W1.cell? ⟨W.heap.size, 0, none⟩ = some (.slice na 0 nc) ∧ W1.cell? ⟨W.heap.size, 1, none⟩ = some (.slice (some ⟨h, 0, none⟩) 1 hc) ∧ W1.cell? ⟨h, 0, none⟩ = some (.string s) := ⟨x0, x1, d0⟩
 clear x0 x1 d0
 have nh : ¬ W.heap.size + 1 = h := by omega
 have mh : ¬ h = W.heap.size + 1 := by omega
 go_region_held3 (fun w' => w'.cell? ⟨W.heap.size, 0, none⟩ = some (.slice na 0 nc) ∧ w'.cell? ⟨W.heap.size, 1, none⟩ = some (.slice (some ⟨h, 0, none⟩) 1 hc) ∧ w'.cell? ⟨h, 0, none⟩ = some (.string s))
  (first | go_keep | exact ⟨(hb4.cell (p := ⟨W.heap.size, 0, none⟩) (by have := hL.l; show W.heap.size < W1.heap.size; omega)).trans hS.1, (hb4.cell (p := ⟨W.heap.size, 1, none⟩) (by have := hL.l; show W.heap.size < W1.heap.size; omega)).trans hS.2.1, (hb4.cell (p := ⟨h, 0, none⟩) (Nat.lt_of_lt_of_le hh hL.b.size)).trans hS.2.2⟩ | exact ⟨(hb5.cell (p := ⟨W.heap.size, 0, none⟩) (by have := hL.l; show W.heap.size < W1.heap.size; omega)).trans hS.1, (hb5.cell (p := ⟨W.heap.size, 1, none⟩) (by have := hL.l; show W.heap.size < W1.heap.size; omega)).trans hS.2.1, (hb5.cell (p := ⟨h, 0, none⟩) (Nat.lt_of_lt_of_le hh hL.b.size)).trans hS.2.2⟩ | exact ⟨(hb6.cell (p := ⟨W.heap.size, 0, none⟩) (by have := hL.l; show W.heap.size < W1.heap.size; omega)).trans hS.1, (hb6.cell (p := ⟨W.heap.size, 1, none⟩) (by have := hL.l; show W.heap.size < W1.heap.size; omega)).trans hS.2.1, (hb6.cell (p := ⟨h, 0, none⟩) (Nat.lt_of_lt_of_le hh hL.b.size)).trans hS.2.2⟩ | ((try dsimp only); (repeat' apply And.intro) <;> go_keep))
  (first | (go_at_call 126; refine (H1.out _).mono ?_; rintro e w4 ⟨rfl, hb4⟩) | (go_at_call 125; refine (H2.out _).mono ?_; rintro e w5 ⟨rfl, hb5⟩; replace hb5 := Below.trans hb4 (hb5.mono hb4.size)) | (go_at_call 31; refine (H9.out _).mono ?_; rintro e w6 ⟨rfl, hb6⟩; replace hb6 := Below.trans hb5 (hb6.mono hb5.size); have hM := hL.drew.call hb6; obtain ⟨y0, y1, y2⟩ := val_cells hM.y; obtain ⟨f0, f1, f2⟩ := val_frozen hM.y))
 go_wp2
 exact bodyPost_ret (v := .agg #[.int .i64 rk, .int .i64 rn, .string rt]) (by simp [results, Tryz.results124, go_sem, y0, y1, y2]) rfl ⟨rfl, hM.out _ _ _⟩
theorem wk17b (s : ByteArray) (hs : s.size ≤ 40000) (n : Int) (hn : n ≤ 9223372036854775807) (u : ByteArray) (x : Int) (hu : Cal.leftV s n = (u, x)) (W : World) (g gc : Nat) (h hc : Nat) (I : Cal.In) (hg : g < W.heap.size) (c0 : W.cell? ⟨g, 0, none⟩ = some (.int .i64 n)) (hh : h < W.heap.size) (d0 : W.cell? ⟨h, 0, none⟩ = some (.string s)) :
  Ret 124 #[.agg #[.slice (some ⟨g, 0, none⟩) 1 gc, .slice (some ⟨h, 0, none⟩) 1 hc, .bool I.b, .int .i64 I.v.k, .int .i64 I.v.n, .string I.v.t]] W (vv (Cal.spelt u x)) := by
 have H1 := Lib.hid (fun (w : World) (hb : Below W.heap.size W w) => or_1 n g gc w ((hb.cell (p := ⟨g, 0, none⟩) hg).trans c0))
 have H2 := Lib.hid (fun w => tleft s n w (by omega) hn)
 have H9 := Lib.hid (fun w => cspelt_any u x w)
 rw [hu] at H2
 clear hu
 generalize Cal.spelt u x = r at *
 obtain ⟨rk, rn, rt⟩ := r
 have hL := CW.start W (.slice (some ⟨g, 0, none⟩) 1 gc) (.slice (some ⟨h, 0, none⟩) 1 hc) I
 go_enter Tryz.func124, Tryz.ntmps124
 go_upto_region 1 with (fail)
 generalize ((W.alloc (.cells #[.slice (some ⟨g, 0, none⟩) 1 gc, .slice (some ⟨h, 0, none⟩) 1 hc, .bool I.b, .int .i64 I.v.k, .int .i64 I.v.n, .string I.v.t] 84)).alloc (.cells #[.int .i64 0, .int .i64 0, .string ⟨#[]⟩] 26)) = W1 at *
 obtain ⟨x0, x1, x2, x3, x4, x5⟩ := hL.xs
 replace c0 := hL.old c0 hg
 replace d0 := hL.old d0 hh
 have hS : W1.cell? ⟨W.heap.size, 0, none⟩ = some (.slice (some ⟨g, 0, none⟩) 1 gc) ∧ W1.cell? ⟨W.heap.size, 1, none⟩ = some (.slice (some ⟨h, 0, none⟩) 1 hc) ∧ W1.cell? ⟨g, 0, none⟩ = some (.int .i64 n) ∧ W1.cell? ⟨h, 0, none⟩ = some (.string s) := ⟨x0, x1, c0, d0⟩
 clear x0 x1 c0 d0
 have ng : ¬ W.heap.size + 1 = g := by omega
 have mg : ¬ g = W.heap.size + 1 := by omega
 have nh : ¬ W.heap.size + 1 = h := by omega
 have mh : ¬ h = W.heap.size + 1 := by omega
 go_region_held3 (fun w' => w'.cell? ⟨W.heap.size, 0, none⟩ = some (.slice (some ⟨g, 0, none⟩) 1 gc) ∧ w'.cell? ⟨W.heap.size, 1, none⟩ = some (.slice (some ⟨h, 0, none⟩) 1 hc) ∧ w'.cell? ⟨g, 0, none⟩ = some (.int .i64 n) ∧ w'.cell? ⟨h, 0, none⟩ = some (.string s))
  (first | go_keep | exact ⟨(hb4.cell (p := ⟨W.heap.size, 0, none⟩) (by have := hL.l; show W.heap.size < W1.heap.size; omega)).trans hS.1, (hb4.cell (p := ⟨W.heap.size, 1, none⟩) (by have := hL.l; show W.heap.size < W1.heap.size; omega)).trans hS.2.1, (hb4.cell (p := ⟨g, 0, none⟩) (Nat.lt_of_lt_of_le hg hL.b.size)).trans hS.2.2.1, (hb4.cell (p := ⟨h, 0, none⟩) (Nat.lt_of_lt_of_le hh hL.b.size)).trans hS.2.2.2⟩ | exact ⟨(hb5.cell (p := ⟨W.heap.size, 0, none⟩) (by have := hL.l; show W.heap.size < W1.heap.size; omega)).trans hS.1, (hb5.cell (p := ⟨W.heap.size, 1, none⟩) (by have := hL.l; show W.heap.size < W1.heap.size; omega)).trans hS.2.1, (hb5.cell (p := ⟨g, 0, none⟩) (Nat.lt_of_lt_of_le hg hL.b.size)).trans hS.2.2.1, (hb5.cell (p := ⟨h, 0, none⟩) (Nat.lt_of_lt_of_le hh hL.b.size)).trans hS.2.2.2⟩ | exact ⟨(hb6.cell (p := ⟨W.heap.size, 0, none⟩) (by have := hL.l; show W.heap.size < W1.heap.size; omega)).trans hS.1, (hb6.cell (p := ⟨W.heap.size, 1, none⟩) (by have := hL.l; show W.heap.size < W1.heap.size; omega)).trans hS.2.1, (hb6.cell (p := ⟨g, 0, none⟩) (Nat.lt_of_lt_of_le hg hL.b.size)).trans hS.2.2.1, (hb6.cell (p := ⟨h, 0, none⟩) (Nat.lt_of_lt_of_le hh hL.b.size)).trans hS.2.2.2⟩ | ((try dsimp only); (repeat' apply And.intro) <;> go_keep))
  (first | (go_at_call 126; refine (H1.out _ hL.b.drew).mono ?_; rintro e w4 ⟨rfl, hb4⟩) | (go_at_call 125; refine (H2.out _).mono ?_; rintro e w5 ⟨rfl, hb5⟩; replace hb5 := Below.trans hb4 (hb5.mono hb4.size)) | (go_at_call 31; refine (H9.out _).mono ?_; rintro e w6 ⟨rfl, hb6⟩; replace hb6 := Below.trans hb5 (hb6.mono hb5.size); have hM := hL.drew.call hb6; obtain ⟨y0, y1, y2⟩ := val_cells hM.y; obtain ⟨f0, f1, f2⟩ := val_frozen hM.y))
 go_wp2
 exact bodyPost_ret (v := .agg #[.int .i64 rk, .int .i64 rn, .string rt]) (by simp [results, Tryz.results124, go_sem, y0, y1, y2]) rfl ⟨rfl, hM.out _ _ _⟩
theorem wk18a (s : ByteArray) (hs : s.size ≤ 40000) (u : ByteArray) (x : Int) (hu : Cal.rightV s 1 = (u, x)) (W : World) (na : Option Addr) (nc : Nat) (h hc : Nat) (I : Cal.In) (hh : h < W.heap.size) (d0 : W.cell? ⟨h, 0, none⟩ = some (.string s)) :
  Ret 127 #[.agg #[.slice na 0 nc, .slice (some ⟨h, 0, none⟩) 1 hc, .bool I.b, .int .i64 I.v.k, .int .i64 I.v.n, .string I.v.t]] W (vv (Cal.spelt u x)) := by
 have H1 := Lib.hid (fun w => or_0 na nc w)
 have H2 := Lib.hid (fun w => tright s 1 w (by omega) (by decide))
 have H9 := Lib.hid (fun w => cspelt_any u x w)
 rw [hu] at H2
 clear hu
 generalize Cal.spelt u x = r at *
 obtain ⟨rk, rn, rt⟩ := r
 have hL := CW.start W (.slice na 0 nc) (.slice (some ⟨h, 0, none⟩) 1 hc) I
 go_enter Tryz.func127, Tryz.ntmps127
 go_upto_region 1 with (fail)
 generalize ((W.alloc (.cells #[.slice na 0 nc, .slice (some ⟨h, 0, none⟩) 1 hc, .bool I.b, .int .i64 I.v.k, .int .i64 I.v.n, .string I.v.t] 84)).alloc (.cells #[.int .i64 0, .int .i64 0, .string ⟨#[]⟩] 26)) = W1 at *
 obtain ⟨x0, x1, x2, x3, x4, x5⟩ := hL.xs
 replace d0 := hL.old d0 hh
 have hS : W1.cell? ⟨W.heap.size, 0, none⟩ = some (.slice na 0 nc) ∧ W1.cell? ⟨W.heap.size, 1, none⟩ = some (.slice (some ⟨h, 0, none⟩) 1 hc) ∧ W1.cell? ⟨h, 0, none⟩ = some (.string s) := ⟨x0, x1, d0⟩
 clear x0 x1 d0
 have nh : ¬ W.heap.size + 1 = h := by omega
 have mh : ¬ h = W.heap.size + 1 := by omega
 go_region_held3 (fun w' => w'.cell? ⟨W.heap.size, 0, none⟩ = some (.slice na 0 nc) ∧ w'.cell? ⟨W.heap.size, 1, none⟩ = some (.slice (some ⟨h, 0, none⟩) 1 hc) ∧ w'.cell? ⟨h, 0, none⟩ = some (.string s))
  (first | go_keep | exact ⟨(hb4.cell (p := ⟨W.heap.size, 0, none⟩) (by have := hL.l; show W.heap.size < W1.heap.size; omega)).trans hS.1, (hb4.cell (p := ⟨W.heap.size, 1, none⟩) (by have := hL.l; show W.heap.size < W1.heap.size; omega)).trans hS.2.1, (hb4.cell (p := ⟨h, 0, none⟩) (Nat.lt_of_lt_of_le hh hL.b.size)).trans hS.2.2⟩ | exact ⟨(hb5.cell (p := ⟨W.heap.size, 0, none⟩) (by have := hL.l; show W.heap.size < W1.heap.size; omega)).trans hS.1, (hb5.cell (p := ⟨W.heap.size, 1, none⟩) (by have := hL.l; show W.heap.size < W1.heap.size; omega)).trans hS.2.1, (hb5.cell (p := ⟨h, 0, none⟩) (Nat.lt_of_lt_of_le hh hL.b.size)).trans hS.2.2⟩ | exact ⟨(hb6.cell (p := ⟨W.heap.size, 0, none⟩) (by have := hL.l; show W.heap.size < W1.heap.size; omega)).trans hS.1, (hb6.cell (p := ⟨W.heap.size, 1, none⟩) (by have := hL.l; show W.heap.size < W1.heap.size; omega)).trans hS.2.1, (hb6.cell (p := ⟨h, 0, none⟩) (Nat.lt_of_lt_of_le hh hL.b.size)).trans hS.2.2⟩ | ((try dsimp only); (repeat' apply And.intro) <;> go_keep))
  (first | (go_at_call 126; refine (H1.out _).mono ?_; rintro e w4 ⟨rfl, hb4⟩) | (go_at_call 128; refine (H2.out _).mono ?_; rintro e w5 ⟨rfl, hb5⟩; replace hb5 := Below.trans hb4 (hb5.mono hb4.size)) | (go_at_call 31; refine (H9.out _).mono ?_; rintro e w6 ⟨rfl, hb6⟩; replace hb6 := Below.trans hb5 (hb6.mono hb5.size); have hM := hL.drew.call hb6; obtain ⟨y0, y1, y2⟩ := val_cells hM.y; obtain ⟨f0, f1, f2⟩ := val_frozen hM.y))
 go_wp2
 exact bodyPost_ret (v := .agg #[.int .i64 rk, .int .i64 rn, .string rt]) (by simp [results, Tryz.results127, go_sem, y0, y1, y2]) rfl ⟨rfl, hM.out _ _ _⟩
theorem wk18b (s : ByteArray) (hs : s.size ≤ 40000) (n : Int) (hn : n ≤ 9223372036854775807) (u : ByteArray) (x : Int) (hu : Cal.rightV s n = (u, x)) (W : World) (g gc : Nat) (h hc : Nat) (I : Cal.In) (hg : g < W.heap.size) (c0 : W.cell? ⟨g, 0, none⟩ = some (.int .i64 n)) (hh : h < W.heap.size) (d0 : W.cell? ⟨h, 0, none⟩ = some (.string s)) :
  Ret 127 #[.agg #[.slice (some ⟨g, 0, none⟩) 1 gc, .slice (some ⟨h, 0, none⟩) 1 hc, .bool I.b, .int .i64 I.v.k, .int .i64 I.v.n, .string I.v.t]] W (vv (Cal.spelt u x)) := by
 have H1 := Lib.hid (fun (w : World) (hb : Below W.heap.size W w) => or_1 n g gc w ((hb.cell (p := ⟨g, 0, none⟩) hg).trans c0))
 have H2 := Lib.hid (fun w => tright s n w (by omega) hn)
 have H9 := Lib.hid (fun w => cspelt_any u x w)
 rw [hu] at H2
 clear hu
 generalize Cal.spelt u x = r at *
 obtain ⟨rk, rn, rt⟩ := r
 have hL := CW.start W (.slice (some ⟨g, 0, none⟩) 1 gc) (.slice (some ⟨h, 0, none⟩) 1 hc) I
 go_enter Tryz.func127, Tryz.ntmps127
 go_upto_region 1 with (fail)
 generalize ((W.alloc (.cells #[.slice (some ⟨g, 0, none⟩) 1 gc, .slice (some ⟨h, 0, none⟩) 1 hc, .bool I.b, .int .i64 I.v.k, .int .i64 I.v.n, .string I.v.t] 84)).alloc (.cells #[.int .i64 0, .int .i64 0, .string ⟨#[]⟩] 26)) = W1 at *
 obtain ⟨x0, x1, x2, x3, x4, x5⟩ := hL.xs
 replace c0 := hL.old c0 hg
 replace d0 := hL.old d0 hh
 have hS : W1.cell? ⟨W.heap.size, 0, none⟩ = some (.slice (some ⟨g, 0, none⟩) 1 gc) ∧ W1.cell? ⟨W.heap.size, 1, none⟩ = some (.slice (some ⟨h, 0, none⟩) 1 hc) ∧ W1.cell? ⟨g, 0, none⟩ = some (.int .i64 n) ∧ W1.cell? ⟨h, 0, none⟩ = some (.string s) := ⟨x0, x1, c0, d0⟩
 clear x0 x1 c0 d0
 have ng : ¬ W.heap.size + 1 = g := by omega
 have mg : ¬ g = W.heap.size + 1 := by omega
 have nh : ¬ W.heap.size + 1 = h := by omega
 have mh : ¬ h = W.heap.size + 1 := by omega
 go_region_held3 (fun w' => w'.cell? ⟨W.heap.size, 0, none⟩ = some (.slice (some ⟨g, 0, none⟩) 1 gc) ∧ w'.cell? ⟨W.heap.size, 1, none⟩ = some (.slice (some ⟨h, 0, none⟩) 1 hc) ∧ w'.cell? ⟨g, 0, none⟩ = some (.int .i64 n) ∧ w'.cell? ⟨h, 0, none⟩ = some (.string s))
  (first | go_keep | exact ⟨(hb4.cell (p := ⟨W.heap.size, 0, none⟩) (by have := hL.l; show W.heap.size < W1.heap.size; omega)).trans hS.1, (hb4.cell (p := ⟨W.heap.size, 1, none⟩) (by have := hL.l; show W.heap.size < W1.heap.size; omega)).trans hS.2.1, (hb4.cell (p := ⟨g, 0, none⟩) (Nat.lt_of_lt_of_le hg hL.b.size)).trans hS.2.2.1, (hb4.cell (p := ⟨h, 0, none⟩) (Nat.lt_of_lt_of_le hh hL.b.size)).trans hS.2.2.2⟩ | exact ⟨(hb5.cell (p := ⟨W.heap.size, 0, none⟩) (by have := hL.l; show W.heap.size < W1.heap.size; omega)).trans hS.1, (hb5.cell (p := ⟨W.heap.size, 1, none⟩) (by have := hL.l; show W.heap.size < W1.heap.size; omega)).trans hS.2.1, (hb5.cell (p := ⟨g, 0, none⟩) (Nat.lt_of_lt_of_le hg hL.b.size)).trans hS.2.2.1, (hb5.cell (p := ⟨h, 0, none⟩) (Nat.lt_of_lt_of_le hh hL.b.size)).trans hS.2.2.2⟩ | exact ⟨(hb6.cell (p := ⟨W.heap.size, 0, none⟩) (by have := hL.l; show W.heap.size < W1.heap.size; omega)).trans hS.1, (hb6.cell (p := ⟨W.heap.size, 1, none⟩) (by have := hL.l; show W.heap.size < W1.heap.size; omega)).trans hS.2.1, (hb6.cell (p := ⟨g, 0, none⟩) (Nat.lt_of_lt_of_le hg hL.b.size)).trans hS.2.2.1, (hb6.cell (p := ⟨h, 0, none⟩) (Nat.lt_of_lt_of_le hh hL.b.size)).trans hS.2.2.2⟩ | ((try dsimp only); (repeat' apply And.intro) <;> go_keep))
  (first | (go_at_call 126; refine (H1.out _ hL.b.drew).mono ?_; rintro e w4 ⟨rfl, hb4⟩) | (go_at_call 128; refine (H2.out _).mono ?_; rintro e w5 ⟨rfl, hb5⟩; replace hb5 := Below.trans hb4 (hb5.mono hb4.size)) | (go_at_call 31; refine (H9.out _).mono ?_; rintro e w6 ⟨rfl, hb6⟩; replace hb6 := Below.trans hb5 (hb6.mono hb5.size); have hM := hL.drew.call hb6; obtain ⟨y0, y1, y2⟩ := val_cells hM.y; obtain ⟨f0, f1, f2⟩ := val_frozen hM.y))
 go_wp2
 exact bodyPost_ret (v := .agg #[.int .i64 rk, .int .i64 rn, .string rt]) (by simp [results, Tryz.results127, go_sem, y0, y1, y2]) rfl ⟨rfl, hM.out _ _ _⟩
theorem wk19 (s : ByteArray) (hs : s.size ≤ 40000) (f n : Int) (hf : f ≤ 9223372036854775807) (hn : n ≤ 9223372036854775807) (u : ByteArray) (x : Int) (hu : Cal.midV s f n = (u, x)) (W : World) (g gc : Nat) (h hc : Nat) (I : Cal.In) (hg : g < W.heap.size) (c0 : W.cell? ⟨g, 0, none⟩ = some (.int .i64 f)) (c1 : W.cell? ⟨g, 1, none⟩ = some (.int .i64 n)) (hh : h < W.heap.size) (d0 : W.cell? ⟨h, 0, none⟩ = some (.string s)) :
  Ret 129 #[.agg #[.slice (some ⟨g, 0, none⟩) 2 gc, .slice (some ⟨h, 0, none⟩) 1 hc, .bool I.b, .int .i64 I.v.k, .int .i64 I.v.n, .string I.v.t]] W (vv (Cal.spelt u x)) := by
 have H2 := Lib.hid (fun w => tmid s f n w (by omega) hn hf)
 have H9 := Lib.hid (fun w => cspelt_any u x w)
 rw [hu] at H2
 clear hu
 generalize Cal.spelt u x = r at *
 obtain ⟨rk, rn, rt⟩ := r
 have hL := CW.start W (.slice (some ⟨g, 0, none⟩) 2 gc) (.slice (some ⟨h, 0, none⟩) 1 hc) I
 go_enter Tryz.func129, Tryz.ntmps129
 go_upto_region 1 with (fail)
 generalize ((W.alloc (.cells #[.slice (some ⟨g, 0, none⟩) 2 gc, .slice (some ⟨h, 0, none⟩) 1 hc, .bool I.b, .int .i64 I.v.k, .int .i64 I.v.n, .string I.v.t] 84)).alloc (.cells #[.int .i64 0, .int .i64 0, .string ⟨#[]⟩] 26)) = W1 at *
 obtain ⟨x0, x1, x2, x3, x4, x5⟩ := hL.xs
 replace c0 := hL.old c0 hg
 replace c1 := hL.old c1 hg
 replace d0 := hL.old d0 hh
 have hS : W1.cell? ⟨W.heap.size, 0, none⟩ = some (.slice (some ⟨g, 0, none⟩) 2 gc) ∧ W1.cell? ⟨W.heap.size, 1, none⟩ = some (.slice (some ⟨h, 0, none⟩) 1 hc) ∧ W1.cell? ⟨g, 0, none⟩ = some (.int .i64 f) ∧ W1.cell? ⟨g, 1, none⟩ = some (.int .i64 n) ∧ W1.cell? ⟨h, 0, none⟩ = some (.string s) := ⟨x0, x1, c0, c1, d0⟩
 clear x0 x1 c0 c1 d0
 have ng : ¬ W.heap.size + 1 = g := by omega
 have mg : ¬ g = W.heap.size + 1 := by omega
 have nh : ¬ W.heap.size + 1 = h := by omega
 have mh : ¬ h = W.heap.size + 1 := by omega
 go_region_held3 (fun w' => w'.cell? ⟨W.heap.size, 0, none⟩ = some (.slice (some ⟨g, 0, none⟩) 2 gc) ∧ w'.cell? ⟨W.heap.size, 1, none⟩ = some (.slice (some ⟨h, 0, none⟩) 1 hc) ∧ w'.cell? ⟨g, 0, none⟩ = some (.int .i64 f) ∧ w'.cell? ⟨g, 1, none⟩ = some (.int .i64 n) ∧ w'.cell? ⟨h, 0, none⟩ = some (.string s))
  (first | go_keep | exact ⟨(hb4.cell (p := ⟨W.heap.size, 0, none⟩) (by have := hL.l; show W.heap.size < W1.heap.size; omega)).trans hS.1, (hb4.cell (p := ⟨W.heap.size, 1, none⟩) (by have := hL.l; show W.heap.size < W1.heap.size; omega)).trans hS.2.1, (hb4.cell (p := ⟨g, 0, none⟩) (Nat.lt_of_lt_of_le hg hL.b.size)).trans hS.2.2.1, (hb4.cell (p := ⟨g, 1, none⟩) (Nat.lt_of_lt_of_le hg hL.b.size)).trans hS.2.2.2.1, (hb4.cell (p := ⟨h, 0, none⟩) (Nat.lt_of_lt_of_le hh hL.b.size)).trans hS.2.2.2.2⟩ | exact ⟨(hb5.cell (p := ⟨W.heap.size, 0, none⟩) (by have := hL.l; show W.heap.size < W1.heap.size; omega)).trans hS.1, (hb5.cell (p := ⟨W.heap.size, 1, none⟩) (by have := hL.l; show W.heap.size < W1.heap.size; omega)).trans hS.2.1, (hb5.cell (p := ⟨g, 0, none⟩) (Nat.lt_of_lt_of_le hg hL.b.size)).trans hS.2.2.1, (hb5.cell (p := ⟨g, 1, none⟩) (Nat.lt_of_lt_of_le hg hL.b.size)).trans hS.2.2.2.1, (hb5.cell (p := ⟨h, 0, none⟩) (Nat.lt_of_lt_of_le hh hL.b.size)).trans hS.2.2.2.2⟩ | ((try dsimp only); (repeat' apply And.intro) <;> go_keep))
  (first | (go_at_call 130; refine (H2.out _).mono ?_; rintro e w4 ⟨rfl, hb4⟩) | (go_at_call 31; refine (H9.out _).mono ?_; rintro e w5 ⟨rfl, hb5⟩; replace hb5 := Below.trans hb4 (hb5.mono hb4.size); have hM := hL.drew.call hb5; obtain ⟨y0, y1, y2⟩ := val_cells hM.y; obtain ⟨f0, f1, f2⟩ := val_frozen hM.y))
 go_wp2
 exact bodyPost_ret (v := .agg #[.int .i64 rk, .int .i64 rn, .string rt]) (by simp [results, Tryz.results129, go_sem, y0, y1, y2]) rfl ⟨rfl, hM.out _ _ _⟩
theorem wk24aa (p s : ByteArray) (u x : Int) (t0 : (x != 0) = true) (W : World) (na : Option Addr) (nc : Nat) (h hc : Nat) (I : Cal.In) (hh : h < W.heap.size) (d0 : W.cell? ⟨h, 0, none⟩ = some (.string p)) (d1 : W.cell? ⟨h, 1, none⟩ = some (.string s)) (hf : ∀ w, Ret 137 #[.string p, .string s, .int .i64 1] w (.tuple #[.int .i64 u, .int .i64 x])) :
  Ret 136 #[.agg #[.slice na 0 nc, .slice (some ⟨h, 0, none⟩) 2 hc, .bool I.b, .int .i64 I.v.k, .int .i64 I.v.n, .string I.v.t]] W (vv (Cal.bad 4)) := by
 have H1 := Lib.hid (fun w => or_0 na nc w)
 have H2 := Lib.hid (hf)
 have H9 := Lib.hid (fun w => cbad_any 4 w)
 clear hf
 generalize Cal.bad 4 = r at *
 obtain ⟨rk, rn, rt⟩ := r
 have hL := CW.start W (.slice na 0 nc) (.slice (some ⟨h, 0, none⟩) 2 hc) I
 go_enter Tryz.func136, Tryz.ntmps136
 go_upto_region 1 with (fail)
 generalize ((W.alloc (.cells #[.slice na 0 nc, .slice (some ⟨h, 0, none⟩) 2 hc, .bool I.b, .int .i64 I.v.k, .int .i64 I.v.n, .string I.v.t] 84)).alloc (.cells #[.int .i64 0, .int .i64 0, .string ⟨#[]⟩] 26)) = W1 at *
 obtain ⟨x0, x1, x2, x3, x4, x5⟩ := hL.xs
 replace d0 := hL.old d0 hh
 replace d1 := hL.old d1 hh
 have hS : W1.cell? ⟨W.heap.size, 0, none⟩ = some (.slice na 0 nc) ∧ W1.cell? ⟨W.heap.size, 1, none⟩ = some (.slice (some ⟨h, 0, none⟩) 2 hc) ∧ W1.cell? ⟨h, 0, none⟩ = some (.string p) ∧ W1.cell? ⟨h, 1, none⟩ = some (.string s) := ⟨x0, x1, d0, d1⟩
 clear x0 x1 d0 d1
 have nh : ¬ W.heap.size + 1 = h := by omega
 have mh : ¬ h = W.heap.size + 1 := by omega
 go_region_held3 (fun w' => w'.cell? ⟨W.heap.size, 0, none⟩ = some (.slice na 0 nc) ∧ w'.cell? ⟨W.heap.size, 1, none⟩ = some (.slice (some ⟨h, 0, none⟩) 2 hc) ∧ w'.cell? ⟨h, 0, none⟩ = some (.string p) ∧ w'.cell? ⟨h, 1, none⟩ = some (.string s))
  (first | go_keep | exact ⟨(hb4.cell (p := ⟨W.heap.size, 0, none⟩) (by have := hL.l; show W.heap.size < W1.heap.size; omega)).trans hS.1, (hb4.cell (p := ⟨W.heap.size, 1, none⟩) (by have := hL.l; show W.heap.size < W1.heap.size; omega)).trans hS.2.1, (hb4.cell (p := ⟨h, 0, none⟩) (Nat.lt_of_lt_of_le hh hL.b.size)).trans hS.2.2.1, (hb4.cell (p := ⟨h, 1, none⟩) (Nat.lt_of_lt_of_le hh hL.b.size)).trans hS.2.2.2⟩ | exact ⟨(hb5.cell (p := ⟨W.heap.size, 0, none⟩) (by have := hL.l; show W.heap.size < W1.heap.size; omega)).trans hS.1, (hb5.cell (p := ⟨W.heap.size, 1, none⟩) (by have := hL.l; show W.heap.size < W1.heap.size; omega)).trans hS.2.1, (hb5.cell (p := ⟨h, 0, none⟩) (Nat.lt_of_lt_of_le hh hL.b.size)).trans hS.2.2.1, (hb5.cell (p := ⟨h, 1, none⟩) (Nat.lt_of_lt_of_le hh hL.b.size)).trans hS.2.2.2⟩ | ((try dsimp only); (repeat' apply And.intro) <;> go_keep))
  (first | (go_at_call 126; refine (H1.out _).mono ?_; rintro e w4 ⟨rfl, hb4⟩) | (go_at_call 137; refine (H2.out _).mono ?_; rintro e w5 ⟨rfl, hb5⟩; replace hb5 := Below.trans hb4 (hb5.mono hb4.size)))
 replace hL := hL.drew.call hb5
 go_wp2_with (fail)
 refine (H9.out _).mono ?_
 rintro e w8 ⟨rfl, hb8⟩
 replace hL := hL.call hb8
 clear hb8
 obtain ⟨y0, y1, y2⟩ := val_cells hL.y
 obtain ⟨f0, f1, f2⟩ := val_frozen hL.y
 go_wp2
 exact bodyPost_ret (v := .agg #[.int .i64 rk, .int .i64 rn, .string rt]) (by simp [results, Tryz.results136, go_sem, y0, y1, y2]) rfl ⟨rfl, hL.out _ _ _⟩
theorem wk24ba (p s : ByteArray) (n u x : Int) (t0 : (x != 0) = true) (W : World) (g gc : Nat) (h hc : Nat) (I : Cal.In) (hg : g < W.heap.size) (c0 : W.cell? ⟨g, 0, none⟩ = some (.int .i64 n)) (hh : h < W.heap.size) (d0 : W.cell? ⟨h, 0, none⟩ = some (.string p)) (d1 : W.cell? ⟨h, 1, none⟩ = some (.string s)) (hf : ∀ w, Ret 137 #[.string p, .string s, .int .i64 n] w (.tuple #[.int .i64 u, .int .i64 x])) :
  Ret 136 #[.agg #[.slice (some ⟨g, 0, none⟩) 1 gc, .slice (some ⟨h, 0, none⟩) 2 hc, .bool I.b, .int .i64 I.v.k, .int .i64 I.v.n, .string I.v.t]] W (vv (Cal.bad 4)) := by
 have H1 := Lib.hid (fun (w : World) (hb : Below W.heap.size W w) => or_1 n g gc w ((hb.cell (p := ⟨g, 0, none⟩) hg).trans c0))
 have H2 := Lib.hid (hf)
 have H9 := Lib.hid (fun w => cbad_any 4 w)
 clear hf
 generalize Cal.bad 4 = r at *
 obtain ⟨rk, rn, rt⟩ := r
 have hL := CW.start W (.slice (some ⟨g, 0, none⟩) 1 gc) (.slice (some ⟨h, 0, none⟩) 2 hc) I
 go_enter Tryz.func136, Tryz.ntmps136
 go_upto_region 1 with (fail)
 generalize ((W.alloc (.cells #[.slice (some ⟨g, 0, none⟩) 1 gc, .slice (some ⟨h, 0, none⟩) 2 hc, .bool I.b, .int .i64 I.v.k, .int .i64 I.v.n, .string I.v.t] 84)).alloc (.cells #[.int .i64 0, .int .i64 0, .string ⟨#[]⟩] 26)) = W1 at *
 obtain ⟨x0, x1, x2, x3, x4, x5⟩ := hL.xs
 replace c0 := hL.old c0 hg
 replace d0 := hL.old d0 hh
 replace d1 := hL.old d1 hh
 have hS : W1.cell? ⟨W.heap.size, 0, none⟩ = some (.slice (some ⟨g, 0, none⟩) 1 gc) ∧ W1.cell? ⟨W.heap.size, 1, none⟩ = some (.slice (some ⟨h, 0, none⟩) 2 hc) ∧ W1.cell? ⟨g, 0, none⟩ = some (.int .i64 n) ∧ W1.cell? ⟨h, 0, none⟩ = some (.string p) ∧ W1.cell? ⟨h, 1, none⟩ = some (.string s) := ⟨x0, x1, c0, d0, d1⟩
 clear x0 x1 c0 d0 d1
 have ng : ¬ W.heap.size + 1 = g := by omega
 have mg : ¬ g = W.heap.size + 1 := by omega
 have nh : ¬ W.heap.size + 1 = h := by omega
 have mh : ¬ h = W.heap.size + 1 := by omega
 go_region_held3 (fun w' => w'.cell? ⟨W.heap.size, 0, none⟩ = some (.slice (some ⟨g, 0, none⟩) 1 gc) ∧ w'.cell? ⟨W.heap.size, 1, none⟩ = some (.slice (some ⟨h, 0, none⟩) 2 hc) ∧ w'.cell? ⟨g, 0, none⟩ = some (.int .i64 n) ∧ w'.cell? ⟨h, 0, none⟩ = some (.string p) ∧ w'.cell? ⟨h, 1, none⟩ = some (.string s))
  (first | go_keep | exact ⟨(hb4.cell (p := ⟨W.heap.size, 0, none⟩) (by have := hL.l; show W.heap.size < W1.heap.size; omega)).trans hS.1, (hb4.cell (p := ⟨W.heap.size, 1, none⟩) (by have := hL.l; show W.heap.size < W1.heap.size; omega)).trans hS.2.1, (hb4.cell (p := ⟨g, 0, none⟩) (Nat.lt_of_lt_of_le hg hL.b.size)).trans hS.2.2.1, (hb4.cell (p := ⟨h, 0, none⟩) (Nat.lt_of_lt_of_le hh hL.b.size)).trans hS.2.2.2.1, (hb4.cell (p := ⟨h, 1, none⟩) (Nat.lt_of_lt_of_le hh hL.b.size)).trans hS.2.2.2.2⟩ | exact ⟨(hb5.cell (p := ⟨W.heap.size, 0, none⟩) (by have := hL.l; show W.heap.size < W1.heap.size; omega)).trans hS.1, (hb5.cell (p := ⟨W.heap.size, 1, none⟩) (by have := hL.l; show W.heap.size < W1.heap.size; omega)).trans hS.2.1, (hb5.cell (p := ⟨g, 0, none⟩) (Nat.lt_of_lt_of_le hg hL.b.size)).trans hS.2.2.1, (hb5.cell (p := ⟨h, 0, none⟩) (Nat.lt_of_lt_of_le hh hL.b.size)).trans hS.2.2.2.1, (hb5.cell (p := ⟨h, 1, none⟩) (Nat.lt_of_lt_of_le hh hL.b.size)).trans hS.2.2.2.2⟩ | ((try dsimp only); (repeat' apply And.intro) <;> go_keep))
  (first | (go_at_call 126; refine (H1.out _ hL.b.drew).mono ?_; rintro e w4 ⟨rfl, hb4⟩) | (go_at_call 137; refine (H2.out _).mono ?_; rintro e w5 ⟨rfl, hb5⟩; replace hb5 := Below.trans hb4 (hb5.mono hb4.size)))
 replace hL := hL.drew.call hb5
 go_wp2_with (fail)
 refine (H9.out _).mono ?_
 rintro e w8 ⟨rfl, hb8⟩
 replace hL := hL.call hb8
 clear hb8
 obtain ⟨y0, y1, y2⟩ := val_cells hL.y
 obtain ⟨f0, f1, f2⟩ := val_frozen hL.y
 go_wp2
 exact bodyPost_ret (v := .agg #[.int .i64 rk, .int .i64 rn, .string rt]) (by simp [results, Tryz.results136, go_sem, y0, y1, y2]) rfl ⟨rfl, hL.out _ _ _⟩
theorem wk24ab (p s : ByteArray) (u x : Int) (t0 : (x != 0) = false) (W : World) (na : Option Addr) (nc : Nat) (h hc : Nat) (I : Cal.In) (hh : h < W.heap.size) (d0 : W.cell? ⟨h, 0, none⟩ = some (.string p)) (d1 : W.cell? ⟨h, 1, none⟩ = some (.string s)) (hf : ∀ w, Ret 137 #[.string p, .string s, .int .i64 1] w (.tuple #[.int .i64 u, .int .i64 x])) :
  Ret 136 #[.agg #[.slice na 0 nc, .slice (some ⟨h, 0, none⟩) 2 hc, .bool I.b, .int .i64 I.v.k, .int .i64 I.v.n, .string I.v.t]] W (vv (Cal.num u)) := by
 have H1 := Lib.hid (fun w => or_0 na nc w)
 have H2 := Lib.hid (hf)
 have H9 := Lib.hid (fun w => cnum_any u w)
 clear hf
 generalize Cal.num u = r at *
 obtain ⟨rk, rn, rt⟩ := r
 have hL := CW.start W (.slice na 0 nc) (.slice (some ⟨h, 0, none⟩) 2 hc) I
 go_enter Tryz.func136, Tryz.ntmps136
 go_upto_region 1 with (fail)
 generalize ((W.alloc (.cells #[.slice na 0 nc, .slice (some ⟨h, 0, none⟩) 2 hc, .bool I.b, .int .i64 I.v.k, .int .i64 I.v.n, .string I.v.t] 84)).alloc (.cells #[.int .i64 0, .int .i64 0, .string ⟨#[]⟩] 26)) = W1 at *
 obtain ⟨x0, x1, x2, x3, x4, x5⟩ := hL.xs
 replace d0 := hL.old d0 hh
 replace d1 := hL.old d1 hh
 have hS : W1.cell? ⟨W.heap.size, 0, none⟩ = some (.slice na 0 nc) ∧ W1.cell? ⟨W.heap.size, 1, none⟩ = some (.slice (some ⟨h, 0, none⟩) 2 hc) ∧ W1.cell? ⟨h, 0, none⟩ = some (.string p) ∧ W1.cell? ⟨h, 1, none⟩ = some (.string s) := ⟨x0, x1, d0, d1⟩
 clear x0 x1 d0 d1
 have nh : ¬ W.heap.size + 1 = h := by omega
 have mh : ¬ h = W.heap.size + 1 := by omega
 go_region_held3 (fun w' => w'.cell? ⟨W.heap.size, 0, none⟩ = some (.slice na 0 nc) ∧ w'.cell? ⟨W.heap.size, 1, none⟩ = some (.slice (some ⟨h, 0, none⟩) 2 hc) ∧ w'.cell? ⟨h, 0, none⟩ = some (.string p) ∧ w'.cell? ⟨h, 1, none⟩ = some (.string s))
  (first | go_keep | exact ⟨(hb4.cell (p := ⟨W.heap.size, 0, none⟩) (by have := hL.l; show W.heap.size < W1.heap.size; omega)).trans hS.1, (hb4.cell (p := ⟨W.heap.size, 1, none⟩) (by have := hL.l; show W.heap.size < W1.heap.size; omega)).trans hS.2.1, (hb4.cell (p := ⟨h, 0, none⟩) (Nat.lt_of_lt_of_le hh hL.b.size)).trans hS.2.2.1, (hb4.cell (p := ⟨h, 1, none⟩) (Nat.lt_of_lt_of_le hh hL.b.size)).trans hS.2.2.2⟩ | exact ⟨(hb5.cell (p := ⟨W.heap.size, 0, none⟩) (by have := hL.l; show W.heap.size < W1.heap.size; omega)).trans hS.1, (hb5.cell (p := ⟨W.heap.size, 1, none⟩) (by have := hL.l; show W.heap.size < W1.heap.size; omega)).trans hS.2.1, (hb5.cell (p := ⟨h, 0, none⟩) (Nat.lt_of_lt_of_le hh hL.b.size)).trans hS.2.2.1, (hb5.cell (p := ⟨h, 1, none⟩) (Nat.lt_of_lt_of_le hh hL.b.size)).trans hS.2.2.2⟩ | ((try dsimp only); (repeat' apply And.intro) <;> go_keep))
  (first | (go_at_call 126; refine (H1.out _).mono ?_; rintro e w4 ⟨rfl, hb4⟩) | (go_at_call 137; refine (H2.out _).mono ?_; rintro e w5 ⟨rfl, hb5⟩; replace hb5 := Below.trans hb4 (hb5.mono hb4.size)))
 replace hL := hL.drew.call hb5
 go_wp2_with (fail)
 refine (H9.out _).mono ?_
 rintro e w8 ⟨rfl, hb8⟩
 replace hL := hL.call hb8
 clear hb8
 obtain ⟨y0, y1, y2⟩ := val_cells hL.y
 obtain ⟨f0, f1, f2⟩ := val_frozen hL.y
 go_wp2
 exact bodyPost_ret (v := .agg #[.int .i64 rk, .int .i64 rn, .string rt]) (by simp [results, Tryz.results136, go_sem, y0, y1, y2]) rfl ⟨rfl, hL.out _ _ _⟩
theorem wk24bb (p s : ByteArray) (n u x : Int) (t0 : (x != 0) = false) (W : World) (g gc : Nat) (h hc : Nat) (I : Cal.In) (hg : g < W.heap.size) (c0 : W.cell? ⟨g, 0, none⟩ = some (.int .i64 n)) (hh : h < W.heap.size) (d0 : W.cell? ⟨h, 0, none⟩ = some (.string p)) (d1 : W.cell? ⟨h, 1, none⟩ = some (.string s)) (hf : ∀ w, Ret 137 #[.string p, .string s, .int .i64 n] w (.tuple #[.int .i64 u, .int .i64 x])) :
  Ret 136 #[.agg #[.slice (some ⟨g, 0, none⟩) 1 gc, .slice (some ⟨h, 0, none⟩) 2 hc, .bool I.b, .int .i64 I.v.k, .int .i64 I.v.n, .string I.v.t]] W (vv (Cal.num u)) := by
 have H1 := Lib.hid (fun (w : World) (hb : Below W.heap.size W w) => or_1 n g gc w ((hb.cell (p := ⟨g, 0, none⟩) hg).trans c0))
 have H2 := Lib.hid (hf)
 have H9 := Lib.hid (fun w => cnum_any u w)
 clear hf
 generalize Cal.num u = r at *
 obtain ⟨rk, rn, rt⟩ := r
 have hL := CW.start W (.slice (some ⟨g, 0, none⟩) 1 gc) (.slice (some ⟨h, 0, none⟩) 2 hc) I
 go_enter Tryz.func136, Tryz.ntmps136
 go_upto_region 1 with (fail)
 generalize ((W.alloc (.cells #[.slice (some ⟨g, 0, none⟩) 1 gc, .slice (some ⟨h, 0, none⟩) 2 hc, .bool I.b, .int .i64 I.v.k, .int .i64 I.v.n, .string I.v.t] 84)).alloc (.cells #[.int .i64 0, .int .i64 0, .string ⟨#[]⟩] 26)) = W1 at *
 obtain ⟨x0, x1, x2, x3, x4, x5⟩ := hL.xs
 replace c0 := hL.old c0 hg
 replace d0 := hL.old d0 hh
 replace d1 := hL.old d1 hh
 have hS : W1.cell? ⟨W.heap.size, 0, none⟩ = some (.slice (some ⟨g, 0, none⟩) 1 gc) ∧ W1.cell? ⟨W.heap.size, 1, none⟩ = some (.slice (some ⟨h, 0, none⟩) 2 hc) ∧ W1.cell? ⟨g, 0, none⟩ = some (.int .i64 n) ∧ W1.cell? ⟨h, 0, none⟩ = some (.string p) ∧ W1.cell? ⟨h, 1, none⟩ = some (.string s) := ⟨x0, x1, c0, d0, d1⟩
 clear x0 x1 c0 d0 d1
 have ng : ¬ W.heap.size + 1 = g := by omega
 have mg : ¬ g = W.heap.size + 1 := by omega
 have nh : ¬ W.heap.size + 1 = h := by omega
 have mh : ¬ h = W.heap.size + 1 := by omega
 go_region_held3 (fun w' => w'.cell? ⟨W.heap.size, 0, none⟩ = some (.slice (some ⟨g, 0, none⟩) 1 gc) ∧ w'.cell? ⟨W.heap.size, 1, none⟩ = some (.slice (some ⟨h, 0, none⟩) 2 hc) ∧ w'.cell? ⟨g, 0, none⟩ = some (.int .i64 n) ∧ w'.cell? ⟨h, 0, none⟩ = some (.string p) ∧ w'.cell? ⟨h, 1, none⟩ = some (.string s))
  (first | go_keep | exact ⟨(hb4.cell (p := ⟨W.heap.size, 0, none⟩) (by have := hL.l; show W.heap.size < W1.heap.size; omega)).trans hS.1, (hb4.cell (p := ⟨W.heap.size, 1, none⟩) (by have := hL.l; show W.heap.size < W1.heap.size; omega)).trans hS.2.1, (hb4.cell (p := ⟨g, 0, none⟩) (Nat.lt_of_lt_of_le hg hL.b.size)).trans hS.2.2.1, (hb4.cell (p := ⟨h, 0, none⟩) (Nat.lt_of_lt_of_le hh hL.b.size)).trans hS.2.2.2.1, (hb4.cell (p := ⟨h, 1, none⟩) (Nat.lt_of_lt_of_le hh hL.b.size)).trans hS.2.2.2.2⟩ | exact ⟨(hb5.cell (p := ⟨W.heap.size, 0, none⟩) (by have := hL.l; show W.heap.size < W1.heap.size; omega)).trans hS.1, (hb5.cell (p := ⟨W.heap.size, 1, none⟩) (by have := hL.l; show W.heap.size < W1.heap.size; omega)).trans hS.2.1, (hb5.cell (p := ⟨g, 0, none⟩) (Nat.lt_of_lt_of_le hg hL.b.size)).trans hS.2.2.1, (hb5.cell (p := ⟨h, 0, none⟩) (Nat.lt_of_lt_of_le hh hL.b.size)).trans hS.2.2.2.1, (hb5.cell (p := ⟨h, 1, none⟩) (Nat.lt_of_lt_of_le hh hL.b.size)).trans hS.2.2.2.2⟩ | ((try dsimp only); (repeat' apply And.intro) <;> go_keep))
  (first | (go_at_call 126; refine (H1.out _ hL.b.drew).mono ?_; rintro e w4 ⟨rfl, hb4⟩) | (go_at_call 137; refine (H2.out _).mono ?_; rintro e w5 ⟨rfl, hb5⟩; replace hb5 := Below.trans hb4 (hb5.mono hb4.size)))
 replace hL := hL.drew.call hb5
 go_wp2_with (fail)
 refine (H9.out _).mono ?_
 rintro e w8 ⟨rfl, hb8⟩
 replace hL := hL.call hb8
 clear hb8
 obtain ⟨y0, y1, y2⟩ := val_cells hL.y
 obtain ⟨f0, f1, f2⟩ := val_frozen hL.y
 go_wp2
 exact bodyPost_ret (v := .agg #[.int .i64 rk, .int .i64 rn, .string rt]) (by simp [results, Tryz.results136, go_sem, y0, y1, y2]) rfl ⟨rfl, hL.out _ _ _⟩
theorem wk25 (s p t u : ByteArray) (x : Int) (W : World) (nsv : Value) (h hc : Nat) (I : Cal.In) (hh : h < W.heap.size) (d0 : W.cell? ⟨h, 0, none⟩ = some (.string s)) (d1 : W.cell? ⟨h, 1, none⟩ = some (.string p)) (d2 : W.cell? ⟨h, 2, none⟩ = some (.string t)) (hf : ∀ w, Below W.heap.size W w → Ret 139 #[.string s, .string p, .string t] w (.tuple #[.string u, .int .i64 x])) :
  Ret 138 #[.agg #[nsv, .slice (some ⟨h, 0, none⟩) 3 hc, .bool I.b, .int .i64 I.v.k, .int .i64 I.v.n, .string I.v.t]] W (vv (Cal.spelt u x)) := by
 have H1 := Lib.hid (hf)
 have H9 := Lib.hid (fun w => cspelt_any u x w)
 clear hf
 generalize Cal.spelt u x = r at *
 obtain ⟨rk, rn, rt⟩ := r
 have hL := CW.start W (nsv) (.slice (some ⟨h, 0, none⟩) 3 hc) I
 go_enter Tryz.func138, Tryz.ntmps138
 go_upto_region 1 with (fail)
 generalize ((W.alloc (.cells #[nsv, .slice (some ⟨h, 0, none⟩) 3 hc, .bool I.b, .int .i64 I.v.k, .int .i64 I.v.n, .string I.v.t] 84)).alloc (.cells #[.int .i64 0, .int .i64 0, .string ⟨#[]⟩] 26)) = W1 at *
 obtain ⟨x0, x1, x2, x3, x4, x5⟩ := hL.xs
 replace d0 := hL.old d0 hh
 replace d1 := hL.old d1 hh
 replace d2 := hL.old d2 hh
 have hS : W1.cell? ⟨W.heap.size, 1, none⟩ = some (.slice (some ⟨h, 0, none⟩) 3 hc) ∧ W1.cell? ⟨h, 0, none⟩ = some (.string s) ∧ W1.cell? ⟨h, 1, none⟩ = some (.string p) ∧ W1.cell? ⟨h, 2, none⟩ = some (.string t) := ⟨x1, d0, d1, d2⟩
 clear x1 d0 d1 d2
 have nh : ¬ W.heap.size + 1 = h := by omega
 have mh : ¬ h = W.heap.size + 1 := by omega
 go_region_held3 (fun w' => w'.cell? ⟨W.heap.size, 1, none⟩ = some (.slice (some ⟨h, 0, none⟩) 3 hc) ∧ w'.cell? ⟨h, 0, none⟩ = some (.string s) ∧ w'.cell? ⟨h, 1, none⟩ = some (.string p) ∧ w'.cell? ⟨h, 2, none⟩ = some (.string t))
  (first | go_keep | exact ⟨(hb4.cell (p := ⟨W.heap.size, 1, none⟩) (by have := hL.l; show W.heap.size < W1.heap.size; omega)).trans hS.1, (hb4.cell (p := ⟨h, 0, none⟩) (Nat.lt_of_lt_of_le hh hL.b.size)).trans hS.2.1, (hb4.cell (p := ⟨h, 1, none⟩) (Nat.lt_of_lt_of_le hh hL.b.size)).trans hS.2.2.1, (hb4.cell (p := ⟨h, 2, none⟩) (Nat.lt_of_lt_of_le hh hL.b.size)).trans hS.2.2.2⟩ | exact ⟨(hb5.cell (p := ⟨W.heap.size, 1, none⟩) (by have := hL.l; show W.heap.size < W1.heap.size; omega)).trans hS.1, (hb5.cell (p := ⟨h, 0, none⟩) (Nat.lt_of_lt_of_le hh hL.b.size)).trans hS.2.1, (hb5.cell (p := ⟨h, 1, none⟩) (Nat.lt_of_lt_of_le hh hL.b.size)).trans hS.2.2.1, (hb5.cell (p := ⟨h, 2, none⟩) (Nat.lt_of_lt_of_le hh hL.b.size)).trans hS.2.2.2⟩ | ((try dsimp only); (repeat' apply And.intro) <;> go_keep))
  (first | (go_at_call 139; refine (H1.out _ hL.b.drew).mono ?_; rintro e w4 ⟨rfl, hb4⟩) | (go_at_call 31; refine (H9.out _).mono ?_; rintro e w5 ⟨rfl, hb5⟩; replace hb5 := Below.trans hb4 (hb5.mono hb4.size); have hM := hL.drew.call hb5; obtain ⟨y0, y1, y2⟩ := val_cells hM.y; obtain ⟨f0, f1, f2⟩ := val_frozen hM.y))
 go_wp2
 exact bodyPost_ret (v := .agg #[.int .i64 rk, .int .i64 rn, .string rt]) (by simp [results, Tryz.results138, go_sem, y0, y1, y2]) rfl ⟨rfl, hM.out _ _ _⟩
theorem wk27 (s : ByteArray) (hs : s.size ≤ 40000) (n : Int) (hn : n ≤ 9223372036854775807) (u : ByteArray) (x : Int) (hu : Cal.timesV s n = (u, x)) (W : World) (g gc : Nat) (h hc : Nat) (I : Cal.In) (hg : g < W.heap.size) (c0 : W.cell? ⟨g, 0, none⟩ = some (.int .i64 n)) (hh : h < W.heap.size) (d0 : W.cell? ⟨h, 0, none⟩ = some (.string s)) :
  Ret 141 #[.agg #[.slice (some ⟨g, 0, none⟩) 1 gc, .slice (some ⟨h, 0, none⟩) 1 hc, .bool I.b, .int .i64 I.v.k, .int .i64 I.v.n, .string I.v.t]] W (vv (Cal.spelt u x)) := by
 have H2 := Lib.hid (fun w => ttimes s n w (by omega) hn)
 have H9 := Lib.hid (fun w => cspelt_any u x w)
 rw [hu] at H2
 clear hu
 generalize Cal.spelt u x = r at *
 obtain ⟨rk, rn, rt⟩ := r
 have hL := CW.start W (.slice (some ⟨g, 0, none⟩) 1 gc) (.slice (some ⟨h, 0, none⟩) 1 hc) I
 go_enter Tryz.func141, Tryz.ntmps141
 go_upto_region 1 with (fail)
 generalize ((W.alloc (.cells #[.slice (some ⟨g, 0, none⟩) 1 gc, .slice (some ⟨h, 0, none⟩) 1 hc, .bool I.b, .int .i64 I.v.k, .int .i64 I.v.n, .string I.v.t] 84)).alloc (.cells #[.int .i64 0, .int .i64 0, .string ⟨#[]⟩] 26)) = W1 at *
 obtain ⟨x0, x1, x2, x3, x4, x5⟩ := hL.xs
 replace c0 := hL.old c0 hg
 replace d0 := hL.old d0 hh
 have hS : W1.cell? ⟨W.heap.size, 0, none⟩ = some (.slice (some ⟨g, 0, none⟩) 1 gc) ∧ W1.cell? ⟨W.heap.size, 1, none⟩ = some (.slice (some ⟨h, 0, none⟩) 1 hc) ∧ W1.cell? ⟨g, 0, none⟩ = some (.int .i64 n) ∧ W1.cell? ⟨h, 0, none⟩ = some (.string s) := ⟨x0, x1, c0, d0⟩
 clear x0 x1 c0 d0
 have ng : ¬ W.heap.size + 1 = g := by omega
 have mg : ¬ g = W.heap.size + 1 := by omega
 have nh : ¬ W.heap.size + 1 = h := by omega
 have mh : ¬ h = W.heap.size + 1 := by omega
 go_region_held3 (fun w' => w'.cell? ⟨W.heap.size, 0, none⟩ = some (.slice (some ⟨g, 0, none⟩) 1 gc) ∧ w'.cell? ⟨W.heap.size, 1, none⟩ = some (.slice (some ⟨h, 0, none⟩) 1 hc) ∧ w'.cell? ⟨g, 0, none⟩ = some (.int .i64 n) ∧ w'.cell? ⟨h, 0, none⟩ = some (.string s))
  (first | go_keep | exact ⟨(hb4.cell (p := ⟨W.heap.size, 0, none⟩) (by have := hL.l; show W.heap.size < W1.heap.size; omega)).trans hS.1, (hb4.cell (p := ⟨W.heap.size, 1, none⟩) (by have := hL.l; show W.heap.size < W1.heap.size; omega)).trans hS.2.1, (hb4.cell (p := ⟨g, 0, none⟩) (Nat.lt_of_lt_of_le hg hL.b.size)).trans hS.2.2.1, (hb4.cell (p := ⟨h, 0, none⟩) (Nat.lt_of_lt_of_le hh hL.b.size)).trans hS.2.2.2⟩ | exact ⟨(hb5.cell (p := ⟨W.heap.size, 0, none⟩) (by have := hL.l; show W.heap.size < W1.heap.size; omega)).trans hS.1, (hb5.cell (p := ⟨W.heap.size, 1, none⟩) (by have := hL.l; show W.heap.size < W1.heap.size; omega)).trans hS.2.1, (hb5.cell (p := ⟨g, 0, none⟩) (Nat.lt_of_lt_of_le hg hL.b.size)).trans hS.2.2.1, (hb5.cell (p := ⟨h, 0, none⟩) (Nat.lt_of_lt_of_le hh hL.b.size)).trans hS.2.2.2⟩ | ((try dsimp only); (repeat' apply And.intro) <;> go_keep))
  (first | (go_at_call 142; refine (H2.out _).mono ?_; rintro e w4 ⟨rfl, hb4⟩) | (go_at_call 31; refine (H9.out _).mono ?_; rintro e w5 ⟨rfl, hb5⟩; replace hb5 := Below.trans hb4 (hb5.mono hb4.size); have hM := hL.drew.call hb5; obtain ⟨y0, y1, y2⟩ := val_cells hM.y; obtain ⟨f0, f1, f2⟩ := val_frozen hM.y))
 go_wp2
 exact bodyPost_ret (v := .agg #[.int .i64 rk, .int .i64 rn, .string rt]) (by simp [results, Tryz.results141, go_sem, y0, y1, y2]) rfl ⟨rfl, hM.out _ _ _⟩
theorem wk28 (s t : ByteArray) (b : Bool) (hb : (s.toList == t.toList) = b) (W : World) (nsv : Value) (h hc : Nat) (I : Cal.In) (hh : h < W.heap.size) (d0 : W.cell? ⟨h, 0, none⟩ = some (.string s)) (d1 : W.cell? ⟨h, 1, none⟩ = some (.string t)) :
  Ret 143 #[.agg #[nsv, .slice (some ⟨h, 0, none⟩) 2 hc, .bool I.b, .int .i64 I.v.k, .int .i64 I.v.n, .string I.v.t]] W (vv (Cal.tru b)) := by
 have H9 := Lib.hid (fun w => ctruth_any b w)
 generalize Cal.tru b = r at *
 obtain ⟨rk, rn, rt⟩ := r
 have hL := CW.start W (nsv) (.slice (some ⟨h, 0, none⟩) 2 hc) I
 go_enter Tryz.func143, Tryz.ntmps143
 go_upto_region 1 with (fail)
 generalize ((W.alloc (.cells #[nsv, .slice (some ⟨h, 0, none⟩) 2 hc, .bool I.b, .int .i64 I.v.k, .int .i64 I.v.n, .string I.v.t] 84)).alloc (.cells #[.int .i64 0, .int .i64 0, .string ⟨#[]⟩] 26)) = W1 at *
 obtain ⟨x0, x1, x2, x3, x4, x5⟩ := hL.xs
 replace d0 := hL.old d0 hh
 replace d1 := hL.old d1 hh
 have hS : W1.cell? ⟨W.heap.size, 1, none⟩ = some (.slice (some ⟨h, 0, none⟩) 2 hc) ∧ W1.cell? ⟨h, 0, none⟩ = some (.string s) ∧ W1.cell? ⟨h, 1, none⟩ = some (.string t) := ⟨x1, d0, d1⟩
 clear x1 d0 d1
 have nh : ¬ W.heap.size + 1 = h := by omega
 have mh : ¬ h = W.heap.size + 1 := by omega
 go_region_held3 (fun w' => w'.cell? ⟨W.heap.size, 1, none⟩ = some (.slice (some ⟨h, 0, none⟩) 2 hc) ∧ w'.cell? ⟨h, 0, none⟩ = some (.string s) ∧ w'.cell? ⟨h, 1, none⟩ = some (.string t))
  (first | go_keep | exact ⟨(hb4.cell (p := ⟨W.heap.size, 1, none⟩) (by have := hL.l; show W.heap.size < W1.heap.size; omega)).trans hS.1, (hb4.cell (p := ⟨h, 0, none⟩) (Nat.lt_of_lt_of_le hh hL.b.size)).trans hS.2.1, (hb4.cell (p := ⟨h, 1, none⟩) (Nat.lt_of_lt_of_le hh hL.b.size)).trans hS.2.2⟩ | ((try dsimp only); (repeat' apply And.intro) <;> go_keep))
  (first | (go_at_call 32; refine (H9.out _).mono ?_; rintro e w4 ⟨rfl, hb4⟩; have hM := hL.drew.call hb4; obtain ⟨y0, y1, y2⟩ := val_cells hM.y; obtain ⟨f0, f1, f2⟩ := val_frozen hM.y))
 go_wp2
 exact bodyPost_ret (v := .agg #[.int .i64 rk, .int .i64 rn, .string rt]) (by simp [results, Tryz.results143, go_sem, y0, y1, y2]) rfl ⟨rfl, hM.out _ _ _⟩
theorem wk29a (s : ByteArray) (hs : s.size ≤ 40000) (u x : Int) (hu : Cal.codeV s = (u, x)) (t0 : (x != 0) = true) (W : World) (nsv : Value) (h hc : Nat) (I : Cal.In) (hh : h < W.heap.size) (d0 : W.cell? ⟨h, 0, none⟩ = some (.string s)) :
  Ret 144 #[.agg #[nsv, .slice (some ⟨h, 0, none⟩) 1 hc, .bool I.b, .int .i64 I.v.k, .int .i64 I.v.n, .string I.v.t]] W (vv (Cal.bad 4)) := by
 have H1 := Lib.hid (fun w => tcode s w (by omega))
 have H9 := Lib.hid (fun w => cbad_any 4 w)
 rw [hu] at H1
 clear hu
 generalize Cal.bad 4 = r at *
 obtain ⟨rk, rn, rt⟩ := r
 have hL := CW.start W (nsv) (.slice (some ⟨h, 0, none⟩) 1 hc) I
 go_enter Tryz.func144, Tryz.ntmps144
 go_upto_region 1 with (fail)
 generalize ((W.alloc (.cells #[nsv, .slice (some ⟨h, 0, none⟩) 1 hc, .bool I.b, .int .i64 I.v.k, .int .i64 I.v.n, .string I.v.t] 84)).alloc (.cells #[.int .i64 0, .int .i64 0, .string ⟨#[]⟩] 26)) = W1 at *
 obtain ⟨x0, x1, x2, x3, x4, x5⟩ := hL.xs
 replace d0 := hL.old d0 hh
 go_wp2_with (fail)
 refine (H1.out _).mono ?_
 rintro e w4 ⟨rfl, hb4⟩
 replace hL := hL.call hb4
 clear hb4
 obtain ⟨x0, x1, x2, x3, x4, x5⟩ := hL.xs
 go_wp2_with (fail)
 refine (H9.out _).mono ?_
 rintro e w5 ⟨rfl, hb5⟩
 replace hL := hL.call hb5
 clear hb5
 clear x0 x1 x2 x3 x4 x5
 obtain ⟨y0, y1, y2⟩ := val_cells hL.y
 obtain ⟨f0, f1, f2⟩ := val_frozen hL.y
 go_wp2
 exact bodyPost_ret (v := .agg #[.int .i64 rk, .int .i64 rn, .string rt]) (by simp [results, Tryz.results144, go_sem, y0, y1, y2]) rfl ⟨rfl, hL.out _ _ _⟩
theorem wk29b (s : ByteArray) (hs : s.size ≤ 40000) (u x : Int) (hu : Cal.codeV s = (u, x)) (t0 : (x != 0) = false) (W : World) (nsv : Value) (h hc : Nat) (I : Cal.In) (hh : h < W.heap.size) (d0 : W.cell? ⟨h, 0, none⟩ = some (.string s)) :
  Ret 144 #[.agg #[nsv, .slice (some ⟨h, 0, none⟩) 1 hc, .bool I.b, .int .i64 I.v.k, .int .i64 I.v.n, .string I.v.t]] W (vv (Cal.num u)) := by
 have H1 := Lib.hid (fun w => tcode s w (by omega))
 have H9 := Lib.hid (fun w => cnum_any u w)
 rw [hu] at H1
 clear hu
 generalize Cal.num u = r at *
 obtain ⟨rk, rn, rt⟩ := r
 have hL := CW.start W (nsv) (.slice (some ⟨h, 0, none⟩) 1 hc) I
 go_enter Tryz.func144, Tryz.ntmps144
 go_upto_region 1 with (fail)
 generalize ((W.alloc (.cells #[nsv, .slice (some ⟨h, 0, none⟩) 1 hc, .bool I.b, .int .i64 I.v.k, .int .i64 I.v.n, .string I.v.t] 84)).alloc (.cells #[.int .i64 0, .int .i64 0, .string ⟨#[]⟩] 26)) = W1 at *
 obtain ⟨x0, x1, x2, x3, x4, x5⟩ := hL.xs
 replace d0 := hL.old d0 hh
 go_wp2_with (fail)
 refine (H1.out _).mono ?_
 rintro e w4 ⟨rfl, hb4⟩
 replace hL := hL.call hb4
 clear hb4
 obtain ⟨x0, x1, x2, x3, x4, x5⟩ := hL.xs
 go_wp2_with (fail)
 refine (H9.out _).mono ?_
 rintro e w5 ⟨rfl, hb5⟩
 replace hL := hL.call hb5
 clear hb5
 clear x0 x1 x2 x3 x4 x5
 obtain ⟨y0, y1, y2⟩ := val_cells hL.y
 obtain ⟨f0, f1, f2⟩ := val_frozen hL.y
 go_wp2
 exact bodyPost_ret (v := .agg #[.int .i64 rk, .int .i64 rn, .string rt]) (by simp [results, Tryz.results144, go_sem, y0, y1, y2]) rfl ⟨rfl, hL.out _ _ _⟩
theorem wk30 (n : Int) (u : ByteArray) (x : Int) (hu : Cal.charV n = (u, x)) (W : World) (g gc : Nat) (tsv : Value) (I : Cal.In) (hg : g < W.heap.size) (c0 : W.cell? ⟨g, 0, none⟩ = some (.int .i64 n)) :
  Ret 146 #[.agg #[.slice (some ⟨g, 0, none⟩) 1 gc, tsv, .bool I.b, .int .i64 I.v.k, .int .i64 I.v.n, .string I.v.t]] W (vv (Cal.spelt u x)) := by
 have H1 := Lib.hid (fun w => tchar n w)
 have H9 := Lib.hid (fun w => cspelt_any u x w)
 rw [hu] at H1
 clear hu
 generalize Cal.spelt u x = r at *
 obtain ⟨rk, rn, rt⟩ := r
 have hL := CW.start W (.slice (some ⟨g, 0, none⟩) 1 gc) (tsv) I
 go_enter Tryz.func146, Tryz.ntmps146
 go_upto_region 1 with (fail)
 generalize ((W.alloc (.cells #[.slice (some ⟨g, 0, none⟩) 1 gc, tsv, .bool I.b, .int .i64 I.v.k, .int .i64 I.v.n, .string I.v.t] 84)).alloc (.cells #[.int .i64 0, .int .i64 0, .string ⟨#[]⟩] 26)) = W1 at *
 obtain ⟨x0, x1, x2, x3, x4, x5⟩ := hL.xs
 replace c0 := hL.old c0 hg
 go_wp2_with (fail)
 refine (H1.out _).mono ?_
 rintro e w4 ⟨rfl, hb4⟩
 replace hL := hL.call hb4
 clear hb4
 obtain ⟨x0, x1, x2, x3, x4, x5⟩ := hL.xs
 go_wp2_with (fail)
 refine (H9.out _).mono ?_
 rintro e w5 ⟨rfl, hb5⟩
 replace hL := hL.call hb5
 clear hb5
 clear x0 x1 x2 x3 x4 x5
 obtain ⟨y0, y1, y2⟩ := val_cells hL.y
 obtain ⟨f0, f1, f2⟩ := val_frozen hL.y
 go_wp2
 exact bodyPost_ret (v := .agg #[.int .i64 rk, .int .i64 rn, .string rt]) (by simp [results, Tryz.results146, go_sem, y0, y1, y2]) rfl ⟨rfl, hL.out _ _ _⟩
theorem wk32 (s : ByteArray) (W : World) (nsv : Value) (h hc : Nat) (I : Cal.In) (hh : h < W.heap.size) (d0 : W.cell? ⟨h, 0, none⟩ = some (.string s)) :
  Ret 148 #[.agg #[nsv, .slice (some ⟨h, 0, none⟩) 1 hc, .bool I.b, .int .i64 I.v.k, .int .i64 I.v.n, .string I.v.t]] W (vv (Cal.txt s)) := by
 have H9 := Lib.hid (fun w => ctxt_any s w)
 generalize Cal.txt s = r at *
 obtain ⟨rk, rn, rt⟩ := r
 have hL := CW.start W (nsv) (.slice (some ⟨h, 0, none⟩) 1 hc) I
 go_enter Tryz.func148, Tryz.ntmps148
 go_upto_region 1 with (fail)
 generalize ((W.alloc (.cells #[nsv, .slice (some ⟨h, 0, none⟩) 1 hc, .bool I.b, .int .i64 I.v.k, .int .i64 I.v.n, .string I.v.t] 84)).alloc (.cells #[.int .i64 0, .int .i64 0, .string ⟨#[]⟩] 26)) = W1 at *
 obtain ⟨x0, x1, x2, x3, x4, x5⟩ := hL.xs
 replace d0 := hL.old d0 hh
 go_wp2_with (fail)
 refine (H9.out _).mono ?_
 rintro e w4 ⟨rfl, hb4⟩
 replace hL := hL.call hb4
 clear hb4
 clear x0 x1 x2 x3 x4 x5
 obtain ⟨y0, y1, y2⟩ := val_cells hL.y
 obtain ⟨f0, f1, f2⟩ := val_frozen hL.y
 go_wp2
 exact bodyPost_ret (v := .agg #[.int .i64 rk, .int .i64 rn, .string rt]) (by simp [results, Tryz.results148, go_sem, y0, y1, y2]) rfl ⟨rfl, hL.out _ _ _⟩
theorem wk34a (W : World) (nsv : Value) (tsv : Value) (I : Cal.In)  (t0 : (I.v.k == 3) = true) :
  Ret 149 #[.agg #[nsv, tsv, .bool I.b, .int .i64 I.v.k, .int .i64 I.v.n, .string I.v.t]] W (vv (I.v)) := by
 have hL := CW.start W (nsv) (tsv) I
 go_enter Tryz.func149, Tryz.ntmps149
 go_upto_region 1 with (fail)
 generalize ((W.alloc (.cells #[nsv, tsv, .bool I.b, .int .i64 I.v.k, .int .i64 I.v.n, .string I.v.t] 84)).alloc (.cells #[.int .i64 0, .int .i64 0, .string ⟨#[]⟩] 26)) = W1 at *
 obtain ⟨x0, x1, x2, x3, x4, x5⟩ := hL.xs
 obtain ⟨y0, y1, y2⟩ := val_cells hL.y
 obtain ⟨f0, f1, f2⟩ := val_frozen hL.y
 go_wp2
 exact bodyPost_ret (v := .agg #[.int .i64 I.v.k, .int .i64 I.v.n, .string I.v.t]) (by simp [results, Tryz.results149, go_sem, y0, y1, y2]) rfl ⟨rfl, hL.out _ _ _⟩
theorem wk34b (W : World) (nsv : Value) (tsv : Value) (I : Cal.In)  (t0 : (I.v.k == 3) = false) :
  Ret 149 #[.agg #[nsv, tsv, .bool I.b, .int .i64 I.v.k, .int .i64 I.v.n, .string I.v.t]] W (vv (Cal.txt ⟨#[]⟩)) := by
 have H9 := Lib.hid (fun w => ctxt_any ⟨#[]⟩ w)
 generalize Cal.txt ⟨#[]⟩ = r at *
 obtain ⟨rk, rn, rt⟩ := r
 have hL := CW.start W (nsv) (tsv) I
 go_enter Tryz.func149, Tryz.ntmps149
 go_upto_region 1 with (fail)
 generalize ((W.alloc (.cells #[nsv, tsv, .bool I.b, .int .i64 I.v.k, .int .i64 I.v.n, .string I.v.t] 84)).alloc (.cells #[.int .i64 0, .int .i64 0, .string ⟨#[]⟩] 26)) = W1 at *
 obtain ⟨x0, x1, x2, x3, x4, x5⟩ := hL.xs
 go_wp2_with (fail)
 refine (H9.out _).mono ?_
 rintro e w4 ⟨rfl, hb4⟩
 replace hL := hL.call hb4
 clear hb4
 clear x0 x1 x2 x3 x4 x5
 obtain ⟨y0, y1, y2⟩ := val_cells hL.y
 obtain ⟨f0, f1, f2⟩ := val_frozen hL.y
 go_wp2
 exact bodyPost_ret (v := .agg #[.int .i64 rk, .int .i64 rn, .string rt]) (by simp [results, Tryz.results149, go_sem, y0, y1, y2]) rfl ⟨rfl, hL.out _ _ _⟩
end Go.Proofs.YtpiiemneelkpkaaGreatDoor
