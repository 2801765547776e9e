import Derived.Test.YtpiiemneelkpkaaGreatDoorCalRc
set_option maxRecDepth 100000
namespace Go.Proofs.YtpiiemneelkpkaaGreatDoor
open Go.RowKit
set_option linter.unusedVariables false
set_option linter.unusedSimpArgs false
theorem ror_in (g i m cn : Nat) (tsv bsv vsv : Value) (d x : Int) (w : World) (hi : i < m) (hm : m ≤ 100) (hg : g < w.heap.size) (hc : Hid (w.cell? ⟨g, i, none⟩ = some (.int .i64 x))) : Ret 151 #[.agg #[.slice (some ⟨g, 0, none⟩) m cn, tsv, bsv, vsv], .int .i64 (i : Int), .int .i64 d] w (.int .i64 x) := by
 obtain ⟨hb, k0⟩ := box1 w #[.slice (some ⟨g, 0, none⟩) m cn, tsv, bsv, vsv] 100
 have hc' := (hb.cell (p := ⟨g, i, none⟩) hg).trans hc.out
 go_enter Tryz.func151, Tryz.ntmps151
 go_wp2
 go_ret
 exact ⟨rfl, hb⟩
theorem ror_out (an : Option Addr) (m cn : Nat) (tsv bsv vsv : Value) (i : Nat) (d : Int) (w : World) (hi : ¬ i < m) (hm : m ≤ 100) : Ret 151 #[.agg #[.slice an m cn, tsv, bsv, vsv], .int .i64 (i : Int), .int .i64 d] w (.int .i64 d) := by
 obtain ⟨hb, k0⟩ := box1 w #[.slice an m cn, tsv, bsv, vsv] 100
 go_enter Tryz.func151, Tryz.ntmps151
 go_wp2
 go_ret
 exact ⟨rfl, hb⟩
theorem rn1_l (an : Option Addr) (m cn : Nat) (tsv bsv vsv : Value) (x y : Int) (w : World) (HX : Hid (∀ v, Below w.heap.size w v → Ret 151 #[.agg #[.slice an m cn, tsv, bsv, vsv], .int .i64 0, .int .i64 0] v (.int .i64 x))) (HY : Hid (∀ v, Below w.heap.size w v → Ret 151 #[.agg #[.slice an m cn, tsv, bsv, vsv], .int .i64 1, .int .i64 0] v (.int .i64 y))) (t : (x == -9223372036854775808) = true) : Ret 85 #[.int .i64 1, .agg #[.slice an m cn, tsv, bsv, vsv]] w (.agg #[.int .i64 4, .int .i64 2, .string ⟨#[]⟩]) := by
 obtain ⟨hb, k0, k1⟩ := box2 w #[.slice an m cn, tsv, bsv, vsv] 100 #[.int .i64 0, .int .i64 0, .string ⟨#[]⟩] 26
 go_enter Tryz.func85, Tryz.ntmps85
 go_wp2_with (fail)
 generalize ((w.alloc (Obj.cells #[.slice an m cn, tsv, bsv, vsv] 100)).alloc (Obj.cells #[.int .i64 0, .int .i64 0, .string ⟨#[]⟩] 26)) = W0 at *
 refine (go2 (HX.out _ hb) hb k0 k1).mono ?_; clear hb k0 k1; rintro e w0 ⟨rfl, hb, k0, k1⟩
 have c00 := ch k0 0
 have c01 := ch k0 1
 have c02 := ch k0 2
 have c03 := ch k0 3
 simp at c00 c01 c02 c03
 go_wp2_with (fail)
 refine (go2 (HY.out _ hb) hb k0 k1).mono ?_; clear hb k0 k1; rintro e w1 ⟨rfl, hb, k0, k1⟩
 clear c00 c01 c02 c03
 have c00 := ch k0 0
 have c01 := ch k0 1
 have c02 := ch k0 2
 have c03 := ch k0 3
 simp at c00 c01 c02 c03
 go_wp2_with (fail)
 refine (go2 (rbad14 2 _) hb k0 k1).mono ?_; clear hb k0 k1; rintro e w2 ⟨rfl, hb, k0, k1⟩
 clear c00 c01 c02 c03
 have c00 := ch k0 0
 have c01 := ch k0 1
 have c02 := ch k0 2
 have c03 := ch k0 3
 simp at c00 c01 c02 c03
 obtain ⟨z0, z1, z2⟩ := val_cells k1
 obtain ⟨f0, f1, f2⟩ := val_frozen k1
 clear k0 k1
 go_wp2
 exact bodyPost_ret (v := .agg #[.int .i64 4, .int .i64 2, .string ⟨#[]⟩]) (by simp [results, Tryz.results85, go_sem, z0, z1, z2]) rfl ⟨rfl, set3 hb (by omega)⟩
theorem rn1 (an : Option Addr) (m cn : Nat) (tsv bsv vsv : Value) (x y : Int) (nx r : Int) (w : World) (HX : Hid (∀ v, Below w.heap.size w v → Ret 151 #[.agg #[.slice an m cn, tsv, bsv, vsv], .int .i64 0, .int .i64 0] v (.int .i64 x))) (HY : Hid (∀ v, Below w.heap.size w v → Ret 151 #[.agg #[.slice an m cn, tsv, bsv, vsv], .int .i64 1, .int .i64 0] v (.int .i64 y))) (t : (x == -9223372036854775808) = false) (e1 : IntKind.i64.wrap (-x) = nx) (e2 : max x nx = r) : Ret 85 #[.int .i64 1, .agg #[.slice an m cn, tsv, bsv, vsv]] w (.agg #[.int .i64 1, .int .i64 r, .string ⟨#[]⟩]) := by
 obtain ⟨hb, k0, k1⟩ := box2 w #[.slice an m cn, tsv, bsv, vsv] 100 #[.int .i64 0, .int .i64 0, .string ⟨#[]⟩] 26
 go_enter Tryz.func85, Tryz.ntmps85
 go_wp2_with (fail)
 generalize ((w.alloc (Obj.cells #[.slice an m cn, tsv, bsv, vsv] 100)).alloc (Obj.cells #[.int .i64 0, .int .i64 0, .string ⟨#[]⟩] 26)) = W0 at *
 refine (go2 (HX.out _ hb) hb k0 k1).mono ?_; clear hb k0 k1; rintro e w0 ⟨rfl, hb, k0, k1⟩
 have c00 := ch k0 0
 have c01 := ch k0 1
 have c02 := ch k0 2
 have c03 := ch k0 3
 simp at c00 c01 c02 c03
 go_wp2_with (fail)
 refine (go2 (HY.out _ hb) hb k0 k1).mono ?_; clear hb k0 k1; rintro e w1 ⟨rfl, hb, k0, k1⟩
 clear c00 c01 c02 c03
 have c00 := ch k0 0
 have c01 := ch k0 1
 have c02 := ch k0 2
 have c03 := ch k0 3
 simp at c00 c01 c02 c03
 go_wp2_with (fail)
 refine (go2 (rnum14 r _) hb k0 k1).mono ?_; clear hb k0 k1; rintro e w2 ⟨rfl, hb, k0, k1⟩
 clear c00 c01 c02 c03
 have c00 := ch k0 0
 have c01 := ch k0 1
 have c02 := ch k0 2
 have c03 := ch k0 3
 simp at c00 c01 c02 c03
 obtain ⟨z0, z1, z2⟩ := val_cells k1
 obtain ⟨f0, f1, f2⟩ := val_frozen k1
 clear k0 k1
 go_wp2
 exact bodyPost_ret (v := .agg #[.int .i64 1, .int .i64 r, .string ⟨#[]⟩]) (by simp [results, Tryz.results85, go_sem, z0, z1, z2]) rfl ⟨rfl, set3 hb (by omega)⟩
theorem rn2_n (an : Option Addr) (m cn : Nat) (tsv bsv vsv : Value) (x y : Int) (w : World) (HX : Hid (∀ v, Below w.heap.size w v → Ret 151 #[.agg #[.slice an m cn, tsv, bsv, vsv], .int .i64 0, .int .i64 0] v (.int .i64 x))) (HY : Hid (∀ v, Below w.heap.size w v → Ret 151 #[.agg #[.slice an m cn, tsv, bsv, vsv], .int .i64 1, .int .i64 0] v (.int .i64 y))) (t : decide (x < 0) = true) : Ret 85 #[.int .i64 2, .agg #[.slice an m cn, tsv, bsv, vsv]] w (.agg #[.int .i64 1, .int .i64 (-1), .string ⟨#[]⟩]) := by
 obtain ⟨hb, k0, k1⟩ := box2 w #[.slice an m cn, tsv, bsv, vsv] 100 #[.int .i64 0, .int .i64 0, .string ⟨#[]⟩] 26
 go_enter Tryz.func85, Tryz.ntmps85
 go_wp2_with (fail)
 generalize ((w.alloc (Obj.cells #[.slice an m cn, tsv, bsv, vsv] 100)).alloc (Obj.cells #[.int .i64 0, .int .i64 0, .string ⟨#[]⟩] 26)) = W0 at *
 refine (go2 (HX.out _ hb) hb k0 k1).mono ?_; clear hb k0 k1; rintro e w0 ⟨rfl, hb, k0, k1⟩
 have c00 := ch k0 0
 have c01 := ch k0 1
 have c02 := ch k0 2
 have c03 := ch k0 3
 simp at c00 c01 c02 c03
 go_wp2_with (fail)
 refine (go2 (HY.out _ hb) hb k0 k1).mono ?_; clear hb k0 k1; rintro e w1 ⟨rfl, hb, k0, k1⟩
 clear c00 c01 c02 c03
 have c00 := ch k0 0
 have c01 := ch k0 1
 have c02 := ch k0 2
 have c03 := ch k0 3
 simp at c00 c01 c02 c03
 go_wp2_with (fail)
 refine (go2 (rnum14 (-1) _) hb k0 k1).mono ?_; clear hb k0 k1; rintro e w2 ⟨rfl, hb, k0, k1⟩
 clear c00 c01 c02 c03
 have c00 := ch k0 0
 have c01 := ch k0 1
 have c02 := ch k0 2
 have c03 := ch k0 3
 simp at c00 c01 c02 c03
 obtain ⟨z0, z1, z2⟩ := val_cells k1
 obtain ⟨f0, f1, f2⟩ := val_frozen k1
 clear k0 k1
 go_wp2
 exact bodyPost_ret (v := .agg #[.int .i64 1, .int .i64 (-1), .string ⟨#[]⟩]) (by simp [results, Tryz.results85, go_sem, z0, z1, z2]) rfl ⟨rfl, set3 hb (by omega)⟩
theorem rn2_p (an : Option Addr) (m cn : Nat) (tsv bsv vsv : Value) (x y : Int) (w : World) (HX : Hid (∀ v, Below w.heap.size w v → Ret 151 #[.agg #[.slice an m cn, tsv, bsv, vsv], .int .i64 0, .int .i64 0] v (.int .i64 x))) (HY : Hid (∀ v, Below w.heap.size w v → Ret 151 #[.agg #[.slice an m cn, tsv, bsv, vsv], .int .i64 1, .int .i64 0] v (.int .i64 y))) (t : decide (x < 0) = false) (t2 : decide (0 < x) = true) : Ret 85 #[.int .i64 2, .agg #[.slice an m cn, tsv, bsv, vsv]] w (.agg #[.int .i64 1, .int .i64 1, .string ⟨#[]⟩]) := by
 obtain ⟨hb, k0, k1⟩ := box2 w #[.slice an m cn, tsv, bsv, vsv] 100 #[.int .i64 0, .int .i64 0, .string ⟨#[]⟩] 26
 go_enter Tryz.func85, Tryz.ntmps85
 go_wp2_with (fail)
 generalize ((w.alloc (Obj.cells #[.slice an m cn, tsv, bsv, vsv] 100)).alloc (Obj.cells #[.int .i64 0, .int .i64 0, .string ⟨#[]⟩] 26)) = W0 at *
 refine (go2 (HX.out _ hb) hb k0 k1).mono ?_; clear hb k0 k1; rintro e w0 ⟨rfl, hb, k0, k1⟩
 have c00 := ch k0 0
 have c01 := ch k0 1
 have c02 := ch k0 2
 have c03 := ch k0 3
 simp at c00 c01 c02 c03
 go_wp2_with (fail)
 refine (go2 (HY.out _ hb) hb k0 k1).mono ?_; clear hb k0 k1; rintro e w1 ⟨rfl, hb, k0, k1⟩
 clear c00 c01 c02 c03
 have c00 := ch k0 0
 have c01 := ch k0 1
 have c02 := ch k0 2
 have c03 := ch k0 3
 simp at c00 c01 c02 c03
 go_wp2_with (fail)
 refine (go2 (rnum14 1 _) hb k0 k1).mono ?_; clear hb k0 k1; rintro e w2 ⟨rfl, hb, k0, k1⟩
 clear c00 c01 c02 c03
 have c00 := ch k0 0
 have c01 := ch k0 1
 have c02 := ch k0 2
 have c03 := ch k0 3
 simp at c00 c01 c02 c03
 obtain ⟨z0, z1, z2⟩ := val_cells k1
 obtain ⟨f0, f1, f2⟩ := val_frozen k1
 clear k0 k1
 go_wp2
 exact bodyPost_ret (v := .agg #[.int .i64 1, .int .i64 1, .string ⟨#[]⟩]) (by simp [results, Tryz.results85, go_sem, z0, z1, z2]) rfl ⟨rfl, set3 hb (by omega)⟩
theorem rn2_z (an : Option Addr) (m cn : Nat) (tsv bsv vsv : Value) (x y : Int) (w : World) (HX : Hid (∀ v, Below w.heap.size w v → Ret 151 #[.agg #[.slice an m cn, tsv, bsv, vsv], .int .i64 0, .int .i64 0] v (.int .i64 x))) (HY : Hid (∀ v, Below w.heap.size w v → Ret 151 #[.agg #[.slice an m cn, tsv, bsv, vsv], .int .i64 1, .int .i64 0] v (.int .i64 y))) (t : decide (x < 0) = false) (t2 : decide (0 < x) = false) : Ret 85 #[.int .i64 2, .agg #[.slice an m cn, tsv, bsv, vsv]] w (.agg #[.int .i64 1, .int .i64 0, .string ⟨#[]⟩]) := by
 obtain ⟨hb, k0, k1⟩ := box2 w #[.slice an m cn, tsv, bsv, vsv] 100 #[.int .i64 0, .int .i64 0, .string ⟨#[]⟩] 26
 go_enter Tryz.func85, Tryz.ntmps85
 go_wp2_with (fail)
 generalize ((w.alloc (Obj.cells #[.slice an m cn, tsv, bsv, vsv] 100)).alloc (Obj.cells #[.int .i64 0, .int .i64 0, .string ⟨#[]⟩] 26)) = W0 at *
 refine (go2 (HX.out _ hb) hb k0 k1).mono ?_; clear hb k0 k1; rintro e w0 ⟨rfl, hb, k0, k1⟩
 have c00 := ch k0 0
 have c01 := ch k0 1
 have c02 := ch k0 2
 have c03 := ch k0 3
 simp at c00 c01 c02 c03
 go_wp2_with (fail)
 refine (go2 (HY.out _ hb) hb k0 k1).mono ?_; clear hb k0 k1; rintro e w1 ⟨rfl, hb, k0, k1⟩
 clear c00 c01 c02 c03
 have c00 := ch k0 0
 have c01 := ch k0 1
 have c02 := ch k0 2
 have c03 := ch k0 3
 simp at c00 c01 c02 c03
 go_wp2_with (fail)
 refine (go2 (rnum14 0 _) hb k0 k1).mono ?_; clear hb k0 k1; rintro e w2 ⟨rfl, hb, k0, k1⟩
 clear c00 c01 c02 c03
 have c00 := ch k0 0
 have c01 := ch k0 1
 have c02 := ch k0 2
 have c03 := ch k0 3
 simp at c00 c01 c02 c03
 obtain ⟨z0, z1, z2⟩ := val_cells k1
 obtain ⟨f0, f1, f2⟩ := val_frozen k1
 clear k0 k1
 go_wp2
 exact bodyPost_ret (v := .agg #[.int .i64 1, .int .i64 0, .string ⟨#[]⟩]) (by simp [results, Tryz.results85, go_sem, z0, z1, z2]) rfl ⟨rfl, set3 hb (by omega)⟩
theorem rn3 (an : Option Addr) (m cn : Nat) (tsv bsv vsv : Value) (x y : Int) (u z rk rn : Int) (rt : ByteArray) (w : World) (HX : Hid (∀ v, Below w.heap.size w v → Ret 151 #[.agg #[.slice an m cn, tsv, bsv, vsv], .int .i64 0, .int .i64 0] v (.int .i64 x))) (HY : Hid (∀ v, Below w.heap.size w v → Ret 151 #[.agg #[.slice an m cn, tsv, bsv, vsv], .int .i64 1, .int .i64 0] v (.int .i64 y))) (HF : Hid (∀ w, Ret 152 #[.int .i64 x, .int .i64 y] w (.tuple #[.int .i64 u, .int .i64 z]))) (HT : Hid (∀ w, Ret 64 #[.int .i64 u, .int .i64 z] w (.agg #[.int .i64 rk, .int .i64 rn, .string rt]))) : Ret 85 #[.int .i64 3, .agg #[.slice an m cn, tsv, bsv, vsv]] w (.agg #[.int .i64 rk, .int .i64 rn, .string rt]) := by
 obtain ⟨hb, k0, k1⟩ := box2 w #[.slice an m cn, tsv, bsv, vsv] 100 #[.int .i64 0, .int .i64 0, .string ⟨#[]⟩] 26
 go_enter Tryz.func85, Tryz.ntmps85
 go_wp2_with (fail)
 generalize ((w.alloc (Obj.cells #[.slice an m cn, tsv, bsv, vsv] 100)).alloc (Obj.cells #[.int .i64 0, .int .i64 0, .string ⟨#[]⟩] 26)) = W0 at *
 refine (go2 (HX.out _ hb) hb k0 k1).mono ?_; clear hb k0 k1; rintro e w0 ⟨rfl, hb, k0, k1⟩
 have c00 := ch k0 0
 have c01 := ch k0 1
 have c02 := ch k0 2
 have c03 := ch k0 3
 simp at c00 c01 c02 c03
 go_wp2_with (fail)
 refine (go2 (HY.out _ hb) hb k0 k1).mono ?_; clear hb k0 k1; rintro e w1 ⟨rfl, hb, k0, k1⟩
 clear c00 c01 c02 c03
 have c00 := ch k0 0
 have c01 := ch k0 1
 have c02 := ch k0 2
 have c03 := ch k0 3
 simp at c00 c01 c02 c03
 go_wp2_with (fail)
 refine (go2 (HF.out _) hb k0 k1).mono ?_; clear hb k0 k1; rintro e w2 ⟨rfl, hb, k0, k1⟩
 clear c00 c01 c02 c03
 have c00 := ch k0 0
 have c01 := ch k0 1
 have c02 := ch k0 2
 have c03 := ch k0 3
 simp at c00 c01 c02 c03
 go_wp2_with (fail)
 refine (go2 (HT.out _) hb k0 k1).mono ?_; clear hb k0 k1; rintro e w3 ⟨rfl, hb, k0, k1⟩
 clear c00 c01 c02 c03
 have c00 := ch k0 0
 have c01 := ch k0 1
 have c02 := ch k0 2
 have c03 := ch k0 3
 simp at c00 c01 c02 c03
 obtain ⟨z0, z1, z2⟩ := val_cells k1
 obtain ⟨f0, f1, f2⟩ := val_frozen k1
 clear k0 k1
 go_wp2
 exact bodyPost_ret (v := .agg #[.int .i64 rk, .int .i64 rn, .string rt]) (by simp [results, Tryz.results85, go_sem, z0, z1, z2]) rfl ⟨rfl, set3 hb (by omega)⟩
theorem rn4 (an : Option Addr) (m cn : Nat) (tsv bsv vsv : Value) (x y : Int) (u z rk rn : Int) (rt : ByteArray) (w : World) (HX : Hid (∀ v, Below w.heap.size w v → Ret 151 #[.agg #[.slice an m cn, tsv, bsv, vsv], .int .i64 0, .int .i64 0] v (.int .i64 x))) (HY : Hid (∀ v, Below w.heap.size w v → Ret 151 #[.agg #[.slice an m cn, tsv, bsv, vsv], .int .i64 1, .int .i64 0] v (.int .i64 y))) (HF : Hid (∀ w, Ret 65 #[.int .i64 x, .int .i64 y] w (.tuple #[.int .i64 u, .int .i64 z]))) (HT : Hid (∀ w, Ret 64 #[.int .i64 u, .int .i64 z] w (.agg #[.int .i64 rk, .int .i64 rn, .string rt]))) : Ret 85 #[.int .i64 4, .agg #[.slice an m cn, tsv, bsv, vsv]] w (.agg #[.int .i64 rk, .int .i64 rn, .string rt]) := by
 obtain ⟨hb, k0, k1⟩ := box2 w #[.slice an m cn, tsv, bsv, vsv] 100 #[.int .i64 0, .int .i64 0, .string ⟨#[]⟩] 26
 go_enter Tryz.func85, Tryz.ntmps85
 go_wp2_with (fail)
 generalize ((w.alloc (Obj.cells #[.slice an m cn, tsv, bsv, vsv] 100)).alloc (Obj.cells #[.int .i64 0, .int .i64 0, .string ⟨#[]⟩] 26)) = W0 at *
 refine (go2 (HX.out _ hb) hb k0 k1).mono ?_; clear hb k0 k1; rintro e w0 ⟨rfl, hb, k0, k1⟩
 have c00 := ch k0 0
 have c01 := ch k0 1
 have c02 := ch k0 2
 have c03 := ch k0 3
 simp at c00 c01 c02 c03
 go_wp2_with (fail)
 refine (go2 (HY.out _ hb) hb k0 k1).mono ?_; clear hb k0 k1; rintro e w1 ⟨rfl, hb, k0, k1⟩
 clear c00 c01 c02 c03
 have c00 := ch k0 0
 have c01 := ch k0 1
 have c02 := ch k0 2
 have c03 := ch k0 3
 simp at c00 c01 c02 c03
 go_wp2_with (fail)
 refine (go2 (HF.out _) hb k0 k1).mono ?_; clear hb k0 k1; rintro e w2 ⟨rfl, hb, k0, k1⟩
 clear c00 c01 c02 c03
 have c00 := ch k0 0
 have c01 := ch k0 1
 have c02 := ch k0 2
 have c03 := ch k0 3
 simp at c00 c01 c02 c03
 go_wp2_with (fail)
 refine (go2 (HT.out _) hb k0 k1).mono ?_; clear hb k0 k1; rintro e w3 ⟨rfl, hb, k0, k1⟩
 clear c00 c01 c02 c03
 have c00 := ch k0 0
 have c01 := ch k0 1
 have c02 := ch k0 2
 have c03 := ch k0 3
 simp at c00 c01 c02 c03
 obtain ⟨z0, z1, z2⟩ := val_cells k1
 obtain ⟨f0, f1, f2⟩ := val_frozen k1
 clear k0 k1
 go_wp2
 exact bodyPost_ret (v := .agg #[.int .i64 rk, .int .i64 rn, .string rt]) (by simp [results, Tryz.results85, go_sem, z0, z1, z2]) rfl ⟨rfl, set3 hb (by omega)⟩
theorem rn5 (an : Option Addr) (m cn : Nat) (tsv bsv vsv : Value) (x y : Int) (u z rk rn : Int) (rt : ByteArray) (w : World) (HX : Hid (∀ v, Below w.heap.size w v → Ret 151 #[.agg #[.slice an m cn, tsv, bsv, vsv], .int .i64 0, .int .i64 0] v (.int .i64 x))) (HY : Hid (∀ v, Below w.heap.size w v → Ret 151 #[.agg #[.slice an m cn, tsv, bsv, vsv], .int .i64 1, .int .i64 0] v (.int .i64 y))) (HF : Hid (∀ w, Ret 66 #[.int .i64 x, .int .i64 y] w (.tuple #[.int .i64 u, .int .i64 z]))) (HT : Hid (∀ w, Ret 64 #[.int .i64 u, .int .i64 z] w (.agg #[.int .i64 rk, .int .i64 rn, .string rt]))) : Ret 85 #[.int .i64 5, .agg #[.slice an m cn, tsv, bsv, vsv]] w (.agg #[.int .i64 rk, .int .i64 rn, .string rt]) := by
 obtain ⟨hb, k0, k1⟩ := box2 w #[.slice an m cn, tsv, bsv, vsv] 100 #[.int .i64 0, .int .i64 0, .string ⟨#[]⟩] 26
 go_enter Tryz.func85, Tryz.ntmps85
 go_wp2_with (fail)
 generalize ((w.alloc (Obj.cells #[.slice an m cn, tsv, bsv, vsv] 100)).alloc (Obj.cells #[.int .i64 0, .int .i64 0, .string ⟨#[]⟩] 26)) = W0 at *
 refine (go2 (HX.out _ hb) hb k0 k1).mono ?_; clear hb k0 k1; rintro e w0 ⟨rfl, hb, k0, k1⟩
 have c00 := ch k0 0
 have c01 := ch k0 1
 have c02 := ch k0 2
 have c03 := ch k0 3
 simp at c00 c01 c02 c03
 go_wp2_with (fail)
 refine (go2 (HY.out _ hb) hb k0 k1).mono ?_; clear hb k0 k1; rintro e w1 ⟨rfl, hb, k0, k1⟩
 clear c00 c01 c02 c03
 have c00 := ch k0 0
 have c01 := ch k0 1
 have c02 := ch k0 2
 have c03 := ch k0 3
 simp at c00 c01 c02 c03
 go_wp2_with (fail)
 refine (go2 (HF.out _) hb k0 k1).mono ?_; clear hb k0 k1; rintro e w2 ⟨rfl, hb, k0, k1⟩
 clear c00 c01 c02 c03
 have c00 := ch k0 0
 have c01 := ch k0 1
 have c02 := ch k0 2
 have c03 := ch k0 3
 simp at c00 c01 c02 c03
 go_wp2_with (fail)
 refine (go2 (HT.out _) hb k0 k1).mono ?_; clear hb k0 k1; rintro e w3 ⟨rfl, hb, k0, k1⟩
 clear c00 c01 c02 c03
 have c00 := ch k0 0
 have c01 := ch k0 1
 have c02 := ch k0 2
 have c03 := ch k0 3
 simp at c00 c01 c02 c03
 obtain ⟨z0, z1, z2⟩ := val_cells k1
 obtain ⟨f0, f1, f2⟩ := val_frozen k1
 clear k0 k1
 go_wp2
 exact bodyPost_ret (v := .agg #[.int .i64 rk, .int .i64 rn, .string rt]) (by simp [results, Tryz.results85, go_sem, z0, z1, z2]) rfl ⟨rfl, set3 hb (by omega)⟩
theorem rn6 (an : Option Addr) (m cn : Nat) (tsv bsv vsv : Value) (x y : Int) (u z rk rn : Int) (rt : ByteArray) (w : World) (HX : Hid (∀ v, Below w.heap.size w v → Ret 151 #[.agg #[.slice an m cn, tsv, bsv, vsv], .int .i64 0, .int .i64 0] v (.int .i64 x))) (HY : Hid (∀ v, Below w.heap.size w v → Ret 151 #[.agg #[.slice an m cn, tsv, bsv, vsv], .int .i64 1, .int .i64 0] v (.int .i64 y))) (HF : Hid (∀ w, Ret 153 #[.int .i64 x, .int .i64 y] w (.tuple #[.int .i64 u, .int .i64 z]))) (HT : Hid (∀ w, Ret 64 #[.int .i64 u, .int .i64 z] w (.agg #[.int .i64 rk, .int .i64 rn, .string rt]))) : Ret 85 #[.int .i64 6, .agg #[.slice an m cn, tsv, bsv, vsv]] w (.agg #[.int .i64 rk, .int .i64 rn, .string rt]) := by
 obtain ⟨hb, k0, k1⟩ := box2 w #[.slice an m cn, tsv, bsv, vsv] 100 #[.int .i64 0, .int .i64 0, .string ⟨#[]⟩] 26
 go_enter Tryz.func85, Tryz.ntmps85
 go_wp2_with (fail)
 generalize ((w.alloc (Obj.cells #[.slice an m cn, tsv, bsv, vsv] 100)).alloc (Obj.cells #[.int .i64 0, .int .i64 0, .string ⟨#[]⟩] 26)) = W0 at *
 refine (go2 (HX.out _ hb) hb k0 k1).mono ?_; clear hb k0 k1; rintro e w0 ⟨rfl, hb, k0, k1⟩
 have c00 := ch k0 0
 have c01 := ch k0 1
 have c02 := ch k0 2
 have c03 := ch k0 3
 simp at c00 c01 c02 c03
 go_wp2_with (fail)
 refine (go2 (HY.out _ hb) hb k0 k1).mono ?_; clear hb k0 k1; rintro e w1 ⟨rfl, hb, k0, k1⟩
 clear c00 c01 c02 c03
 have c00 := ch k0 0
 have c01 := ch k0 1
 have c02 := ch k0 2
 have c03 := ch k0 3
 simp at c00 c01 c02 c03
 go_wp2_with (fail)
 refine (go2 (HF.out _) hb k0 k1).mono ?_; clear hb k0 k1; rintro e w2 ⟨rfl, hb, k0, k1⟩
 clear c00 c01 c02 c03
 have c00 := ch k0 0
 have c01 := ch k0 1
 have c02 := ch k0 2
 have c03 := ch k0 3
 simp at c00 c01 c02 c03
 go_wp2_with (fail)
 refine (go2 (HT.out _) hb k0 k1).mono ?_; clear hb k0 k1; rintro e w3 ⟨rfl, hb, k0, k1⟩
 clear c00 c01 c02 c03
 have c00 := ch k0 0
 have c01 := ch k0 1
 have c02 := ch k0 2
 have c03 := ch k0 3
 simp at c00 c01 c02 c03
 obtain ⟨z0, z1, z2⟩ := val_cells k1
 obtain ⟨f0, f1, f2⟩ := val_frozen k1
 clear k0 k1
 go_wp2
 exact bodyPost_ret (v := .agg #[.int .i64 rk, .int .i64 rn, .string rt]) (by simp [results, Tryz.results85, go_sem, z0, z1, z2]) rfl ⟨rfl, set3 hb (by omega)⟩
theorem rn7 (an : Option Addr) (m cn : Nat) (tsv bsv vsv : Value) (x y : Int) (u z rk rn : Int) (rt : ByteArray) (w : World) (HX : Hid (∀ v, Below w.heap.size w v → Ret 151 #[.agg #[.slice an m cn, tsv, bsv, vsv], .int .i64 0, .int .i64 0] v (.int .i64 x))) (HY : Hid (∀ v, Below w.heap.size w v → Ret 151 #[.agg #[.slice an m cn, tsv, bsv, vsv], .int .i64 1, .int .i64 0] v (.int .i64 y))) (HF : Hid (∀ w, Ret 154 #[.int .i64 x, .int .i64 y] w (.tuple #[.int .i64 u, .int .i64 z]))) (HT : Hid (∀ w, Ret 64 #[.int .i64 u, .int .i64 z] w (.agg #[.int .i64 rk, .int .i64 rn, .string rt]))) : Ret 85 #[.int .i64 7, .agg #[.slice an m cn, tsv, bsv, vsv]] w (.agg #[.int .i64 rk, .int .i64 rn, .string rt]) := by
 obtain ⟨hb, k0, k1⟩ := box2 w #[.slice an m cn, tsv, bsv, vsv] 100 #[.int .i64 0, .int .i64 0, .string ⟨#[]⟩] 26
 go_enter Tryz.func85, Tryz.ntmps85
 go_wp2_with (fail)
 generalize ((w.alloc (Obj.cells #[.slice an m cn, tsv, bsv, vsv] 100)).alloc (Obj.cells #[.int .i64 0, .int .i64 0, .string ⟨#[]⟩] 26)) = W0 at *
 refine (go2 (HX.out _ hb) hb k0 k1).mono ?_; clear hb k0 k1; rintro e w0 ⟨rfl, hb, k0, k1⟩
 have c00 := ch k0 0
 have c01 := ch k0 1
 have c02 := ch k0 2
 have c03 := ch k0 3
 simp at c00 c01 c02 c03
 go_wp2_with (fail)
 refine (go2 (HY.out _ hb) hb k0 k1).mono ?_; clear hb k0 k1; rintro e w1 ⟨rfl, hb, k0, k1⟩
 clear c00 c01 c02 c03
 have c00 := ch k0 0
 have c01 := ch k0 1
 have c02 := ch k0 2
 have c03 := ch k0 3
 simp at c00 c01 c02 c03
 go_wp2_with (fail)
 refine (go2 (HF.out _) hb k0 k1).mono ?_; clear hb k0 k1; rintro e w2 ⟨rfl, hb, k0, k1⟩
 clear c00 c01 c02 c03
 have c00 := ch k0 0
 have c01 := ch k0 1
 have c02 := ch k0 2
 have c03 := ch k0 3
 simp at c00 c01 c02 c03
 go_wp2_with (fail)
 refine (go2 (HT.out _) hb k0 k1).mono ?_; clear hb k0 k1; rintro e w3 ⟨rfl, hb, k0, k1⟩
 clear c00 c01 c02 c03
 have c00 := ch k0 0
 have c01 := ch k0 1
 have c02 := ch k0 2
 have c03 := ch k0 3
 simp at c00 c01 c02 c03
 obtain ⟨z0, z1, z2⟩ := val_cells k1
 obtain ⟨f0, f1, f2⟩ := val_frozen k1
 clear k0 k1
 go_wp2
 exact bodyPost_ret (v := .agg #[.int .i64 rk, .int .i64 rn, .string rt]) (by simp [results, Tryz.results85, go_sem, z0, z1, z2]) rfl ⟨rfl, set3 hb (by omega)⟩
theorem rn8_lo (an : Option Addr) (m cn : Nat) (tsv bsv vsv : Value) (x y : Int) (w : World) (HX : Hid (∀ v, Below w.heap.size w v → Ret 151 #[.agg #[.slice an m cn, tsv, bsv, vsv], .int .i64 0, .int .i64 0] v (.int .i64 x))) (HY : Hid (∀ v, Below w.heap.size w v → Ret 151 #[.agg #[.slice an m cn, tsv, bsv, vsv], .int .i64 1, .int .i64 0] v (.int .i64 y))) (t : decide (x < 0) = true) : Ret 85 #[.int .i64 8, .agg #[.slice an m cn, tsv, bsv, vsv]] w (.agg #[.int .i64 4, .int .i64 2, .string ⟨#[]⟩]) := by
 obtain ⟨hb, k0, k1⟩ := box2 w #[.slice an m cn, tsv, bsv, vsv] 100 #[.int .i64 0, .int .i64 0, .string ⟨#[]⟩] 26
 go_enter Tryz.func85, Tryz.ntmps85
 go_wp2_with (fail)
 generalize ((w.alloc (Obj.cells #[.slice an m cn, tsv, bsv, vsv] 100)).alloc (Obj.cells #[.int .i64 0, .int .i64 0, .string ⟨#[]⟩] 26)) = W0 at *
 refine (go2 (HX.out _ hb) hb k0 k1).mono ?_; clear hb k0 k1; rintro e w0 ⟨rfl, hb, k0, k1⟩
 have c00 := ch k0 0
 have c01 := ch k0 1
 have c02 := ch k0 2
 have c03 := ch k0 3
 simp at c00 c01 c02 c03
 go_wp2_with (fail)
 refine (go2 (HY.out _ hb) hb k0 k1).mono ?_; clear hb k0 k1; rintro e w1 ⟨rfl, hb, k0, k1⟩
 clear c00 c01 c02 c03
 have c00 := ch k0 0
 have c01 := ch k0 1
 have c02 := ch k0 2
 have c03 := ch k0 3
 simp at c00 c01 c02 c03
 go_wp2_with (fail)
 refine (go2 (rbad14 2 _) hb k0 k1).mono ?_; clear hb k0 k1; rintro e w2 ⟨rfl, hb, k0, k1⟩
 clear c00 c01 c02 c03
 have c00 := ch k0 0
 have c01 := ch k0 1
 have c02 := ch k0 2
 have c03 := ch k0 3
 simp at c00 c01 c02 c03
 obtain ⟨z0, z1, z2⟩ := val_cells k1
 obtain ⟨f0, f1, f2⟩ := val_frozen k1
 clear k0 k1
 go_wp2
 exact bodyPost_ret (v := .agg #[.int .i64 4, .int .i64 2, .string ⟨#[]⟩]) (by simp [results, Tryz.results85, go_sem, z0, z1, z2]) rfl ⟨rfl, set3 hb (by omega)⟩
theorem rn8_hi (an : Option Addr) (m cn : Nat) (tsv bsv vsv : Value) (x y : Int) (w : World) (HX : Hid (∀ v, Below w.heap.size w v → Ret 151 #[.agg #[.slice an m cn, tsv, bsv, vsv], .int .i64 0, .int .i64 0] v (.int .i64 x))) (HY : Hid (∀ v, Below w.heap.size w v → Ret 151 #[.agg #[.slice an m cn, tsv, bsv, vsv], .int .i64 1, .int .i64 0] v (.int .i64 y))) (t : decide (x < 0) = false) (t2 : decide (20 < x) = true) : Ret 85 #[.int .i64 8, .agg #[.slice an m cn, tsv, bsv, vsv]] w (.agg #[.int .i64 4, .int .i64 2, .string ⟨#[]⟩]) := by
 obtain ⟨hb, k0, k1⟩ := box2 w #[.slice an m cn, tsv, bsv, vsv] 100 #[.int .i64 0, .int .i64 0, .string ⟨#[]⟩] 26
 go_enter Tryz.func85, Tryz.ntmps85
 go_wp2_with (fail)
 generalize ((w.alloc (Obj.cells #[.slice an m cn, tsv, bsv, vsv] 100)).alloc (Obj.cells #[.int .i64 0, .int .i64 0, .string ⟨#[]⟩] 26)) = W0 at *
 refine (go2 (HX.out _ hb) hb k0 k1).mono ?_; clear hb k0 k1; rintro e w0 ⟨rfl, hb, k0, k1⟩
 have c00 := ch k0 0
 have c01 := ch k0 1
 have c02 := ch k0 2
 have c03 := ch k0 3
 simp at c00 c01 c02 c03
 go_wp2_with (fail)
 refine (go2 (HY.out _ hb) hb k0 k1).mono ?_; clear hb k0 k1; rintro e w1 ⟨rfl, hb, k0, k1⟩
 clear c00 c01 c02 c03
 have c00 := ch k0 0
 have c01 := ch k0 1
 have c02 := ch k0 2
 have c03 := ch k0 3
 simp at c00 c01 c02 c03
 go_wp2_with (fail)
 refine (go2 (rbad14 2 _) hb k0 k1).mono ?_; clear hb k0 k1; rintro e w2 ⟨rfl, hb, k0, k1⟩
 clear c00 c01 c02 c03
 have c00 := ch k0 0
 have c01 := ch k0 1
 have c02 := ch k0 2
 have c03 := ch k0 3
 simp at c00 c01 c02 c03
 obtain ⟨z0, z1, z2⟩ := val_cells k1
 obtain ⟨f0, f1, f2⟩ := val_frozen k1
 clear k0 k1
 go_wp2
 exact bodyPost_ret (v := .agg #[.int .i64 4, .int .i64 2, .string ⟨#[]⟩]) (by simp [results, Tryz.results85, go_sem, z0, z1, z2]) rfl ⟨rfl, set3 hb (by omega)⟩
theorem rn9 (an : Option Addr) (m cn : Nat) (tsv bsv vsv : Value) (x y : Int) (q rk rn : Int) (b : Bool) (rt : ByteArray) (w : World) (HX : Hid (∀ v, Below w.heap.size w v → Ret 151 #[.agg #[.slice an m cn, tsv, bsv, vsv], .int .i64 0, .int .i64 0] v (.int .i64 x))) (HY : Hid (∀ v, Below w.heap.size w v → Ret 151 #[.agg #[.slice an m cn, tsv, bsv, vsv], .int .i64 1, .int .i64 0] v (.int .i64 y))) (e1 : x.tmod 2 = q) (t : (q == 0) = b) (HB : Hid (∀ w, Ret 50 #[.bool b] w (.agg #[.int .i64 rk, .int .i64 rn, .string rt]))) : Ret 85 #[.int .i64 9, .agg #[.slice an m cn, tsv, bsv, vsv]] w (.agg #[.int .i64 rk, .int .i64 rn, .string rt]) := by
 obtain ⟨hb, k0, k1⟩ := box2 w #[.slice an m cn, tsv, bsv, vsv] 100 #[.int .i64 0, .int .i64 0, .string ⟨#[]⟩] 26
 go_enter Tryz.func85, Tryz.ntmps85
 go_wp2_with (fail)
 generalize ((w.alloc (Obj.cells #[.slice an m cn, tsv, bsv, vsv] 100)).alloc (Obj.cells #[.int .i64 0, .int .i64 0, .string ⟨#[]⟩] 26)) = W0 at *
 refine (go2 (HX.out _ hb) hb k0 k1).mono ?_; clear hb k0 k1; rintro e w0 ⟨rfl, hb, k0, k1⟩
 have c00 := ch k0 0
 have c01 := ch k0 1
 have c02 := ch k0 2
 have c03 := ch k0 3
 simp at c00 c01 c02 c03
 go_wp2_with (fail)
 refine (go2 (HY.out _ hb) hb k0 k1).mono ?_; clear hb k0 k1; rintro e w1 ⟨rfl, hb, k0, k1⟩
 clear c00 c01 c02 c03
 have c00 := ch k0 0
 have c01 := ch k0 1
 have c02 := ch k0 2
 have c03 := ch k0 3
 simp at c00 c01 c02 c03
 go_wp2_with (fail)
 refine (go2 (HB.out _) hb k0 k1).mono ?_; clear hb k0 k1; rintro e w2 ⟨rfl, hb, k0, k1⟩
 clear c00 c01 c02 c03
 have c00 := ch k0 0
 have c01 := ch k0 1
 have c02 := ch k0 2
 have c03 := ch k0 3
 simp at c00 c01 c02 c03
 obtain ⟨z0, z1, z2⟩ := val_cells k1
 obtain ⟨f0, f1, f2⟩ := val_frozen k1
 clear k0 k1
 go_wp2
 exact bodyPost_ret (v := .agg #[.int .i64 rk, .int .i64 rn, .string rt]) (by simp [results, Tryz.results85, go_sem, z0, z1, z2]) rfl ⟨rfl, set3 hb (by omega)⟩
theorem rn10 (an : Option Addr) (m cn : Nat) (tsv bsv vsv : Value) (x y : Int) (q rk rn : Int) (b : Bool) (rt : ByteArray) (w : World) (HX : Hid (∀ v, Below w.heap.size w v → Ret 151 #[.agg #[.slice an m cn, tsv, bsv, vsv], .int .i64 0, .int .i64 0] v (.int .i64 x))) (HY : Hid (∀ v, Below w.heap.size w v → Ret 151 #[.agg #[.slice an m cn, tsv, bsv, vsv], .int .i64 1, .int .i64 0] v (.int .i64 y))) (e1 : x.tmod 2 = q) (t : (q != 0) = b) (HB : Hid (∀ w, Ret 50 #[.bool b] w (.agg #[.int .i64 rk, .int .i64 rn, .string rt]))) : Ret 85 #[.int .i64 10, .agg #[.slice an m cn, tsv, bsv, vsv]] w (.agg #[.int .i64 rk, .int .i64 rn, .string rt]) := by
 obtain ⟨hb, k0, k1⟩ := box2 w #[.slice an m cn, tsv, bsv, vsv] 100 #[.int .i64 0, .int .i64 0, .string ⟨#[]⟩] 26
 go_enter Tryz.func85, Tryz.ntmps85
 go_wp2_with (fail)
 generalize ((w.alloc (Obj.cells #[.slice an m cn, tsv, bsv, vsv] 100)).alloc (Obj.cells #[.int .i64 0, .int .i64 0, .string ⟨#[]⟩] 26)) = W0 at *
 refine (go2 (HX.out _ hb) hb k0 k1).mono ?_; clear hb k0 k1; rintro e w0 ⟨rfl, hb, k0, k1⟩
 have c00 := ch k0 0
 have c01 := ch k0 1
 have c02 := ch k0 2
 have c03 := ch k0 3
 simp at c00 c01 c02 c03
 go_wp2_with (fail)
 refine (go2 (HY.out _ hb) hb k0 k1).mono ?_; clear hb k0 k1; rintro e w1 ⟨rfl, hb, k0, k1⟩
 clear c00 c01 c02 c03
 have c00 := ch k0 0
 have c01 := ch k0 1
 have c02 := ch k0 2
 have c03 := ch k0 3
 simp at c00 c01 c02 c03
 go_wp2_with (fail)
 refine (go2 (HB.out _) hb k0 k1).mono ?_; clear hb k0 k1; rintro e w2 ⟨rfl, hb, k0, k1⟩
 clear c00 c01 c02 c03
 have c00 := ch k0 0
 have c01 := ch k0 1
 have c02 := ch k0 2
 have c03 := ch k0 3
 simp at c00 c01 c02 c03
 obtain ⟨z0, z1, z2⟩ := val_cells k1
 obtain ⟨f0, f1, f2⟩ := val_frozen k1
 clear k0 k1
 go_wp2
 exact bodyPost_ret (v := .agg #[.int .i64 rk, .int .i64 rn, .string rt]) (by simp [results, Tryz.results85, go_sem, z0, z1, z2]) rfl ⟨rfl, set3 hb (by omega)⟩
theorem rn11_x (an : Option Addr) (m cn : Nat) (tsv bsv vsv : Value) (x y : Int) (w : World) (HX : Hid (∀ v, Below w.heap.size w v → Ret 151 #[.agg #[.slice an m cn, tsv, bsv, vsv], .int .i64 0, .int .i64 0] v (.int .i64 x))) (HY : Hid (∀ v, Below w.heap.size w v → Ret 151 #[.agg #[.slice an m cn, tsv, bsv, vsv], .int .i64 1, .int .i64 0] v (.int .i64 y))) (t : decide (x < 0) = true) : Ret 85 #[.int .i64 11, .agg #[.slice an m cn, tsv, bsv, vsv]] w (.agg #[.int .i64 4, .int .i64 2, .string ⟨#[]⟩]) := by
 obtain ⟨hb, k0, k1⟩ := box2 w #[.slice an m cn, tsv, bsv, vsv] 100 #[.int .i64 0, .int .i64 0, .string ⟨#[]⟩] 26
 go_enter Tryz.func85, Tryz.ntmps85
 go_wp2_with (fail)
 generalize ((w.alloc (Obj.cells #[.slice an m cn, tsv, bsv, vsv] 100)).alloc (Obj.cells #[.int .i64 0, .int .i64 0, .string ⟨#[]⟩] 26)) = W0 at *
 refine (go2 (HX.out _ hb) hb k0 k1).mono ?_; clear hb k0 k1; rintro e w0 ⟨rfl, hb, k0, k1⟩
 have c00 := ch k0 0
 have c01 := ch k0 1
 have c02 := ch k0 2
 have c03 := ch k0 3
 simp at c00 c01 c02 c03
 go_wp2_with (fail)
 refine (go2 (HY.out _ hb) hb k0 k1).mono ?_; clear hb k0 k1; rintro e w1 ⟨rfl, hb, k0, k1⟩
 clear c00 c01 c02 c03
 have c00 := ch k0 0
 have c01 := ch k0 1
 have c02 := ch k0 2
 have c03 := ch k0 3
 simp at c00 c01 c02 c03
 go_wp2_with (fail)
 refine (go2 (rbad14 2 _) hb k0 k1).mono ?_; clear hb k0 k1; rintro e w2 ⟨rfl, hb, k0, k1⟩
 clear c00 c01 c02 c03
 have c00 := ch k0 0
 have c01 := ch k0 1
 have c02 := ch k0 2
 have c03 := ch k0 3
 simp at c00 c01 c02 c03
 obtain ⟨z0, z1, z2⟩ := val_cells k1
 obtain ⟨f0, f1, f2⟩ := val_frozen k1
 clear k0 k1
 go_wp2
 exact bodyPost_ret (v := .agg #[.int .i64 4, .int .i64 2, .string ⟨#[]⟩]) (by simp [results, Tryz.results85, go_sem, z0, z1, z2]) rfl ⟨rfl, set3 hb (by omega)⟩
theorem rn11_y (an : Option Addr) (m cn : Nat) (tsv bsv vsv : Value) (x y : Int) (w : World) (HX : Hid (∀ v, Below w.heap.size w v → Ret 151 #[.agg #[.slice an m cn, tsv, bsv, vsv], .int .i64 0, .int .i64 0] v (.int .i64 x))) (HY : Hid (∀ v, Below w.heap.size w v → Ret 151 #[.agg #[.slice an m cn, tsv, bsv, vsv], .int .i64 1, .int .i64 0] v (.int .i64 y))) (t : decide (x < 0) = false) (t2 : decide (y < 0) = true) : Ret 85 #[.int .i64 11, .agg #[.slice an m cn, tsv, bsv, vsv]] w (.agg #[.int .i64 4, .int .i64 2, .string ⟨#[]⟩]) := by
 obtain ⟨hb, k0, k1⟩ := box2 w #[.slice an m cn, tsv, bsv, vsv] 100 #[.int .i64 0, .int .i64 0, .string ⟨#[]⟩] 26
 go_enter Tryz.func85, Tryz.ntmps85
 go_wp2_with (fail)
 generalize ((w.alloc (Obj.cells #[.slice an m cn, tsv, bsv, vsv] 100)).alloc (Obj.cells #[.int .i64 0, .int .i64 0, .string ⟨#[]⟩] 26)) = W0 at *
 refine (go2 (HX.out _ hb) hb k0 k1).mono ?_; clear hb k0 k1; rintro e w0 ⟨rfl, hb, k0, k1⟩
 have c00 := ch k0 0
 have c01 := ch k0 1
 have c02 := ch k0 2
 have c03 := ch k0 3
 simp at c00 c01 c02 c03
 go_wp2_with (fail)
 refine (go2 (HY.out _ hb) hb k0 k1).mono ?_; clear hb k0 k1; rintro e w1 ⟨rfl, hb, k0, k1⟩
 clear c00 c01 c02 c03
 have c00 := ch k0 0
 have c01 := ch k0 1
 have c02 := ch k0 2
 have c03 := ch k0 3
 simp at c00 c01 c02 c03
 go_wp2_with (fail)
 refine (go2 (rbad14 2 _) hb k0 k1).mono ?_; clear hb k0 k1; rintro e w2 ⟨rfl, hb, k0, k1⟩
 clear c00 c01 c02 c03
 have c00 := ch k0 0
 have c01 := ch k0 1
 have c02 := ch k0 2
 have c03 := ch k0 3
 simp at c00 c01 c02 c03
 obtain ⟨z0, z1, z2⟩ := val_cells k1
 obtain ⟨f0, f1, f2⟩ := val_frozen k1
 clear k0 k1
 go_wp2
 exact bodyPost_ret (v := .agg #[.int .i64 4, .int .i64 2, .string ⟨#[]⟩]) (by simp [results, Tryz.results85, go_sem, z0, z1, z2]) rfl ⟨rfl, set3 hb (by omega)⟩
theorem rn12_x (an : Option Addr) (m cn : Nat) (tsv bsv vsv : Value) (x y : Int) (w : World) (HX : Hid (∀ v, Below w.heap.size w v → Ret 151 #[.agg #[.slice an m cn, tsv, bsv, vsv], .int .i64 0, .int .i64 0] v (.int .i64 x))) (HY : Hid (∀ v, Below w.heap.size w v → Ret 151 #[.agg #[.slice an m cn, tsv, bsv, vsv], .int .i64 1, .int .i64 0] v (.int .i64 y))) (t : decide (x < 0) = true) : Ret 85 #[.int .i64 12, .agg #[.slice an m cn, tsv, bsv, vsv]] w (.agg #[.int .i64 4, .int .i64 2, .string ⟨#[]⟩]) := by
 obtain ⟨hb, k0, k1⟩ := box2 w #[.slice an m cn, tsv, bsv, vsv] 100 #[.int .i64 0, .int .i64 0, .string ⟨#[]⟩] 26
 go_enter Tryz.func85, Tryz.ntmps85
 go_wp2_with (fail)
 generalize ((w.alloc (Obj.cells #[.slice an m cn, tsv, bsv, vsv] 100)).alloc (Obj.cells #[.int .i64 0, .int .i64 0, .string ⟨#[]⟩] 26)) = W0 at *
 refine (go2 (HX.out _ hb) hb k0 k1).mono ?_; clear hb k0 k1; rintro e w0 ⟨rfl, hb, k0, k1⟩
 have c00 := ch k0 0
 have c01 := ch k0 1
 have c02 := ch k0 2
 have c03 := ch k0 3
 simp at c00 c01 c02 c03
 go_wp2_with (fail)
 refine (go2 (HY.out _ hb) hb k0 k1).mono ?_; clear hb k0 k1; rintro e w1 ⟨rfl, hb, k0, k1⟩
 clear c00 c01 c02 c03
 have c00 := ch k0 0
 have c01 := ch k0 1
 have c02 := ch k0 2
 have c03 := ch k0 3
 simp at c00 c01 c02 c03
 go_wp2_with (fail)
 refine (go2 (rbad14 2 _) hb k0 k1).mono ?_; clear hb k0 k1; rintro e w2 ⟨rfl, hb, k0, k1⟩
 clear c00 c01 c02 c03
 have c00 := ch k0 0
 have c01 := ch k0 1
 have c02 := ch k0 2
 have c03 := ch k0 3
 simp at c00 c01 c02 c03
 obtain ⟨z0, z1, z2⟩ := val_cells k1
 obtain ⟨f0, f1, f2⟩ := val_frozen k1
 clear k0 k1
 go_wp2
 exact bodyPost_ret (v := .agg #[.int .i64 4, .int .i64 2, .string ⟨#[]⟩]) (by simp [results, Tryz.results85, go_sem, z0, z1, z2]) rfl ⟨rfl, set3 hb (by omega)⟩
theorem rn12_y (an : Option Addr) (m cn : Nat) (tsv bsv vsv : Value) (x y : Int) (w : World) (HX : Hid (∀ v, Below w.heap.size w v → Ret 151 #[.agg #[.slice an m cn, tsv, bsv, vsv], .int .i64 0, .int .i64 0] v (.int .i64 x))) (HY : Hid (∀ v, Below w.heap.size w v → Ret 151 #[.agg #[.slice an m cn, tsv, bsv, vsv], .int .i64 1, .int .i64 0] v (.int .i64 y))) (t : decide (x < 0) = false) (t2 : decide (y < 0) = true) : Ret 85 #[.int .i64 12, .agg #[.slice an m cn, tsv, bsv, vsv]] w (.agg #[.int .i64 4, .int .i64 2, .string ⟨#[]⟩]) := by
 obtain ⟨hb, k0, k1⟩ := box2 w #[.slice an m cn, tsv, bsv, vsv] 100 #[.int .i64 0, .int .i64 0, .string ⟨#[]⟩] 26
 go_enter Tryz.func85, Tryz.ntmps85
 go_wp2_with (fail)
 generalize ((w.alloc (Obj.cells #[.slice an m cn, tsv, bsv, vsv] 100)).alloc (Obj.cells #[.int .i64 0, .int .i64 0, .string ⟨#[]⟩] 26)) = W0 at *
 refine (go2 (HX.out _ hb) hb k0 k1).mono ?_; clear hb k0 k1; rintro e w0 ⟨rfl, hb, k0, k1⟩
 have c00 := ch k0 0
 have c01 := ch k0 1
 have c02 := ch k0 2
 have c03 := ch k0 3
 simp at c00 c01 c02 c03
 go_wp2_with (fail)
 refine (go2 (HY.out _ hb) hb k0 k1).mono ?_; clear hb k0 k1; rintro e w1 ⟨rfl, hb, k0, k1⟩
 clear c00 c01 c02 c03
 have c00 := ch k0 0
 have c01 := ch k0 1
 have c02 := ch k0 2
 have c03 := ch k0 3
 simp at c00 c01 c02 c03
 go_wp2_with (fail)
 refine (go2 (rbad14 2 _) hb k0 k1).mono ?_; clear hb k0 k1; rintro e w2 ⟨rfl, hb, k0, k1⟩
 clear c00 c01 c02 c03
 have c00 := ch k0 0
 have c01 := ch k0 1
 have c02 := ch k0 2
 have c03 := ch k0 3
 simp at c00 c01 c02 c03
 obtain ⟨z0, z1, z2⟩ := val_cells k1
 obtain ⟨f0, f1, f2⟩ := val_frozen k1
 clear k0 k1
 go_wp2
 exact bodyPost_ret (v := .agg #[.int .i64 4, .int .i64 2, .string ⟨#[]⟩]) (by simp [results, Tryz.results85, go_sem, z0, z1, z2]) rfl ⟨rfl, set3 hb (by omega)⟩
theorem rn13_x (an : Option Addr) (m cn : Nat) (tsv bsv vsv : Value) (x y : Int) (w : World) (HX : Hid (∀ v, Below w.heap.size w v → Ret 151 #[.agg #[.slice an m cn, tsv, bsv, vsv], .int .i64 0, .int .i64 0] v (.int .i64 x))) (HY : Hid (∀ v, Below w.heap.size w v → Ret 151 #[.agg #[.slice an m cn, tsv, bsv, vsv], .int .i64 1, .int .i64 0] v (.int .i64 y))) (t : decide (x < 0) = true) : Ret 85 #[.int .i64 13, .agg #[.slice an m cn, tsv, bsv, vsv]] w (.agg #[.int .i64 4, .int .i64 2, .string ⟨#[]⟩]) := by
 obtain ⟨hb, k0, k1⟩ := box2 w #[.slice an m cn, tsv, bsv, vsv] 100 #[.int .i64 0, .int .i64 0, .string ⟨#[]⟩] 26
 go_enter Tryz.func85, Tryz.ntmps85
 go_wp2_with (fail)
 generalize ((w.alloc (Obj.cells #[.slice an m cn, tsv, bsv, vsv] 100)).alloc (Obj.cells #[.int .i64 0, .int .i64 0, .string ⟨#[]⟩] 26)) = W0 at *
 refine (go2 (HX.out _ hb) hb k0 k1).mono ?_; clear hb k0 k1; rintro e w0 ⟨rfl, hb, k0, k1⟩
 have c00 := ch k0 0
 have c01 := ch k0 1
 have c02 := ch k0 2
 have c03 := ch k0 3
 simp at c00 c01 c02 c03
 go_wp2_with (fail)
 refine (go2 (HY.out _ hb) hb k0 k1).mono ?_; clear hb k0 k1; rintro e w1 ⟨rfl, hb, k0, k1⟩
 clear c00 c01 c02 c03
 have c00 := ch k0 0
 have c01 := ch k0 1
 have c02 := ch k0 2
 have c03 := ch k0 3
 simp at c00 c01 c02 c03
 go_wp2_with (fail)
 refine (go2 (rbad14 2 _) hb k0 k1).mono ?_; clear hb k0 k1; rintro e w2 ⟨rfl, hb, k0, k1⟩
 clear c00 c01 c02 c03
 have c00 := ch k0 0
 have c01 := ch k0 1
 have c02 := ch k0 2
 have c03 := ch k0 3
 simp at c00 c01 c02 c03
 obtain ⟨z0, z1, z2⟩ := val_cells k1
 obtain ⟨f0, f1, f2⟩ := val_frozen k1
 clear k0 k1
 go_wp2
 exact bodyPost_ret (v := .agg #[.int .i64 4, .int .i64 2, .string ⟨#[]⟩]) (by simp [results, Tryz.results85, go_sem, z0, z1, z2]) rfl ⟨rfl, set3 hb (by omega)⟩
theorem rn13_y (an : Option Addr) (m cn : Nat) (tsv bsv vsv : Value) (x y : Int) (w : World) (HX : Hid (∀ v, Below w.heap.size w v → Ret 151 #[.agg #[.slice an m cn, tsv, bsv, vsv], .int .i64 0, .int .i64 0] v (.int .i64 x))) (HY : Hid (∀ v, Below w.heap.size w v → Ret 151 #[.agg #[.slice an m cn, tsv, bsv, vsv], .int .i64 1, .int .i64 0] v (.int .i64 y))) (t : decide (x < 0) = false) (t2 : decide (y < 0) = true) : Ret 85 #[.int .i64 13, .agg #[.slice an m cn, tsv, bsv, vsv]] w (.agg #[.int .i64 4, .int .i64 2, .string ⟨#[]⟩]) := by
 obtain ⟨hb, k0, k1⟩ := box2 w #[.slice an m cn, tsv, bsv, vsv] 100 #[.int .i64 0, .int .i64 0, .string ⟨#[]⟩] 26
 go_enter Tryz.func85, Tryz.ntmps85
 go_wp2_with (fail)
 generalize ((w.alloc (Obj.cells #[.slice an m cn, tsv, bsv, vsv] 100)).alloc (Obj.cells #[.int .i64 0, .int .i64 0, .string ⟨#[]⟩] 26)) = W0 at *
 refine (go2 (HX.out _ hb) hb k0 k1).mono ?_; clear hb k0 k1; rintro e w0 ⟨rfl, hb, k0, k1⟩
 have c00 := ch k0 0
 have c01 := ch k0 1
 have c02 := ch k0 2
 have c03 := ch k0 3
 simp at c00 c01 c02 c03
 go_wp2_with (fail)
 refine (go2 (HY.out _ hb) hb k0 k1).mono ?_; clear hb k0 k1; rintro e w1 ⟨rfl, hb, k0, k1⟩
 clear c00 c01 c02 c03
 have c00 := ch k0 0
 have c01 := ch k0 1
 have c02 := ch k0 2
 have c03 := ch k0 3
 simp at c00 c01 c02 c03
 go_wp2_with (fail)
 refine (go2 (rbad14 2 _) hb k0 k1).mono ?_; clear hb k0 k1; rintro e w2 ⟨rfl, hb, k0, k1⟩
 clear c00 c01 c02 c03
 have c00 := ch k0 0
 have c01 := ch k0 1
 have c02 := ch k0 2
 have c03 := ch k0 3
 simp at c00 c01 c02 c03
 obtain ⟨z0, z1, z2⟩ := val_cells k1
 obtain ⟨f0, f1, f2⟩ := val_frozen k1
 clear k0 k1
 go_wp2
 exact bodyPost_ret (v := .agg #[.int .i64 4, .int .i64 2, .string ⟨#[]⟩]) (by simp [results, Tryz.results85, go_sem, z0, z1, z2]) rfl ⟨rfl, set3 hb (by omega)⟩
theorem rn11 (an : Option Addr) (m cn : Nat) (tsv bsv vsv : Value) (x y : Int) (r : Int) (w : World) (HX : Hid (∀ v, Below w.heap.size w v → Ret 151 #[.agg #[.slice an m cn, tsv, bsv, vsv], .int .i64 0, .int .i64 0] v (.int .i64 x))) (HY : Hid (∀ v, Below w.heap.size w v → Ret 151 #[.agg #[.slice an m cn, tsv, bsv, vsv], .int .i64 1, .int .i64 0] v (.int .i64 y))) (t : decide (x < 0) = false) (t2 : decide (y < 0) = false) (e1 : Cal.bitV 0 x y = r) : Ret 85 #[.int .i64 11, .agg #[.slice an m cn, tsv, bsv, vsv]] w (.agg #[.int .i64 1, .int .i64 r, .string ⟨#[]⟩]) := by
 replace e1 : bits .and .i64 x y = r := e1
 obtain ⟨hb, k0, k1⟩ := box2 w #[.slice an m cn, tsv, bsv, vsv] 100 #[.int .i64 0, .int .i64 0, .string ⟨#[]⟩] 26
 go_enter Tryz.func85, Tryz.ntmps85
 go_wp2_with (fail)
 generalize ((w.alloc (Obj.cells #[.slice an m cn, tsv, bsv, vsv] 100)).alloc (Obj.cells #[.int .i64 0, .int .i64 0, .string ⟨#[]⟩] 26)) = W0 at *
 refine (go2 (HX.out _ hb) hb k0 k1).mono ?_; clear hb k0 k1; rintro e w0 ⟨rfl, hb, k0, k1⟩
 have c00 := ch k0 0
 have c01 := ch k0 1
 have c02 := ch k0 2
 have c03 := ch k0 3
 simp at c00 c01 c02 c03
 go_wp2_with (fail)
 refine (go2 (HY.out _ hb) hb k0 k1).mono ?_; clear hb k0 k1; rintro e w1 ⟨rfl, hb, k0, k1⟩
 clear c00 c01 c02 c03
 have c00 := ch k0 0
 have c01 := ch k0 1
 have c02 := ch k0 2
 have c03 := ch k0 3
 simp at c00 c01 c02 c03
 go_wp2_with (fail)
 refine (go2 (rnum14 r _) hb k0 k1).mono ?_; clear hb k0 k1; rintro e w2 ⟨rfl, hb, k0, k1⟩
 clear c00 c01 c02 c03
 have c00 := ch k0 0
 have c01 := ch k0 1
 have c02 := ch k0 2
 have c03 := ch k0 3
 simp at c00 c01 c02 c03
 obtain ⟨z0, z1, z2⟩ := val_cells k1
 obtain ⟨f0, f1, f2⟩ := val_frozen k1
 clear k0 k1
 go_wp2
 exact bodyPost_ret (v := .agg #[.int .i64 1, .int .i64 r, .string ⟨#[]⟩]) (by simp [results, Tryz.results85, go_sem, z0, z1, z2]) rfl ⟨rfl, set3 hb (by omega)⟩
theorem rn12 (an : Option Addr) (m cn : Nat) (tsv bsv vsv : Value) (x y : Int) (r : Int) (w : World) (HX : Hid (∀ v, Below w.heap.size w v → Ret 151 #[.agg #[.slice an m cn, tsv, bsv, vsv], .int .i64 0, .int .i64 0] v (.int .i64 x))) (HY : Hid (∀ v, Below w.heap.size w v → Ret 151 #[.agg #[.slice an m cn, tsv, bsv, vsv], .int .i64 1, .int .i64 0] v (.int .i64 y))) (t : decide (x < 0) = false) (t2 : decide (y < 0) = false) (e1 : Cal.bitV 1 x y = r) : Ret 85 #[.int .i64 12, .agg #[.slice an m cn, tsv, bsv, vsv]] w (.agg #[.int .i64 1, .int .i64 r, .string ⟨#[]⟩]) := by
 replace e1 : bits .or .i64 x y = r := e1
 obtain ⟨hb, k0, k1⟩ := box2 w #[.slice an m cn, tsv, bsv, vsv] 100 #[.int .i64 0, .int .i64 0, .string ⟨#[]⟩] 26
 go_enter Tryz.func85, Tryz.ntmps85
 go_wp2_with (fail)
 generalize ((w.alloc (Obj.cells #[.slice an m cn, tsv, bsv, vsv] 100)).alloc (Obj.cells #[.int .i64 0, .int .i64 0, .string ⟨#[]⟩] 26)) = W0 at *
 refine (go2 (HX.out _ hb) hb k0 k1).mono ?_; clear hb k0 k1; rintro e w0 ⟨rfl, hb, k0, k1⟩
 have c00 := ch k0 0
 have c01 := ch k0 1
 have c02 := ch k0 2
 have c03 := ch k0 3
 simp at c00 c01 c02 c03
 go_wp2_with (fail)
 refine (go2 (HY.out _ hb) hb k0 k1).mono ?_; clear hb k0 k1; rintro e w1 ⟨rfl, hb, k0, k1⟩
 clear c00 c01 c02 c03
 have c00 := ch k0 0
 have c01 := ch k0 1
 have c02 := ch k0 2
 have c03 := ch k0 3
 simp at c00 c01 c02 c03
 go_wp2_with (fail)
 refine (go2 (rnum14 r _) hb k0 k1).mono ?_; clear hb k0 k1; rintro e w2 ⟨rfl, hb, k0, k1⟩
 clear c00 c01 c02 c03
 have c00 := ch k0 0
 have c01 := ch k0 1
 have c02 := ch k0 2
 have c03 := ch k0 3
 simp at c00 c01 c02 c03
 obtain ⟨z0, z1, z2⟩ := val_cells k1
 obtain ⟨f0, f1, f2⟩ := val_frozen k1
 clear k0 k1
 go_wp2
 exact bodyPost_ret (v := .agg #[.int .i64 1, .int .i64 r, .string ⟨#[]⟩]) (by simp [results, Tryz.results85, go_sem, z0, z1, z2]) rfl ⟨rfl, set3 hb (by omega)⟩
theorem rn13 (an : Option Addr) (m cn : Nat) (tsv bsv vsv : Value) (x y : Int) (r : Int) (w : World) (HX : Hid (∀ v, Below w.heap.size w v → Ret 151 #[.agg #[.slice an m cn, tsv, bsv, vsv], .int .i64 0, .int .i64 0] v (.int .i64 x))) (HY : Hid (∀ v, Below w.heap.size w v → Ret 151 #[.agg #[.slice an m cn, tsv, bsv, vsv], .int .i64 1, .int .i64 0] v (.int .i64 y))) (t : decide (x < 0) = false) (t2 : decide (y < 0) = false) (e1 : Cal.bitV 2 x y = r) : Ret 85 #[.int .i64 13, .agg #[.slice an m cn, tsv, bsv, vsv]] w (.agg #[.int .i64 1, .int .i64 r, .string ⟨#[]⟩]) := by
 replace e1 : bits .xor .i64 x y = r := e1
 obtain ⟨hb, k0, k1⟩ := box2 w #[.slice an m cn, tsv, bsv, vsv] 100 #[.int .i64 0, .int .i64 0, .string ⟨#[]⟩] 26
 go_enter Tryz.func85, Tryz.ntmps85
 go_wp2_with (fail)
 generalize ((w.alloc (Obj.cells #[.slice an m cn, tsv, bsv, vsv] 100)).alloc (Obj.cells #[.int .i64 0, .int .i64 0, .string ⟨#[]⟩] 26)) = W0 at *
 refine (go2 (HX.out _ hb) hb k0 k1).mono ?_; clear hb k0 k1; rintro e w0 ⟨rfl, hb, k0, k1⟩
 have c00 := ch k0 0
 have c01 := ch k0 1
 have c02 := ch k0 2
 have c03 := ch k0 3
 simp at c00 c01 c02 c03
 go_wp2_with (fail)
 refine (go2 (HY.out _ hb) hb k0 k1).mono ?_; clear hb k0 k1; rintro e w1 ⟨rfl, hb, k0, k1⟩
 clear c00 c01 c02 c03
 have c00 := ch k0 0
 have c01 := ch k0 1
 have c02 := ch k0 2
 have c03 := ch k0 3
 simp at c00 c01 c02 c03
 go_wp2_with (fail)
 refine (go2 (rnum14 r _) hb k0 k1).mono ?_; clear hb k0 k1; rintro e w2 ⟨rfl, hb, k0, k1⟩
 clear c00 c01 c02 c03
 have c00 := ch k0 0
 have c01 := ch k0 1
 have c02 := ch k0 2
 have c03 := ch k0 3
 simp at c00 c01 c02 c03
 obtain ⟨z0, z1, z2⟩ := val_cells k1
 obtain ⟨f0, f1, f2⟩ := val_frozen k1
 clear k0 k1
 go_wp2
 exact bodyPost_ret (v := .agg #[.int .i64 1, .int .i64 r, .string ⟨#[]⟩]) (by simp [results, Tryz.results85, go_sem, z0, z1, z2]) rfl ⟨rfl, set3 hb (by omega)⟩
theorem rn15_b (g m cn : Nat) (tsv bsv vsv : Value) (x y h : Int) (w : World) (HX : Hid (∀ v, Below w.heap.size w v → Ret 151 #[.agg #[.slice (some ⟨g, 0, none⟩) m cn, tsv, bsv, vsv], .int .i64 0, .int .i64 0] v (.int .i64 x))) (HY : Hid (∀ v, Below w.heap.size w v → Ret 151 #[.agg #[.slice (some ⟨g, 0, none⟩) m cn, tsv, bsv, vsv], .int .i64 1, .int .i64 0] v (.int .i64 y))) (hm : 2 < m) (hm2 : m ≤ 100) (hg : g < w.heap.size) (hc : Hid (w.cell? ⟨g, 2, none⟩ = some (.int .i64 h))) (t : decide (h < y) = true) : Ret 85 #[.int .i64 15, .agg #[.slice (some ⟨g, 0, none⟩) m cn, tsv, bsv, vsv]] w (.agg #[.int .i64 4, .int .i64 2, .string ⟨#[]⟩]) := by
 obtain ⟨hb, k0, k1⟩ := box2 w #[.slice (some ⟨g, 0, none⟩) m cn, tsv, bsv, vsv] 100 #[.int .i64 0, .int .i64 0, .string ⟨#[]⟩] 26
 have hc' := (hb.cell (p := ⟨g, 2, none⟩) hg).trans hc.out
 go_enter Tryz.func85, Tryz.ntmps85
 go_wp2_with (fail)
 generalize ((w.alloc (Obj.cells #[.slice (some ⟨g, 0, none⟩) m cn, tsv, bsv, vsv] 100)).alloc (Obj.cells #[.int .i64 0, .int .i64 0, .string ⟨#[]⟩] 26)) = W0 at *
 refine (go2 (HX.out _ hb) hb k0 k1).mono ?_; clear hb k0 k1; rintro e w0 ⟨rfl, hb, k0, k1⟩
 have c00 := ch k0 0
 have c01 := ch k0 1
 have c02 := ch k0 2
 have c03 := ch k0 3
 simp at c00 c01 c02 c03
 clear hc'
 have hc' := (hb.cell (p := ⟨g, 2, none⟩) hg).trans hc.out
 go_wp2_with (fail)
 refine (go2 (HY.out _ hb) hb k0 k1).mono ?_; clear hb k0 k1; rintro e w1 ⟨rfl, hb, k0, k1⟩
 clear c00 c01 c02 c03
 have c00 := ch k0 0
 have c01 := ch k0 1
 have c02 := ch k0 2
 have c03 := ch k0 3
 simp at c00 c01 c02 c03
 clear hc'
 have hc' := (hb.cell (p := ⟨g, 2, none⟩) hg).trans hc.out
 go_wp2_with (fail)
 refine (go2 (rbad14 2 _) hb k0 k1).mono ?_; clear hb k0 k1; rintro e w2 ⟨rfl, hb, k0, k1⟩
 clear c00 c01 c02 c03
 have c00 := ch k0 0
 have c01 := ch k0 1
 have c02 := ch k0 2
 have c03 := ch k0 3
 simp at c00 c01 c02 c03
 clear hc'
 have hc' := (hb.cell (p := ⟨g, 2, none⟩) hg).trans hc.out
 obtain ⟨z0, z1, z2⟩ := val_cells k1
 obtain ⟨f0, f1, f2⟩ := val_frozen k1
 clear k0 k1
 go_wp2
 exact bodyPost_ret (v := .agg #[.int .i64 4, .int .i64 2, .string ⟨#[]⟩]) (by simp [results, Tryz.results85, go_sem, z0, z1, z2]) rfl ⟨rfl, set3 hb (by omega)⟩
theorem rn15 (g m cn : Nat) (tsv bsv vsv : Value) (x y h : Int) (p q : Int) (w : World) (HX : Hid (∀ v, Below w.heap.size w v → Ret 151 #[.agg #[.slice (some ⟨g, 0, none⟩) m cn, tsv, bsv, vsv], .int .i64 0, .int .i64 0] v (.int .i64 x))) (HY : Hid (∀ v, Below w.heap.size w v → Ret 151 #[.agg #[.slice (some ⟨g, 0, none⟩) m cn, tsv, bsv, vsv], .int .i64 1, .int .i64 0] v (.int .i64 y))) (hm : 2 < m) (hm2 : m ≤ 100) (hg : g < w.heap.size) (hc : Hid (w.cell? ⟨g, 2, none⟩ = some (.int .i64 h))) (t : decide (h < y) = false) (e0 : max x y = p) (e1 : min p h = q) : Ret 85 #[.int .i64 15, .agg #[.slice (some ⟨g, 0, none⟩) m cn, tsv, bsv, vsv]] w (.agg #[.int .i64 1, .int .i64 q, .string ⟨#[]⟩]) := by
 obtain ⟨hb, k0, k1⟩ := box2 w #[.slice (some ⟨g, 0, none⟩) m cn, tsv, bsv, vsv] 100 #[.int .i64 0, .int .i64 0, .string ⟨#[]⟩] 26
 have hc' := (hb.cell (p := ⟨g, 2, none⟩) hg).trans hc.out
 go_enter Tryz.func85, Tryz.ntmps85
 go_wp2_with (fail)
 generalize ((w.alloc (Obj.cells #[.slice (some ⟨g, 0, none⟩) m cn, tsv, bsv, vsv] 100)).alloc (Obj.cells #[.int .i64 0, .int .i64 0, .string ⟨#[]⟩] 26)) = W0 at *
 refine (go2 (HX.out _ hb) hb k0 k1).mono ?_; clear hb k0 k1; rintro e w0 ⟨rfl, hb, k0, k1⟩
 have c00 := ch k0 0
 have c01 := ch k0 1
 have c02 := ch k0 2
 have c03 := ch k0 3
 simp at c00 c01 c02 c03
 clear hc'
 have hc' := (hb.cell (p := ⟨g, 2, none⟩) hg).trans hc.out
 go_wp2_with (fail)
 refine (go2 (HY.out _ hb) hb k0 k1).mono ?_; clear hb k0 k1; rintro e w1 ⟨rfl, hb, k0, k1⟩
 clear c00 c01 c02 c03
 have c00 := ch k0 0
 have c01 := ch k0 1
 have c02 := ch k0 2
 have c03 := ch k0 3
 simp at c00 c01 c02 c03
 clear hc'
 have hc' := (hb.cell (p := ⟨g, 2, none⟩) hg).trans hc.out
 go_wp2_with (fail)
 refine (go2 (rnum14 q _) hb k0 k1).mono ?_; clear hb k0 k1; rintro e w2 ⟨rfl, hb, k0, k1⟩
 clear c00 c01 c02 c03
 have c00 := ch k0 0
 have c01 := ch k0 1
 have c02 := ch k0 2
 have c03 := ch k0 3
 simp at c00 c01 c02 c03
 clear hc'
 have hc' := (hb.cell (p := ⟨g, 2, none⟩) hg).trans hc.out
 obtain ⟨z0, z1, z2⟩ := val_cells k1
 obtain ⟨f0, f1, f2⟩ := val_frozen k1
 clear k0 k1
 go_wp2
 exact bodyPost_ret (v := .agg #[.int .i64 1, .int .i64 q, .string ⟨#[]⟩]) (by simp [results, Tryz.results85, go_sem, z0, z1, z2]) rfl ⟨rfl, set3 hb (by omega)⟩
set_option maxHeartbeats 1000000 in
theorem rn8 (an : Option Addr) (m cn : Nat) (tsv bsv vsv : Value) (y : Int) (n : Nat) (rk rn : Int) (rt : ByteArray) (w : World) (HX : Hid (∀ v, Below w.heap.size w v → Ret 151 #[.agg #[.slice an m cn, tsv, bsv, vsv], .int .i64 0, .int .i64 0] v (.int .i64 (n : Int)))) (HY : Hid (∀ v, Below w.heap.size w v → Ret 151 #[.agg #[.slice an m cn, tsv, bsv, vsv], .int .i64 1, .int .i64 0] v (.int .i64 y))) (t : decide ((n : Int) < 0) = false) (hn : n ≤ 20) (t2 : decide ((20 : Int) < (n : Int)) = false) (HR : Hid (∀ (z : Int) (hz : z = Cal.fct n) (w : World), Ret 55 #[.int .i64 z] w (.agg #[.int .i64 rk, .int .i64 rn, .string rt]))) : Ret 85 #[.int .i64 8, .agg #[.slice an m cn, tsv, bsv, vsv]] w (.agg #[.int .i64 rk, .int .i64 rn, .string rt]) := by
 obtain ⟨hb, k0, k1⟩ := box2 w #[.slice an m cn, tsv, bsv, vsv] 100 #[.int .i64 0, .int .i64 0, .string ⟨#[]⟩] 26
 go_enter Tryz.func85, Tryz.ntmps85
 go_wp2_with (fail)
 generalize ((w.alloc (Obj.cells #[.slice an m cn, tsv, bsv, vsv] 100)).alloc (Obj.cells #[.int .i64 0, .int .i64 0, .string ⟨#[]⟩] 26)) = W0 at *
 refine (go2 (HX.out _ hb) hb k0 k1).mono ?_; clear hb k0 k1; rintro e w0 ⟨rfl, hb, k0, k1⟩
 have c00 := ch k0 0
 have c01 := ch k0 1
 have c02 := ch k0 2
 have c03 := ch k0 3
 simp at c00 c01 c02 c03
 go_wp2_with (fail)
 refine (go2 (HY.out _ hb) hb k0 k1).mono ?_; clear hb k0 k1; rintro e w1 ⟨rfl, hb, k0, k1⟩
 clear c00 c01 c02 c03
 have c00 := ch k0 0
 have c01 := ch k0 1
 have c02 := ch k0 2
 have c03 := ch k0 3
 simp at c00 c01 c02 c03
 go_wp2_with (fail)
 go_loopw [7, 8] (fun p i wr => wr = w1 ∧ ∃ k : Nat, 1 ≤ k ∧ (k ≤ n ∨ k = 1) ∧ p = .int .i64 (Cal.fct k) ∧ i = .int .i64 ((k : Int) + 1)) (fun p i _ => n + 1 - (intOf i).toNat)
 case atStart => exact ⟨rfl, 1, Nat.le_refl _, .inr rfl, rfl, rfl⟩
 case round =>
 obtain ⟨rfl, k, hk1, hk, rfl, rfl⟩ := hrel
 by_cases hlt : k < n
 ·have hm : IntKind.i64.wrap (Cal.fct k * ((k : Int) + 1)) = Cal.fct (k + 1) := by
   have := Cal.fct_fits (k + 1) (by omega)
   rw [show Cal.fct k * ((k : Int) + 1) = Cal.fct (k + 1) by rw [Int.mul_comm]; rfl, IntKind.wrap_i64]
   omega
  have hi : IntKind.i64.wrap ((k : Int) + 1 + 1) = ((k + 1 : Nat) : Int) + 1 := by rw [IntKind.wrap_i64]; omega
  have hc : decide ((k : Int) + 1 ≤ (n : Int)) = true := by simp; omega
  go_wp2_with (fail)
  go_roundw
  case rel => exact ⟨by first | trivial | rfl, k + 1, by omega, .inl (by omega), by first | rfl | (rw [hm]), by first | rfl | go_num⟩
  case measure => simp [intOf]; omega
 have hc : decide ((k : Int) + 1 ≤ (n : Int)) = false := by simp; omega
 have he : Cal.fct k = Cal.fct n := by
  rcases Nat.eq_zero_or_pos n with rfl | h
  ·obtain rfl : k = 1 := by omega
   rfl
  ·obtain rfl : k = n := by omega
   rfl
 go_wp2_with (fail)
 refine (go2 (HR.out _ rfl _) hb k0 k1).mono ?_; clear hb k0 k1; rintro e w2 ⟨rfl, hb, k0, k1⟩
 clear c00 c01 c02 c03
 have c00 := ch k0 0
 have c01 := ch k0 1
 have c02 := ch k0 2
 have c03 := ch k0 3
 simp at c00 c01 c02 c03
 obtain ⟨z0, z1, z2⟩ := val_cells k1
 obtain ⟨f0, f1, f2⟩ := val_frozen k1
 clear k0 k1
 go_wp2
 exact bodyPost_ret (v := .agg #[.int .i64 rk, .int .i64 rn, .string rt]) (by simp [results, Tryz.results85, go_sem, z0, z1, z2]) rfl ⟨rfl, set3 hb (by omega)⟩
end Go.Proofs.YtpiiemneelkpkaaGreatDoor
