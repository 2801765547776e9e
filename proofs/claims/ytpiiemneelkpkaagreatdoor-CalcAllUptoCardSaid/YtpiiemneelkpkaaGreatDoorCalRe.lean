import Derived.Test.YtpiiemneelkpkaaGreatDoorCalRc
import Derived.Test.YtpiiemneelkpkaaGreatDoorRegV
set_option maxRecDepth 100000
namespace Go.Proofs.YtpiiemneelkpkaaGreatDoor
open Go.RowKit
set_option linter.unusedVariables false
set_option linter.unusedSimpArgs false
theorem rt16 (gn gt m cn ct : Nat) (bsv vsv : Value) (s : ByteArray) (u : Int) (w : World) (hm2 : m ≤ 100) (hgn : gn < w.heap.size) (hgt : gt < w.heap.size) (hm : 0 < m) (ht0 : Hid (w.cell? ⟨gt, 0, none⟩ = some (.string s))) (HF : Hid (∀ v, Below w.heap.size w v → Ret 155 #[.string s] v (.int .i64 u))) : Ret 86 #[.int .i64 16, .agg #[.slice (some ⟨gn, 0, none⟩) m cn, .slice (some ⟨gt, 0, none⟩) m ct, bsv, vsv]] w (.agg #[.int .i64 1, .int .i64 u, .string ⟨#[]⟩]) := by
 obtain ⟨hb, k0, k1⟩ := box2 w #[.slice (some ⟨gn, 0, none⟩) m cn, .slice (some ⟨gt, 0, none⟩) m ct, bsv, vsv] 100 #[.int .i64 0, .int .i64 0, .string ⟨#[]⟩] 26
 have ht0' := (hb.cell (p := ⟨gt, 0, none⟩) hgt).trans ht0.out
 go_enter Tryz.func86, Tryz.ntmps86
 go_wp2_with (fail)
 generalize ((w.alloc (Obj.cells #[.slice (some ⟨gn, 0, none⟩) m cn, .slice (some ⟨gt, 0, none⟩) m ct, bsv, vsv] 100)).alloc (Obj.cells #[.int .i64 0, .int .i64 0, .string ⟨#[]⟩] 26)) = W0 at *
 refine (go2 (HF.out _ hb) hb k0 k1).mono ?_; clear hb k0 k1; rintro e w0 ⟨rfl, hb, k0, k1⟩
 have c00 := ch k0 0
 have c01 := ch k0 1
 have c02 := ch k0 2
 have c03 := ch k0 3
 simp at c00 c01 c02 c03
 clear ht0'
 have ht0' := (hb.cell (p := ⟨gt, 0, none⟩) hgt).trans ht0.out
 go_wp2_with (fail)
 refine (go2 (rnum14 u _) hb k0 k1).mono ?_; clear hb k0 k1; rintro e w1 ⟨rfl, hb, k0, k1⟩
 clear c00 c01 c02 c03
 have c00 := ch k0 0
 have c01 := ch k0 1
 have c02 := ch k0 2
 have c03 := ch k0 3
 simp at c00 c01 c02 c03
 clear ht0'
 have ht0' := (hb.cell (p := ⟨gt, 0, none⟩) hgt).trans ht0.out
 obtain ⟨z0, z1, z2⟩ := val_cells k1
 obtain ⟨f0, f1, f2⟩ := val_frozen k1
 clear k0 k1
 go_wp2
 exact bodyPost_ret (v := .agg #[.int .i64 1, .int .i64 u, .string ⟨#[]⟩]) (by simp [results, Tryz.results86, go_sem, z0, z1, z2]) rfl ⟨rfl, set3 hb (by omega)⟩
theorem rt17 (gn gt m cn ct : Nat) (bsv vsv : Value) (s : ByteArray) (n z : Int) (u : ByteArray) (rk rn : Int) (rt : ByteArray) (w : World) (hm2 : m ≤ 100) (hgn : gn < w.heap.size) (hgt : gt < w.heap.size) (hm : 0 < m) (ht0 : Hid (w.cell? ⟨gt, 0, none⟩ = some (.string s))) (HX : Hid (∀ v, Below w.heap.size w v → Ret 151 #[.agg #[.slice (some ⟨gn, 0, none⟩) m cn, .slice (some ⟨gt, 0, none⟩) m ct, bsv, vsv], .int .i64 1, .int .i64 1] v (.int .i64 n))) (HF : Hid (∀ v, Below w.heap.size w v → Ret 156 #[.string s, .int .i64 n] v (.tuple #[.string u, .int .i64 z]))) (HT : Hid (∀ v, Below w.heap.size w v → Ret 82 #[.string u, .int .i64 z] v (.agg #[.int .i64 rk, .int .i64 rn, .string rt]))) : Ret 86 #[.int .i64 17, .agg #[.slice (some ⟨gn, 0, none⟩) m cn, .slice (some ⟨gt, 0, none⟩) m ct, bsv, vsv]] w (.agg #[.int .i64 rk, .int .i64 rn, .string rt]) := by
 obtain ⟨hb, k0, k1⟩ := box2 w #[.slice (some ⟨gn, 0, none⟩) m cn, .slice (some ⟨gt, 0, none⟩) m ct, bsv, vsv] 100 #[.int .i64 0, .int .i64 0, .string ⟨#[]⟩] 26
 have ht0' := (hb.cell (p := ⟨gt, 0, none⟩) hgt).trans ht0.out
 go_enter Tryz.func86, Tryz.ntmps86
 go_wp2_with (fail)
 generalize ((w.alloc (Obj.cells #[.slice (some ⟨gn, 0, none⟩) m cn, .slice (some ⟨gt, 0, none⟩) m ct, bsv, vsv] 100)).alloc (Obj.cells #[.int .i64 0, .int .i64 0, .string ⟨#[]⟩] 26)) = W0 at *
 refine (go2 (HX.out _ hb) hb k0 k1).mono ?_; clear hb k0 k1; rintro e w0 ⟨rfl, hb, k0, k1⟩
 have c00 := ch k0 0
 have c01 := ch k0 1
 have c02 := ch k0 2
 have c03 := ch k0 3
 simp at c00 c01 c02 c03
 clear ht0'
 have ht0' := (hb.cell (p := ⟨gt, 0, none⟩) hgt).trans ht0.out
 go_wp2_with (fail)
 refine (go2 (HF.out _ hb) hb k0 k1).mono ?_; clear hb k0 k1; rintro e w1 ⟨rfl, hb, k0, k1⟩
 clear c00 c01 c02 c03
 have c00 := ch k0 0
 have c01 := ch k0 1
 have c02 := ch k0 2
 have c03 := ch k0 3
 simp at c00 c01 c02 c03
 clear ht0'
 have ht0' := (hb.cell (p := ⟨gt, 0, none⟩) hgt).trans ht0.out
 go_wp2_with (fail)
 refine (go2 (HT.out _ hb) hb k0 k1).mono ?_; clear hb k0 k1; rintro e w2 ⟨rfl, hb, k0, k1⟩
 clear c00 c01 c02 c03
 have c00 := ch k0 0
 have c01 := ch k0 1
 have c02 := ch k0 2
 have c03 := ch k0 3
 simp at c00 c01 c02 c03
 clear ht0'
 have ht0' := (hb.cell (p := ⟨gt, 0, none⟩) hgt).trans ht0.out
 obtain ⟨z0, z1, z2⟩ := val_cells k1
 obtain ⟨f0, f1, f2⟩ := val_frozen k1
 clear k0 k1
 go_wp2
 exact bodyPost_ret (v := .agg #[.int .i64 rk, .int .i64 rn, .string rt]) (by simp [results, Tryz.results86, go_sem, z0, z1, z2]) rfl ⟨rfl, set3 hb (by omega)⟩
theorem rt18 (gn gt m cn ct : Nat) (bsv vsv : Value) (s : ByteArray) (n z : Int) (u : ByteArray) (rk rn : Int) (rt : ByteArray) (w : World) (hm2 : m ≤ 100) (hgn : gn < w.heap.size) (hgt : gt < w.heap.size) (hm : 0 < m) (ht0 : Hid (w.cell? ⟨gt, 0, none⟩ = some (.string s))) (HX : Hid (∀ v, Below w.heap.size w v → Ret 151 #[.agg #[.slice (some ⟨gn, 0, none⟩) m cn, .slice (some ⟨gt, 0, none⟩) m ct, bsv, vsv], .int .i64 1, .int .i64 1] v (.int .i64 n))) (HF : Hid (∀ v, Below w.heap.size w v → Ret 157 #[.string s, .int .i64 n] v (.tuple #[.string u, .int .i64 z]))) (HT : Hid (∀ v, Below w.heap.size w v → Ret 82 #[.string u, .int .i64 z] v (.agg #[.int .i64 rk, .int .i64 rn, .string rt]))) : Ret 86 #[.int .i64 18, .agg #[.slice (some ⟨gn, 0, none⟩) m cn, .slice (some ⟨gt, 0, none⟩) m ct, bsv, vsv]] w (.agg #[.int .i64 rk, .int .i64 rn, .string rt]) := by
 obtain ⟨hb, k0, k1⟩ := box2 w #[.slice (some ⟨gn, 0, none⟩) m cn, .slice (some ⟨gt, 0, none⟩) m ct, bsv, vsv] 100 #[.int .i64 0, .int .i64 0, .string ⟨#[]⟩] 26
 have ht0' := (hb.cell (p := ⟨gt, 0, none⟩) hgt).trans ht0.out
 go_enter Tryz.func86, Tryz.ntmps86
 go_wp2_with (fail)
 generalize ((w.alloc (Obj.cells #[.slice (some ⟨gn, 0, none⟩) m cn, .slice (some ⟨gt, 0, none⟩) m ct, bsv, vsv] 100)).alloc (Obj.cells #[.int .i64 0, .int .i64 0, .string ⟨#[]⟩] 26)) = W0 at *
 refine (go2 (HX.out _ hb) hb k0 k1).mono ?_; clear hb k0 k1; rintro e w0 ⟨rfl, hb, k0, k1⟩
 have c00 := ch k0 0
 have c01 := ch k0 1
 have c02 := ch k0 2
 have c03 := ch k0 3
 simp at c00 c01 c02 c03
 clear ht0'
 have ht0' := (hb.cell (p := ⟨gt, 0, none⟩) hgt).trans ht0.out
 go_wp2_with (fail)
 refine (go2 (HF.out _ hb) hb k0 k1).mono ?_; clear hb k0 k1; rintro e w1 ⟨rfl, hb, k0, k1⟩
 clear c00 c01 c02 c03
 have c00 := ch k0 0
 have c01 := ch k0 1
 have c02 := ch k0 2
 have c03 := ch k0 3
 simp at c00 c01 c02 c03
 clear ht0'
 have ht0' := (hb.cell (p := ⟨gt, 0, none⟩) hgt).trans ht0.out
 go_wp2_with (fail)
 refine (go2 (HT.out _ hb) hb k0 k1).mono ?_; clear hb k0 k1; rintro e w2 ⟨rfl, hb, k0, k1⟩
 clear c00 c01 c02 c03
 have c00 := ch k0 0
 have c01 := ch k0 1
 have c02 := ch k0 2
 have c03 := ch k0 3
 simp at c00 c01 c02 c03
 clear ht0'
 have ht0' := (hb.cell (p := ⟨gt, 0, none⟩) hgt).trans ht0.out
 obtain ⟨z0, z1, z2⟩ := val_cells k1
 obtain ⟨f0, f1, f2⟩ := val_frozen k1
 clear k0 k1
 go_wp2
 exact bodyPost_ret (v := .agg #[.int .i64 rk, .int .i64 rn, .string rt]) (by simp [results, Tryz.results86, go_sem, z0, z1, z2]) rfl ⟨rfl, set3 hb (by omega)⟩
theorem rt20 (gn gt m cn ct : Nat) (bsv vsv : Value) (s : ByteArray) (u : ByteArray) (rk rn : Int) (rt : ByteArray) (w : World) (hm2 : m ≤ 100) (hgn : gn < w.heap.size) (hgt : gt < w.heap.size) (hm : 0 < m) (ht0 : Hid (w.cell? ⟨gt, 0, none⟩ = some (.string s))) (HF : Hid (∀ v, Below w.heap.size w v → Ret 159 #[.string s] v (.string u))) (HT : Hid (∀ v, Below w.heap.size w v → Ret 58 #[.string u] v (.agg #[.int .i64 rk, .int .i64 rn, .string rt]))) : Ret 86 #[.int .i64 20, .agg #[.slice (some ⟨gn, 0, none⟩) m cn, .slice (some ⟨gt, 0, none⟩) m ct, bsv, vsv]] w (.agg #[.int .i64 rk, .int .i64 rn, .string rt]) := by
 obtain ⟨hb, k0, k1⟩ := box2 w #[.slice (some ⟨gn, 0, none⟩) m cn, .slice (some ⟨gt, 0, none⟩) m ct, bsv, vsv] 100 #[.int .i64 0, .int .i64 0, .string ⟨#[]⟩] 26
 have ht0' := (hb.cell (p := ⟨gt, 0, none⟩) hgt).trans ht0.out
 go_enter Tryz.func86, Tryz.ntmps86
 go_wp2_with (fail)
 generalize ((w.alloc (Obj.cells #[.slice (some ⟨gn, 0, none⟩) m cn, .slice (some ⟨gt, 0, none⟩) m ct, bsv, vsv] 100)).alloc (Obj.cells #[.int .i64 0, .int .i64 0, .string ⟨#[]⟩] 26)) = W0 at *
 refine (go2 (HF.out _ hb) hb k0 k1).mono ?_; clear hb k0 k1; rintro e w0 ⟨rfl, hb, k0, k1⟩
 have c00 := ch k0 0
 have c01 := ch k0 1
 have c02 := ch k0 2
 have c03 := ch k0 3
 simp at c00 c01 c02 c03
 clear ht0'
 have ht0' := (hb.cell (p := ⟨gt, 0, none⟩) hgt).trans ht0.out
 go_wp2_with (fail)
 refine (go2 (HT.out _ hb) hb k0 k1).mono ?_; clear hb k0 k1; rintro e w1 ⟨rfl, hb, k0, k1⟩
 clear c00 c01 c02 c03
 have c00 := ch k0 0
 have c01 := ch k0 1
 have c02 := ch k0 2
 have c03 := ch k0 3
 simp at c00 c01 c02 c03
 clear ht0'
 have ht0' := (hb.cell (p := ⟨gt, 0, none⟩) hgt).trans ht0.out
 obtain ⟨z0, z1, z2⟩ := val_cells k1
 obtain ⟨f0, f1, f2⟩ := val_frozen k1
 clear k0 k1
 go_wp2
 exact bodyPost_ret (v := .agg #[.int .i64 rk, .int .i64 rn, .string rt]) (by simp [results, Tryz.results86, go_sem, z0, z1, z2]) rfl ⟨rfl, set3 hb (by omega)⟩
theorem rt21 (gn gt m cn ct : Nat) (bsv vsv : Value) (s : ByteArray) (u : ByteArray) (rk rn : Int) (rt : ByteArray) (w : World) (hm2 : m ≤ 100) (hgn : gn < w.heap.size) (hgt : gt < w.heap.size) (hm : 0 < m) (ht0 : Hid (w.cell? ⟨gt, 0, none⟩ = some (.string s))) (HF : Hid (∀ v, Below w.heap.size w v → Ret 160 #[.string s] v (.string u))) (HT : Hid (∀ v, Below w.heap.size w v → Ret 58 #[.string u] v (.agg #[.int .i64 rk, .int .i64 rn, .string rt]))) : Ret 86 #[.int .i64 21, .agg #[.slice (some ⟨gn, 0, none⟩) m cn, .slice (some ⟨gt, 0, none⟩) m ct, bsv, vsv]] w (.agg #[.int .i64 rk, .int .i64 rn, .string rt]) := by
 obtain ⟨hb, k0, k1⟩ := box2 w #[.slice (some ⟨gn, 0, none⟩) m cn, .slice (some ⟨gt, 0, none⟩) m ct, bsv, vsv] 100 #[.int .i64 0, .int .i64 0, .string ⟨#[]⟩] 26
 have ht0' := (hb.cell (p := ⟨gt, 0, none⟩) hgt).trans ht0.out
 go_enter Tryz.func86, Tryz.ntmps86
 go_wp2_with (fail)
 generalize ((w.alloc (Obj.cells #[.slice (some ⟨gn, 0, none⟩) m cn, .slice (some ⟨gt, 0, none⟩) m ct, bsv, vsv] 100)).alloc (Obj.cells #[.int .i64 0, .int .i64 0, .string ⟨#[]⟩] 26)) = W0 at *
 refine (go2 (HF.out _ hb) hb k0 k1).mono ?_; clear hb k0 k1; rintro e w0 ⟨rfl, hb, k0, k1⟩
 have c00 := ch k0 0
 have c01 := ch k0 1
 have c02 := ch k0 2
 have c03 := ch k0 3
 simp at c00 c01 c02 c03
 clear ht0'
 have ht0' := (hb.cell (p := ⟨gt, 0, none⟩) hgt).trans ht0.out
 go_wp2_with (fail)
 refine (go2 (HT.out _ hb) hb k0 k1).mono ?_; clear hb k0 k1; rintro e w1 ⟨rfl, hb, k0, k1⟩
 clear c00 c01 c02 c03
 have c00 := ch k0 0
 have c01 := ch k0 1
 have c02 := ch k0 2
 have c03 := ch k0 3
 simp at c00 c01 c02 c03
 clear ht0'
 have ht0' := (hb.cell (p := ⟨gt, 0, none⟩) hgt).trans ht0.out
 obtain ⟨z0, z1, z2⟩ := val_cells k1
 obtain ⟨f0, f1, f2⟩ := val_frozen k1
 clear k0 k1
 go_wp2
 exact bodyPost_ret (v := .agg #[.int .i64 rk, .int .i64 rn, .string rt]) (by simp [results, Tryz.results86, go_sem, z0, z1, z2]) rfl ⟨rfl, set3 hb (by omega)⟩
theorem rt22 (gn gt m cn ct : Nat) (bsv vsv : Value) (s : ByteArray) (u : ByteArray) (rk rn : Int) (rt : ByteArray) (w : World) (hm2 : m ≤ 100) (hgn : gn < w.heap.size) (hgt : gt < w.heap.size) (hm : 0 < m) (ht0 : Hid (w.cell? ⟨gt, 0, none⟩ = some (.string s))) (HF : Hid (∀ v, Below w.heap.size w v → Ret 161 #[.string s] v (.string u))) (HT : Hid (∀ v, Below w.heap.size w v → Ret 58 #[.string u] v (.agg #[.int .i64 rk, .int .i64 rn, .string rt]))) : Ret 86 #[.int .i64 22, .agg #[.slice (some ⟨gn, 0, none⟩) m cn, .slice (some ⟨gt, 0, none⟩) m ct, bsv, vsv]] w (.agg #[.int .i64 rk, .int .i64 rn, .string rt]) := by
 obtain ⟨hb, k0, k1⟩ := box2 w #[.slice (some ⟨gn, 0, none⟩) m cn, .slice (some ⟨gt, 0, none⟩) m ct, bsv, vsv] 100 #[.int .i64 0, .int .i64 0, .string ⟨#[]⟩] 26
 have ht0' := (hb.cell (p := ⟨gt, 0, none⟩) hgt).trans ht0.out
 go_enter Tryz.func86, Tryz.ntmps86
 go_wp2_with (fail)
 generalize ((w.alloc (Obj.cells #[.slice (some ⟨gn, 0, none⟩) m cn, .slice (some ⟨gt, 0, none⟩) m ct, bsv, vsv] 100)).alloc (Obj.cells #[.int .i64 0, .int .i64 0, .string ⟨#[]⟩] 26)) = W0 at *
 refine (go2 (HF.out _ hb) hb k0 k1).mono ?_; clear hb k0 k1; rintro e w0 ⟨rfl, hb, k0, k1⟩
 have c00 := ch k0 0
 have c01 := ch k0 1
 have c02 := ch k0 2
 have c03 := ch k0 3
 simp at c00 c01 c02 c03
 clear ht0'
 have ht0' := (hb.cell (p := ⟨gt, 0, none⟩) hgt).trans ht0.out
 go_wp2_with (fail)
 refine (go2 (HT.out _ hb) hb k0 k1).mono ?_; clear hb k0 k1; rintro e w1 ⟨rfl, hb, k0, k1⟩
 clear c00 c01 c02 c03
 have c00 := ch k0 0
 have c01 := ch k0 1
 have c02 := ch k0 2
 have c03 := ch k0 3
 simp at c00 c01 c02 c03
 clear ht0'
 have ht0' := (hb.cell (p := ⟨gt, 0, none⟩) hgt).trans ht0.out
 obtain ⟨z0, z1, z2⟩ := val_cells k1
 obtain ⟨f0, f1, f2⟩ := val_frozen k1
 clear k0 k1
 go_wp2
 exact bodyPost_ret (v := .agg #[.int .i64 rk, .int .i64 rn, .string rt]) (by simp [results, Tryz.results86, go_sem, z0, z1, z2]) rfl ⟨rfl, set3 hb (by omega)⟩
theorem rt23 (gn gt m cn ct : Nat) (bsv vsv : Value) (s : ByteArray) (u : ByteArray) (rk rn : Int) (rt : ByteArray) (w : World) (hm2 : m ≤ 100) (hgn : gn < w.heap.size) (hgt : gt < w.heap.size) (hm : 0 < m) (ht0 : Hid (w.cell? ⟨gt, 0, none⟩ = some (.string s))) (HF : Hid (∀ v, Below w.heap.size w v → Ret 162 #[.string s] v (.string u))) (HT : Hid (∀ v, Below w.heap.size w v → Ret 58 #[.string u] v (.agg #[.int .i64 rk, .int .i64 rn, .string rt]))) : Ret 86 #[.int .i64 23, .agg #[.slice (some ⟨gn, 0, none⟩) m cn, .slice (some ⟨gt, 0, none⟩) m ct, bsv, vsv]] w (.agg #[.int .i64 rk, .int .i64 rn, .string rt]) := by
 obtain ⟨hb, k0, k1⟩ := box2 w #[.slice (some ⟨gn, 0, none⟩) m cn, .slice (some ⟨gt, 0, none⟩) m ct, bsv, vsv] 100 #[.int .i64 0, .int .i64 0, .string ⟨#[]⟩] 26
 have ht0' := (hb.cell (p := ⟨gt, 0, none⟩) hgt).trans ht0.out
 go_enter Tryz.func86, Tryz.ntmps86
 go_wp2_with (fail)
 generalize ((w.alloc (Obj.cells #[.slice (some ⟨gn, 0, none⟩) m cn, .slice (some ⟨gt, 0, none⟩) m ct, bsv, vsv] 100)).alloc (Obj.cells #[.int .i64 0, .int .i64 0, .string ⟨#[]⟩] 26)) = W0 at *
 refine (go2 (HF.out _ hb) hb k0 k1).mono ?_; clear hb k0 k1; rintro e w0 ⟨rfl, hb, k0, k1⟩
 have c00 := ch k0 0
 have c01 := ch k0 1
 have c02 := ch k0 2
 have c03 := ch k0 3
 simp at c00 c01 c02 c03
 clear ht0'
 have ht0' := (hb.cell (p := ⟨gt, 0, none⟩) hgt).trans ht0.out
 go_wp2_with (fail)
 refine (go2 (HT.out _ hb) hb k0 k1).mono ?_; clear hb k0 k1; rintro e w1 ⟨rfl, hb, k0, k1⟩
 clear c00 c01 c02 c03
 have c00 := ch k0 0
 have c01 := ch k0 1
 have c02 := ch k0 2
 have c03 := ch k0 3
 simp at c00 c01 c02 c03
 clear ht0'
 have ht0' := (hb.cell (p := ⟨gt, 0, none⟩) hgt).trans ht0.out
 obtain ⟨z0, z1, z2⟩ := val_cells k1
 obtain ⟨f0, f1, f2⟩ := val_frozen k1
 clear k0 k1
 go_wp2
 exact bodyPost_ret (v := .agg #[.int .i64 rk, .int .i64 rn, .string rt]) (by simp [results, Tryz.results86, go_sem, z0, z1, z2]) rfl ⟨rfl, set3 hb (by omega)⟩
theorem rt27 (gn gt m cn ct : Nat) (bsv vsv : Value) (s : ByteArray) (n z : Int) (u : ByteArray) (rk rn : Int) (rt : ByteArray) (w : World) (hm2 : m ≤ 100) (hgn : gn < w.heap.size) (hgt : gt < w.heap.size) (hm : 1 < m) (ht0 : Hid (w.cell? ⟨gt, 0, none⟩ = some (.string s))) (hn1 : Hid (w.cell? ⟨gn, 1, none⟩ = some (.int .i64 n))) (HF : Hid (∀ v, Below w.heap.size w v → Ret 166 #[.string s, .int .i64 n] v (.tuple #[.string u, .int .i64 z]))) (HT : Hid (∀ v, Below w.heap.size w v → Ret 82 #[.string u, .int .i64 z] v (.agg #[.int .i64 rk, .int .i64 rn, .string rt]))) : Ret 86 #[.int .i64 27, .agg #[.slice (some ⟨gn, 0, none⟩) m cn, .slice (some ⟨gt, 0, none⟩) m ct, bsv, vsv]] w (.agg #[.int .i64 rk, .int .i64 rn, .string rt]) := by
 obtain ⟨hb, k0, k1⟩ := box2 w #[.slice (some ⟨gn, 0, none⟩) m cn, .slice (some ⟨gt, 0, none⟩) m ct, bsv, vsv] 100 #[.int .i64 0, .int .i64 0, .string ⟨#[]⟩] 26
 have ht0' := (hb.cell (p := ⟨gt, 0, none⟩) hgt).trans ht0.out
 have hn1' := (hb.cell (p := ⟨gn, 1, none⟩) hgn).trans hn1.out
 go_enter Tryz.func86, Tryz.ntmps86
 go_wp2_with (fail)
 generalize ((w.alloc (Obj.cells #[.slice (some ⟨gn, 0, none⟩) m cn, .slice (some ⟨gt, 0, none⟩) m ct, bsv, vsv] 100)).alloc (Obj.cells #[.int .i64 0, .int .i64 0, .string ⟨#[]⟩] 26)) = W0 at *
 refine (go2 (HF.out _ hb) hb k0 k1).mono ?_; clear hb k0 k1; rintro e w0 ⟨rfl, hb, k0, k1⟩
 have c00 := ch k0 0
 have c01 := ch k0 1
 have c02 := ch k0 2
 have c03 := ch k0 3
 simp at c00 c01 c02 c03
 clear ht0' hn1'
 have ht0' := (hb.cell (p := ⟨gt, 0, none⟩) hgt).trans ht0.out
 have hn1' := (hb.cell (p := ⟨gn, 1, none⟩) hgn).trans hn1.out
 go_wp2_with (fail)
 refine (go2 (HT.out _ hb) hb k0 k1).mono ?_; clear hb k0 k1; rintro e w1 ⟨rfl, hb, k0, k1⟩
 clear c00 c01 c02 c03
 have c00 := ch k0 0
 have c01 := ch k0 1
 have c02 := ch k0 2
 have c03 := ch k0 3
 simp at c00 c01 c02 c03
 clear ht0' hn1'
 have ht0' := (hb.cell (p := ⟨gt, 0, none⟩) hgt).trans ht0.out
 have hn1' := (hb.cell (p := ⟨gn, 1, none⟩) hgn).trans hn1.out
 obtain ⟨z0, z1, z2⟩ := val_cells k1
 obtain ⟨f0, f1, f2⟩ := val_frozen k1
 clear k0 k1
 go_wp2
 exact bodyPost_ret (v := .agg #[.int .i64 rk, .int .i64 rn, .string rt]) (by simp [results, Tryz.results86, go_sem, z0, z1, z2]) rfl ⟨rfl, set3 hb (by omega)⟩
theorem rt28 (gn gt m cn ct : Nat) (bsv vsv : Value) (s : ByteArray) (u : ByteArray) (b : Bool) (rk rn : Int) (rt : ByteArray) (w : World) (hm2 : m ≤ 100) (hgn : gn < w.heap.size) (hgt : gt < w.heap.size) (hm : 1 < m) (ht0 : Hid (w.cell? ⟨gt, 0, none⟩ = some (.string s))) (ht1 : Hid (w.cell? ⟨gt, 1, none⟩ = some (.string u))) (t : (s.toList == u.toList) = b) (HB : Hid (∀ v, Below w.heap.size w v → Ret 50 #[.bool b] v (.agg #[.int .i64 rk, .int .i64 rn, .string rt]))) : Ret 86 #[.int .i64 28, .agg #[.slice (some ⟨gn, 0, none⟩) m cn, .slice (some ⟨gt, 0, none⟩) m ct, bsv, vsv]] w (.agg #[.int .i64 rk, .int .i64 rn, .string rt]) := by
 obtain ⟨hb, k0, k1⟩ := box2 w #[.slice (some ⟨gn, 0, none⟩) m cn, .slice (some ⟨gt, 0, none⟩) m ct, bsv, vsv] 100 #[.int .i64 0, .int .i64 0, .string ⟨#[]⟩] 26
 have ht0' := (hb.cell (p := ⟨gt, 0, none⟩) hgt).trans ht0.out
 have ht1' := (hb.cell (p := ⟨gt, 1, none⟩) hgt).trans ht1.out
 go_enter Tryz.func86, Tryz.ntmps86
 go_wp2_with (fail)
 generalize ((w.alloc (Obj.cells #[.slice (some ⟨gn, 0, none⟩) m cn, .slice (some ⟨gt, 0, none⟩) m ct, bsv, vsv] 100)).alloc (Obj.cells #[.int .i64 0, .int .i64 0, .string ⟨#[]⟩] 26)) = W0 at *
 refine (go2 (HB.out _ hb) hb k0 k1).mono ?_; clear hb k0 k1; rintro e w0 ⟨rfl, hb, k0, k1⟩
 have c00 := ch k0 0
 have c01 := ch k0 1
 have c02 := ch k0 2
 have c03 := ch k0 3
 simp at c00 c01 c02 c03
 clear ht0' ht1'
 have ht0' := (hb.cell (p := ⟨gt, 0, none⟩) hgt).trans ht0.out
 have ht1' := (hb.cell (p := ⟨gt, 1, none⟩) hgt).trans ht1.out
 obtain ⟨z0, z1, z2⟩ := val_cells k1
 obtain ⟨f0, f1, f2⟩ := val_frozen k1
 clear k0 k1
 go_wp2
 exact bodyPost_ret (v := .agg #[.int .i64 rk, .int .i64 rn, .string rt]) (by simp [results, Tryz.results86, go_sem, z0, z1, z2]) rfl ⟨rfl, set3 hb (by omega)⟩
theorem rt29_e (gn gt m cn ct : Nat) (bsv vsv : Value) (s : ByteArray) (u z : Int) (w : World) (hm2 : m ≤ 100) (hgn : gn < w.heap.size) (hgt : gt < w.heap.size) (hm : 0 < m) (ht0 : Hid (w.cell? ⟨gt, 0, none⟩ = some (.string s))) (t : (z != 0) = true) (HF : Hid (∀ v, Below w.heap.size w v → Ret 167 #[.string s] v (.tuple #[.int .i64 u, .int .i64 z]))) : Ret 86 #[.int .i64 29, .agg #[.slice (some ⟨gn, 0, none⟩) m cn, .slice (some ⟨gt, 0, none⟩) m ct, bsv, vsv]] w (.agg #[.int .i64 4, .int .i64 4, .string ⟨#[]⟩]) := by
 obtain ⟨hb, k0, k1⟩ := box2 w #[.slice (some ⟨gn, 0, none⟩) m cn, .slice (some ⟨gt, 0, none⟩) m ct, bsv, vsv] 100 #[.int .i64 0, .int .i64 0, .string ⟨#[]⟩] 26
 have ht0' := (hb.cell (p := ⟨gt, 0, none⟩) hgt).trans ht0.out
 go_enter Tryz.func86, Tryz.ntmps86
 go_wp2_with (fail)
 generalize ((w.alloc (Obj.cells #[.slice (some ⟨gn, 0, none⟩) m cn, .slice (some ⟨gt, 0, none⟩) m ct, bsv, vsv] 100)).alloc (Obj.cells #[.int .i64 0, .int .i64 0, .string ⟨#[]⟩] 26)) = W0 at *
 refine (go2 (HF.out _ hb) hb k0 k1).mono ?_; clear hb k0 k1; rintro e w0 ⟨rfl, hb, k0, k1⟩
 have c00 := ch k0 0
 have c01 := ch k0 1
 have c02 := ch k0 2
 have c03 := ch k0 3
 simp at c00 c01 c02 c03
 clear ht0'
 have ht0' := (hb.cell (p := ⟨gt, 0, none⟩) hgt).trans ht0.out
 go_wp2_with (fail)
 refine (go2 (rbad14 4 _) hb k0 k1).mono ?_; clear hb k0 k1; rintro e w1 ⟨rfl, hb, k0, k1⟩
 clear c00 c01 c02 c03
 have c00 := ch k0 0
 have c01 := ch k0 1
 have c02 := ch k0 2
 have c03 := ch k0 3
 simp at c00 c01 c02 c03
 clear ht0'
 have ht0' := (hb.cell (p := ⟨gt, 0, none⟩) hgt).trans ht0.out
 obtain ⟨z0, z1, z2⟩ := val_cells k1
 obtain ⟨f0, f1, f2⟩ := val_frozen k1
 clear k0 k1
 go_wp2
 exact bodyPost_ret (v := .agg #[.int .i64 4, .int .i64 4, .string ⟨#[]⟩]) (by simp [results, Tryz.results86, go_sem, z0, z1, z2]) rfl ⟨rfl, set3 hb (by omega)⟩
theorem rt29 (gn gt m cn ct : Nat) (bsv vsv : Value) (s : ByteArray) (u z : Int) (w : World) (hm2 : m ≤ 100) (hgn : gn < w.heap.size) (hgt : gt < w.heap.size) (hm : 0 < m) (ht0 : Hid (w.cell? ⟨gt, 0, none⟩ = some (.string s))) (t : (z != 0) = false) (HF : Hid (∀ v, Below w.heap.size w v → Ret 167 #[.string s] v (.tuple #[.int .i64 u, .int .i64 z]))) : Ret 86 #[.int .i64 29, .agg #[.slice (some ⟨gn, 0, none⟩) m cn, .slice (some ⟨gt, 0, none⟩) m ct, bsv, vsv]] w (.agg #[.int .i64 1, .int .i64 u, .string ⟨#[]⟩]) := by
 obtain ⟨hb, k0, k1⟩ := box2 w #[.slice (some ⟨gn, 0, none⟩) m cn, .slice (some ⟨gt, 0, none⟩) m ct, bsv, vsv] 100 #[.int .i64 0, .int .i64 0, .string ⟨#[]⟩] 26
 have ht0' := (hb.cell (p := ⟨gt, 0, none⟩) hgt).trans ht0.out
 go_enter Tryz.func86, Tryz.ntmps86
 go_wp2_with (fail)
 generalize ((w.alloc (Obj.cells #[.slice (some ⟨gn, 0, none⟩) m cn, .slice (some ⟨gt, 0, none⟩) m ct, bsv, vsv] 100)).alloc (Obj.cells #[.int .i64 0, .int .i64 0, .string ⟨#[]⟩] 26)) = W0 at *
 refine (go2 (HF.out _ hb) hb k0 k1).mono ?_; clear hb k0 k1; rintro e w0 ⟨rfl, hb, k0, k1⟩
 have c00 := ch k0 0
 have c01 := ch k0 1
 have c02 := ch k0 2
 have c03 := ch k0 3
 simp at c00 c01 c02 c03
 clear ht0'
 have ht0' := (hb.cell (p := ⟨gt, 0, none⟩) hgt).trans ht0.out
 go_wp2_with (fail)
 refine (go2 (rnum14 u _) hb k0 k1).mono ?_; clear hb k0 k1; rintro e w1 ⟨rfl, hb, k0, k1⟩
 clear c00 c01 c02 c03
 have c00 := ch k0 0
 have c01 := ch k0 1
 have c02 := ch k0 2
 have c03 := ch k0 3
 simp at c00 c01 c02 c03
 clear ht0'
 have ht0' := (hb.cell (p := ⟨gt, 0, none⟩) hgt).trans ht0.out
 obtain ⟨z0, z1, z2⟩ := val_cells k1
 obtain ⟨f0, f1, f2⟩ := val_frozen k1
 clear k0 k1
 go_wp2
 exact bodyPost_ret (v := .agg #[.int .i64 1, .int .i64 u, .string ⟨#[]⟩]) (by simp [results, Tryz.results86, go_sem, z0, z1, z2]) rfl ⟨rfl, set3 hb (by omega)⟩
theorem rt32 (gn gt m cn ct : Nat) (bsv vsv : Value) (s : ByteArray) (rk rn : Int) (rt : ByteArray) (w : World) (hm2 : m ≤ 100) (hgn : gn < w.heap.size) (hgt : gt < w.heap.size) (hm : 0 < m) (ht0 : Hid (w.cell? ⟨gt, 0, none⟩ = some (.string s))) (HT : Hid (∀ v, Below w.heap.size w v → Ret 58 #[.string s] v (.agg #[.int .i64 rk, .int .i64 rn, .string rt]))) : Ret 86 #[.int .i64 32, .agg #[.slice (some ⟨gn, 0, none⟩) m cn, .slice (some ⟨gt, 0, none⟩) m ct, bsv, vsv]] w (.agg #[.int .i64 rk, .int .i64 rn, .string rt]) := by
 obtain ⟨hb, k0, k1⟩ := box2 w #[.slice (some ⟨gn, 0, none⟩) m cn, .slice (some ⟨gt, 0, none⟩) m ct, bsv, vsv] 100 #[.int .i64 0, .int .i64 0, .string ⟨#[]⟩] 26
 have ht0' := (hb.cell (p := ⟨gt, 0, none⟩) hgt).trans ht0.out
 go_enter Tryz.func86, Tryz.ntmps86
 go_wp2_with (fail)
 generalize ((w.alloc (Obj.cells #[.slice (some ⟨gn, 0, none⟩) m cn, .slice (some ⟨gt, 0, none⟩) m ct, bsv, vsv] 100)).alloc (Obj.cells #[.int .i64 0, .int .i64 0, .string ⟨#[]⟩] 26)) = W0 at *
 refine (go2 (HT.out _ hb) hb k0 k1).mono ?_; clear hb k0 k1; rintro e w0 ⟨rfl, hb, k0, k1⟩
 have c00 := ch k0 0
 have c01 := ch k0 1
 have c02 := ch k0 2
 have c03 := ch k0 3
 simp at c00 c01 c02 c03
 clear ht0'
 have ht0' := (hb.cell (p := ⟨gt, 0, none⟩) hgt).trans ht0.out
 obtain ⟨z0, z1, z2⟩ := val_cells k1
 obtain ⟨f0, f1, f2⟩ := val_frozen k1
 clear k0 k1
 go_wp2
 exact bodyPost_ret (v := .agg #[.int .i64 rk, .int .i64 rn, .string rt]) (by simp [results, Tryz.results86, go_sem, z0, z1, z2]) rfl ⟨rfl, set3 hb (by omega)⟩
theorem rt19 (gn gt m cn ct : Nat) (bsv vsv : Value) (s : ByteArray) (n1 n2 z : Int) (u : ByteArray) (rk rn : Int) (rt : ByteArray) (w : World) (hm2 : m ≤ 100) (hgn : gn < w.heap.size) (hgt : gt < w.heap.size) (hm : 2 < m) (ht0 : Hid (w.cell? ⟨gt, 0, none⟩ = some (.string s))) (hn1 : Hid (w.cell? ⟨gn, 1, none⟩ = some (.int .i64 n1))) (hn2 : Hid (w.cell? ⟨gn, 2, none⟩ = some (.int .i64 n2))) (HF : Hid (∀ v, Below w.heap.size w v → Ret 158 #[.string s, .int .i64 n1, .int .i64 n2] v (.tuple #[.string u, .int .i64 z]))) (HT : Hid (∀ v, Below w.heap.size w v → Ret 82 #[.string u, .int .i64 z] v (.agg #[.int .i64 rk, .int .i64 rn, .string rt]))) : Ret 86 #[.int .i64 19, .agg #[.slice (some ⟨gn, 0, none⟩) m cn, .slice (some ⟨gt, 0, none⟩) m ct, bsv, vsv]] w (.agg #[.int .i64 rk, .int .i64 rn, .string rt]) := by
 have i1 : (1 : Int) < (m : Int) := by omega
 have i2 : (2 : Int) < (m : Int) := by omega
 obtain ⟨hb, k0, k1⟩ := box2 w #[.slice (some ⟨gn, 0, none⟩) m cn, .slice (some ⟨gt, 0, none⟩) m ct, bsv, vsv] 100 #[.int .i64 0, .int .i64 0, .string ⟨#[]⟩] 26
 have ht0' := (hb.cell (p := ⟨gt, 0, none⟩) hgt).trans ht0.out
 have hn1' := (hb.cell (p := ⟨gn, 1, none⟩) hgn).trans hn1.out
 have hn2' := (hb.cell (p := ⟨gn, 2, none⟩) hgn).trans hn2.out
 go_enter Tryz.func86, Tryz.ntmps86
 go_upto_region 10 with (fail)
 generalize ((w.alloc (Obj.cells #[.slice (some ⟨gn, 0, none⟩) m cn, .slice (some ⟨gt, 0, none⟩) m ct, bsv, vsv] 100)).alloc (Obj.cells #[.int .i64 0, .int .i64 0, .string ⟨#[]⟩] 26)) = W0 at *
 refine Drw.region_values 13 ?Art19 (fun w' => w'.heap[w.heap.size]? = some (.cells #[.slice (some ⟨gn, 0, none⟩) m cn, .slice (some ⟨gt, 0, none⟩) m ct, bsv, vsv] 100 (0, 0)) ∧ w'.heap[(w.heap.size + 1)]? = some (.cells #[.int .i64 0, .int .i64 0, .string ⟨#[]⟩] 26 (0, 0)) ∧ (w'.cell? ⟨gn, 1, none⟩ = some (.int .i64 n1) ∧ gn < w'.heap.size) ∧ (w'.cell? ⟨gn, 2, none⟩ = some (.int .i64 n2) ∧ gn < w'.heap.size) ∧ Below w.heap.size w w') (fun i => match i with | 0 => fun v _ => v = .string s | 1 => fun v _ => v = .pointer (some ⟨w.heap.size, 0, none⟩) | 2 => fun v _ => v = .slice (some ⟨gn, 0, none⟩) m cn | 3 => fun v _ => v = .pointer (some ⟨gn, 1, none⟩) | 4 => fun v _ => v = .int .i64 n1 | 5 => fun v _ => v = .pointer (some ⟨w.heap.size, 0, none⟩) | 6 => fun v _ => v = .slice (some ⟨gn, 0, none⟩) m cn | 7 => fun v _ => v = .pointer (some ⟨gn, 2, none⟩) | 8 => fun v _ => v = .int .i64 n2 | 9 => fun v _ => v = .tuple #[.string u, .int .i64 z] | 10 => fun v _ => v = .string u | 11 => fun v _ => v = .int .i64 z | 12 => fun v _ => v = .agg #[.int .i64 rk, .int .i64 rn, .string rt] | _ => fun _ _ => True) (fun i => false) ?hArt19 (by kernel_rfl) (by kernel_rfl) ⟨k0, k1, ⟨hn1', Nat.lt_of_lt_of_le hgn hb.size⟩, ⟨hn2', Nat.lt_of_lt_of_le hgn hb.size⟩, hb.drew⟩ (fun w1 w2 h hS => ⟨(h.block _ (Array.getElem?_eq_some_iff.1 hS.1).1).trans hS.1, (h.block _ (Array.getElem?_eq_some_iff.1 hS.2.1).1).trans hS.2.1, ⟨(h.cell (p := ⟨gn, 1, none⟩) hS.2.2.1.2).trans hS.2.2.1.1, Nat.lt_of_lt_of_le hS.2.2.1.2 h.size⟩, ⟨(h.cell (p := ⟨gn, 2, none⟩) hS.2.2.2.1.2).trans hS.2.2.2.1.1, Nat.lt_of_lt_of_le hS.2.2.2.1.2 h.size⟩, hS.2.2.2.2.trans (h.mono hS.2.2.2.2.size)⟩) (Drw.lt_succ (Drw.lt_succ (Drw.lt_succ (Drw.lt_succ (Drw.lt_succ (Drw.lt_succ (Drw.lt_succ (Drw.lt_succ (Drw.lt_succ (Drw.lt_succ (Drw.lt_succ (Drw.lt_succ (Drw.lt_succ Drw.lt_nil Drw.st) Drw.st) Drw.st) Drw.st) Drw.st) Drw.st) Drw.st) Drw.st) Drw.st) Drw.st) Drw.st) Drw.st) Drw.st) ?_ ?_
 case hArt19 =>
  intro f
  symm
  simp only [Drw.putAll, Drw.dst, List.range, List.range.loop, List.getElem?_toArray, List.getElem?_cons_zero, List.getElem?_cons_succ, Option.bind_some, Act.put, List.setIfInBounds_toArray, List.set_cons_zero, List.set_cons_succ]
  exact rfl
 refine Drw.Obs.cons ?_ ?_
 ·intro f w _ hV K hK; unfold Drw.Give; go_simp; exact hK.out _ _ rfl (Below.refl _ _) (Drw.no rfl)
 refine Drw.Obs.cons ?_ ?_
 ·intro f w _ hV K hK; unfold Drw.Give; go_simp; exact hK.out _ _ rfl (Below.refl _ _) (Drw.no rfl)
 refine Drw.Obs.cons ?_ ?_
 ·intro f w hS hV K hK; obtain ⟨s0, -, -, -, -⟩ := hS; have s0c0 := ch s0 0; have s0c1 := ch s0 1; have s0c2 := ch s0 2; have s0c3 := ch s0 3; simp at s0c0 s0c1 s0c2 s0c3; have v1 := Drw.val (hV 1 rfl); clear hV; unfold Drw.Give; go_simp; exact hK.out _ _ rfl (Below.refl _ _) (Drw.no rfl)
 refine Drw.Obs.cons ?_ ?_
 ·intro f w _ hV K hK; have v2 := Drw.val (hV 2 rfl); clear hV; unfold Drw.Give; go_simp; exact hK.out _ _ rfl (Below.refl _ _) (Drw.no rfl)
 refine Drw.Obs.cons ?_ ?_
 ·intro f w hS hV K hK; obtain ⟨-, -, ⟨r0, -⟩, -, -⟩ := hS; have v3 := Drw.val (hV 3 rfl); clear hV; unfold Drw.Give; go_simp; exact hK.out _ _ rfl (Below.refl _ _) (Drw.no rfl)
 refine Drw.Obs.cons ?_ ?_
 ·intro f w _ hV K hK; unfold Drw.Give; go_simp; exact hK.out _ _ rfl (Below.refl _ _) (Drw.no rfl)
 refine Drw.Obs.cons ?_ ?_
 ·intro f w hS hV K hK; obtain ⟨s0, -, -, -, -⟩ := hS; have s0c0 := ch s0 0; have s0c1 := ch s0 1; have s0c2 := ch s0 2; have s0c3 := ch s0 3; simp at s0c0 s0c1 s0c2 s0c3; have v5 := Drw.val (hV 5 rfl); clear hV; unfold Drw.Give; go_simp; exact hK.out _ _ rfl (Below.refl _ _) (Drw.no rfl)
 refine Drw.Obs.cons ?_ ?_
 ·intro f w _ hV K hK; have v6 := Drw.val (hV 6 rfl); clear hV; unfold Drw.Give; go_simp; exact hK.out _ _ rfl (Below.refl _ _) (Drw.no rfl)
 refine Drw.Obs.cons ?_ ?_
 ·intro f w hS hV K hK; obtain ⟨-, -, -, ⟨r1, -⟩, -⟩ := hS; have v7 := Drw.val (hV 7 rfl); clear hV; unfold Drw.Give; go_simp; exact hK.out _ _ rfl (Below.refl _ _) (Drw.no rfl)
 refine Drw.Obs.cons ?_ ?_
 ·intro f w hS hV K hK; obtain ⟨-, -, -, -, hsb⟩ := hS; have v0 := Drw.val (hV 0 rfl); have v4 := Drw.val (hV 4 rfl); have v8 := Drw.val (hV 8 rfl); clear hV; unfold Drw.Give; go_simp; unfold Drw.giveUpon; with_reducible refine (HF.out _ hsb).mono ?_; rintro e w2 ⟨rfl, hb2⟩; exact ⟨_, rfl, hK.out _ _ rfl hb2 (Drw.no rfl)⟩
 refine Drw.Obs.cons ?_ ?_
 ·intro f w _ hV K hK; have v9 := Drw.val (hV 9 rfl); clear hV; unfold Drw.Give; go_simp; exact hK.out _ _ rfl (Below.refl _ _) (Drw.no rfl)
 refine Drw.Obs.cons ?_ ?_
 ·intro f w _ hV K hK; have v9 := Drw.val (hV 9 rfl); clear hV; unfold Drw.Give; go_simp; exact hK.out _ _ rfl (Below.refl _ _) (Drw.no rfl)
 refine Drw.Obs.cons ?_ ?_
 ·intro f w hS hV K hK; obtain ⟨-, -, -, -, hsb⟩ := hS; have v10 := Drw.val (hV 10 rfl); have v11 := Drw.val (hV 11 rfl); clear hV; unfold Drw.Give; go_simp; unfold Drw.giveUpon; with_reducible refine (HT.out _ hsb).mono ?_; rintro e w2 ⟨rfl, hb2⟩; exact ⟨_, rfl, hK.out _ _ rfl hb2 (Drw.no rfl)⟩
 exact Drw.Obs.nil
 intro f' w4 hS hV hD hZ
 clear hD hZ
 have v12 := Drw.val (hV 12 (by decide))
 clear hV hb k0 k1
 obtain ⟨-, k1, -, -, hb⟩ := hS
 simp only [v12]
 clear v12
 obtain ⟨z0, z1, z2⟩ := val_cells k1
 obtain ⟨f0, f1, f2⟩ := val_frozen k1
 clear k1
 refine Drw.wpAny_one (i := 13) (by kernel_rfl) rfl (fun K hK => ?_)
 go_simp
 refine hK.out _ _ ?_
 clear hK K
 refine ⟨by kernel_rfl, ?_⟩
 go_wp2
 exact bodyPost_ret (v := .agg #[.int .i64 rk, .int .i64 rn, .string rt]) (by simp [results, Tryz.results86, go_sem, z0, z1, z2]) rfl ⟨rfl, set3 hb (by omega)⟩
theorem rt25 (gn gt m cn ct : Nat) (bsv vsv : Value) (s : ByteArray) (t1 t2 : ByteArray) (z : Int) (u : ByteArray) (rk rn : Int) (rt : ByteArray) (w : World) (hm2 : m ≤ 100) (hgn : gn < w.heap.size) (hgt : gt < w.heap.size) (hm : 2 < m) (ht0 : Hid (w.cell? ⟨gt, 0, none⟩ = some (.string s))) (ht1 : Hid (w.cell? ⟨gt, 1, none⟩ = some (.string t1))) (ht2 : Hid (w.cell? ⟨gt, 2, none⟩ = some (.string t2))) (HF : Hid (∀ v, Below w.heap.size w v → Ret 164 #[.string s, .string t1, .string t2] v (.tuple #[.string u, .int .i64 z]))) (HT : Hid (∀ v, Below w.heap.size w v → Ret 82 #[.string u, .int .i64 z] v (.agg #[.int .i64 rk, .int .i64 rn, .string rt]))) : Ret 86 #[.int .i64 25, .agg #[.slice (some ⟨gn, 0, none⟩) m cn, .slice (some ⟨gt, 0, none⟩) m ct, bsv, vsv]] w (.agg #[.int .i64 rk, .int .i64 rn, .string rt]) := by
 have i1 : (1 : Int) < (m : Int) := by omega
 have i2 : (2 : Int) < (m : Int) := by omega
 obtain ⟨hb, k0, k1⟩ := box2 w #[.slice (some ⟨gn, 0, none⟩) m cn, .slice (some ⟨gt, 0, none⟩) m ct, bsv, vsv] 100 #[.int .i64 0, .int .i64 0, .string ⟨#[]⟩] 26
 have ht0' := (hb.cell (p := ⟨gt, 0, none⟩) hgt).trans ht0.out
 have ht1' := (hb.cell (p := ⟨gt, 1, none⟩) hgt).trans ht1.out
 have ht2' := (hb.cell (p := ⟨gt, 2, none⟩) hgt).trans ht2.out
 go_enter Tryz.func86, Tryz.ntmps86
 go_upto_region 25 with (fail)
 generalize ((w.alloc (Obj.cells #[.slice (some ⟨gn, 0, none⟩) m cn, .slice (some ⟨gt, 0, none⟩) m ct, bsv, vsv] 100)).alloc (Obj.cells #[.int .i64 0, .int .i64 0, .string ⟨#[]⟩] 26)) = W0 at *
 refine Drw.region_values 13 ?Art25 (fun w' => w'.heap[w.heap.size]? = some (.cells #[.slice (some ⟨gn, 0, none⟩) m cn, .slice (some ⟨gt, 0, none⟩) m ct, bsv, vsv] 100 (0, 0)) ∧ w'.heap[(w.heap.size + 1)]? = some (.cells #[.int .i64 0, .int .i64 0, .string ⟨#[]⟩] 26 (0, 0)) ∧ (w'.cell? ⟨gt, 1, none⟩ = some (.string t1) ∧ gt < w'.heap.size) ∧ (w'.cell? ⟨gt, 2, none⟩ = some (.string t2) ∧ gt < w'.heap.size) ∧ Below w.heap.size w w') (fun i => match i with | 0 => fun v _ => v = .string s | 1 => fun v _ => v = .pointer (some ⟨w.heap.size, 1, none⟩) | 2 => fun v _ => v = .slice (some ⟨gt, 0, none⟩) m ct | 3 => fun v _ => v = .pointer (some ⟨gt, 1, none⟩) | 4 => fun v _ => v = .string t1 | 5 => fun v _ => v = .pointer (some ⟨w.heap.size, 1, none⟩) | 6 => fun v _ => v = .slice (some ⟨gt, 0, none⟩) m ct | 7 => fun v _ => v = .pointer (some ⟨gt, 2, none⟩) | 8 => fun v _ => v = .string t2 | 9 => fun v _ => v = .tuple #[.string u, .int .i64 z] | 10 => fun v _ => v = .string u | 11 => fun v _ => v = .int .i64 z | 12 => fun v _ => v = .agg #[.int .i64 rk, .int .i64 rn, .string rt] | _ => fun _ _ => True) (fun i => false) ?hArt25 (by kernel_rfl) (by kernel_rfl) ⟨k0, k1, ⟨ht1', Nat.lt_of_lt_of_le hgt hb.size⟩, ⟨ht2', Nat.lt_of_lt_of_le hgt hb.size⟩, hb.drew⟩ (fun w1 w2 h hS => ⟨(h.block _ (Array.getElem?_eq_some_iff.1 hS.1).1).trans hS.1, (h.block _ (Array.getElem?_eq_some_iff.1 hS.2.1).1).trans hS.2.1, ⟨(h.cell (p := ⟨gt, 1, none⟩) hS.2.2.1.2).trans hS.2.2.1.1, Nat.lt_of_lt_of_le hS.2.2.1.2 h.size⟩, ⟨(h.cell (p := ⟨gt, 2, none⟩) hS.2.2.2.1.2).trans hS.2.2.2.1.1, Nat.lt_of_lt_of_le hS.2.2.2.1.2 h.size⟩, hS.2.2.2.2.trans (h.mono hS.2.2.2.2.size)⟩) (Drw.lt_succ (Drw.lt_succ (Drw.lt_succ (Drw.lt_succ (Drw.lt_succ (Drw.lt_succ (Drw.lt_succ (Drw.lt_succ (Drw.lt_succ (Drw.lt_succ (Drw.lt_succ (Drw.lt_succ (Drw.lt_succ Drw.lt_nil Drw.st) Drw.st) Drw.st) Drw.st) Drw.st) Drw.st) Drw.st) Drw.st) Drw.st) Drw.st) Drw.st) Drw.st) Drw.st) ?_ ?_
 case hArt25 =>
  intro f
  symm
  simp only [Drw.putAll, Drw.dst, List.range, List.range.loop, List.getElem?_toArray, List.getElem?_cons_zero, List.getElem?_cons_succ, Option.bind_some, Act.put, List.setIfInBounds_toArray, List.set_cons_zero, List.set_cons_succ]
  exact rfl
 refine Drw.Obs.cons ?_ ?_
 ·intro f w _ hV K hK; unfold Drw.Give; go_simp; exact hK.out _ _ rfl (Below.refl _ _) (Drw.no rfl)
 refine Drw.Obs.cons ?_ ?_
 ·intro f w _ hV K hK; unfold Drw.Give; go_simp; exact hK.out _ _ rfl (Below.refl _ _) (Drw.no rfl)
 refine Drw.Obs.cons ?_ ?_
 ·intro f w hS hV K hK; obtain ⟨s0, -, -, -, -⟩ := hS; have s0c0 := ch s0 0; have s0c1 := ch s0 1; have s0c2 := ch s0 2; have s0c3 := ch s0 3; simp at s0c0 s0c1 s0c2 s0c3; have v1 := Drw.val (hV 1 rfl); clear hV; unfold Drw.Give; go_simp; exact hK.out _ _ rfl (Below.refl _ _) (Drw.no rfl)
 refine Drw.Obs.cons ?_ ?_
 ·intro f w _ hV K hK; have v2 := Drw.val (hV 2 rfl); clear hV; unfold Drw.Give; go_simp; exact hK.out _ _ rfl (Below.refl _ _) (Drw.no rfl)
 refine Drw.Obs.cons ?_ ?_
 ·intro f w hS hV K hK; obtain ⟨-, -, ⟨r0, -⟩, -, -⟩ := hS; have v3 := Drw.val (hV 3 rfl); clear hV; unfold Drw.Give; go_simp; exact hK.out _ _ rfl (Below.refl _ _) (Drw.no rfl)
 refine Drw.Obs.cons ?_ ?_
 ·intro f w _ hV K hK; unfold Drw.Give; go_simp; exact hK.out _ _ rfl (Below.refl _ _) (Drw.no rfl)
 refine Drw.Obs.cons ?_ ?_
 ·intro f w hS hV K hK; obtain ⟨s0, -, -, -, -⟩ := hS; have s0c0 := ch s0 0; have s0c1 := ch s0 1; have s0c2 := ch s0 2; have s0c3 := ch s0 3; simp at s0c0 s0c1 s0c2 s0c3; have v5 := Drw.val (hV 5 rfl); clear hV; unfold Drw.Give; go_simp; exact hK.out _ _ rfl (Below.refl _ _) (Drw.no rfl)
 refine Drw.Obs.cons ?_ ?_
 ·intro f w _ hV K hK; have v6 := Drw.val (hV 6 rfl); clear hV; unfold Drw.Give; go_simp; exact hK.out _ _ rfl (Below.refl _ _) (Drw.no rfl)
 refine Drw.Obs.cons ?_ ?_
 ·intro f w hS hV K hK; obtain ⟨-, -, -, ⟨r1, -⟩, -⟩ := hS; have v7 := Drw.val (hV 7 rfl); clear hV; unfold Drw.Give; go_simp; exact hK.out _ _ rfl (Below.refl _ _) (Drw.no rfl)
 refine Drw.Obs.cons ?_ ?_
 ·intro f w hS hV K hK; obtain ⟨-, -, -, -, hsb⟩ := hS; have v0 := Drw.val (hV 0 rfl); have v4 := Drw.val (hV 4 rfl); have v8 := Drw.val (hV 8 rfl); clear hV; unfold Drw.Give; go_simp; unfold Drw.giveUpon; with_reducible refine (HF.out _ hsb).mono ?_; rintro e w2 ⟨rfl, hb2⟩; exact ⟨_, rfl, hK.out _ _ rfl hb2 (Drw.no rfl)⟩
 refine Drw.Obs.cons ?_ ?_
 ·intro f w _ hV K hK; have v9 := Drw.val (hV 9 rfl); clear hV; unfold Drw.Give; go_simp; exact hK.out _ _ rfl (Below.refl _ _) (Drw.no rfl)
 refine Drw.Obs.cons ?_ ?_
 ·intro f w _ hV K hK; have v9 := Drw.val (hV 9 rfl); clear hV; unfold Drw.Give; go_simp; exact hK.out _ _ rfl (Below.refl _ _) (Drw.no rfl)
 refine Drw.Obs.cons ?_ ?_
 ·intro f w hS hV K hK; obtain ⟨-, -, -, -, hsb⟩ := hS; have v10 := Drw.val (hV 10 rfl); have v11 := Drw.val (hV 11 rfl); clear hV; unfold Drw.Give; go_simp; unfold Drw.giveUpon; with_reducible refine (HT.out _ hsb).mono ?_; rintro e w2 ⟨rfl, hb2⟩; exact ⟨_, rfl, hK.out _ _ rfl hb2 (Drw.no rfl)⟩
 exact Drw.Obs.nil
 intro f' w4 hS hV hD hZ
 clear hD hZ
 have v12 := Drw.val (hV 12 (by decide))
 clear hV hb k0 k1
 obtain ⟨-, k1, -, -, hb⟩ := hS
 simp only [v12]
 clear v12
 obtain ⟨z0, z1, z2⟩ := val_cells k1
 obtain ⟨f0, f1, f2⟩ := val_frozen k1
 clear k1
 refine Drw.wpAny_one (i := 13) (by kernel_rfl) rfl (fun K hK => ?_)
 go_simp
 refine hK.out _ _ ?_
 clear hK K
 refine ⟨by kernel_rfl, ?_⟩
 go_wp2
 exact bodyPost_ret (v := .agg #[.int .i64 rk, .int .i64 rn, .string rt]) (by simp [results, Tryz.results86, go_sem, z0, z1, z2]) rfl ⟨rfl, set3 hb (by omega)⟩
theorem rt26 (gn gt m cn ct : Nat) (bsv vsv : Value) (s : ByteArray) (n1 n2 : Int) (t3 : ByteArray) (rk rn : Int) (rt : ByteArray) (w : World) (hm2 : m ≤ 100) (hgn : gn < w.heap.size) (hgt : gt < w.heap.size) (hm : 3 < m) (ht0 : Hid (w.cell? ⟨gt, 0, none⟩ = some (.string s))) (hn1 : Hid (w.cell? ⟨gn, 1, none⟩ = some (.int .i64 n1))) (hn2 : Hid (w.cell? ⟨gn, 2, none⟩ = some (.int .i64 n2))) (ht3 : Hid (w.cell? ⟨gt, 3, none⟩ = some (.string t3))) (HF : Hid (∀ v, Below w.heap.size w v → Ret 165 #[.string s, .int .i64 n1, .int .i64 n2, .string t3] v (.agg #[.int .i64 rk, .int .i64 rn, .string rt]))) : Ret 86 #[.int .i64 26, .agg #[.slice (some ⟨gn, 0, none⟩) m cn, .slice (some ⟨gt, 0, none⟩) m ct, bsv, vsv]] w (.agg #[.int .i64 rk, .int .i64 rn, .string rt]) := by
 have i1 : (1 : Int) < (m : Int) := by omega
 have i2 : (2 : Int) < (m : Int) := by omega
 have i3 : (3 : Int) < (m : Int) := by omega
 obtain ⟨hb, k0, k1⟩ := box2 w #[.slice (some ⟨gn, 0, none⟩) m cn, .slice (some ⟨gt, 0, none⟩) m ct, bsv, vsv] 100 #[.int .i64 0, .int .i64 0, .string ⟨#[]⟩] 26
 have ht0' := (hb.cell (p := ⟨gt, 0, none⟩) hgt).trans ht0.out
 have hn1' := (hb.cell (p := ⟨gn, 1, none⟩) hgn).trans hn1.out
 have hn2' := (hb.cell (p := ⟨gn, 2, none⟩) hgn).trans hn2.out
 have ht3' := (hb.cell (p := ⟨gt, 3, none⟩) hgt).trans ht3.out
 go_enter Tryz.func86, Tryz.ntmps86
 go_upto_region 27 with (fail)
 generalize ((w.alloc (Obj.cells #[.slice (some ⟨gn, 0, none⟩) m cn, .slice (some ⟨gt, 0, none⟩) m ct, bsv, vsv] 100)).alloc (Obj.cells #[.int .i64 0, .int .i64 0, .string ⟨#[]⟩] 26)) = W0 at *
 refine Drw.region_values 14 ?Art26 (fun w' => w'.heap[w.heap.size]? = some (.cells #[.slice (some ⟨gn, 0, none⟩) m cn, .slice (some ⟨gt, 0, none⟩) m ct, bsv, vsv] 100 (0, 0)) ∧ w'.heap[(w.heap.size + 1)]? = some (.cells #[.int .i64 0, .int .i64 0, .string ⟨#[]⟩] 26 (0, 0)) ∧ (w'.cell? ⟨gn, 1, none⟩ = some (.int .i64 n1) ∧ gn < w'.heap.size) ∧ (w'.cell? ⟨gn, 2, none⟩ = some (.int .i64 n2) ∧ gn < w'.heap.size) ∧ (w'.cell? ⟨gt, 3, none⟩ = some (.string t3) ∧ gt < w'.heap.size) ∧ Below w.heap.size w w') (fun i => match i with | 0 => fun v _ => v = .string s | 1 => fun v _ => v = .pointer (some ⟨w.heap.size, 0, none⟩) | 2 => fun v _ => v = .slice (some ⟨gn, 0, none⟩) m cn | 3 => fun v _ => v = .pointer (some ⟨gn, 1, none⟩) | 4 => fun v _ => v = .int .i64 n1 | 5 => fun v _ => v = .pointer (some ⟨w.heap.size, 0, none⟩) | 6 => fun v _ => v = .slice (some ⟨gn, 0, none⟩) m cn | 7 => fun v _ => v = .pointer (some ⟨gn, 2, none⟩) | 8 => fun v _ => v = .int .i64 n2 | 9 => fun v _ => v = .pointer (some ⟨w.heap.size, 1, none⟩) | 10 => fun v _ => v = .slice (some ⟨gt, 0, none⟩) m ct | 11 => fun v _ => v = .pointer (some ⟨gt, 3, none⟩) | 12 => fun v _ => v = .string t3 | 13 => fun v _ => v = .agg #[.int .i64 rk, .int .i64 rn, .string rt] | _ => fun _ _ => True) (fun i => false) ?hArt26 (by kernel_rfl) (by kernel_rfl) ⟨k0, k1, ⟨hn1', Nat.lt_of_lt_of_le hgn hb.size⟩, ⟨hn2', Nat.lt_of_lt_of_le hgn hb.size⟩, ⟨ht3', Nat.lt_of_lt_of_le hgt hb.size⟩, hb.drew⟩ (fun w1 w2 h hS => ⟨(h.block _ (Array.getElem?_eq_some_iff.1 hS.1).1).trans hS.1, (h.block _ (Array.getElem?_eq_some_iff.1 hS.2.1).1).trans hS.2.1, ⟨(h.cell (p := ⟨gn, 1, none⟩) hS.2.2.1.2).trans hS.2.2.1.1, Nat.lt_of_lt_of_le hS.2.2.1.2 h.size⟩, ⟨(h.cell (p := ⟨gn, 2, none⟩) hS.2.2.2.1.2).trans hS.2.2.2.1.1, Nat.lt_of_lt_of_le hS.2.2.2.1.2 h.size⟩, ⟨(h.cell (p := ⟨gt, 3, none⟩) hS.2.2.2.2.1.2).trans hS.2.2.2.2.1.1, Nat.lt_of_lt_of_le hS.2.2.2.2.1.2 h.size⟩, hS.2.2.2.2.2.trans (h.mono hS.2.2.2.2.2.size)⟩) (Drw.lt_succ (Drw.lt_succ (Drw.lt_succ (Drw.lt_succ (Drw.lt_succ (Drw.lt_succ (Drw.lt_succ (Drw.lt_succ (Drw.lt_succ (Drw.lt_succ (Drw.lt_succ (Drw.lt_succ (Drw.lt_succ (Drw.lt_succ Drw.lt_nil Drw.st) Drw.st) Drw.st) Drw.st) Drw.st) Drw.st) Drw.st) Drw.st) Drw.st) Drw.st) Drw.st) Drw.st) Drw.st) Drw.st) ?_ ?_
 case hArt26 =>
  intro f
  symm
  simp only [Drw.putAll, Drw.dst, List.range, List.range.loop, List.getElem?_toArray, List.getElem?_cons_zero, List.getElem?_cons_succ, Option.bind_some, Act.put, List.setIfInBounds_toArray, List.set_cons_zero, List.set_cons_succ]
  exact rfl
 refine Drw.Obs.cons ?_ ?_
 ·intro f w _ hV K hK; unfold Drw.Give; go_simp; exact hK.out _ _ rfl (Below.refl _ _) (Drw.no rfl)
 refine Drw.Obs.cons ?_ ?_
 ·intro f w _ hV K hK; unfold Drw.Give; go_simp; exact hK.out _ _ rfl (Below.refl _ _) (Drw.no rfl)
 refine Drw.Obs.cons ?_ ?_
 ·intro f w hS hV K hK; obtain ⟨s0, -, -, -, -, -⟩ := hS; have s0c0 := ch s0 0; have s0c1 := ch s0 1; have s0c2 := ch s0 2; have s0c3 := ch s0 3; simp at s0c0 s0c1 s0c2 s0c3; have v1 := Drw.val (hV 1 rfl); clear hV; unfold Drw.Give; go_simp; exact hK.out _ _ rfl (Below.refl _ _) (Drw.no rfl)
 refine Drw.Obs.cons ?_ ?_
 ·intro f w _ hV K hK; have v2 := Drw.val (hV 2 rfl); clear hV; unfold Drw.Give; go_simp; exact hK.out _ _ rfl (Below.refl _ _) (Drw.no rfl)
 refine Drw.Obs.cons ?_ ?_
 ·intro f w hS hV K hK; obtain ⟨-, -, ⟨r0, -⟩, -, -, -⟩ := hS; have v3 := Drw.val (hV 3 rfl); clear hV; unfold Drw.Give; go_simp; exact hK.out _ _ rfl (Below.refl _ _) (Drw.no rfl)
 refine Drw.Obs.cons ?_ ?_
 ·intro f w _ hV K hK; unfold Drw.Give; go_simp; exact hK.out _ _ rfl (Below.refl _ _) (Drw.no rfl)
 refine Drw.Obs.cons ?_ ?_
 ·intro f w hS hV K hK; obtain ⟨s0, -, -, -, -, -⟩ := hS; have s0c0 := ch s0 0; have s0c1 := ch s0 1; have s0c2 := ch s0 2; have s0c3 := ch s0 3; simp at s0c0 s0c1 s0c2 s0c3; have v5 := Drw.val (hV 5 rfl); clear hV; unfold Drw.Give; go_simp; exact hK.out _ _ rfl (Below.refl _ _) (Drw.no rfl)
 refine Drw.Obs.cons ?_ ?_
 ·intro f w _ hV K hK; have v6 := Drw.val (hV 6 rfl); clear hV; unfold Drw.Give; go_simp; exact hK.out _ _ rfl (Below.refl _ _) (Drw.no rfl)
 refine Drw.Obs.cons ?_ ?_
 ·intro f w hS hV K hK; obtain ⟨-, -, -, ⟨r1, -⟩, -, -⟩ := hS; have v7 := Drw.val (hV 7 rfl); clear hV; unfold Drw.Give; go_simp; exact hK.out _ _ rfl (Below.refl _ _) (Drw.no rfl)
 refine Drw.Obs.cons ?_ ?_
 ·intro f w _ hV K hK; unfold Drw.Give; go_simp; exact hK.out _ _ rfl (Below.refl _ _) (Drw.no rfl)
 refine Drw.Obs.cons ?_ ?_
 ·intro f w hS hV K hK; obtain ⟨s0, -, -, -, -, -⟩ := hS; have s0c0 := ch s0 0; have s0c1 := ch s0 1; have s0c2 := ch s0 2; have s0c3 := ch s0 3; simp at s0c0 s0c1 s0c2 s0c3; have v9 := Drw.val (hV 9 rfl); clear hV; unfold Drw.Give; go_simp; exact hK.out _ _ rfl (Below.refl _ _) (Drw.no rfl)
 refine Drw.Obs.cons ?_ ?_
 ·intro f w _ hV K hK; have v10 := Drw.val (hV 10 rfl); clear hV; unfold Drw.Give; go_simp; exact hK.out _ _ rfl (Below.refl _ _) (Drw.no rfl)
 refine Drw.Obs.cons ?_ ?_
 ·intro f w hS hV K hK; obtain ⟨-, -, -, -, ⟨r2, -⟩, -⟩ := hS; have v11 := Drw.val (hV 11 rfl); clear hV; unfold Drw.Give; go_simp; exact hK.out _ _ rfl (Below.refl _ _) (Drw.no rfl)
 refine Drw.Obs.cons ?_ ?_
 ·intro f w hS hV K hK; obtain ⟨-, -, -, -, -, hsb⟩ := hS; have v0 := Drw.val (hV 0 rfl); have v4 := Drw.val (hV 4 rfl); have v8 := Drw.val (hV 8 rfl); have v12 := Drw.val (hV 12 rfl); clear hV; unfold Drw.Give; go_simp; unfold Drw.giveUpon; with_reducible refine (HF.out _ hsb).mono ?_; rintro e w2 ⟨rfl, hb2⟩; exact ⟨_, rfl, hK.out _ _ rfl hb2 (Drw.no rfl)⟩
 exact Drw.Obs.nil
 intro f' w4 hS hV hD hZ
 clear hD hZ
 have v13 := Drw.val (hV 13 (by decide))
 clear hV hb k0 k1
 obtain ⟨-, k1, -, -, -, hb⟩ := hS
 simp only [v13]
 clear v13
 obtain ⟨z0, z1, z2⟩ := val_cells k1
 obtain ⟨f0, f1, f2⟩ := val_frozen k1
 clear k1
 refine Drw.wpAny_one (i := 14) (by kernel_rfl) rfl (fun K hK => ?_)
 go_simp
 refine hK.out _ _ ?_
 clear hK K
 refine ⟨by kernel_rfl, ?_⟩
 go_wp2
 exact bodyPost_ret (v := .agg #[.int .i64 rk, .int .i64 rn, .string rt]) (by simp [results, Tryz.results86, go_sem, z0, z1, z2]) rfl ⟨rfl, set3 hb (by omega)⟩
theorem rt24_e (gn gt m cn ct : Nat) (bsv vsv : Value) (s : ByteArray) (t1 : ByteArray) (n u z : Int) (w : World) (hm2 : m ≤ 100) (hgn : gn < w.heap.size) (hgt : gt < w.heap.size) (hm : 1 < m) (ht0 : Hid (w.cell? ⟨gt, 0, none⟩ = some (.string s))) (ht1 : Hid (w.cell? ⟨gt, 1, none⟩ = some (.string t1))) (t : (z != 0) = true) (HX : Hid (∀ v, Below w.heap.size w v → Ret 151 #[.agg #[.slice (some ⟨gn, 0, none⟩) m cn, .slice (some ⟨gt, 0, none⟩) m ct, bsv, vsv], .int .i64 2, .int .i64 1] v (.int .i64 n))) (HF : Hid (∀ v, Below w.heap.size w v → Ret 163 #[.string s, .string t1, .int .i64 n] v (.tuple #[.int .i64 u, .int .i64 z]))) : Ret 86 #[.int .i64 24, .agg #[.slice (some ⟨gn, 0, none⟩) m cn, .slice (some ⟨gt, 0, none⟩) m ct, bsv, vsv]] w (.agg #[.int .i64 4, .int .i64 4, .string ⟨#[]⟩]) := by
 have i1 : (1 : Int) < (m : Int) := by omega
 obtain ⟨hb, k0, k1⟩ := box2 w #[.slice (some ⟨gn, 0, none⟩) m cn, .slice (some ⟨gt, 0, none⟩) m ct, bsv, vsv] 100 #[.int .i64 0, .int .i64 0, .string ⟨#[]⟩] 26
 have ht0' := (hb.cell (p := ⟨gt, 0, none⟩) hgt).trans ht0.out
 have ht1' := (hb.cell (p := ⟨gt, 1, none⟩) hgt).trans ht1.out
 go_enter Tryz.func86, Tryz.ntmps86
 go_upto_region 20 with (fail)
 generalize ((w.alloc (Obj.cells #[.slice (some ⟨gn, 0, none⟩) m cn, .slice (some ⟨gt, 0, none⟩) m ct, bsv, vsv] 100)).alloc (Obj.cells #[.int .i64 0, .int .i64 0, .string ⟨#[]⟩] 26)) = W0 at *
 refine Drw.region_values_all 13 ?Art24_e (fun w' => w'.heap[w.heap.size]? = some (.cells #[.slice (some ⟨gn, 0, none⟩) m cn, .slice (some ⟨gt, 0, none⟩) m ct, bsv, vsv] 100 (0, 0)) ∧ w'.heap[(w.heap.size + 1)]? = some (.cells #[.int .i64 0, .int .i64 0, .string ⟨#[]⟩] 26 (0, 0)) ∧ (w'.cell? ⟨gt, 1, none⟩ = some (.string t1) ∧ gt < w'.heap.size) ∧ Below w.heap.size w w') (fun i => match i with | 0 => fun v _ => v = .string s | 1 => fun v _ => v = .pointer (some ⟨w.heap.size, 1, none⟩) | 2 => fun v _ => v = .slice (some ⟨gt, 0, none⟩) m ct | 3 => fun v _ => v = .pointer (some ⟨gt, 1, none⟩) | 4 => fun v _ => v = .string t1 | 5 => fun v _ => v = .agg #[.slice (some ⟨gn, 0, none⟩) m cn, .slice (some ⟨gt, 0, none⟩) m ct, bsv, vsv] | 6 => fun v _ => v = .int .i64 n | 7 => fun v _ => v = .tuple #[.int .i64 u, .int .i64 z] | 8 => fun v _ => v = .tuple #[.int .i64 u, .int .i64 z] | 9 => fun v _ => v = .int .i64 u | 10 => fun v _ => v = .int .i64 z | 11 => fun v _ => v = .int .i64 u | 12 => fun v _ => v = .int .i64 z | _ => fun _ _ => True) (fun i => false) ?hArt24_e (by kernel_rfl) (by kernel_rfl) rfl ⟨k0, k1, ⟨ht1', Nat.lt_of_lt_of_le hgt hb.size⟩, hb.drew⟩ (fun w1 w2 h hS => ⟨(h.block _ (Array.getElem?_eq_some_iff.1 hS.1).1).trans hS.1, (h.block _ (Array.getElem?_eq_some_iff.1 hS.2.1).1).trans hS.2.1, ⟨(h.cell (p := ⟨gt, 1, none⟩) hS.2.2.1.2).trans hS.2.2.1.1, Nat.lt_of_lt_of_le hS.2.2.1.2 h.size⟩, hS.2.2.2.trans (h.mono hS.2.2.2.size)⟩) (Drw.lt_succ (Drw.lt_succ (Drw.lt_succ (Drw.lt_succ (Drw.lt_succ (Drw.lt_succ (Drw.lt_succ (Drw.lt_succ (Drw.lt_succ (Drw.lt_succ (Drw.lt_succ (Drw.lt_succ (Drw.lt_succ Drw.lt_nil Drw.st) Drw.st) Drw.st) Drw.st) Drw.st) Drw.st) Drw.st) Drw.st) Drw.st) Drw.st) Drw.st) Drw.st) Drw.st) ?_ ?_
 case hArt24_e =>
  intro f
  symm
  simp only [Drw.putAll, Drw.dst, List.range, List.range.loop, List.getElem?_toArray, List.getElem?_cons_zero, List.getElem?_cons_succ, Option.bind_some, Act.put, List.setIfInBounds_toArray, List.set_cons_zero, List.set_cons_succ]
  exact rfl
 refine Drw.Obs.cons ?_ ?_
 ·intro f w _ hV K hK; unfold Drw.Give; go_simp; exact hK.out _ _ rfl (Below.refl _ _) (Drw.no rfl)
 refine Drw.Obs.cons ?_ ?_
 ·intro f w _ hV K hK; unfold Drw.Give; go_simp; exact hK.out _ _ rfl (Below.refl _ _) (Drw.no rfl)
 refine Drw.Obs.cons ?_ ?_
 ·intro f w hS hV K hK; obtain ⟨s0, -, -, -⟩ := hS; have s0c0 := ch s0 0; have s0c1 := ch s0 1; have s0c2 := ch s0 2; have s0c3 := ch s0 3; simp at s0c0 s0c1 s0c2 s0c3; have v1 := Drw.val (hV 1 rfl); clear hV; unfold Drw.Give; go_simp; exact hK.out _ _ rfl (Below.refl _ _) (Drw.no rfl)
 refine Drw.Obs.cons ?_ ?_
 ·intro f w _ hV K hK; have v2 := Drw.val (hV 2 rfl); clear hV; unfold Drw.Give; go_simp; exact hK.out _ _ rfl (Below.refl _ _) (Drw.no rfl)
 refine Drw.Obs.cons ?_ ?_
 ·intro f w hS hV K hK; obtain ⟨-, -, ⟨r0, -⟩, -⟩ := hS; have v3 := Drw.val (hV 3 rfl); clear hV; unfold Drw.Give; go_simp; exact hK.out _ _ rfl (Below.refl _ _) (Drw.no rfl)
 refine Drw.Obs.cons ?_ ?_
 ·intro f w hS hV K hK; obtain ⟨s0, -, -, -⟩ := hS; have s0c0 := ch s0 0; have s0c1 := ch s0 1; have s0c2 := ch s0 2; have s0c3 := ch s0 3; simp at s0c0 s0c1 s0c2 s0c3; unfold Drw.Give; go_simp; exact hK.out _ _ rfl (Below.refl _ _) (Drw.no rfl)
 refine Drw.Obs.cons ?_ ?_
 ·intro f w hS hV K hK; obtain ⟨-, -, -, hsb⟩ := hS; have v5 := Drw.val (hV 5 rfl); clear hV; unfold Drw.Give; go_simp; unfold Drw.giveUpon; with_reducible refine (HX.out _ hsb).mono ?_; rintro e w2 ⟨rfl, hb2⟩; exact ⟨_, rfl, hK.out _ _ rfl hb2 (Drw.no rfl)⟩
 refine Drw.Obs.cons ?_ ?_
 ·intro f w hS hV K hK; obtain ⟨-, -, -, hsb⟩ := hS; have v0 := Drw.val (hV 0 rfl); have v4 := Drw.val (hV 4 rfl); have v6 := Drw.val (hV 6 rfl); clear hV; unfold Drw.Give; go_simp; unfold Drw.giveUpon; with_reducible refine (HF.out _ hsb).mono ?_; rintro e w2 ⟨rfl, hb2⟩; exact ⟨_, rfl, hK.out _ _ rfl hb2 (Drw.no rfl)⟩
 refine Drw.Obs.cons ?_ ?_
 ·intro f w _ hV K hK; have v7 := Drw.val (hV 7 rfl); clear hV; unfold Drw.Give; go_simp; exact hK.out _ _ rfl (Below.refl _ _) (Drw.no rfl)
 refine Drw.Obs.cons ?_ ?_
 ·intro f w _ hV K hK; have v8 := Drw.val (hV 8 rfl); clear hV; unfold Drw.Give; go_simp; exact hK.out _ _ rfl (Below.refl _ _) (Drw.no rfl)
 refine Drw.Obs.cons ?_ ?_
 ·intro f w _ hV K hK; have v8 := Drw.val (hV 8 rfl); clear hV; unfold Drw.Give; go_simp; exact hK.out _ _ rfl (Below.refl _ _) (Drw.no rfl)
 refine Drw.Obs.cons ?_ ?_
 ·intro f w _ hV K hK; have v9 := Drw.val (hV 9 rfl); clear hV; unfold Drw.Give; go_simp; exact hK.out _ _ rfl (Below.refl _ _) (Drw.no rfl)
 refine Drw.Obs.cons ?_ ?_
 ·intro f w _ hV K hK; have v10 := Drw.val (hV 10 rfl); clear hV; unfold Drw.Give; go_simp; exact hK.out _ _ rfl (Below.refl _ _) (Drw.no rfl)
 exact Drw.Obs.nil
 intro f' w4 hS hV hD hZ
 clear hD hZ
 have v11 := Drw.val (hV 11 (by decide))
 have v12 := Drw.val (hV 12 (by decide))
 clear hV hb k0 k1
 obtain ⟨-, k1, -, hb⟩ := hS
 simp only [v11, v12]
 clear v11 v12
 go_wp2_with (fail)
 refine (go1 (rbad14 4 _) hb k1).mono ?_; clear hb k1; rintro e w5 ⟨rfl, hb, k1⟩
 obtain ⟨z0, z1, z2⟩ := val_cells k1
 obtain ⟨f0, f1, f2⟩ := val_frozen k1
 clear k1
 go_wp2
 exact bodyPost_ret (v := .agg #[.int .i64 4, .int .i64 4, .string ⟨#[]⟩]) (by simp [results, Tryz.results86, go_sem, z0, z1, z2]) rfl ⟨rfl, set3 hb (by omega)⟩
theorem rt24 (gn gt m cn ct : Nat) (bsv vsv : Value) (s : ByteArray) (t1 : ByteArray) (n u z : Int) (w : World) (hm2 : m ≤ 100) (hgn : gn < w.heap.size) (hgt : gt < w.heap.size) (hm : 1 < m) (ht0 : Hid (w.cell? ⟨gt, 0, none⟩ = some (.string s))) (ht1 : Hid (w.cell? ⟨gt, 1, none⟩ = some (.string t1))) (t : (z != 0) = false) (HX : Hid (∀ v, Below w.heap.size w v → Ret 151 #[.agg #[.slice (some ⟨gn, 0, none⟩) m cn, .slice (some ⟨gt, 0, none⟩) m ct, bsv, vsv], .int .i64 2, .int .i64 1] v (.int .i64 n))) (HF : Hid (∀ v, Below w.heap.size w v → Ret 163 #[.string s, .string t1, .int .i64 n] v (.tuple #[.int .i64 u, .int .i64 z]))) : Ret 86 #[.int .i64 24, .agg #[.slice (some ⟨gn, 0, none⟩) m cn, .slice (some ⟨gt, 0, none⟩) m ct, bsv, vsv]] w (.agg #[.int .i64 1, .int .i64 u, .string ⟨#[]⟩]) := by
 have i1 : (1 : Int) < (m : Int) := by omega
 obtain ⟨hb, k0, k1⟩ := box2 w #[.slice (some ⟨gn, 0, none⟩) m cn, .slice (some ⟨gt, 0, none⟩) m ct, bsv, vsv] 100 #[.int .i64 0, .int .i64 0, .string ⟨#[]⟩] 26
 have ht0' := (hb.cell (p := ⟨gt, 0, none⟩) hgt).trans ht0.out
 have ht1' := (hb.cell (p := ⟨gt, 1, none⟩) hgt).trans ht1.out
 go_enter Tryz.func86, Tryz.ntmps86
 go_upto_region 20 with (fail)
 generalize ((w.alloc (Obj.cells #[.slice (some ⟨gn, 0, none⟩) m cn, .slice (some ⟨gt, 0, none⟩) m ct, bsv, vsv] 100)).alloc (Obj.cells #[.int .i64 0, .int .i64 0, .string ⟨#[]⟩] 26)) = W0 at *
 refine Drw.region_values_all 13 ?Art24 (fun w' => w'.heap[w.heap.size]? = some (.cells #[.slice (some ⟨gn, 0, none⟩) m cn, .slice (some ⟨gt, 0, none⟩) m ct, bsv, vsv] 100 (0, 0)) ∧ w'.heap[(w.heap.size + 1)]? = some (.cells #[.int .i64 0, .int .i64 0, .string ⟨#[]⟩] 26 (0, 0)) ∧ (w'.cell? ⟨gt, 1, none⟩ = some (.string t1) ∧ gt < w'.heap.size) ∧ Below w.heap.size w w') (fun i => match i with | 0 => fun v _ => v = .string s | 1 => fun v _ => v = .pointer (some ⟨w.heap.size, 1, none⟩) | 2 => fun v _ => v = .slice (some ⟨gt, 0, none⟩) m ct | 3 => fun v _ => v = .pointer (some ⟨gt, 1, none⟩) | 4 => fun v _ => v = .string t1 | 5 => fun v _ => v = .agg #[.slice (some ⟨gn, 0, none⟩) m cn, .slice (some ⟨gt, 0, none⟩) m ct, bsv, vsv] | 6 => fun v _ => v = .int .i64 n | 7 => fun v _ => v = .tuple #[.int .i64 u, .int .i64 z] | 8 => fun v _ => v = .tuple #[.int .i64 u, .int .i64 z] | 9 => fun v _ => v = .int .i64 u | 10 => fun v _ => v = .int .i64 z | 11 => fun v _ => v = .int .i64 u | 12 => fun v _ => v = .int .i64 z | _ => fun _ _ => True) (fun i => false) ?hArt24 (by kernel_rfl) (by kernel_rfl) rfl ⟨k0, k1, ⟨ht1', Nat.lt_of_lt_of_le hgt hb.size⟩, hb.drew⟩ (fun w1 w2 h hS => ⟨(h.block _ (Array.getElem?_eq_some_iff.1 hS.1).1).trans hS.1, (h.block _ (Array.getElem?_eq_some_iff.1 hS.2.1).1).trans hS.2.1, ⟨(h.cell (p := ⟨gt, 1, none⟩) hS.2.2.1.2).trans hS.2.2.1.1, Nat.lt_of_lt_of_le hS.2.2.1.2 h.size⟩, hS.2.2.2.trans (h.mono hS.2.2.2.size)⟩) (Drw.lt_succ (Drw.lt_succ (Drw.lt_succ (Drw.lt_succ (Drw.lt_succ (Drw.lt_succ (Drw.lt_succ (Drw.lt_succ (Drw.lt_succ (Drw.lt_succ (Drw.lt_succ (Drw.lt_succ (Drw.lt_succ Drw.lt_nil Drw.st) Drw.st) Drw.st) Drw.st) Drw.st) Drw.st) Drw.st) Drw.st) Drw.st) Drw.st) Drw.st) Drw.st) Drw.st) ?_ ?_
 case hArt24 =>
  intro f
  symm
  simp only [Drw.putAll, Drw.dst, List.range, List.range.loop, List.getElem?_toArray, List.getElem?_cons_zero, List.getElem?_cons_succ, Option.bind_some, Act.put, List.setIfInBounds_toArray, List.set_cons_zero, List.set_cons_succ]
  exact rfl
 refine Drw.Obs.cons ?_ ?_
 ·intro f w _ hV K hK; unfold Drw.Give; go_simp; exact hK.out _ _ rfl (Below.refl _ _) (Drw.no rfl)
 refine Drw.Obs.cons ?_ ?_
 ·intro f w _ hV K hK; unfold Drw.Give; go_simp; exact hK.out _ _ rfl (Below.refl _ _) (Drw.no rfl)
 refine Drw.Obs.cons ?_ ?_
 ·intro f w hS hV K hK; obtain ⟨s0, -, -, -⟩ := hS; have s0c0 := ch s0 0; have s0c1 := ch s0 1; have s0c2 := ch s0 2; have s0c3 := ch s0 3; simp at s0c0 s0c1 s0c2 s0c3; have v1 := Drw.val (hV 1 rfl); clear hV; unfold Drw.Give; go_simp; exact hK.out _ _ rfl (Below.refl _ _) (Drw.no rfl)
 refine Drw.Obs.cons ?_ ?_
 ·intro f w _ hV K hK; have v2 := Drw.val (hV 2 rfl); clear hV; unfold Drw.Give; go_simp; exact hK.out _ _ rfl (Below.refl _ _) (Drw.no rfl)
 refine Drw.Obs.cons ?_ ?_
 ·intro f w hS hV K hK; obtain ⟨-, -, ⟨r0, -⟩, -⟩ := hS; have v3 := Drw.val (hV 3 rfl); clear hV; unfold Drw.Give; go_simp; exact hK.out _ _ rfl (Below.refl _ _) (Drw.no rfl)
 refine Drw.Obs.cons ?_ ?_
 ·intro f w hS hV K hK; obtain ⟨s0, -, -, -⟩ := hS; have s0c0 := ch s0 0; have s0c1 := ch s0 1; have s0c2 := ch s0 2; have s0c3 := ch s0 3; simp at s0c0 s0c1 s0c2 s0c3; unfold Drw.Give; go_simp; exact hK.out _ _ rfl (Below.refl _ _) (Drw.no rfl)
 refine Drw.Obs.cons ?_ ?_
 ·intro f w hS hV K hK; obtain ⟨-, -, -, hsb⟩ := hS; have v5 := Drw.val (hV 5 rfl); clear hV; unfold Drw.Give; go_simp; unfold Drw.giveUpon; with_reducible refine (HX.out _ hsb).mono ?_; rintro e w2 ⟨rfl, hb2⟩; exact ⟨_, rfl, hK.out _ _ rfl hb2 (Drw.no rfl)⟩
 refine Drw.Obs.cons ?_ ?_
 ·intro f w hS hV K hK; obtain ⟨-, -, -, hsb⟩ := hS; have v0 := Drw.val (hV 0 rfl); have v4 := Drw.val (hV 4 rfl); have v6 := Drw.val (hV 6 rfl); clear hV; unfold Drw.Give; go_simp; unfold Drw.giveUpon; with_reducible refine (HF.out _ hsb).mono ?_; rintro e w2 ⟨rfl, hb2⟩; exact ⟨_, rfl, hK.out _ _ rfl hb2 (Drw.no rfl)⟩
 refine Drw.Obs.cons ?_ ?_
 ·intro f w _ hV K hK; have v7 := Drw.val (hV 7 rfl); clear hV; unfold Drw.Give; go_simp; exact hK.out _ _ rfl (Below.refl _ _) (Drw.no rfl)
 refine Drw.Obs.cons ?_ ?_
 ·intro f w _ hV K hK; have v8 := Drw.val (hV 8 rfl); clear hV; unfold Drw.Give; go_simp; exact hK.out _ _ rfl (Below.refl _ _) (Drw.no rfl)
 refine Drw.Obs.cons ?_ ?_
 ·intro f w _ hV K hK; have v8 := Drw.val (hV 8 rfl); clear hV; unfold Drw.Give; go_simp; exact hK.out _ _ rfl (Below.refl _ _) (Drw.no rfl)
 refine Drw.Obs.cons ?_ ?_
 ·intro f w _ hV K hK; have v9 := Drw.val (hV 9 rfl); clear hV; unfold Drw.Give; go_simp; exact hK.out _ _ rfl (Below.refl _ _) (Drw.no rfl)
 refine Drw.Obs.cons ?_ ?_
 ·intro f w _ hV K hK; have v10 := Drw.val (hV 10 rfl); clear hV; unfold Drw.Give; go_simp; exact hK.out _ _ rfl (Below.refl _ _) (Drw.no rfl)
 exact Drw.Obs.nil
 intro f' w4 hS hV hD hZ
 clear hD hZ
 have v11 := Drw.val (hV 11 (by decide))
 have v12 := Drw.val (hV 12 (by decide))
 clear hV hb k0 k1
 obtain ⟨-, k1, -, hb⟩ := hS
 simp only [v11, v12]
 clear v11 v12
 go_wp2_with (fail)
 refine (go1 (rnum14 u _) hb k1).mono ?_; clear hb k1; rintro e w5 ⟨rfl, hb, k1⟩
 obtain ⟨z0, z1, z2⟩ := val_cells k1
 obtain ⟨f0, f1, f2⟩ := val_frozen k1
 clear k1
 go_wp2
 exact bodyPost_ret (v := .agg #[.int .i64 1, .int .i64 u, .string ⟨#[]⟩]) (by simp [results, Tryz.results86, go_sem, z0, z1, z2]) rfl ⟨rfl, set3 hb (by omega)⟩
theorem rrep_f (s t : ByteArray) (f n : Int) (w : World) (t0 : decide (f < 1) = true) : Ret 165 #[.string s, .int .i64 f, .int .i64 n, .string t] w (.agg #[.int .i64 4, .int .i64 4, .string ⟨#[]⟩]) := by
 obtain ⟨hb, k0⟩ := box1 w #[.int .i64 0, .int .i64 0, .string ⟨#[]⟩] 26
 go_enter Tryz.func165, Tryz.ntmps165
 go_wp2_with (fail)
 generalize (w.alloc (Obj.cells #[.int .i64 0, .int .i64 0, .string ⟨#[]⟩] 26)) = W0 at *
 refine (go1 (rbad14 4 _) hb k0).mono ?_; clear hb k0; rintro e w0 ⟨rfl, hb, k0⟩
 obtain ⟨z0, z1, z2⟩ := val_cells k0
 obtain ⟨f0, f1, f2⟩ := val_frozen k0
 clear k0
 go_wp2
 exact bodyPost_ret (v := .agg #[.int .i64 4, .int .i64 4, .string ⟨#[]⟩]) (by simp [results, Tryz.results165, go_sem, z0, z1, z2]) rfl ⟨rfl, set3 hb (by omega)⟩
theorem rrep_n (s t : ByteArray) (f n : Int) (w : World) (t0 : decide (f < 1) = false) (t1 : decide (n < 0) = true) : Ret 165 #[.string s, .int .i64 f, .int .i64 n, .string t] w (.agg #[.int .i64 4, .int .i64 4, .string ⟨#[]⟩]) := by
 obtain ⟨hb, k0⟩ := box1 w #[.int .i64 0, .int .i64 0, .string ⟨#[]⟩] 26
 go_enter Tryz.func165, Tryz.ntmps165
 go_wp2_with (fail)
 generalize (w.alloc (Obj.cells #[.int .i64 0, .int .i64 0, .string ⟨#[]⟩] 26)) = W0 at *
 refine (go1 (rbad14 4 _) hb k0).mono ?_; clear hb k0; rintro e w0 ⟨rfl, hb, k0⟩
 obtain ⟨z0, z1, z2⟩ := val_cells k0
 obtain ⟨f0, f1, f2⟩ := val_frozen k0
 clear k0
 go_wp2
 exact bodyPost_ret (v := .agg #[.int .i64 4, .int .i64 4, .string ⟨#[]⟩]) (by simp [results, Tryz.results165, go_sem, z0, z1, z2]) rfl ⟨rfl, set3 hb (by omega)⟩
theorem rrep_far (s t : ByteArray) (f n : Int) (f1 az k : Int) (a b x : ByteArray) (rk rn : Int) (rt : ByteArray) (w : World) (t0 : decide (f < 1) = false) (t1 : decide (n < 0) = false) (t2 : decide (f ≤ k) = false) (e1 : IntKind.i64.wrap (f - 1) = f1) (n1 : ¬ 9223372036854775807 < a.size + t.size) (n2 : ¬ 9223372036854775807 < a.size + t.size + (⟨#[]⟩ : ByteArray).size) (hx : a ++ t ++ ⟨#[]⟩ = x) (HL : Hid (∀ v, Below w.heap.size w v → Ret 156 #[.string s, .int .i64 f1] v (.tuple #[.string a, .int .i64 az]))) (HK : Hid (∀ v, Below w.heap.size w v → Ret 155 #[.string s] v (.int .i64 k))) (HT : Hid (∀ v, Below w.heap.size w v → Ret 58 #[.string x] v (.agg #[.int .i64 rk, .int .i64 rn, .string rt]))) : Ret 165 #[.string s, .int .i64 f, .int .i64 n, .string t] w (.agg #[.int .i64 rk, .int .i64 rn, .string rt]) := by
 obtain ⟨hb, k0⟩ := box1 w #[.int .i64 0, .int .i64 0, .string ⟨#[]⟩] 26
 go_enter Tryz.func165, Tryz.ntmps165
 go_wp2_with (fail)
 generalize (w.alloc (Obj.cells #[.int .i64 0, .int .i64 0, .string ⟨#[]⟩] 26)) = W0 at *
 refine (go1 (HL.out _ hb) hb k0).mono ?_; clear hb k0; rintro e w0 ⟨rfl, hb, k0⟩
 go_wp2_with (fail)
 refine (go1 (HK.out _ hb) hb k0).mono ?_; clear hb k0; rintro e w1 ⟨rfl, hb, k0⟩
 go_wp2_with (fail)
 refine (go1 (HT.out _ hb) hb k0).mono ?_; clear hb k0; rintro e w2 ⟨rfl, hb, k0⟩
 obtain ⟨z0, z1, z2⟩ := val_cells k0
 obtain ⟨f0, f1, f2⟩ := val_frozen k0
 clear k0
 go_wp2
 exact bodyPost_ret (v := .agg #[.int .i64 rk, .int .i64 rn, .string rt]) (by simp [results, Tryz.results165, go_sem, z0, z1, z2]) rfl ⟨rfl, set3 hb (by omega)⟩
theorem rrep_far2 (s t : ByteArray) (f n : Int) (f1 az k : Int) (a b x : ByteArray) (rk rn : Int) (rt : ByteArray) (q q1 : Int) (w : World) (t0 : decide (f < 1) = false) (t1 : decide (n < 0) = false) (t2 : decide (f ≤ k) = true) (e2 : IntKind.i64.wrap (k - f) = q) (e3 : IntKind.i64.wrap (q + 1) = q1) (t3 : decide (n < q1) = false) (e1 : IntKind.i64.wrap (f - 1) = f1) (n1 : ¬ 9223372036854775807 < a.size + t.size) (n2 : ¬ 9223372036854775807 < a.size + t.size + (⟨#[]⟩ : ByteArray).size) (hx : a ++ t ++ ⟨#[]⟩ = x) (HL : Hid (∀ v, Below w.heap.size w v → Ret 156 #[.string s, .int .i64 f1] v (.tuple #[.string a, .int .i64 az]))) (HK : Hid (∀ v, Below w.heap.size w v → Ret 155 #[.string s] v (.int .i64 k))) (HT : Hid (∀ v, Below w.heap.size w v → Ret 58 #[.string x] v (.agg #[.int .i64 rk, .int .i64 rn, .string rt]))) : Ret 165 #[.string s, .int .i64 f, .int .i64 n, .string t] w (.agg #[.int .i64 rk, .int .i64 rn, .string rt]) := by
 obtain ⟨hb, k0⟩ := box1 w #[.int .i64 0, .int .i64 0, .string ⟨#[]⟩] 26
 go_enter Tryz.func165, Tryz.ntmps165
 go_wp2_with (fail)
 generalize (w.alloc (Obj.cells #[.int .i64 0, .int .i64 0, .string ⟨#[]⟩] 26)) = W0 at *
 refine (go1 (HL.out _ hb) hb k0).mono ?_; clear hb k0; rintro e w0 ⟨rfl, hb, k0⟩
 go_wp2_with (fail)
 refine (go1 (HK.out _ hb) hb k0).mono ?_; clear hb k0; rintro e w1 ⟨rfl, hb, k0⟩
 go_wp2_with (fail)
 refine (go1 (HT.out _ hb) hb k0).mono ?_; clear hb k0; rintro e w2 ⟨rfl, hb, k0⟩
 obtain ⟨z0, z1, z2⟩ := val_cells k0
 obtain ⟨f0, f1, f2⟩ := val_frozen k0
 clear k0
 go_wp2
 exact bodyPost_ret (v := .agg #[.int .i64 rk, .int .i64 rn, .string rt]) (by simp [results, Tryz.results165, go_sem, z0, z1, z2]) rfl ⟨rfl, set3 hb (by omega)⟩
theorem rrep_near (s t : ByteArray) (f n : Int) (f1 az k : Int) (a b x : ByteArray) (rk rn : Int) (rt : ByteArray) (q q1 q2 bz : Int) (w : World) (t0 : decide (f < 1) = false) (t1 : decide (n < 0) = false) (t2 : decide (f ≤ k) = true) (e2 : IntKind.i64.wrap (k - f) = q) (e3 : IntKind.i64.wrap (q + 1) = q1) (t3 : decide (n < q1) = true) (e4 : IntKind.i64.wrap (q1 - n) = q2) (e1 : IntKind.i64.wrap (f - 1) = f1) (n1 : ¬ 9223372036854775807 < a.size + t.size) (n2 : ¬ 9223372036854775807 < a.size + t.size + b.size) (hx : a ++ t ++ b = x) (HL : Hid (∀ v, Below w.heap.size w v → Ret 156 #[.string s, .int .i64 f1] v (.tuple #[.string a, .int .i64 az]))) (HK : Hid (∀ v, Below w.heap.size w v → Ret 155 #[.string s] v (.int .i64 k))) (HR : Hid (∀ v, Below w.heap.size w v → Ret 157 #[.string s, .int .i64 q2] v (.tuple #[.string b, .int .i64 bz]))) (HT : Hid (∀ v, Below w.heap.size w v → Ret 58 #[.string x] v (.agg #[.int .i64 rk, .int .i64 rn, .string rt]))) : Ret 165 #[.string s, .int .i64 f, .int .i64 n, .string t] w (.agg #[.int .i64 rk, .int .i64 rn, .string rt]) := by
 obtain ⟨hb, k0⟩ := box1 w #[.int .i64 0, .int .i64 0, .string ⟨#[]⟩] 26
 go_enter Tryz.func165, Tryz.ntmps165
 go_wp2_with (fail)
 generalize (w.alloc (Obj.cells #[.int .i64 0, .int .i64 0, .string ⟨#[]⟩] 26)) = W0 at *
 refine (go1 (HL.out _ hb) hb k0).mono ?_; clear hb k0; rintro e w0 ⟨rfl, hb, k0⟩
 go_wp2_with (fail)
 refine (go1 (HK.out _ hb) hb k0).mono ?_; clear hb k0; rintro e w1 ⟨rfl, hb, k0⟩
 go_wp2_with (fail)
 refine (go1 (HR.out _ hb) hb k0).mono ?_; clear hb k0; rintro e w2 ⟨rfl, hb, k0⟩
 go_wp2_with (fail)
 refine (go1 (HT.out _ hb) hb k0).mono ?_; clear hb k0; rintro e w3 ⟨rfl, hb, k0⟩
 obtain ⟨z0, z1, z2⟩ := val_cells k0
 obtain ⟨f0, f1, f2⟩ := val_frozen k0
 clear k0
 go_wp2
 exact bodyPost_ret (v := .agg #[.int .i64 rk, .int .i64 rn, .string rt]) (by simp [results, Tryz.results165, go_sem, z0, z1, z2]) rfl ⟨rfl, set3 hb (by omega)⟩
end Go.Proofs.YtpiiemneelkpkaaGreatDoor
