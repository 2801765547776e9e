import Derived.Test.YtpiiemneelkpkaaGreatDoorCalRa
import Derived.Test.YtpiiemneelkpkaaGreatDoorGcp
import Derived.Test.YtpiiemneelkpkaaGreatDoorValQ
set_option maxRecDepth 100000
namespace Go.Proofs.YtpiiemneelkpkaaGreatDoor
open Go.RowKit
set_option linter.unusedVariables false
set_option linter.unusedSimpArgs false
theorem run_lo (op : Int) (k n a c : Int) (t : ByteArray) (w : World) (t1 : decide (op < 1) = true) : Ret 26 #[.int .i64 op, .agg #[.int .i64 k, .int .i64 n, .string t]] w (.agg #[.int .i64 4, .int .i64 4, .string ⟨#[]⟩]) := by
 obtain ⟨hb, k0, k1⟩ := box2 w #[.int .i64 k, .int .i64 n, .string t] 26 #[.int .i64 0, .int .i64 0, .string ⟨#[]⟩] 26
 go_enter Tryz.func26, Tryz.ntmps26
 go_wp2_with (fail)
 generalize ((w.alloc (Obj.cells #[.int .i64 k, .int .i64 n, .string t] 26)).alloc (Obj.cells #[.int .i64 0, .int .i64 0, .string ⟨#[]⟩] 26)) = W0 at *
 refine (go2 (rbad14 4 _) hb k0 k1).mono ?_; clear hb k0 k1; rintro e w0 ⟨rfl, hb, k0, k1⟩
 obtain ⟨c00, c01, c02⟩ := val_cells k0
 obtain ⟨z0, z1, z2⟩ := val_cells k1
 obtain ⟨f0, f1, f2⟩ := val_frozen k1
 clear k0 k1
 go_wp2
 exact bodyPost_ret (v := .agg #[.int .i64 4, .int .i64 4, .string ⟨#[]⟩]) (by simp [results, Tryz.results26, go_sem, z0, z1, z2]) rfl ⟨rfl, set3 hb (by omega)⟩
theorem run_hi (op : Int) (k n a c : Int) (t : ByteArray) (w : World) (t1 : decide (op < 1) = false) (t2 : decide (3 < op) = true) : Ret 26 #[.int .i64 op, .agg #[.int .i64 k, .int .i64 n, .string t]] w (.agg #[.int .i64 4, .int .i64 4, .string ⟨#[]⟩]) := by
 obtain ⟨hb, k0, k1⟩ := box2 w #[.int .i64 k, .int .i64 n, .string t] 26 #[.int .i64 0, .int .i64 0, .string ⟨#[]⟩] 26
 go_enter Tryz.func26, Tryz.ntmps26
 go_wp2_with (fail)
 generalize ((w.alloc (Obj.cells #[.int .i64 k, .int .i64 n, .string t] 26)).alloc (Obj.cells #[.int .i64 0, .int .i64 0, .string ⟨#[]⟩] 26)) = W0 at *
 refine (go2 (rbad14 4 _) hb k0 k1).mono ?_; clear hb k0 k1; rintro e w0 ⟨rfl, hb, k0, k1⟩
 obtain ⟨c00, c01, c02⟩ := val_cells k0
 obtain ⟨z0, z1, z2⟩ := val_cells k1
 obtain ⟨f0, f1, f2⟩ := val_frozen k1
 clear k0 k1
 go_wp2
 exact bodyPost_ret (v := .agg #[.int .i64 4, .int .i64 4, .string ⟨#[]⟩]) (by simp [results, Tryz.results26, go_sem, z0, z1, z2]) rfl ⟨rfl, set3 hb (by omega)⟩
theorem run_err (op : Int) (k n a c : Int) (t : ByteArray) (w : World) (t1 : decide (op < 1) = false) (t2 : decide (3 < op) = false) (tc : (c != 0) = true) (HN : Hid (∀ w, Ret 54 #[.agg #[.int .i64 k, .int .i64 n, .string t]] w (.tuple #[.int .i64 a, .int .i64 c]))) : Ret 26 #[.int .i64 op, .agg #[.int .i64 k, .int .i64 n, .string t]] w (.agg #[.int .i64 4, .int .i64 c, .string ⟨#[]⟩]) := by
 obtain ⟨hb, k0, k1⟩ := box2 w #[.int .i64 k, .int .i64 n, .string t] 26 #[.int .i64 0, .int .i64 0, .string ⟨#[]⟩] 26
 go_enter Tryz.func26, Tryz.ntmps26
 go_wp2_with (fail)
 generalize ((w.alloc (Obj.cells #[.int .i64 k, .int .i64 n, .string t] 26)).alloc (Obj.cells #[.int .i64 0, .int .i64 0, .string ⟨#[]⟩] 26)) = W0 at *
 refine (go2 (HN.out _) hb k0 k1).mono ?_; clear hb k0 k1; rintro e w0 ⟨rfl, hb, k0, k1⟩
 obtain ⟨c00, c01, c02⟩ := val_cells k0
 go_wp2_with (fail)
 refine (go2 (rbad14 c _) hb k0 k1).mono ?_; clear hb k0 k1; rintro e w1 ⟨rfl, hb, k0, k1⟩
 clear c00 c01 c02
 obtain ⟨c00, c01, c02⟩ := val_cells k0
 obtain ⟨z0, z1, z2⟩ := val_cells k1
 obtain ⟨f0, f1, f2⟩ := val_frozen k1
 clear k0 k1
 go_wp2
 exact bodyPost_ret (v := .agg #[.int .i64 4, .int .i64 c, .string ⟨#[]⟩]) (by simp [results, Tryz.results26, go_sem, z0, z1, z2]) rfl ⟨rfl, set3 hb (by omega)⟩
theorem run_1l (k n a c : Int) (t : ByteArray) (w : World) (tl : (a == -9223372036854775808) = true) (HN : Hid (∀ w, Ret 54 #[.agg #[.int .i64 k, .int .i64 n, .string t]] w (.tuple #[.int .i64 a, .int .i64 0]))) : Ret 26 #[.int .i64 1, .agg #[.int .i64 k, .int .i64 n, .string t]] w (.agg #[.int .i64 4, .int .i64 2, .string ⟨#[]⟩]) := by
 obtain ⟨hb, k0, k1⟩ := box2 w #[.int .i64 k, .int .i64 n, .string t] 26 #[.int .i64 0, .int .i64 0, .string ⟨#[]⟩] 26
 go_enter Tryz.func26, Tryz.ntmps26
 go_wp2_with (fail)
 generalize ((w.alloc (Obj.cells #[.int .i64 k, .int .i64 n, .string t] 26)).alloc (Obj.cells #[.int .i64 0, .int .i64 0, .string ⟨#[]⟩] 26)) = W0 at *
 refine (go2 (HN.out _) hb k0 k1).mono ?_; clear hb k0 k1; rintro e w0 ⟨rfl, hb, k0, k1⟩
 obtain ⟨c00, c01, c02⟩ := val_cells k0
 go_wp2_with (fail)
 refine (go2 (rbad14 2 _) hb k0 k1).mono ?_; clear hb k0 k1; rintro e w1 ⟨rfl, hb, k0, k1⟩
 clear c00 c01 c02
 obtain ⟨c00, c01, c02⟩ := val_cells k0
 obtain ⟨z0, z1, z2⟩ := val_cells k1
 obtain ⟨f0, f1, f2⟩ := val_frozen k1
 clear k0 k1
 go_wp2
 exact bodyPost_ret (v := .agg #[.int .i64 4, .int .i64 2, .string ⟨#[]⟩]) (by simp [results, Tryz.results26, go_sem, z0, z1, z2]) rfl ⟨rfl, set3 hb (by omega)⟩
theorem run_1 (k n a c : Int) (t : ByteArray) (q : Int) (w : World) (tl : (a == -9223372036854775808) = false) (e1 : IntKind.i64.wrap (-a) = q) (HN : Hid (∀ w, Ret 54 #[.agg #[.int .i64 k, .int .i64 n, .string t]] w (.tuple #[.int .i64 a, .int .i64 0]))) : Ret 26 #[.int .i64 1, .agg #[.int .i64 k, .int .i64 n, .string t]] w (.agg #[.int .i64 1, .int .i64 q, .string ⟨#[]⟩]) := by
 obtain ⟨hb, k0, k1⟩ := box2 w #[.int .i64 k, .int .i64 n, .string t] 26 #[.int .i64 0, .int .i64 0, .string ⟨#[]⟩] 26
 go_enter Tryz.func26, Tryz.ntmps26
 go_wp2_with (fail)
 generalize ((w.alloc (Obj.cells #[.int .i64 k, .int .i64 n, .string t] 26)).alloc (Obj.cells #[.int .i64 0, .int .i64 0, .string ⟨#[]⟩] 26)) = W0 at *
 refine (go2 (HN.out _) hb k0 k1).mono ?_; clear hb k0 k1; rintro e w0 ⟨rfl, hb, k0, k1⟩
 obtain ⟨c00, c01, c02⟩ := val_cells k0
 go_wp2_with (fail)
 refine (go2 (rnum14 q _) hb k0 k1).mono ?_; clear hb k0 k1; rintro e w1 ⟨rfl, hb, k0, k1⟩
 clear c00 c01 c02
 obtain ⟨c00, c01, c02⟩ := val_cells k0
 obtain ⟨z0, z1, z2⟩ := val_cells k1
 obtain ⟨f0, f1, f2⟩ := val_frozen k1
 clear k0 k1
 go_wp2
 exact bodyPost_ret (v := .agg #[.int .i64 1, .int .i64 q, .string ⟨#[]⟩]) (by simp [results, Tryz.results26, go_sem, z0, z1, z2]) rfl ⟨rfl, set3 hb (by omega)⟩
theorem run_2 (k n a c : Int) (t : ByteArray) (w : World) (HN : Hid (∀ w, Ret 54 #[.agg #[.int .i64 k, .int .i64 n, .string t]] w (.tuple #[.int .i64 a, .int .i64 0]))) : Ret 26 #[.int .i64 2, .agg #[.int .i64 k, .int .i64 n, .string t]] w (.agg #[.int .i64 1, .int .i64 a, .string ⟨#[]⟩]) := by
 obtain ⟨hb, k0, k1⟩ := box2 w #[.int .i64 k, .int .i64 n, .string t] 26 #[.int .i64 0, .int .i64 0, .string ⟨#[]⟩] 26
 go_enter Tryz.func26, Tryz.ntmps26
 go_wp2_with (fail)
 generalize ((w.alloc (Obj.cells #[.int .i64 k, .int .i64 n, .string t] 26)).alloc (Obj.cells #[.int .i64 0, .int .i64 0, .string ⟨#[]⟩] 26)) = W0 at *
 refine (go2 (HN.out _) hb k0 k1).mono ?_; clear hb k0 k1; rintro e w0 ⟨rfl, hb, k0, k1⟩
 obtain ⟨c00, c01, c02⟩ := val_cells k0
 go_wp2_with (fail)
 refine (go2 (rnum14 a _) hb k0 k1).mono ?_; clear hb k0 k1; rintro e w1 ⟨rfl, hb, k0, k1⟩
 clear c00 c01 c02
 obtain ⟨c00, c01, c02⟩ := val_cells k0
 obtain ⟨z0, z1, z2⟩ := val_cells k1
 obtain ⟨f0, f1, f2⟩ := val_frozen k1
 clear k0 k1
 go_wp2
 exact bodyPost_ret (v := .agg #[.int .i64 1, .int .i64 a, .string ⟨#[]⟩]) (by simp [results, Tryz.results26, go_sem, z0, z1, z2]) rfl ⟨rfl, set3 hb (by omega)⟩
theorem run_3 (k n a c : Int) (t : ByteArray) (q : Int) (w : World) (e0 : a.tdiv 100 = q) (e1 : Go.RowKit.wrap64 q = q) (HN : Hid (∀ w, Ret 54 #[.agg #[.int .i64 k, .int .i64 n, .string t]] w (.tuple #[.int .i64 a, .int .i64 0]))) : Ret 26 #[.int .i64 3, .agg #[.int .i64 k, .int .i64 n, .string t]] w (.agg #[.int .i64 1, .int .i64 q, .string ⟨#[]⟩]) := by
 obtain ⟨hb, k0, k1⟩ := box2 w #[.int .i64 k, .int .i64 n, .string t] 26 #[.int .i64 0, .int .i64 0, .string ⟨#[]⟩] 26
 go_enter Tryz.func26, Tryz.ntmps26
 go_wp2_with (fail)
 generalize ((w.alloc (Obj.cells #[.int .i64 k, .int .i64 n, .string t] 26)).alloc (Obj.cells #[.int .i64 0, .int .i64 0, .string ⟨#[]⟩] 26)) = W0 at *
 refine (go2 (HN.out _) hb k0 k1).mono ?_; clear hb k0 k1; rintro e w0 ⟨rfl, hb, k0, k1⟩
 obtain ⟨c00, c01, c02⟩ := val_cells k0
 go_wp2_with (fail)
 refine (go2 (rnum14 q _) hb k0 k1).mono ?_; clear hb k0 k1; rintro e w1 ⟨rfl, hb, k0, k1⟩
 clear c00 c01 c02
 obtain ⟨c00, c01, c02⟩ := val_cells k0
 obtain ⟨z0, z1, z2⟩ := val_cells k1
 obtain ⟨f0, f1, f2⟩ := val_frozen k1
 clear k0 k1
 go_wp2
 exact bodyPost_ret (v := .agg #[.int .i64 1, .int .i64 q, .string ⟨#[]⟩]) (by simp [results, Tryz.results26, go_sem, z0, z1, z2]) rfl ⟨rfl, set3 hb (by omega)⟩
theorem rbin_lo (op : Int) (k n yk yn : Int) (t yt : ByteArray) (w : World) (t1 : decide (op < 1) = true) : Ret 27 #[.int .i64 op, .agg #[.int .i64 k, .int .i64 n, .string t], .agg #[.int .i64 yk, .int .i64 yn, .string yt]] w (.agg #[.int .i64 4, .int .i64 4, .string ⟨#[]⟩]) := by
 obtain ⟨hb, k0, k1, k2⟩ := box3 w #[.int .i64 k, .int .i64 n, .string t] 26 #[.int .i64 yk, .int .i64 yn, .string yt] 26 #[.int .i64 0, .int .i64 0, .string ⟨#[]⟩] 26
 go_enter Tryz.func27, Tryz.ntmps27
 go_wp2_with (fail)
 generalize (((w.alloc (Obj.cells #[.int .i64 k, .int .i64 n, .string t] 26)).alloc (Obj.cells #[.int .i64 yk, .int .i64 yn, .string yt] 26)).alloc (Obj.cells #[.int .i64 0, .int .i64 0, .string ⟨#[]⟩] 26)) = W0 at *
 refine (go3 (rbad14 4 _) hb k0 k1 k2).mono ?_; clear hb k0 k1 k2; rintro e w0 ⟨rfl, hb, k0, k1, k2⟩
 obtain ⟨c00, c01, c02⟩ := val_cells k0
 obtain ⟨c10, c11, c12⟩ := val_cells k1
 obtain ⟨z0, z1, z2⟩ := val_cells k2
 obtain ⟨f0, f1, f2⟩ := val_frozen k2
 clear k0 k1 k2
 go_wp2
 exact bodyPost_ret (v := .agg #[.int .i64 4, .int .i64 4, .string ⟨#[]⟩]) (by simp [results, Tryz.results27, go_sem, z0, z1, z2]) rfl ⟨rfl, set3 hb (by omega)⟩
theorem rbin_hi (op : Int) (k n yk yn : Int) (t yt : ByteArray) (w : World) (t1 : decide (op < 1) = false) (t2 : decide (12 < op) = true) : Ret 27 #[.int .i64 op, .agg #[.int .i64 k, .int .i64 n, .string t], .agg #[.int .i64 yk, .int .i64 yn, .string yt]] w (.agg #[.int .i64 4, .int .i64 4, .string ⟨#[]⟩]) := by
 obtain ⟨hb, k0, k1, k2⟩ := box3 w #[.int .i64 k, .int .i64 n, .string t] 26 #[.int .i64 yk, .int .i64 yn, .string yt] 26 #[.int .i64 0, .int .i64 0, .string ⟨#[]⟩] 26
 go_enter Tryz.func27, Tryz.ntmps27
 go_wp2_with (fail)
 generalize (((w.alloc (Obj.cells #[.int .i64 k, .int .i64 n, .string t] 26)).alloc (Obj.cells #[.int .i64 yk, .int .i64 yn, .string yt] 26)).alloc (Obj.cells #[.int .i64 0, .int .i64 0, .string ⟨#[]⟩] 26)) = W0 at *
 refine (go3 (rbad14 4 _) hb k0 k1 k2).mono ?_; clear hb k0 k1 k2; rintro e w0 ⟨rfl, hb, k0, k1, k2⟩
 obtain ⟨c00, c01, c02⟩ := val_cells k0
 obtain ⟨c10, c11, c12⟩ := val_cells k1
 obtain ⟨z0, z1, z2⟩ := val_cells k2
 obtain ⟨f0, f1, f2⟩ := val_frozen k2
 clear k0 k1 k2
 go_wp2
 exact bodyPost_ret (v := .agg #[.int .i64 4, .int .i64 4, .string ⟨#[]⟩]) (by simp [results, Tryz.results27, go_sem, z0, z1, z2]) rfl ⟨rfl, set3 hb (by omega)⟩
theorem rbin_wx (op c : Int) (k n yk yn : Int) (t yt : ByteArray) (w : World) (t1 : decide (op < 1) = false) (t2 : decide (12 < op) = false) (tc : (c != 0) = true) (HWX : Hid (∀ w, Ret 56 #[.agg #[.int .i64 k, .int .i64 n, .string t]] w (.int .i64 c))) : Ret 27 #[.int .i64 op, .agg #[.int .i64 k, .int .i64 n, .string t], .agg #[.int .i64 yk, .int .i64 yn, .string yt]] w (.agg #[.int .i64 4, .int .i64 c, .string ⟨#[]⟩]) := by
 obtain ⟨hb, k0, k1, k2⟩ := box3 w #[.int .i64 k, .int .i64 n, .string t] 26 #[.int .i64 yk, .int .i64 yn, .string yt] 26 #[.int .i64 0, .int .i64 0, .string ⟨#[]⟩] 26
 go_enter Tryz.func27, Tryz.ntmps27
 go_wp2_with (fail)
 generalize (((w.alloc (Obj.cells #[.int .i64 k, .int .i64 n, .string t] 26)).alloc (Obj.cells #[.int .i64 yk, .int .i64 yn, .string yt] 26)).alloc (Obj.cells #[.int .i64 0, .int .i64 0, .string ⟨#[]⟩] 26)) = W0 at *
 refine (go3 (HWX.out _) hb k0 k1 k2).mono ?_; clear hb k0 k1 k2; rintro e w0 ⟨rfl, hb, k0, k1, k2⟩
 obtain ⟨c00, c01, c02⟩ := val_cells k0
 obtain ⟨c10, c11, c12⟩ := val_cells k1
 go_wp2_with (fail)
 refine (go3 (HWX.out _) hb k0 k1 k2).mono ?_; clear hb k0 k1 k2; rintro e w1 ⟨rfl, hb, k0, k1, k2⟩
 clear c00 c01 c02 c10 c11 c12
 obtain ⟨c00, c01, c02⟩ := val_cells k0
 obtain ⟨c10, c11, c12⟩ := val_cells k1
 go_wp2_with (fail)
 refine (go3 (rbad14 c _) hb k0 k1 k2).mono ?_; clear hb k0 k1 k2; rintro e w2 ⟨rfl, hb, k0, k1, k2⟩
 clear c00 c01 c02 c10 c11 c12
 obtain ⟨c00, c01, c02⟩ := val_cells k0
 obtain ⟨c10, c11, c12⟩ := val_cells k1
 obtain ⟨z0, z1, z2⟩ := val_cells k2
 obtain ⟨f0, f1, f2⟩ := val_frozen k2
 clear k0 k1 k2
 go_wp2
 exact bodyPost_ret (v := .agg #[.int .i64 4, .int .i64 c, .string ⟨#[]⟩]) (by simp [results, Tryz.results27, go_sem, z0, z1, z2]) rfl ⟨rfl, set3 hb (by omega)⟩
theorem rbin_wy (op c : Int) (k n yk yn : Int) (t yt : ByteArray) (w : World) (t1 : decide (op < 1) = false) (t2 : decide (12 < op) = false) (tc : (c != 0) = true) (HWX : Hid (∀ w, Ret 56 #[.agg #[.int .i64 k, .int .i64 n, .string t]] w (.int .i64 0))) (HWY : Hid (∀ w, Ret 56 #[.agg #[.int .i64 yk, .int .i64 yn, .string yt]] w (.int .i64 c))) : Ret 27 #[.int .i64 op, .agg #[.int .i64 k, .int .i64 n, .string t], .agg #[.int .i64 yk, .int .i64 yn, .string yt]] w (.agg #[.int .i64 4, .int .i64 c, .string ⟨#[]⟩]) := by
 obtain ⟨hb, k0, k1, k2⟩ := box3 w #[.int .i64 k, .int .i64 n, .string t] 26 #[.int .i64 yk, .int .i64 yn, .string yt] 26 #[.int .i64 0, .int .i64 0, .string ⟨#[]⟩] 26
 go_enter Tryz.func27, Tryz.ntmps27
 go_wp2_with (fail)
 generalize (((w.alloc (Obj.cells #[.int .i64 k, .int .i64 n, .string t] 26)).alloc (Obj.cells #[.int .i64 yk, .int .i64 yn, .string yt] 26)).alloc (Obj.cells #[.int .i64 0, .int .i64 0, .string ⟨#[]⟩] 26)) = W0 at *
 refine (go3 (HWX.out _) hb k0 k1 k2).mono ?_; clear hb k0 k1 k2; rintro e w0 ⟨rfl, hb, k0, k1, k2⟩
 obtain ⟨c00, c01, c02⟩ := val_cells k0
 obtain ⟨c10, c11, c12⟩ := val_cells k1
 go_wp2_with (fail)
 refine (go3 (HWY.out _) hb k0 k1 k2).mono ?_; clear hb k0 k1 k2; rintro e w1 ⟨rfl, hb, k0, k1, k2⟩
 clear c00 c01 c02 c10 c11 c12
 obtain ⟨c00, c01, c02⟩ := val_cells k0
 obtain ⟨c10, c11, c12⟩ := val_cells k1
 go_wp2_with (fail)
 refine (go3 (HWY.out _) hb k0 k1 k2).mono ?_; clear hb k0 k1 k2; rintro e w2 ⟨rfl, hb, k0, k1, k2⟩
 clear c00 c01 c02 c10 c11 c12
 obtain ⟨c00, c01, c02⟩ := val_cells k0
 obtain ⟨c10, c11, c12⟩ := val_cells k1
 go_wp2_with (fail)
 refine (go3 (rbad14 c _) hb k0 k1 k2).mono ?_; clear hb k0 k1 k2; rintro e w3 ⟨rfl, hb, k0, k1, k2⟩
 clear c00 c01 c02 c10 c11 c12
 obtain ⟨c00, c01, c02⟩ := val_cells k0
 obtain ⟨c10, c11, c12⟩ := val_cells k1
 obtain ⟨z0, z1, z2⟩ := val_cells k2
 obtain ⟨f0, f1, f2⟩ := val_frozen k2
 clear k0 k1 k2
 go_wp2
 exact bodyPost_ret (v := .agg #[.int .i64 4, .int .i64 c, .string ⟨#[]⟩]) (by simp [results, Tryz.results27, go_sem, z0, z1, z2]) rfl ⟨rfl, set3 hb (by omega)⟩
theorem rbin_6 (rk rn ue ve : Int) (u v x rt : ByteArray) (k n yk yn : Int) (t yt : ByteArray) (w : World) (n1 : ¬ 9223372036854775807 < u.size + v.size) (hx : u ++ v = x) (HWX : Hid (∀ w, Ret 56 #[.agg #[.int .i64 k, .int .i64 n, .string t]] w (.int .i64 0))) (HWY : Hid (∀ w, Ret 56 #[.agg #[.int .i64 yk, .int .i64 yn, .string yt]] w (.int .i64 0))) (HAX : Hid (∀ w, Ret 57 #[.agg #[.int .i64 k, .int .i64 n, .string t]] w (.tuple #[.string u, .int .i64 ue]))) (HAY : Hid (∀ w, Ret 57 #[.agg #[.int .i64 yk, .int .i64 yn, .string yt]] w (.tuple #[.string v, .int .i64 ve]))) (HT : Hid (∀ w, Ret 58 #[.string x] w (.agg #[.int .i64 rk, .int .i64 rn, .string rt]))) : Ret 27 #[.int .i64 6, .agg #[.int .i64 k, .int .i64 n, .string t], .agg #[.int .i64 yk, .int .i64 yn, .string yt]] w (.agg #[.int .i64 rk, .int .i64 rn, .string rt]) := by
 obtain ⟨hb, k0, k1, k2⟩ := box3 w #[.int .i64 k, .int .i64 n, .string t] 26 #[.int .i64 yk, .int .i64 yn, .string yt] 26 #[.int .i64 0, .int .i64 0, .string ⟨#[]⟩] 26
 go_enter Tryz.func27, Tryz.ntmps27
 go_wp2_with (fail)
 generalize (((w.alloc (Obj.cells #[.int .i64 k, .int .i64 n, .string t] 26)).alloc (Obj.cells #[.int .i64 yk, .int .i64 yn, .string yt] 26)).alloc (Obj.cells #[.int .i64 0, .int .i64 0, .string ⟨#[]⟩] 26)) = W0 at *
 refine (go3 (HWX.out _) hb k0 k1 k2).mono ?_; clear hb k0 k1 k2; rintro e w0 ⟨rfl, hb, k0, k1, k2⟩
 obtain ⟨c00, c01, c02⟩ := val_cells k0
 obtain ⟨c10, c11, c12⟩ := val_cells k1
 go_wp2_with (fail)
 refine (go3 (HWY.out _) hb k0 k1 k2).mono ?_; clear hb k0 k1 k2; rintro e w1 ⟨rfl, hb, k0, k1, k2⟩
 clear c00 c01 c02 c10 c11 c12
 obtain ⟨c00, c01, c02⟩ := val_cells k0
 obtain ⟨c10, c11, c12⟩ := val_cells k1
 go_wp2_with (fail)
 refine (go3 (HAX.out _) hb k0 k1 k2).mono ?_; clear hb k0 k1 k2; rintro e w2 ⟨rfl, hb, k0, k1, k2⟩
 clear c00 c01 c02 c10 c11 c12
 obtain ⟨c00, c01, c02⟩ := val_cells k0
 obtain ⟨c10, c11, c12⟩ := val_cells k1
 go_wp2_with (fail)
 refine (go3 (HAY.out _) hb k0 k1 k2).mono ?_; clear hb k0 k1 k2; rintro e w3 ⟨rfl, hb, k0, k1, k2⟩
 clear c00 c01 c02 c10 c11 c12
 obtain ⟨c00, c01, c02⟩ := val_cells k0
 obtain ⟨c10, c11, c12⟩ := val_cells k1
 go_wp2_with (fail)
 refine (go3 (HT.out _) hb k0 k1 k2).mono ?_; clear hb k0 k1 k2; rintro e w4 ⟨rfl, hb, k0, k1, k2⟩
 clear c00 c01 c02 c10 c11 c12
 obtain ⟨c00, c01, c02⟩ := val_cells k0
 obtain ⟨c10, c11, c12⟩ := val_cells k1
 obtain ⟨z0, z1, z2⟩ := val_cells k2
 obtain ⟨f0, f1, f2⟩ := val_frozen k2
 clear k0 k1 k2
 go_wp2
 exact bodyPost_ret (v := .agg #[.int .i64 rk, .int .i64 rn, .string rt]) (by simp [results, Tryz.results27, go_sem, z0, z1, z2]) rfl ⟨rfl, set3 hb (by omega)⟩
theorem rbin_7 (rk rn c : Int) (rt : ByteArray) (b : Bool) (k n yk yn : Int) (t yt : ByteArray) (w : World) (hb0 : (c == 0) = b) (HWX : Hid (∀ w, Ret 56 #[.agg #[.int .i64 k, .int .i64 n, .string t]] w (.int .i64 0))) (HWY : Hid (∀ w, Ret 56 #[.agg #[.int .i64 yk, .int .i64 yn, .string yt]] w (.int .i64 0))) (HC : Hid (∀ w, Ret 59 #[.agg #[.int .i64 k, .int .i64 n, .string t], .agg #[.int .i64 yk, .int .i64 yn, .string yt]] w (.int .i64 c))) (HB : Hid (∀ w, Ret 50 #[.bool b] w (.agg #[.int .i64 rk, .int .i64 rn, .string rt]))) : Ret 27 #[.int .i64 7, .agg #[.int .i64 k, .int .i64 n, .string t], .agg #[.int .i64 yk, .int .i64 yn, .string yt]] w (.agg #[.int .i64 rk, .int .i64 rn, .string rt]) := by
 obtain ⟨hb, k0, k1, k2⟩ := box3 w #[.int .i64 k, .int .i64 n, .string t] 26 #[.int .i64 yk, .int .i64 yn, .string yt] 26 #[.int .i64 0, .int .i64 0, .string ⟨#[]⟩] 26
 go_enter Tryz.func27, Tryz.ntmps27
 go_wp2_with (fail)
 generalize (((w.alloc (Obj.cells #[.int .i64 k, .int .i64 n, .string t] 26)).alloc (Obj.cells #[.int .i64 yk, .int .i64 yn, .string yt] 26)).alloc (Obj.cells #[.int .i64 0, .int .i64 0, .string ⟨#[]⟩] 26)) = W0 at *
 refine (go3 (HWX.out _) hb k0 k1 k2).mono ?_; clear hb k0 k1 k2; rintro e w0 ⟨rfl, hb, k0, k1, k2⟩
 obtain ⟨c00, c01, c02⟩ := val_cells k0
 obtain ⟨c10, c11, c12⟩ := val_cells k1
 go_wp2_with (fail)
 refine (go3 (HWY.out _) hb k0 k1 k2).mono ?_; clear hb k0 k1 k2; rintro e w1 ⟨rfl, hb, k0, k1, k2⟩
 clear c00 c01 c02 c10 c11 c12
 obtain ⟨c00, c01, c02⟩ := val_cells k0
 obtain ⟨c10, c11, c12⟩ := val_cells k1
 go_wp2_with (fail)
 refine (go3 (HC.out _) hb k0 k1 k2).mono ?_; clear hb k0 k1 k2; rintro e w2 ⟨rfl, hb, k0, k1, k2⟩
 clear c00 c01 c02 c10 c11 c12
 obtain ⟨c00, c01, c02⟩ := val_cells k0
 obtain ⟨c10, c11, c12⟩ := val_cells k1
 go_wp2_with (fail)
 refine (go3 (HB.out _) hb k0 k1 k2).mono ?_; clear hb k0 k1 k2; rintro e w3 ⟨rfl, hb, k0, k1, k2⟩
 clear c00 c01 c02 c10 c11 c12
 obtain ⟨c00, c01, c02⟩ := val_cells k0
 obtain ⟨c10, c11, c12⟩ := val_cells k1
 obtain ⟨z0, z1, z2⟩ := val_cells k2
 obtain ⟨f0, f1, f2⟩ := val_frozen k2
 clear k0 k1 k2
 go_wp2
 exact bodyPost_ret (v := .agg #[.int .i64 rk, .int .i64 rn, .string rt]) (by simp [results, Tryz.results27, go_sem, z0, z1, z2]) rfl ⟨rfl, set3 hb (by omega)⟩
theorem rbin_8 (rk rn c : Int) (rt : ByteArray) (b : Bool) (k n yk yn : Int) (t yt : ByteArray) (w : World) (hb0 : (c != 0) = b) (HWX : Hid (∀ w, Ret 56 #[.agg #[.int .i64 k, .int .i64 n, .string t]] w (.int .i64 0))) (HWY : Hid (∀ w, Ret 56 #[.agg #[.int .i64 yk, .int .i64 yn, .string yt]] w (.int .i64 0))) (HC : Hid (∀ w, Ret 59 #[.agg #[.int .i64 k, .int .i64 n, .string t], .agg #[.int .i64 yk, .int .i64 yn, .string yt]] w (.int .i64 c))) (HB : Hid (∀ w, Ret 50 #[.bool b] w (.agg #[.int .i64 rk, .int .i64 rn, .string rt]))) : Ret 27 #[.int .i64 8, .agg #[.int .i64 k, .int .i64 n, .string t], .agg #[.int .i64 yk, .int .i64 yn, .string yt]] w (.agg #[.int .i64 rk, .int .i64 rn, .string rt]) := by
 obtain ⟨hb, k0, k1, k2⟩ := box3 w #[.int .i64 k, .int .i64 n, .string t] 26 #[.int .i64 yk, .int .i64 yn, .string yt] 26 #[.int .i64 0, .int .i64 0, .string ⟨#[]⟩] 26
 go_enter Tryz.func27, Tryz.ntmps27
 go_wp2_with (fail)
 generalize (((w.alloc (Obj.cells #[.int .i64 k, .int .i64 n, .string t] 26)).alloc (Obj.cells #[.int .i64 yk, .int .i64 yn, .string yt] 26)).alloc (Obj.cells #[.int .i64 0, .int .i64 0, .string ⟨#[]⟩] 26)) = W0 at *
 refine (go3 (HWX.out _) hb k0 k1 k2).mono ?_; clear hb k0 k1 k2; rintro e w0 ⟨rfl, hb, k0, k1, k2⟩
 obtain ⟨c00, c01, c02⟩ := val_cells k0
 obtain ⟨c10, c11, c12⟩ := val_cells k1
 go_wp2_with (fail)
 refine (go3 (HWY.out _) hb k0 k1 k2).mono ?_; clear hb k0 k1 k2; rintro e w1 ⟨rfl, hb, k0, k1, k2⟩
 clear c00 c01 c02 c10 c11 c12
 obtain ⟨c00, c01, c02⟩ := val_cells k0
 obtain ⟨c10, c11, c12⟩ := val_cells k1
 go_wp2_with (fail)
 refine (go3 (HC.out _) hb k0 k1 k2).mono ?_; clear hb k0 k1 k2; rintro e w2 ⟨rfl, hb, k0, k1, k2⟩
 clear c00 c01 c02 c10 c11 c12
 obtain ⟨c00, c01, c02⟩ := val_cells k0
 obtain ⟨c10, c11, c12⟩ := val_cells k1
 go_wp2_with (fail)
 refine (go3 (HB.out _) hb k0 k1 k2).mono ?_; clear hb k0 k1 k2; rintro e w3 ⟨rfl, hb, k0, k1, k2⟩
 clear c00 c01 c02 c10 c11 c12
 obtain ⟨c00, c01, c02⟩ := val_cells k0
 obtain ⟨c10, c11, c12⟩ := val_cells k1
 obtain ⟨z0, z1, z2⟩ := val_cells k2
 obtain ⟨f0, f1, f2⟩ := val_frozen k2
 clear k0 k1 k2
 go_wp2
 exact bodyPost_ret (v := .agg #[.int .i64 rk, .int .i64 rn, .string rt]) (by simp [results, Tryz.results27, go_sem, z0, z1, z2]) rfl ⟨rfl, set3 hb (by omega)⟩
theorem rbin_9 (rk rn c : Int) (rt : ByteArray) (b : Bool) (k n yk yn : Int) (t yt : ByteArray) (w : World) (hb0 : decide (c < 0) = b) (HWX : Hid (∀ w, Ret 56 #[.agg #[.int .i64 k, .int .i64 n, .string t]] w (.int .i64 0))) (HWY : Hid (∀ w, Ret 56 #[.agg #[.int .i64 yk, .int .i64 yn, .string yt]] w (.int .i64 0))) (HC : Hid (∀ w, Ret 59 #[.agg #[.int .i64 k, .int .i64 n, .string t], .agg #[.int .i64 yk, .int .i64 yn, .string yt]] w (.int .i64 c))) (HB : Hid (∀ w, Ret 50 #[.bool b] w (.agg #[.int .i64 rk, .int .i64 rn, .string rt]))) : Ret 27 #[.int .i64 9, .agg #[.int .i64 k, .int .i64 n, .string t], .agg #[.int .i64 yk, .int .i64 yn, .string yt]] w (.agg #[.int .i64 rk, .int .i64 rn, .string rt]) := by
 obtain ⟨hb, k0, k1, k2⟩ := box3 w #[.int .i64 k, .int .i64 n, .string t] 26 #[.int .i64 yk, .int .i64 yn, .string yt] 26 #[.int .i64 0, .int .i64 0, .string ⟨#[]⟩] 26
 go_enter Tryz.func27, Tryz.ntmps27
 go_wp2_with (fail)
 generalize (((w.alloc (Obj.cells #[.int .i64 k, .int .i64 n, .string t] 26)).alloc (Obj.cells #[.int .i64 yk, .int .i64 yn, .string yt] 26)).alloc (Obj.cells #[.int .i64 0, .int .i64 0, .string ⟨#[]⟩] 26)) = W0 at *
 refine (go3 (HWX.out _) hb k0 k1 k2).mono ?_; clear hb k0 k1 k2; rintro e w0 ⟨rfl, hb, k0, k1, k2⟩
 obtain ⟨c00, c01, c02⟩ := val_cells k0
 obtain ⟨c10, c11, c12⟩ := val_cells k1
 go_wp2_with (fail)
 refine (go3 (HWY.out _) hb k0 k1 k2).mono ?_; clear hb k0 k1 k2; rintro e w1 ⟨rfl, hb, k0, k1, k2⟩
 clear c00 c01 c02 c10 c11 c12
 obtain ⟨c00, c01, c02⟩ := val_cells k0
 obtain ⟨c10, c11, c12⟩ := val_cells k1
 go_wp2_with (fail)
 refine (go3 (HC.out _) hb k0 k1 k2).mono ?_; clear hb k0 k1 k2; rintro e w2 ⟨rfl, hb, k0, k1, k2⟩
 clear c00 c01 c02 c10 c11 c12
 obtain ⟨c00, c01, c02⟩ := val_cells k0
 obtain ⟨c10, c11, c12⟩ := val_cells k1
 go_wp2_with (fail)
 refine (go3 (HB.out _) hb k0 k1 k2).mono ?_; clear hb k0 k1 k2; rintro e w3 ⟨rfl, hb, k0, k1, k2⟩
 clear c00 c01 c02 c10 c11 c12
 obtain ⟨c00, c01, c02⟩ := val_cells k0
 obtain ⟨c10, c11, c12⟩ := val_cells k1
 obtain ⟨z0, z1, z2⟩ := val_cells k2
 obtain ⟨f0, f1, f2⟩ := val_frozen k2
 clear k0 k1 k2
 go_wp2
 exact bodyPost_ret (v := .agg #[.int .i64 rk, .int .i64 rn, .string rt]) (by simp [results, Tryz.results27, go_sem, z0, z1, z2]) rfl ⟨rfl, set3 hb (by omega)⟩
theorem rbin_10 (rk rn c : Int) (rt : ByteArray) (b : Bool) (k n yk yn : Int) (t yt : ByteArray) (w : World) (hb0 : decide (c ≤ 0) = b) (HWX : Hid (∀ w, Ret 56 #[.agg #[.int .i64 k, .int .i64 n, .string t]] w (.int .i64 0))) (HWY : Hid (∀ w, Ret 56 #[.agg #[.int .i64 yk, .int .i64 yn, .string yt]] w (.int .i64 0))) (HC : Hid (∀ w, Ret 59 #[.agg #[.int .i64 k, .int .i64 n, .string t], .agg #[.int .i64 yk, .int .i64 yn, .string yt]] w (.int .i64 c))) (HB : Hid (∀ w, Ret 50 #[.bool b] w (.agg #[.int .i64 rk, .int .i64 rn, .string rt]))) : Ret 27 #[.int .i64 10, .agg #[.int .i64 k, .int .i64 n, .string t], .agg #[.int .i64 yk, .int .i64 yn, .string yt]] w (.agg #[.int .i64 rk, .int .i64 rn, .string rt]) := by
 obtain ⟨hb, k0, k1, k2⟩ := box3 w #[.int .i64 k, .int .i64 n, .string t] 26 #[.int .i64 yk, .int .i64 yn, .string yt] 26 #[.int .i64 0, .int .i64 0, .string ⟨#[]⟩] 26
 go_enter Tryz.func27, Tryz.ntmps27
 go_wp2_with (fail)
 generalize (((w.alloc (Obj.cells #[.int .i64 k, .int .i64 n, .string t] 26)).alloc (Obj.cells #[.int .i64 yk, .int .i64 yn, .string yt] 26)).alloc (Obj.cells #[.int .i64 0, .int .i64 0, .string ⟨#[]⟩] 26)) = W0 at *
 refine (go3 (HWX.out _) hb k0 k1 k2).mono ?_; clear hb k0 k1 k2; rintro e w0 ⟨rfl, hb, k0, k1, k2⟩
 obtain ⟨c00, c01, c02⟩ := val_cells k0
 obtain ⟨c10, c11, c12⟩ := val_cells k1
 go_wp2_with (fail)
 refine (go3 (HWY.out _) hb k0 k1 k2).mono ?_; clear hb k0 k1 k2; rintro e w1 ⟨rfl, hb, k0, k1, k2⟩
 clear c00 c01 c02 c10 c11 c12
 obtain ⟨c00, c01, c02⟩ := val_cells k0
 obtain ⟨c10, c11, c12⟩ := val_cells k1
 go_wp2_with (fail)
 refine (go3 (HC.out _) hb k0 k1 k2).mono ?_; clear hb k0 k1 k2; rintro e w2 ⟨rfl, hb, k0, k1, k2⟩
 clear c00 c01 c02 c10 c11 c12
 obtain ⟨c00, c01, c02⟩ := val_cells k0
 obtain ⟨c10, c11, c12⟩ := val_cells k1
 go_wp2_with (fail)
 refine (go3 (HB.out _) hb k0 k1 k2).mono ?_; clear hb k0 k1 k2; rintro e w3 ⟨rfl, hb, k0, k1, k2⟩
 clear c00 c01 c02 c10 c11 c12
 obtain ⟨c00, c01, c02⟩ := val_cells k0
 obtain ⟨c10, c11, c12⟩ := val_cells k1
 obtain ⟨z0, z1, z2⟩ := val_cells k2
 obtain ⟨f0, f1, f2⟩ := val_frozen k2
 clear k0 k1 k2
 go_wp2
 exact bodyPost_ret (v := .agg #[.int .i64 rk, .int .i64 rn, .string rt]) (by simp [results, Tryz.results27, go_sem, z0, z1, z2]) rfl ⟨rfl, set3 hb (by omega)⟩
theorem rbin_11 (rk rn c : Int) (rt : ByteArray) (b : Bool) (k n yk yn : Int) (t yt : ByteArray) (w : World) (hb0 : decide (0 < c) = b) (HWX : Hid (∀ w, Ret 56 #[.agg #[.int .i64 k, .int .i64 n, .string t]] w (.int .i64 0))) (HWY : Hid (∀ w, Ret 56 #[.agg #[.int .i64 yk, .int .i64 yn, .string yt]] w (.int .i64 0))) (HC : Hid (∀ w, Ret 59 #[.agg #[.int .i64 k, .int .i64 n, .string t], .agg #[.int .i64 yk, .int .i64 yn, .string yt]] w (.int .i64 c))) (HB : Hid (∀ w, Ret 50 #[.bool b] w (.agg #[.int .i64 rk, .int .i64 rn, .string rt]))) : Ret 27 #[.int .i64 11, .agg #[.int .i64 k, .int .i64 n, .string t], .agg #[.int .i64 yk, .int .i64 yn, .string yt]] w (.agg #[.int .i64 rk, .int .i64 rn, .string rt]) := by
 obtain ⟨hb, k0, k1, k2⟩ := box3 w #[.int .i64 k, .int .i64 n, .string t] 26 #[.int .i64 yk, .int .i64 yn, .string yt] 26 #[.int .i64 0, .int .i64 0, .string ⟨#[]⟩] 26
 go_enter Tryz.func27, Tryz.ntmps27
 go_wp2_with (fail)
 generalize (((w.alloc (Obj.cells #[.int .i64 k, .int .i64 n, .string t] 26)).alloc (Obj.cells #[.int .i64 yk, .int .i64 yn, .string yt] 26)).alloc (Obj.cells #[.int .i64 0, .int .i64 0, .string ⟨#[]⟩] 26)) = W0 at *
 refine (go3 (HWX.out _) hb k0 k1 k2).mono ?_; clear hb k0 k1 k2; rintro e w0 ⟨rfl, hb, k0, k1, k2⟩
 obtain ⟨c00, c01, c02⟩ := val_cells k0
 obtain ⟨c10, c11, c12⟩ := val_cells k1
 go_wp2_with (fail)
 refine (go3 (HWY.out _) hb k0 k1 k2).mono ?_; clear hb k0 k1 k2; rintro e w1 ⟨rfl, hb, k0, k1, k2⟩
 clear c00 c01 c02 c10 c11 c12
 obtain ⟨c00, c01, c02⟩ := val_cells k0
 obtain ⟨c10, c11, c12⟩ := val_cells k1
 go_wp2_with (fail)
 refine (go3 (HC.out _) hb k0 k1 k2).mono ?_; clear hb k0 k1 k2; rintro e w2 ⟨rfl, hb, k0, k1, k2⟩
 clear c00 c01 c02 c10 c11 c12
 obtain ⟨c00, c01, c02⟩ := val_cells k0
 obtain ⟨c10, c11, c12⟩ := val_cells k1
 go_wp2_with (fail)
 refine (go3 (HB.out _) hb k0 k1 k2).mono ?_; clear hb k0 k1 k2; rintro e w3 ⟨rfl, hb, k0, k1, k2⟩
 clear c00 c01 c02 c10 c11 c12
 obtain ⟨c00, c01, c02⟩ := val_cells k0
 obtain ⟨c10, c11, c12⟩ := val_cells k1
 obtain ⟨z0, z1, z2⟩ := val_cells k2
 obtain ⟨f0, f1, f2⟩ := val_frozen k2
 clear k0 k1 k2
 go_wp2
 exact bodyPost_ret (v := .agg #[.int .i64 rk, .int .i64 rn, .string rt]) (by simp [results, Tryz.results27, go_sem, z0, z1, z2]) rfl ⟨rfl, set3 hb (by omega)⟩
theorem rbin_12 (rk rn c : Int) (rt : ByteArray) (b : Bool) (k n yk yn : Int) (t yt : ByteArray) (w : World) (hb0 : decide (0 ≤ c) = b) (HWX : Hid (∀ w, Ret 56 #[.agg #[.int .i64 k, .int .i64 n, .string t]] w (.int .i64 0))) (HWY : Hid (∀ w, Ret 56 #[.agg #[.int .i64 yk, .int .i64 yn, .string yt]] w (.int .i64 0))) (HC : Hid (∀ w, Ret 59 #[.agg #[.int .i64 k, .int .i64 n, .string t], .agg #[.int .i64 yk, .int .i64 yn, .string yt]] w (.int .i64 c))) (HB : Hid (∀ w, Ret 50 #[.bool b] w (.agg #[.int .i64 rk, .int .i64 rn, .string rt]))) : Ret 27 #[.int .i64 12, .agg #[.int .i64 k, .int .i64 n, .string t], .agg #[.int .i64 yk, .int .i64 yn, .string yt]] w (.agg #[.int .i64 rk, .int .i64 rn, .string rt]) := by
 obtain ⟨hb, k0, k1, k2⟩ := box3 w #[.int .i64 k, .int .i64 n, .string t] 26 #[.int .i64 yk, .int .i64 yn, .string yt] 26 #[.int .i64 0, .int .i64 0, .string ⟨#[]⟩] 26
 go_enter Tryz.func27, Tryz.ntmps27
 go_wp2_with (fail)
 generalize (((w.alloc (Obj.cells #[.int .i64 k, .int .i64 n, .string t] 26)).alloc (Obj.cells #[.int .i64 yk, .int .i64 yn, .string yt] 26)).alloc (Obj.cells #[.int .i64 0, .int .i64 0, .string ⟨#[]⟩] 26)) = W0 at *
 refine (go3 (HWX.out _) hb k0 k1 k2).mono ?_; clear hb k0 k1 k2; rintro e w0 ⟨rfl, hb, k0, k1, k2⟩
 obtain ⟨c00, c01, c02⟩ := val_cells k0
 obtain ⟨c10, c11, c12⟩ := val_cells k1
 go_wp2_with (fail)
 refine (go3 (HWY.out _) hb k0 k1 k2).mono ?_; clear hb k0 k1 k2; rintro e w1 ⟨rfl, hb, k0, k1, k2⟩
 clear c00 c01 c02 c10 c11 c12
 obtain ⟨c00, c01, c02⟩ := val_cells k0
 obtain ⟨c10, c11, c12⟩ := val_cells k1
 go_wp2_with (fail)
 refine (go3 (HC.out _) hb k0 k1 k2).mono ?_; clear hb k0 k1 k2; rintro e w2 ⟨rfl, hb, k0, k1, k2⟩
 clear c00 c01 c02 c10 c11 c12
 obtain ⟨c00, c01, c02⟩ := val_cells k0
 obtain ⟨c10, c11, c12⟩ := val_cells k1
 go_wp2_with (fail)
 refine (go3 (HB.out _) hb k0 k1 k2).mono ?_; clear hb k0 k1 k2; rintro e w3 ⟨rfl, hb, k0, k1, k2⟩
 clear c00 c01 c02 c10 c11 c12
 obtain ⟨c00, c01, c02⟩ := val_cells k0
 obtain ⟨c10, c11, c12⟩ := val_cells k1
 obtain ⟨z0, z1, z2⟩ := val_cells k2
 obtain ⟨f0, f1, f2⟩ := val_frozen k2
 clear k0 k1 k2
 go_wp2
 exact bodyPost_ret (v := .agg #[.int .i64 rk, .int .i64 rn, .string rt]) (by simp [results, Tryz.results27, go_sem, z0, z1, z2]) rfl ⟨rfl, set3 hb (by omega)⟩
theorem rbin_nx (op a c e0 : Int) (k n yk yn : Int) (t yt : ByteArray) (w : World) (t1 : decide (op < 1) = false) (t2 : decide (12 < op) = false) (q6 : (op == 6) = false) (q7 : (op == 7) = false) (q8 : (op == 8) = false) (q9 : (op == 9) = false) (q10 : (op == 10) = false) (q11 : (op == 11) = false) (q12 : (op == 12) = false) (tc : (e0 != 0) = true) (HWX : Hid (∀ w, Ret 56 #[.agg #[.int .i64 k, .int .i64 n, .string t]] w (.int .i64 0))) (HWY : Hid (∀ w, Ret 56 #[.agg #[.int .i64 yk, .int .i64 yn, .string yt]] w (.int .i64 0))) (HC : Hid (∀ w, Ret 59 #[.agg #[.int .i64 k, .int .i64 n, .string t], .agg #[.int .i64 yk, .int .i64 yn, .string yt]] w (.int .i64 c))) (HNX : Hid (∀ w, Ret 54 #[.agg #[.int .i64 k, .int .i64 n, .string t]] w (.tuple #[.int .i64 a, .int .i64 e0]))) : Ret 27 #[.int .i64 op, .agg #[.int .i64 k, .int .i64 n, .string t], .agg #[.int .i64 yk, .int .i64 yn, .string yt]] w (.agg #[.int .i64 4, .int .i64 e0, .string ⟨#[]⟩]) := by
 obtain ⟨hb, k0, k1, k2⟩ := box3 w #[.int .i64 k, .int .i64 n, .string t] 26 #[.int .i64 yk, .int .i64 yn, .string yt] 26 #[.int .i64 0, .int .i64 0, .string ⟨#[]⟩] 26
 go_enter Tryz.func27, Tryz.ntmps27
 go_wp2_with (fail)
 generalize (((w.alloc (Obj.cells #[.int .i64 k, .int .i64 n, .string t] 26)).alloc (Obj.cells #[.int .i64 yk, .int .i64 yn, .string yt] 26)).alloc (Obj.cells #[.int .i64 0, .int .i64 0, .string ⟨#[]⟩] 26)) = W0 at *
 refine (go3 (HWX.out _) hb k0 k1 k2).mono ?_; clear hb k0 k1 k2; rintro e w0 ⟨rfl, hb, k0, k1, k2⟩
 obtain ⟨c00, c01, c02⟩ := val_cells k0
 obtain ⟨c10, c11, c12⟩ := val_cells k1
 go_wp2_with (fail)
 refine (go3 (HWY.out _) hb k0 k1 k2).mono ?_; clear hb k0 k1 k2; rintro e w1 ⟨rfl, hb, k0, k1, k2⟩
 clear c00 c01 c02 c10 c11 c12
 obtain ⟨c00, c01, c02⟩ := val_cells k0
 obtain ⟨c10, c11, c12⟩ := val_cells k1
 go_wp2_with (fail)
 refine (go3 (HC.out _) hb k0 k1 k2).mono ?_; clear hb k0 k1 k2; rintro e w2 ⟨rfl, hb, k0, k1, k2⟩
 clear c00 c01 c02 c10 c11 c12
 obtain ⟨c00, c01, c02⟩ := val_cells k0
 obtain ⟨c10, c11, c12⟩ := val_cells k1
 go_wp2_with (fail)
 refine (go3 (HNX.out _) hb k0 k1 k2).mono ?_; clear hb k0 k1 k2; rintro e w3 ⟨rfl, hb, k0, k1, k2⟩
 clear c00 c01 c02 c10 c11 c12
 obtain ⟨c00, c01, c02⟩ := val_cells k0
 obtain ⟨c10, c11, c12⟩ := val_cells k1
 go_wp2_with (fail)
 refine (go3 (rbad14 e0 _) hb k0 k1 k2).mono ?_; clear hb k0 k1 k2; rintro e w4 ⟨rfl, hb, k0, k1, k2⟩
 clear c00 c01 c02 c10 c11 c12
 obtain ⟨c00, c01, c02⟩ := val_cells k0
 obtain ⟨c10, c11, c12⟩ := val_cells k1
 obtain ⟨z0, z1, z2⟩ := val_cells k2
 obtain ⟨f0, f1, f2⟩ := val_frozen k2
 clear k0 k1 k2
 go_wp2
 exact bodyPost_ret (v := .agg #[.int .i64 4, .int .i64 e0, .string ⟨#[]⟩]) (by simp [results, Tryz.results27, go_sem, z0, z1, z2]) rfl ⟨rfl, set3 hb (by omega)⟩
theorem rbin_ny (op a b c e0 : Int) (k n yk yn : Int) (t yt : ByteArray) (w : World) (t1 : decide (op < 1) = false) (t2 : decide (12 < op) = false) (q6 : (op == 6) = false) (q7 : (op == 7) = false) (q8 : (op == 8) = false) (q9 : (op == 9) = false) (q10 : (op == 10) = false) (q11 : (op == 11) = false) (q12 : (op == 12) = false) (tc : (e0 != 0) = true) (HWX : Hid (∀ w, Ret 56 #[.agg #[.int .i64 k, .int .i64 n, .string t]] w (.int .i64 0))) (HWY : Hid (∀ w, Ret 56 #[.agg #[.int .i64 yk, .int .i64 yn, .string yt]] w (.int .i64 0))) (HC : Hid (∀ w, Ret 59 #[.agg #[.int .i64 k, .int .i64 n, .string t], .agg #[.int .i64 yk, .int .i64 yn, .string yt]] w (.int .i64 c))) (HNX : Hid (∀ w, Ret 54 #[.agg #[.int .i64 k, .int .i64 n, .string t]] w (.tuple #[.int .i64 a, .int .i64 0]))) (HNY : Hid (∀ w, Ret 54 #[.agg #[.int .i64 yk, .int .i64 yn, .string yt]] w (.tuple #[.int .i64 b, .int .i64 e0]))) : Ret 27 #[.int .i64 op, .agg #[.int .i64 k, .int .i64 n, .string t], .agg #[.int .i64 yk, .int .i64 yn, .string yt]] w (.agg #[.int .i64 4, .int .i64 e0, .string ⟨#[]⟩]) := by
 obtain ⟨hb, k0, k1, k2⟩ := box3 w #[.int .i64 k, .int .i64 n, .string t] 26 #[.int .i64 yk, .int .i64 yn, .string yt] 26 #[.int .i64 0, .int .i64 0, .string ⟨#[]⟩] 26
 go_enter Tryz.func27, Tryz.ntmps27
 go_wp2_with (fail)
 generalize (((w.alloc (Obj.cells #[.int .i64 k, .int .i64 n, .string t] 26)).alloc (Obj.cells #[.int .i64 yk, .int .i64 yn, .string yt] 26)).alloc (Obj.cells #[.int .i64 0, .int .i64 0, .string ⟨#[]⟩] 26)) = W0 at *
 refine (go3 (HWX.out _) hb k0 k1 k2).mono ?_; clear hb k0 k1 k2; rintro e w0 ⟨rfl, hb, k0, k1, k2⟩
 obtain ⟨c00, c01, c02⟩ := val_cells k0
 obtain ⟨c10, c11, c12⟩ := val_cells k1
 go_wp2_with (fail)
 refine (go3 (HWY.out _) hb k0 k1 k2).mono ?_; clear hb k0 k1 k2; rintro e w1 ⟨rfl, hb, k0, k1, k2⟩
 clear c00 c01 c02 c10 c11 c12
 obtain ⟨c00, c01, c02⟩ := val_cells k0
 obtain ⟨c10, c11, c12⟩ := val_cells k1
 go_wp2_with (fail)
 refine (go3 (HC.out _) hb k0 k1 k2).mono ?_; clear hb k0 k1 k2; rintro e w2 ⟨rfl, hb, k0, k1, k2⟩
 clear c00 c01 c02 c10 c11 c12
 obtain ⟨c00, c01, c02⟩ := val_cells k0
 obtain ⟨c10, c11, c12⟩ := val_cells k1
 go_wp2_with (fail)
 refine (go3 (HNX.out _) hb k0 k1 k2).mono ?_; clear hb k0 k1 k2; rintro e w3 ⟨rfl, hb, k0, k1, k2⟩
 clear c00 c01 c02 c10 c11 c12
 obtain ⟨c00, c01, c02⟩ := val_cells k0
 obtain ⟨c10, c11, c12⟩ := val_cells k1
 go_wp2_with (fail)
 refine (go3 (HNY.out _) hb k0 k1 k2).mono ?_; clear hb k0 k1 k2; rintro e w4 ⟨rfl, hb, k0, k1, k2⟩
 clear c00 c01 c02 c10 c11 c12
 obtain ⟨c00, c01, c02⟩ := val_cells k0
 obtain ⟨c10, c11, c12⟩ := val_cells k1
 go_wp2_with (fail)
 refine (go3 (rbad14 e0 _) hb k0 k1 k2).mono ?_; clear hb k0 k1 k2; rintro e w5 ⟨rfl, hb, k0, k1, k2⟩
 clear c00 c01 c02 c10 c11 c12
 obtain ⟨c00, c01, c02⟩ := val_cells k0
 obtain ⟨c10, c11, c12⟩ := val_cells k1
 obtain ⟨z0, z1, z2⟩ := val_cells k2
 obtain ⟨f0, f1, f2⟩ := val_frozen k2
 clear k0 k1 k2
 go_wp2
 exact bodyPost_ret (v := .agg #[.int .i64 4, .int .i64 e0, .string ⟨#[]⟩]) (by simp [results, Tryz.results27, go_sem, z0, z1, z2]) rfl ⟨rfl, set3 hb (by omega)⟩
theorem rbin_1 (rk rn a b c u y : Int) (yb : Bool) (rt : ByteArray) (k n yk yn : Int) (t yt : ByteArray) (w : World) (HWX : Hid (∀ w, Ret 56 #[.agg #[.int .i64 k, .int .i64 n, .string t]] w (.int .i64 0))) (HWY : Hid (∀ w, Ret 56 #[.agg #[.int .i64 yk, .int .i64 yn, .string yt]] w (.int .i64 0))) (HC : Hid (∀ w, Ret 59 #[.agg #[.int .i64 k, .int .i64 n, .string t], .agg #[.int .i64 yk, .int .i64 yn, .string yt]] w (.int .i64 c))) (HNX : Hid (∀ w, Ret 54 #[.agg #[.int .i64 k, .int .i64 n, .string t]] w (.tuple #[.int .i64 a, .int .i64 0]))) (HNY : Hid (∀ w, Ret 54 #[.agg #[.int .i64 yk, .int .i64 yn, .string yt]] w (.tuple #[.int .i64 b, .int .i64 0]))) (HF : Hid (∀ w, Ret 66 #[.int .i64 a, .int .i64 b] w (.tuple #[.int .i64 u, .int .i64 y]))) (HT : Hid (∀ w, Ret 64 #[.int .i64 u, .int .i64 y] w (.agg #[.int .i64 rk, .int .i64 rn, .string rt]))) : Ret 27 #[.int .i64 1, .agg #[.int .i64 k, .int .i64 n, .string t], .agg #[.int .i64 yk, .int .i64 yn, .string yt]] w (.agg #[.int .i64 rk, .int .i64 rn, .string rt]) := by
 obtain ⟨hb, k0, k1, k2⟩ := box3 w #[.int .i64 k, .int .i64 n, .string t] 26 #[.int .i64 yk, .int .i64 yn, .string yt] 26 #[.int .i64 0, .int .i64 0, .string ⟨#[]⟩] 26
 go_enter Tryz.func27, Tryz.ntmps27
 go_wp2_with (fail)
 generalize (((w.alloc (Obj.cells #[.int .i64 k, .int .i64 n, .string t] 26)).alloc (Obj.cells #[.int .i64 yk, .int .i64 yn, .string yt] 26)).alloc (Obj.cells #[.int .i64 0, .int .i64 0, .string ⟨#[]⟩] 26)) = W0 at *
 refine (go3 (HWX.out _) hb k0 k1 k2).mono ?_; clear hb k0 k1 k2; rintro e w0 ⟨rfl, hb, k0, k1, k2⟩
 obtain ⟨c00, c01, c02⟩ := val_cells k0
 obtain ⟨c10, c11, c12⟩ := val_cells k1
 go_wp2_with (fail)
 refine (go3 (HWY.out _) hb k0 k1 k2).mono ?_; clear hb k0 k1 k2; rintro e w1 ⟨rfl, hb, k0, k1, k2⟩
 clear c00 c01 c02 c10 c11 c12
 obtain ⟨c00, c01, c02⟩ := val_cells k0
 obtain ⟨c10, c11, c12⟩ := val_cells k1
 go_wp2_with (fail)
 refine (go3 (HC.out _) hb k0 k1 k2).mono ?_; clear hb k0 k1 k2; rintro e w2 ⟨rfl, hb, k0, k1, k2⟩
 clear c00 c01 c02 c10 c11 c12
 obtain ⟨c00, c01, c02⟩ := val_cells k0
 obtain ⟨c10, c11, c12⟩ := val_cells k1
 go_wp2_with (fail)
 refine (go3 (HNX.out _) hb k0 k1 k2).mono ?_; clear hb k0 k1 k2; rintro e w3 ⟨rfl, hb, k0, k1, k2⟩
 clear c00 c01 c02 c10 c11 c12
 obtain ⟨c00, c01, c02⟩ := val_cells k0
 obtain ⟨c10, c11, c12⟩ := val_cells k1
 go_wp2_with (fail)
 refine (go3 (HNY.out _) hb k0 k1 k2).mono ?_; clear hb k0 k1 k2; rintro e w4 ⟨rfl, hb, k0, k1, k2⟩
 clear c00 c01 c02 c10 c11 c12
 obtain ⟨c00, c01, c02⟩ := val_cells k0
 obtain ⟨c10, c11, c12⟩ := val_cells k1
 go_wp2_with (fail)
 refine (go3 (HF.out _) hb k0 k1 k2).mono ?_; clear hb k0 k1 k2; rintro e w5 ⟨rfl, hb, k0, k1, k2⟩
 clear c00 c01 c02 c10 c11 c12
 obtain ⟨c00, c01, c02⟩ := val_cells k0
 obtain ⟨c10, c11, c12⟩ := val_cells k1
 go_wp2_with (fail)
 refine (go3 (HT.out _) hb k0 k1 k2).mono ?_; clear hb k0 k1 k2; rintro e w6 ⟨rfl, hb, k0, k1, k2⟩
 clear c00 c01 c02 c10 c11 c12
 obtain ⟨c00, c01, c02⟩ := val_cells k0
 obtain ⟨c10, c11, c12⟩ := val_cells k1
 obtain ⟨z0, z1, z2⟩ := val_cells k2
 obtain ⟨f0, f1, f2⟩ := val_frozen k2
 clear k0 k1 k2
 go_wp2
 exact bodyPost_ret (v := .agg #[.int .i64 rk, .int .i64 rn, .string rt]) (by simp [results, Tryz.results27, go_sem, z0, z1, z2]) rfl ⟨rfl, set3 hb (by omega)⟩
theorem rbin_2 (rk rn a b c u y : Int) (yb : Bool) (rt : ByteArray) (k n yk yn : Int) (t yt : ByteArray) (w : World) (HWX : Hid (∀ w, Ret 56 #[.agg #[.int .i64 k, .int .i64 n, .string t]] w (.int .i64 0))) (HWY : Hid (∀ w, Ret 56 #[.agg #[.int .i64 yk, .int .i64 yn, .string yt]] w (.int .i64 0))) (HC : Hid (∀ w, Ret 59 #[.agg #[.int .i64 k, .int .i64 n, .string t], .agg #[.int .i64 yk, .int .i64 yn, .string yt]] w (.int .i64 c))) (HNX : Hid (∀ w, Ret 54 #[.agg #[.int .i64 k, .int .i64 n, .string t]] w (.tuple #[.int .i64 a, .int .i64 0]))) (HNY : Hid (∀ w, Ret 54 #[.agg #[.int .i64 yk, .int .i64 yn, .string yt]] w (.tuple #[.int .i64 b, .int .i64 0]))) (HF : Hid (∀ w, Ret 63 #[.int .i64 a, .int .i64 b] w (.tuple #[.int .i64 u, .bool yb]))) (HT : Hid (∀ w, Ret 60 #[.int .i64 u, .bool yb] w (.agg #[.int .i64 rk, .int .i64 rn, .string rt]))) : Ret 27 #[.int .i64 2, .agg #[.int .i64 k, .int .i64 n, .string t], .agg #[.int .i64 yk, .int .i64 yn, .string yt]] w (.agg #[.int .i64 rk, .int .i64 rn, .string rt]) := by
 obtain ⟨hb, k0, k1, k2⟩ := box3 w #[.int .i64 k, .int .i64 n, .string t] 26 #[.int .i64 yk, .int .i64 yn, .string yt] 26 #[.int .i64 0, .int .i64 0, .string ⟨#[]⟩] 26
 go_enter Tryz.func27, Tryz.ntmps27
 go_wp2_with (fail)
 generalize (((w.alloc (Obj.cells #[.int .i64 k, .int .i64 n, .string t] 26)).alloc (Obj.cells #[.int .i64 yk, .int .i64 yn, .string yt] 26)).alloc (Obj.cells #[.int .i64 0, .int .i64 0, .string ⟨#[]⟩] 26)) = W0 at *
 refine (go3 (HWX.out _) hb k0 k1 k2).mono ?_; clear hb k0 k1 k2; rintro e w0 ⟨rfl, hb, k0, k1, k2⟩
 obtain ⟨c00, c01, c02⟩ := val_cells k0
 obtain ⟨c10, c11, c12⟩ := val_cells k1
 go_wp2_with (fail)
 refine (go3 (HWY.out _) hb k0 k1 k2).mono ?_; clear hb k0 k1 k2; rintro e w1 ⟨rfl, hb, k0, k1, k2⟩
 clear c00 c01 c02 c10 c11 c12
 obtain ⟨c00, c01, c02⟩ := val_cells k0
 obtain ⟨c10, c11, c12⟩ := val_cells k1
 go_wp2_with (fail)
 refine (go3 (HC.out _) hb k0 k1 k2).mono ?_; clear hb k0 k1 k2; rintro e w2 ⟨rfl, hb, k0, k1, k2⟩
 clear c00 c01 c02 c10 c11 c12
 obtain ⟨c00, c01, c02⟩ := val_cells k0
 obtain ⟨c10, c11, c12⟩ := val_cells k1
 go_wp2_with (fail)
 refine (go3 (HNX.out _) hb k0 k1 k2).mono ?_; clear hb k0 k1 k2; rintro e w3 ⟨rfl, hb, k0, k1, k2⟩
 clear c00 c01 c02 c10 c11 c12
 obtain ⟨c00, c01, c02⟩ := val_cells k0
 obtain ⟨c10, c11, c12⟩ := val_cells k1
 go_wp2_with (fail)
 refine (go3 (HNY.out _) hb k0 k1 k2).mono ?_; clear hb k0 k1 k2; rintro e w4 ⟨rfl, hb, k0, k1, k2⟩
 clear c00 c01 c02 c10 c11 c12
 obtain ⟨c00, c01, c02⟩ := val_cells k0
 obtain ⟨c10, c11, c12⟩ := val_cells k1
 go_wp2_with (fail)
 refine (go3 (HF.out _) hb k0 k1 k2).mono ?_; clear hb k0 k1 k2; rintro e w5 ⟨rfl, hb, k0, k1, k2⟩
 clear c00 c01 c02 c10 c11 c12
 obtain ⟨c00, c01, c02⟩ := val_cells k0
 obtain ⟨c10, c11, c12⟩ := val_cells k1
 go_wp2_with (fail)
 refine (go3 (HT.out _) hb k0 k1 k2).mono ?_; clear hb k0 k1 k2; rintro e w6 ⟨rfl, hb, k0, k1, k2⟩
 clear c00 c01 c02 c10 c11 c12
 obtain ⟨c00, c01, c02⟩ := val_cells k0
 obtain ⟨c10, c11, c12⟩ := val_cells k1
 obtain ⟨z0, z1, z2⟩ := val_cells k2
 obtain ⟨f0, f1, f2⟩ := val_frozen k2
 clear k0 k1 k2
 go_wp2
 exact bodyPost_ret (v := .agg #[.int .i64 rk, .int .i64 rn, .string rt]) (by simp [results, Tryz.results27, go_sem, z0, z1, z2]) rfl ⟨rfl, set3 hb (by omega)⟩
theorem rbin_3 (rk rn a b c u y : Int) (yb : Bool) (rt : ByteArray) (k n yk yn : Int) (t yt : ByteArray) (w : World) (HWX : Hid (∀ w, Ret 56 #[.agg #[.int .i64 k, .int .i64 n, .string t]] w (.int .i64 0))) (HWY : Hid (∀ w, Ret 56 #[.agg #[.int .i64 yk, .int .i64 yn, .string yt]] w (.int .i64 0))) (HC : Hid (∀ w, Ret 59 #[.agg #[.int .i64 k, .int .i64 n, .string t], .agg #[.int .i64 yk, .int .i64 yn, .string yt]] w (.int .i64 c))) (HNX : Hid (∀ w, Ret 54 #[.agg #[.int .i64 k, .int .i64 n, .string t]] w (.tuple #[.int .i64 a, .int .i64 0]))) (HNY : Hid (∀ w, Ret 54 #[.agg #[.int .i64 yk, .int .i64 yn, .string yt]] w (.tuple #[.int .i64 b, .int .i64 0]))) (HF : Hid (∀ w, Ret 65 #[.int .i64 a, .int .i64 b] w (.tuple #[.int .i64 u, .int .i64 y]))) (HT : Hid (∀ w, Ret 64 #[.int .i64 u, .int .i64 y] w (.agg #[.int .i64 rk, .int .i64 rn, .string rt]))) : Ret 27 #[.int .i64 3, .agg #[.int .i64 k, .int .i64 n, .string t], .agg #[.int .i64 yk, .int .i64 yn, .string yt]] w (.agg #[.int .i64 rk, .int .i64 rn, .string rt]) := by
 obtain ⟨hb, k0, k1, k2⟩ := box3 w #[.int .i64 k, .int .i64 n, .string t] 26 #[.int .i64 yk, .int .i64 yn, .string yt] 26 #[.int .i64 0, .int .i64 0, .string ⟨#[]⟩] 26
 go_enter Tryz.func27, Tryz.ntmps27
 go_wp2_with (fail)
 generalize (((w.alloc (Obj.cells #[.int .i64 k, .int .i64 n, .string t] 26)).alloc (Obj.cells #[.int .i64 yk, .int .i64 yn, .string yt] 26)).alloc (Obj.cells #[.int .i64 0, .int .i64 0, .string ⟨#[]⟩] 26)) = W0 at *
 refine (go3 (HWX.out _) hb k0 k1 k2).mono ?_; clear hb k0 k1 k2; rintro e w0 ⟨rfl, hb, k0, k1, k2⟩
 obtain ⟨c00, c01, c02⟩ := val_cells k0
 obtain ⟨c10, c11, c12⟩ := val_cells k1
 go_wp2_with (fail)
 refine (go3 (HWY.out _) hb k0 k1 k2).mono ?_; clear hb k0 k1 k2; rintro e w1 ⟨rfl, hb, k0, k1, k2⟩
 clear c00 c01 c02 c10 c11 c12
 obtain ⟨c00, c01, c02⟩ := val_cells k0
 obtain ⟨c10, c11, c12⟩ := val_cells k1
 go_wp2_with (fail)
 refine (go3 (HC.out _) hb k0 k1 k2).mono ?_; clear hb k0 k1 k2; rintro e w2 ⟨rfl, hb, k0, k1, k2⟩
 clear c00 c01 c02 c10 c11 c12
 obtain ⟨c00, c01, c02⟩ := val_cells k0
 obtain ⟨c10, c11, c12⟩ := val_cells k1
 go_wp2_with (fail)
 refine (go3 (HNX.out _) hb k0 k1 k2).mono ?_; clear hb k0 k1 k2; rintro e w3 ⟨rfl, hb, k0, k1, k2⟩
 clear c00 c01 c02 c10 c11 c12
 obtain ⟨c00, c01, c02⟩ := val_cells k0
 obtain ⟨c10, c11, c12⟩ := val_cells k1
 go_wp2_with (fail)
 refine (go3 (HNY.out _) hb k0 k1 k2).mono ?_; clear hb k0 k1 k2; rintro e w4 ⟨rfl, hb, k0, k1, k2⟩
 clear c00 c01 c02 c10 c11 c12
 obtain ⟨c00, c01, c02⟩ := val_cells k0
 obtain ⟨c10, c11, c12⟩ := val_cells k1
 go_wp2_with (fail)
 refine (go3 (HF.out _) hb k0 k1 k2).mono ?_; clear hb k0 k1 k2; rintro e w5 ⟨rfl, hb, k0, k1, k2⟩
 clear c00 c01 c02 c10 c11 c12
 obtain ⟨c00, c01, c02⟩ := val_cells k0
 obtain ⟨c10, c11, c12⟩ := val_cells k1
 go_wp2_with (fail)
 refine (go3 (HT.out _) hb k0 k1 k2).mono ?_; clear hb k0 k1 k2; rintro e w6 ⟨rfl, hb, k0, k1, k2⟩
 clear c00 c01 c02 c10 c11 c12
 obtain ⟨c00, c01, c02⟩ := val_cells k0
 obtain ⟨c10, c11, c12⟩ := val_cells k1
 obtain ⟨z0, z1, z2⟩ := val_cells k2
 obtain ⟨f0, f1, f2⟩ := val_frozen k2
 clear k0 k1 k2
 go_wp2
 exact bodyPost_ret (v := .agg #[.int .i64 rk, .int .i64 rn, .string rt]) (by simp [results, Tryz.results27, go_sem, z0, z1, z2]) rfl ⟨rfl, set3 hb (by omega)⟩
theorem rbin_4 (rk rn a b c u y : Int) (yb : Bool) (rt : ByteArray) (k n yk yn : Int) (t yt : ByteArray) (w : World) (HWX : Hid (∀ w, Ret 56 #[.agg #[.int .i64 k, .int .i64 n, .string t]] w (.int .i64 0))) (HWY : Hid (∀ w, Ret 56 #[.agg #[.int .i64 yk, .int .i64 yn, .string yt]] w (.int .i64 0))) (HC : Hid (∀ w, Ret 59 #[.agg #[.int .i64 k, .int .i64 n, .string t], .agg #[.int .i64 yk, .int .i64 yn, .string yt]] w (.int .i64 c))) (HNX : Hid (∀ w, Ret 54 #[.agg #[.int .i64 k, .int .i64 n, .string t]] w (.tuple #[.int .i64 a, .int .i64 0]))) (HNY : Hid (∀ w, Ret 54 #[.agg #[.int .i64 yk, .int .i64 yn, .string yt]] w (.tuple #[.int .i64 b, .int .i64 0]))) (HF : Hid (∀ w, Ret 61 #[.int .i64 a, .int .i64 b] w (.tuple #[.int .i64 u, .bool yb]))) (HT : Hid (∀ w, Ret 60 #[.int .i64 u, .bool yb] w (.agg #[.int .i64 rk, .int .i64 rn, .string rt]))) : Ret 27 #[.int .i64 4, .agg #[.int .i64 k, .int .i64 n, .string t], .agg #[.int .i64 yk, .int .i64 yn, .string yt]] w (.agg #[.int .i64 rk, .int .i64 rn, .string rt]) := by
 obtain ⟨hb, k0, k1, k2⟩ := box3 w #[.int .i64 k, .int .i64 n, .string t] 26 #[.int .i64 yk, .int .i64 yn, .string yt] 26 #[.int .i64 0, .int .i64 0, .string ⟨#[]⟩] 26
 go_enter Tryz.func27, Tryz.ntmps27
 go_wp2_with (fail)
 generalize (((w.alloc (Obj.cells #[.int .i64 k, .int .i64 n, .string t] 26)).alloc (Obj.cells #[.int .i64 yk, .int .i64 yn, .string yt] 26)).alloc (Obj.cells #[.int .i64 0, .int .i64 0, .string ⟨#[]⟩] 26)) = W0 at *
 refine (go3 (HWX.out _) hb k0 k1 k2).mono ?_; clear hb k0 k1 k2; rintro e w0 ⟨rfl, hb, k0, k1, k2⟩
 obtain ⟨c00, c01, c02⟩ := val_cells k0
 obtain ⟨c10, c11, c12⟩ := val_cells k1
 go_wp2_with (fail)
 refine (go3 (HWY.out _) hb k0 k1 k2).mono ?_; clear hb k0 k1 k2; rintro e w1 ⟨rfl, hb, k0, k1, k2⟩
 clear c00 c01 c02 c10 c11 c12
 obtain ⟨c00, c01, c02⟩ := val_cells k0
 obtain ⟨c10, c11, c12⟩ := val_cells k1
 go_wp2_with (fail)
 refine (go3 (HC.out _) hb k0 k1 k2).mono ?_; clear hb k0 k1 k2; rintro e w2 ⟨rfl, hb, k0, k1, k2⟩
 clear c00 c01 c02 c10 c11 c12
 obtain ⟨c00, c01, c02⟩ := val_cells k0
 obtain ⟨c10, c11, c12⟩ := val_cells k1
 go_wp2_with (fail)
 refine (go3 (HNX.out _) hb k0 k1 k2).mono ?_; clear hb k0 k1 k2; rintro e w3 ⟨rfl, hb, k0, k1, k2⟩
 clear c00 c01 c02 c10 c11 c12
 obtain ⟨c00, c01, c02⟩ := val_cells k0
 obtain ⟨c10, c11, c12⟩ := val_cells k1
 go_wp2_with (fail)
 refine (go3 (HNY.out _) hb k0 k1 k2).mono ?_; clear hb k0 k1 k2; rintro e w4 ⟨rfl, hb, k0, k1, k2⟩
 clear c00 c01 c02 c10 c11 c12
 obtain ⟨c00, c01, c02⟩ := val_cells k0
 obtain ⟨c10, c11, c12⟩ := val_cells k1
 go_wp2_with (fail)
 refine (go3 (HF.out _) hb k0 k1 k2).mono ?_; clear hb k0 k1 k2; rintro e w5 ⟨rfl, hb, k0, k1, k2⟩
 clear c00 c01 c02 c10 c11 c12
 obtain ⟨c00, c01, c02⟩ := val_cells k0
 obtain ⟨c10, c11, c12⟩ := val_cells k1
 go_wp2_with (fail)
 refine (go3 (HT.out _) hb k0 k1 k2).mono ?_; clear hb k0 k1 k2; rintro e w6 ⟨rfl, hb, k0, k1, k2⟩
 clear c00 c01 c02 c10 c11 c12
 obtain ⟨c00, c01, c02⟩ := val_cells k0
 obtain ⟨c10, c11, c12⟩ := val_cells k1
 obtain ⟨z0, z1, z2⟩ := val_cells k2
 obtain ⟨f0, f1, f2⟩ := val_frozen k2
 clear k0 k1 k2
 go_wp2
 exact bodyPost_ret (v := .agg #[.int .i64 rk, .int .i64 rn, .string rt]) (by simp [results, Tryz.results27, go_sem, z0, z1, z2]) rfl ⟨rfl, set3 hb (by omega)⟩
theorem rbin_5 (rk rn a b c u y : Int) (yb : Bool) (rt : ByteArray) (k n yk yn : Int) (t yt : ByteArray) (w : World) (HWX : Hid (∀ w, Ret 56 #[.agg #[.int .i64 k, .int .i64 n, .string t]] w (.int .i64 0))) (HWY : Hid (∀ w, Ret 56 #[.agg #[.int .i64 yk, .int .i64 yn, .string yt]] w (.int .i64 0))) (HC : Hid (∀ w, Ret 59 #[.agg #[.int .i64 k, .int .i64 n, .string t], .agg #[.int .i64 yk, .int .i64 yn, .string yt]] w (.int .i64 c))) (HNX : Hid (∀ w, Ret 54 #[.agg #[.int .i64 k, .int .i64 n, .string t]] w (.tuple #[.int .i64 a, .int .i64 0]))) (HNY : Hid (∀ w, Ret 54 #[.agg #[.int .i64 yk, .int .i64 yn, .string yt]] w (.tuple #[.int .i64 b, .int .i64 0]))) (HF : Hid (∀ w, Ret 62 #[.int .i64 a, .int .i64 b] w (.tuple #[.int .i64 u, .bool yb]))) (HT : Hid (∀ w, Ret 60 #[.int .i64 u, .bool yb] w (.agg #[.int .i64 rk, .int .i64 rn, .string rt]))) : Ret 27 #[.int .i64 5, .agg #[.int .i64 k, .int .i64 n, .string t], .agg #[.int .i64 yk, .int .i64 yn, .string yt]] w (.agg #[.int .i64 rk, .int .i64 rn, .string rt]) := by
 obtain ⟨hb, k0, k1, k2⟩ := box3 w #[.int .i64 k, .int .i64 n, .string t] 26 #[.int .i64 yk, .int .i64 yn, .string yt] 26 #[.int .i64 0, .int .i64 0, .string ⟨#[]⟩] 26
 go_enter Tryz.func27, Tryz.ntmps27
 go_wp2_with (fail)
 generalize (((w.alloc (Obj.cells #[.int .i64 k, .int .i64 n, .string t] 26)).alloc (Obj.cells #[.int .i64 yk, .int .i64 yn, .string yt] 26)).alloc (Obj.cells #[.int .i64 0, .int .i64 0, .string ⟨#[]⟩] 26)) = W0 at *
 refine (go3 (HWX.out _) hb k0 k1 k2).mono ?_; clear hb k0 k1 k2; rintro e w0 ⟨rfl, hb, k0, k1, k2⟩
 obtain ⟨c00, c01, c02⟩ := val_cells k0
 obtain ⟨c10, c11, c12⟩ := val_cells k1
 go_wp2_with (fail)
 refine (go3 (HWY.out _) hb k0 k1 k2).mono ?_; clear hb k0 k1 k2; rintro e w1 ⟨rfl, hb, k0, k1, k2⟩
 clear c00 c01 c02 c10 c11 c12
 obtain ⟨c00, c01, c02⟩ := val_cells k0
 obtain ⟨c10, c11, c12⟩ := val_cells k1
 go_wp2_with (fail)
 refine (go3 (HC.out _) hb k0 k1 k2).mono ?_; clear hb k0 k1 k2; rintro e w2 ⟨rfl, hb, k0, k1, k2⟩
 clear c00 c01 c02 c10 c11 c12
 obtain ⟨c00, c01, c02⟩ := val_cells k0
 obtain ⟨c10, c11, c12⟩ := val_cells k1
 go_wp2_with (fail)
 refine (go3 (HNX.out _) hb k0 k1 k2).mono ?_; clear hb k0 k1 k2; rintro e w3 ⟨rfl, hb, k0, k1, k2⟩
 clear c00 c01 c02 c10 c11 c12
 obtain ⟨c00, c01, c02⟩ := val_cells k0
 obtain ⟨c10, c11, c12⟩ := val_cells k1
 go_wp2_with (fail)
 refine (go3 (HNY.out _) hb k0 k1 k2).mono ?_; clear hb k0 k1 k2; rintro e w4 ⟨rfl, hb, k0, k1, k2⟩
 clear c00 c01 c02 c10 c11 c12
 obtain ⟨c00, c01, c02⟩ := val_cells k0
 obtain ⟨c10, c11, c12⟩ := val_cells k1
 go_wp2_with (fail)
 refine (go3 (HF.out _) hb k0 k1 k2).mono ?_; clear hb k0 k1 k2; rintro e w5 ⟨rfl, hb, k0, k1, k2⟩
 clear c00 c01 c02 c10 c11 c12
 obtain ⟨c00, c01, c02⟩ := val_cells k0
 obtain ⟨c10, c11, c12⟩ := val_cells k1
 go_wp2_with (fail)
 refine (go3 (HT.out _) hb k0 k1 k2).mono ?_; clear hb k0 k1 k2; rintro e w6 ⟨rfl, hb, k0, k1, k2⟩
 clear c00 c01 c02 c10 c11 c12
 obtain ⟨c00, c01, c02⟩ := val_cells k0
 obtain ⟨c10, c11, c12⟩ := val_cells k1
 obtain ⟨z0, z1, z2⟩ := val_cells k2
 obtain ⟨f0, f1, f2⟩ := val_frozen k2
 clear k0 k1 k2
 go_wp2
 exact bodyPost_ret (v := .agg #[.int .i64 rk, .int .i64 rn, .string rt]) (by simp [results, Tryz.results27, go_sem, z0, z1, z2]) rfl ⟨rfl, set3 hb (by omega)⟩
theorem isE_nil {t : ByteArray} (h : Val.isE t = true) : t = ⟨#[]⟩ := by
 unfold Val.isE at h
 have := List.isEmpty_iff.1 h
 have e : t.toList = t.data.toList := ByteArray.toList_eq t
 rw [e] at this
 apply ByteArray.ext
 apply Array.ext'
 rw [this]
theorem wrong_cases (v : Val.V) : (Cal.wrong v = 0 ∧ Val.good v = v ∧ (v.k == 4) = false ∧ ((Val.good v).k == 4) = false) ∨ ((Cal.wrong v != 0) = true ∧ Val.good v = Cal.bad (Cal.wrong v) ∧ ((Val.good v).k == 4) = true) := by
 unfold Cal.wrong Val.good
 cases h : Val.mayB v with
 | false => exact .inr ⟨rfl, rfl, rfl⟩
 | true =>
  cases h4 : (v.k == 4) with
  | false => exact .inl ⟨rfl, rfl, rfl, h4⟩
  | true =>
   obtain ⟨k, n, t⟩ := v
   have hk : k = 4 := by simpa using h4
   subst hk
   rcases Val.may_cases h with ⟨q, _⟩ | ⟨q, _⟩ | ⟨q, _⟩ | ⟨q, _⟩ | ⟨_, q1, q2, q3⟩
   ·simp at q
   ·simp at q
   ·simp at q
   ·simp at q
   ·refine .inr ⟨?_, ?_, rfl⟩
    ·show (n != 0) = true
     have : n ≠ 0 := by have q1' : 1 ≤ n := q1; omega
     simpa using this
    ·show (⟨4, n, t⟩ : Val.V) = ⟨4, n, ⟨#[]⟩⟩
     have q4 : Val.isE t = true := q3
     rw [isE_nil q4]
theorem run_any (op : Int) (v : Val.V) (w : World) (hv : VB v) : Ret 26 #[.int .i64 op, vv v] w (vv (Cal.un op v)) := by
 have HN := fun w => rnumber_any v w hv
 have hi := number_in hv
 unfold Cal.un
 by_cases h : op < 1 ∨ 3 < op
 ·rw [if_pos h]
  by_cases h1 : op < 1
  ·exact run_lo op _ _ 0 0 _ w (decide_eq_true h1)
  ·exact run_hi op _ _ 0 0 _ w (decide_eq_false h1) (decide_eq_true (by omega))
 ·rw [if_neg h]
  cases he : ((Val.number v).2 != 0) with
  | true => exact run_err op _ _ _ _ _ w (decide_eq_false (by omega)) (decide_eq_false (by omega)) he (Lib.hid HN)
  | false =>
   have he0 : (Val.number v).2 = 0 := by simpa using he
   rw [he0] at HN
   generalize (Val.number v).1 = a at *
   unfold I64 at hi
   obtain rfl | rfl | rfl : op = 1 ∨ op = 2 ∨ op = 3 := by omega
   ·by_cases hl : a = -9223372036854775808
    ·have hf : ¬ PowG.Fits (0 - a) := by unfold PowG.Fits; omega
     show Calls _ _ _ _ fun e w' => e = .returned (vv (Cal.fits _ _)) ∧ _
     rw [(fit_not hf).1, (fit_not hf).2]
     exact run_1l _ _ a 0 _ w (by simpa using hl) (Lib.hid HN)
    ·have hf : PowG.Fits (0 - a) := by unfold PowG.Fits; omega
     show Calls _ _ _ _ fun e w' => e = .returned (vv (Cal.fits _ _)) ∧ _
     rw [(fit_of hf).1, (fit_of hf).2, Int.zero_sub]
     exact run_1 _ _ a 0 _ (-a) w (by simpa using hl) (by rw [IntKind.wrap_i64]; omega) (Lib.hid HN)
   ·exact run_2 _ _ a 0 _ w (Lib.hid HN)
   ·have hf : PowG.Fits (a.tdiv 100) := Div.fits64 a 100 (by decide) hi.1 hi.2 (fun _ => by decide)
    show Calls _ _ _ _ fun e w' => e = .returned (vv (Cal.told (Cal.quoV a 100).1 (Cal.quoV a 100).2)) ∧ _
    rw [show Cal.quoV a 100 = (a.tdiv 100, 0) from (by unfold Cal.quoV; rw [if_neg (by decide)]; exact Cal.errV_of hf)]
    unfold PowG.Fits at hf
    exact run_3 _ _ a 0 _ (a.tdiv 100) w rfl (by unfold Go.RowKit.wrap64; omega) (Lib.hid HN)
theorem rbin_any (op : Int) (x y : Val.V) (w : World) (hx : VB x) (hy : VB y) : Ret 27 #[.int .i64 op, vv x, vv y] w (vv (Cal.bin op x y)) := by
 have HWX := fun w => rwrong_any x w
 have HWY := fun w => rwrong_any y w
 unfold Cal.bin
 by_cases h : op < 1 ∨ 12 < op
 ·rw [if_pos h]
  by_cases h1 : op < 1
  ·exact rbin_lo op _ _ _ _ _ _ w (decide_eq_true h1)
  ·exact rbin_hi op _ _ _ _ _ _ w (decide_eq_false h1) (decide_eq_true (by omega))
 rw [if_neg h]
 have t1 : decide (op < 1) = false := decide_eq_false (by omega)
 have t2 : decide (12 < op) = false := decide_eq_false (by omega)
 rcases wrong_cases x with ⟨e1, g1, k1, k1'⟩ | ⟨e1, g1, k1'⟩
 rotate_left
 ·rw [k1', cond_true, g1]
  exact rbin_wx op _ _ _ _ _ _ _ w t1 t2 e1 (Lib.hid HWX)
 rw [k1', cond_false]
 rw [e1] at HWX
 rcases wrong_cases y with ⟨e2, g2, k2, k2'⟩ | ⟨e2, g2, k2'⟩
 rotate_left
 ·rw [k2', cond_true, g2]
  exact rbin_wy op _ _ _ _ _ _ _ w t1 t2 e2 (Lib.hid HWX) (Lib.hid HWY)
 rw [k2', cond_false]
 rw [e2] at HWY
 unfold Cal.two
 simp only [g1, g2]
 have HAX := fun w => rastext_any x w hx
 have HAY := fun w => rastext_any y w hy
 have HNX := fun w => rnumber_any x w hx
 have HNY := fun w => rnumber_any y w hy
 have HC := fun w => rcompare_any x y w
 rw [Val.rcmp_same x y, g1, g2] at HC
 have s1 := astext_small hx
 have s2 := astext_small hy
 have i1 := number_in hx
 have i2 := number_in hy
 by_cases h6 : op = 6
 ·subst h6
  exact rbin_6 _ _ _ _ _ _ _ _ _ _ _ _ _ _ w (by omega) rfl (Lib.hid HWX) (Lib.hid HWY) (Lib.hid HAX) (Lib.hid HAY) (Lib.hid fun w => rtextS_any _ w)
 rw [show (op == 6) = false by simpa using h6, cond_false]
 by_cases h7 : 7 ≤ op
 ·rw [decide_eq_true h7, cond_true]
  obtain rfl | rfl | rfl | rfl | rfl | rfl : op = 7 ∨ op = 8 ∨ op = 9 ∨ op = 10 ∨ op = 11 ∨ op = 12 := by omega
  ·exact rbin_7 _ _ _ _ _ _ _ _ _ _ _ w rfl (Lib.hid HWX) (Lib.hid HWY) (Lib.hid HC) (Lib.hid fun w => rboolS_any _ w)
  ·exact rbin_8 _ _ _ _ _ _ _ _ _ _ _ w rfl (Lib.hid HWX) (Lib.hid HWY) (Lib.hid HC) (Lib.hid fun w => rboolS_any _ w)
  ·exact rbin_9 _ _ _ _ _ _ _ _ _ _ _ w rfl (Lib.hid HWX) (Lib.hid HWY) (Lib.hid HC) (Lib.hid fun w => rboolS_any _ w)
  ·exact rbin_10 _ _ _ _ _ _ _ _ _ _ _ w rfl (Lib.hid HWX) (Lib.hid HWY) (Lib.hid HC) (Lib.hid fun w => rboolS_any _ w)
  ·exact rbin_11 _ _ _ _ _ _ _ _ _ _ _ w rfl (Lib.hid HWX) (Lib.hid HWY) (Lib.hid HC) (Lib.hid fun w => rboolS_any _ w)
  ·exact rbin_12 _ _ _ _ _ _ _ _ _ _ _ w rfl (Lib.hid HWX) (Lib.hid HWY) (Lib.hid HC) (Lib.hid fun w => rboolS_any _ w)
 rw [decide_eq_false h7, cond_false]
 have q : ∀ i : Int, 6 ≤ i → (op == i) = false := fun i hi => by rw [beq_eq_false_iff_ne]; omega
 cases ex : ((Val.number x).2 != 0) with
 | true => exact rbin_nx op _ _ _ _ _ _ _ _ _ w t1 t2 (q 6 (by decide)) (q 7 (by decide)) (q 8 (by decide)) (q 9 (by decide)) (q 10 (by decide)) (q 11 (by decide)) (q 12 (by decide)) ex (Lib.hid HWX) (Lib.hid HWY) (Lib.hid HC) (Lib.hid HNX)
 | false =>
  have ex0 : (Val.number x).2 = 0 := by simpa using ex
  rw [ex0] at HNX
  cases ey : ((Val.number y).2 != 0) with
  | true => exact rbin_ny op _ _ _ _ _ _ _ _ _ _ w t1 t2 (q 6 (by decide)) (q 7 (by decide)) (q 8 (by decide)) (q 9 (by decide)) (q 10 (by decide)) (q 11 (by decide)) (q 12 (by decide)) ey (Lib.hid HWX) (Lib.hid HWY) (Lib.hid HC) (Lib.hid HNX) (Lib.hid HNY)
  | false =>
   have ey0 : (Val.number y).2 = 0 := by simpa using ey
   rw [ey0] at HNY
   generalize (Val.number x).1 = a at *
   generalize (Val.number y).1 = b at *
   obtain rfl | rfl | rfl | rfl | rfl : op = 1 ∨ op = 2 ∨ op = 3 ∨ op = 4 ∨ op = 5 := by omega
   ·exact rbin_1 _ _ _ _ _ _ _ false _ _ _ _ _ _ _ w (Lib.hid HWX) (Lib.hid HWY) (Lib.hid HC) (Lib.hid HNX) (Lib.hid HNY) (Lib.hid (dpow a b i1 i2)) (Lib.hid fun w => rwhole_any _ _ w)
   ·exact rbin_2 _ _ _ _ _ _ 0 _ _ _ _ _ _ _ _ w (Lib.hid HWX) (Lib.hid HWY) (Lib.hid HC) (Lib.hid HNX) (Lib.hid HNY) (Lib.hid (dmul a b i1 i2)) (Lib.hid fun w => rsummed_any _ _ w)
   ·exact rbin_3 _ _ _ _ _ _ _ false _ _ _ _ _ _ _ w (Lib.hid HWX) (Lib.hid HWY) (Lib.hid HC) (Lib.hid HNX) (Lib.hid HNY) (Lib.hid (dquo a b i1 i2)) (Lib.hid fun w => rwhole_any _ _ w)
   ·exact rbin_4 _ _ _ _ _ _ 0 _ _ _ _ _ _ _ _ w (Lib.hid HWX) (Lib.hid HWY) (Lib.hid HC) (Lib.hid HNX) (Lib.hid HNY) (Lib.hid (dadd a b i1 i2)) (Lib.hid fun w => rsummed_any _ _ w)
   ·exact rbin_5 _ _ _ _ _ _ 0 _ _ _ _ _ _ _ _ w (Lib.hid HWX) (Lib.hid HWY) (Lib.hid HC) (Lib.hid HNX) (Lib.hid HNY) (Lib.hid (dsub a b i1 i2)) (Lib.hid fun w => rsummed_any _ _ w)
end Go.Proofs.YtpiiemneelkpkaaGreatDoor
