import Derived.Test.YtpiiemneelkpkaaGreatDoorGci
import Derived.Test.YtpiiemneelkpkaaGreatDoorValG
set_option maxRecDepth 100000
namespace Go.Proofs.YtpiiemneelkpkaaGreatDoor
open Go.RowKit
set_option linter.unusedVariables false
set_option linter.unusedSimpArgs false
theorem rnum14 (n : Int) (w : World) : Ret 55 #[.int .i64 n] w (.agg #[.int .i64 1, .int .i64 n, .string ⟨#[]⟩]) := by
 obtain ⟨hb, k0⟩ := box1 w #[.int .i64 0, .int .i64 0, .string ⟨#[]⟩] 26
 go_enter Tryz.func55, Tryz.ntmps55
 go_wp2_with (fail)
 generalize (w.alloc (Obj.cells #[.int .i64 0, .int .i64 0, .string ⟨#[]⟩] 26)) = W0 at *
 refine (go1 (rint_any n _) hb k0).mono ?_; clear hb k0; rintro e w0 ⟨rfl, hb, k0⟩
 obtain ⟨z0, z1, z2⟩ := val_cells k0
 obtain ⟨f0, f1, f2⟩ := val_frozen k0
 clear k0
 go_wp2
 exact bodyPost_ret (v := .agg #[.int .i64 1, .int .i64 n, .string ⟨#[]⟩]) (by simp [results, Tryz.results55, go_sem, z0, z1, z2]) rfl ⟨rfl, set3 hb (by simp; try omega)⟩
theorem rbad14 (n : Int) (w : World) : Ret 53 #[.int .i64 n] w (.agg #[.int .i64 4, .int .i64 n, .string ⟨#[]⟩]) := by
 obtain ⟨hb, k0⟩ := box1 w #[.int .i64 0, .int .i64 0, .string ⟨#[]⟩] 26
 go_enter Tryz.func53, Tryz.ntmps53
 go_wp2_with (fail)
 generalize (w.alloc (Obj.cells #[.int .i64 0, .int .i64 0, .string ⟨#[]⟩] 26)) = W0 at *
 refine (go1 (rerr_any n _) hb k0).mono ?_; clear hb k0; rintro e w0 ⟨rfl, hb, k0⟩
 obtain ⟨z0, z1, z2⟩ := val_cells k0
 obtain ⟨f0, f1, f2⟩ := val_frozen k0
 clear k0
 go_wp2
 exact bodyPost_ret (v := .agg #[.int .i64 4, .int .i64 n, .string ⟨#[]⟩]) (by simp [results, Tryz.results53, go_sem, z0, z1, z2]) rfl ⟨rfl, set3 hb (by simp; try omega)⟩
theorem rwhole_0 (n : Int) (w : World) : Ret 64 #[.int .i64 n, .int .i64 0] w (.agg #[.int .i64 1, .int .i64 n, .string ⟨#[]⟩]) := by
 obtain ⟨hb, k0⟩ := box1 w #[.int .i64 0, .int .i64 0, .string ⟨#[]⟩] 26
 go_enter Tryz.func64, Tryz.ntmps64
 go_wp2_with (fail)
 generalize (w.alloc (Obj.cells #[.int .i64 0, .int .i64 0, .string ⟨#[]⟩] 26)) = W0 at *
 refine (go1 (rnum14 n _) hb k0).mono ?_; clear hb k0; rintro e w0 ⟨rfl, hb, k0⟩
 obtain ⟨z0, z1, z2⟩ := val_cells k0
 obtain ⟨f0, f1, f2⟩ := val_frozen k0
 clear k0
 go_wp2
 exact bodyPost_ret (v := .agg #[.int .i64 1, .int .i64 n, .string ⟨#[]⟩]) (by simp [results, Tryz.results64, go_sem, z0, z1, z2]) rfl ⟨rfl, set3 hb (by simp; try omega)⟩
theorem rwhole_14 (n : Int) (w : World) : Ret 64 #[.int .i64 n, .int .i64 14] w (.agg #[.int .i64 4, .int .i64 5, .string ⟨#[]⟩]) := by
 obtain ⟨hb, k0⟩ := box1 w #[.int .i64 0, .int .i64 0, .string ⟨#[]⟩] 26
 go_enter Tryz.func64, Tryz.ntmps64
 go_wp2_with (fail)
 generalize (w.alloc (Obj.cells #[.int .i64 0, .int .i64 0, .string ⟨#[]⟩] 26)) = W0 at *
 refine (go1 (rbad14 5 _) hb k0).mono ?_; clear hb k0; rintro e w0 ⟨rfl, hb, k0⟩
 obtain ⟨z0, z1, z2⟩ := val_cells k0
 obtain ⟨f0, f1, f2⟩ := val_frozen k0
 clear k0
 go_wp2
 exact bodyPost_ret (v := .agg #[.int .i64 4, .int .i64 5, .string ⟨#[]⟩]) (by simp [results, Tryz.results64, go_sem, z0, z1, z2]) rfl ⟨rfl, set3 hb (by simp; try omega)⟩
theorem rwhole_e (n x : Int) (w : World) (h0 : (x == 0) = false) (h1 : (x == 14) = false) : Ret 64 #[.int .i64 n, .int .i64 x] w (.agg #[.int .i64 4, .int .i64 2, .string ⟨#[]⟩]) := by
 obtain ⟨hb, k0⟩ := box1 w #[.int .i64 0, .int .i64 0, .string ⟨#[]⟩] 26
 go_enter Tryz.func64, Tryz.ntmps64
 go_wp2_with (fail)
 generalize (w.alloc (Obj.cells #[.int .i64 0, .int .i64 0, .string ⟨#[]⟩] 26)) = W0 at *
 refine (go1 (rbad14 2 _) hb k0).mono ?_; clear hb k0; rintro e w0 ⟨rfl, hb, k0⟩
 obtain ⟨z0, z1, z2⟩ := val_cells k0
 obtain ⟨f0, f1, f2⟩ := val_frozen k0
 clear k0
 go_wp2
 exact bodyPost_ret (v := .agg #[.int .i64 4, .int .i64 2, .string ⟨#[]⟩]) (by simp [results, Tryz.results64, go_sem, z0, z1, z2]) rfl ⟨rfl, set3 hb (by simp; try omega)⟩
theorem rtext_e (s : ByteArray) (x : Int) (w : World) (h0 : (x != 0) = true) : Ret 82 #[.string s, .int .i64 x] w (.agg #[.int .i64 4, .int .i64 4, .string ⟨#[]⟩]) := by
 obtain ⟨hb, k0⟩ := box1 w #[.int .i64 0, .int .i64 0, .string ⟨#[]⟩] 26
 go_enter Tryz.func82, Tryz.ntmps82
 go_wp2_with (fail)
 generalize (w.alloc (Obj.cells #[.int .i64 0, .int .i64 0, .string ⟨#[]⟩] 26)) = W0 at *
 refine (go1 (rbad14 4 _) hb k0).mono ?_; clear hb k0; rintro e w0 ⟨rfl, hb, k0⟩
 obtain ⟨z0, z1, z2⟩ := val_cells k0
 obtain ⟨f0, f1, f2⟩ := val_frozen k0
 clear k0
 go_wp2
 exact bodyPost_ret (v := .agg #[.int .i64 4, .int .i64 4, .string ⟨#[]⟩]) (by simp [results, Tryz.results82, go_sem, z0, z1, z2]) rfl ⟨rfl, set3 hb (by simp; try omega)⟩
theorem rtext_ok (s : ByteArray) (w : World) (HT : Hid (∀ w, Ret 58 #[.string s] w (.agg #[.int .i64 3, .int .i64 0, .string s]))) : Ret 82 #[.string s, .int .i64 0] w (.agg #[.int .i64 3, .int .i64 0, .string s]) := by
 obtain ⟨hb, k0⟩ := box1 w #[.int .i64 0, .int .i64 0, .string ⟨#[]⟩] 26
 go_enter Tryz.func82, Tryz.ntmps82
 go_wp2_with (fail)
 generalize (w.alloc (Obj.cells #[.int .i64 0, .int .i64 0, .string ⟨#[]⟩] 26)) = W0 at *
 refine (go1 (HT.out _) hb k0).mono ?_; clear hb k0; rintro e w0 ⟨rfl, hb, k0⟩
 obtain ⟨z0, z1, z2⟩ := val_cells k0
 obtain ⟨f0, f1, f2⟩ := val_frozen k0
 clear k0
 go_wp2
 exact bodyPost_ret (v := .agg #[.int .i64 3, .int .i64 0, .string s]) (by simp [results, Tryz.results82, go_sem, z0, z1, z2]) rfl ⟨rfl, set3 hb (by simp; try omega)⟩
theorem rtext_far (s : ByteArray) (w : World) (HT : Hid (∀ w, Ret 58 #[.string s] w (.agg #[.int .i64 4, .int .i64 4, .string ⟨#[]⟩]))) : Ret 82 #[.string s, .int .i64 0] w (.agg #[.int .i64 4, .int .i64 4, .string ⟨#[]⟩]) := by
 obtain ⟨hb, k0⟩ := box1 w #[.int .i64 0, .int .i64 0, .string ⟨#[]⟩] 26
 go_enter Tryz.func82, Tryz.ntmps82
 go_wp2_with (fail)
 generalize (w.alloc (Obj.cells #[.int .i64 0, .int .i64 0, .string ⟨#[]⟩] 26)) = W0 at *
 refine (go1 (HT.out _) hb k0).mono ?_; clear hb k0; rintro e w0 ⟨rfl, hb, k0⟩
 obtain ⟨z0, z1, z2⟩ := val_cells k0
 obtain ⟨f0, f1, f2⟩ := val_frozen k0
 clear k0
 go_wp2
 exact bodyPost_ret (v := .agg #[.int .i64 4, .int .i64 4, .string ⟨#[]⟩]) (by simp [results, Tryz.results82, go_sem, z0, z1, z2]) rfl ⟨rfl, set3 hb (by simp; try omega)⟩
theorem rsummed_t (n : Int) (w : World) : Ret 60 #[.int .i64 n, .bool true] w (.agg #[.int .i64 1, .int .i64 n, .string ⟨#[]⟩]) := by
 obtain ⟨hb, k0⟩ := box1 w #[.int .i64 0, .int .i64 0, .string ⟨#[]⟩] 26
 go_enter Tryz.func60, Tryz.ntmps60
 go_wp2_with (fail)
 generalize (w.alloc (Obj.cells #[.int .i64 0, .int .i64 0, .string ⟨#[]⟩] 26)) = W0 at *
 refine (go1 (rnum14 n _) hb k0).mono ?_; clear hb k0; rintro e w0 ⟨rfl, hb, k0⟩
 obtain ⟨z0, z1, z2⟩ := val_cells k0
 obtain ⟨f0, f1, f2⟩ := val_frozen k0
 clear k0
 go_wp2
 exact bodyPost_ret (v := .agg #[.int .i64 1, .int .i64 n, .string ⟨#[]⟩]) (by simp [results, Tryz.results60, go_sem, z0, z1, z2]) rfl ⟨rfl, set3 hb (by simp; try omega)⟩
theorem rsummed_f (n : Int) (w : World) : Ret 60 #[.int .i64 n, .bool false] w (.agg #[.int .i64 4, .int .i64 2, .string ⟨#[]⟩]) := by
 obtain ⟨hb, k0⟩ := box1 w #[.int .i64 0, .int .i64 0, .string ⟨#[]⟩] 26
 go_enter Tryz.func60, Tryz.ntmps60
 go_wp2_with (fail)
 generalize (w.alloc (Obj.cells #[.int .i64 0, .int .i64 0, .string ⟨#[]⟩] 26)) = W0 at *
 refine (go1 (rbad14 2 _) hb k0).mono ?_; clear hb k0; rintro e w0 ⟨rfl, hb, k0⟩
 obtain ⟨z0, z1, z2⟩ := val_cells k0
 obtain ⟨f0, f1, f2⟩ := val_frozen k0
 clear k0
 go_wp2
 exact bodyPost_ret (v := .agg #[.int .i64 4, .int .i64 2, .string ⟨#[]⟩]) (by simp [results, Tryz.results60, go_sem, z0, z1, z2]) rfl ⟨rfl, set3 hb (by simp; try omega)⟩
theorem rwrong_no (k n : Int) (t : ByteArray) (w : World) (HM : Hid (∀ w, Ret 49 #[.agg #[.int .i64 k, .int .i64 n, .string t]] w (.bool false))) : Ret 56 #[.agg #[.int .i64 k, .int .i64 n, .string t]] w (.int .i64 4) := by
 obtain ⟨hb, k0⟩ := box1 w #[.int .i64 k, .int .i64 n, .string t] 26
 go_enter Tryz.func56, Tryz.ntmps56
 go_wp2_with (fail)
 generalize (w.alloc (Obj.cells #[.int .i64 k, .int .i64 n, .string t] 26)) = W0 at *
 refine (go1 (HM.out _) hb k0).mono ?_; clear hb k0; rintro e w0 ⟨rfl, hb, k0⟩
 obtain ⟨c00, c01, c02⟩ := val_cells k0
 go_wp2
 go_ret
 exact ⟨rfl, hb⟩
theorem rwrong_err (k n : Int) (t : ByteArray) (w : World) (HM : Hid (∀ w, Ret 49 #[.agg #[.int .i64 k, .int .i64 n, .string t]] w (.bool true))) (h4 : (k == 4) = true) : Ret 56 #[.agg #[.int .i64 k, .int .i64 n, .string t]] w (.int .i64 n) := by
 obtain ⟨hb, k0⟩ := box1 w #[.int .i64 k, .int .i64 n, .string t] 26
 go_enter Tryz.func56, Tryz.ntmps56
 go_wp2_with (fail)
 generalize (w.alloc (Obj.cells #[.int .i64 k, .int .i64 n, .string t] 26)) = W0 at *
 refine (go1 (HM.out _) hb k0).mono ?_; clear hb k0; rintro e w0 ⟨rfl, hb, k0⟩
 obtain ⟨c00, c01, c02⟩ := val_cells k0
 go_wp2
 go_ret
 exact ⟨rfl, hb⟩
theorem rwrong_ok (k n : Int) (t : ByteArray) (w : World) (HM : Hid (∀ w, Ret 49 #[.agg #[.int .i64 k, .int .i64 n, .string t]] w (.bool true))) (h4 : (k == 4) = false) : Ret 56 #[.agg #[.int .i64 k, .int .i64 n, .string t]] w (.int .i64 0) := by
 obtain ⟨hb, k0⟩ := box1 w #[.int .i64 k, .int .i64 n, .string t] 26
 go_enter Tryz.func56, Tryz.ntmps56
 go_wp2_with (fail)
 generalize (w.alloc (Obj.cells #[.int .i64 k, .int .i64 n, .string t] 26)) = W0 at *
 refine (go1 (HM.out _) hb k0).mono ?_; clear hb k0; rintro e w0 ⟨rfl, hb, k0⟩
 obtain ⟨c00, c01, c02⟩ := val_cells k0
 go_wp2
 go_ret
 exact ⟨rfl, hb⟩
theorem rwhole_any (n x : Int) (w : World) : Ret 64 #[.int .i64 n, .int .i64 x] w (vv (Cal.told n x)) := by
  unfold Cal.told
  cases h0 : (x == 0) with
  | true => obtain rfl : x = 0 := by simpa using h0
            exact rwhole_0 n w
  | false => cases h1 : (x == 14) with
    | true => obtain rfl : x = 14 := by simpa using h1
              exact rwhole_14 n w
    | false => exact rwhole_e n x w h0 h1
theorem rtext14_any (s : ByteArray) (x : Int) (w : World) : Ret 82 #[.string s, .int .i64 x] w (vv (Cal.spelt s x)) := by
  unfold Cal.spelt
  cases h0 : (x == 0) with
  | true => obtain rfl : x = 0 := by simpa using h0
            by_cases h : s.size ≤ 32767
            · rw [decide_eq_true h]; exact rtext_ok s w (Lib.hid fun w => rtextv_ok s w (by simp; omega))
            · rw [decide_eq_false h]; exact rtext_far s w (Lib.hid fun w => rtextv_far s w (by simp; omega))
  | false => exact rtext_e s x w (by simpa using h0)
theorem rsummed_any (n : Int) (b : Bool) (w : World) : Ret 60 #[.int .i64 n, .bool b] w (vv (Cal.fits n b)) := by
 cases b
 ·exact rsummed_f n w
 ·exact rsummed_t n w
theorem rtextS_any (s : ByteArray) (w : World) : Ret 58 #[.string s] w (vv (Cal.spelt s 0)) := by
 unfold Cal.spelt
 by_cases h : s.size ≤ 32767
 ·rw [decide_eq_true h]; exact rtextv_ok s w (by simp; omega)
 ·rw [decide_eq_false h]; exact rtextv_far s w (by simp; omega)
theorem rboolS_any (b : Bool) (w : World) : Ret 50 #[.bool b] w (vv (Cal.tru b)) := by
 cases b
 ·exact rbool_false w
 ·exact rbool_true w
namespace Cal
def wrong (v : Val.V) : Int := cond (!Val.mayB v) 4 <| cond (v.k == 4) v.n 0
end Cal
theorem rwrong_any (v : Val.V) (w : World) : Ret 56 #[vv v] w (.int .i64 (Cal.wrong v)) := by
 have HM := fun w => rmay_any v w
 unfold Cal.wrong
 obtain ⟨k, n, t⟩ := v
 cases hm : Val.mayB (⟨k, n, t⟩ : Val.V) with
 | false =>
  rw [hm] at HM
  exact rwrong_no k n t w (Lib.hid HM)
 | true =>
  rw [hm] at HM
  cases h4 : (k == 4) with
  | true => exact (rwrong_err k n t w (Lib.hid HM) h4).mono fun e w' h => by simpa [h4] using h
  | false => exact (rwrong_ok k n t w (Lib.hid HM) h4).mono fun e w' h => by simpa [h4] using h
theorem rpow_any (a x y : Int) (b : Nat) (w : World) (ha1 : -9223372036854775808 ≤ a) (ha2 : a ≤ 9223372036854775807) (hb2 : b ≤ 9223372036854775807)
  (hx : PowG.powN a b = x) (hy : PowG.powE a b = y) :
  Ret 66 #[.int .i64 a, .int .i64 (b : Int)] w (.tuple #[.int .i64 x, .int .i64 y]) := by
 by_cases h0 : a = 0
 ·subst h0
  by_cases hb : b = 0
  ·subst hb
   have hf : PowG.Fits ((0 : Int) ^ 0) := by decide
   rw [(powN_fit hf).1] at hx
   rw [(powN_fit hf).2] at hy
   subst hx hy
   exact rpow_nought w
  ·have e : (0 : Int) ^ b = 0 := PowG.zero_pow b (by omega)
   have hf : PowG.Fits ((0 : Int) ^ b) := by rw [e]; decide
   rw [(powN_fit hf).1, e] at hx
   rw [(powN_fit hf).2] at hy
   subst hx hy
   exact rpow_zero b w (by omega)
 ·by_cases h1 : a = 1
  ·subst h1
   have e := PowG.one_pow b
   have hf : PowG.Fits ((1 : Int) ^ b) := by rw [e]; decide
   rw [(powN_fit hf).1, e] at hx
   rw [(powN_fit hf).2] at hy
   subst hx hy
   exact rpow_one b w (by omega)
  ·by_cases hb0 : b = 0
   ·subst hb0
    have e : a ^ 0 = 1 := Int.pow_zero a
    have hf : PowG.Fits (a ^ 0) := by rw [e]; decide
    rw [(powN_fit hf).1, e] at hx
    rw [(powN_fit hf).2] at hy
    subst hx hy
    exact rpow_first a w (by simpa using h0) (by simpa using h1)
   ·by_cases h2 : a = -1
    ·subst h2
     have e := PowG.negone_pow b
     have hf : PowG.Fits ((-1 : Int) ^ b) := by rw [e]; unfold PowG.Fits; omega
     rw [(powN_fit hf).1, e] at hx
     rw [(powN_fit hf).2] at hy
     subst hx hy
     exact rpow_none b ((b : Int) % 2) w (by omega) (by rw [Int.tmod_eq_emod_of_nonneg (by omega)]) (by omega) (by omega) (by rw [beq_eq_false_iff_ne]; omega)
    ·exact rpow_great a x y b w ha1 ha2 hb2 h0 h1 h2 hb0 hx hy
section
variable (x y : Int) (hx : I64 x) (hy : I64 y)
include hx hy
theorem dadd : Bin2 61 x y (.int .i64 (Ref.fitV (x + y))) (.bool (Ref.fitB (x + y))) := fun w => radd_any x y _ _ w hx.1 hx.2 hy.1 hy.2 rfl rfl
theorem dsub : Bin2 62 x y (.int .i64 (Ref.fitV (x - y))) (.bool (Ref.fitB (x - y))) := fun w => rsub_any x y _ _ w hx.1 hx.2 hy.1 hy.2 rfl rfl
theorem dmul : Bin2 63 x y (.int .i64 (Ref.fitV (x * y))) (.bool (Ref.fitB (x * y))) := fun w => rmul_any x y _ _ w hx.1 hx.2 hy.1 hy.2 rfl rfl
theorem dquo : Bin2 65 x y (.int .i64 (Cal.quoV x y).1) (.int .i64 (Cal.quoV x y).2) := fun w => by
 unfold Cal.quoV
 by_cases h0 : y = 0
 ·subst h0; exact rquo_zero x w
 ·rw [if_neg h0]; exact rquo_any x y _ _ w hx.1 hx.2 hy.1 hy.2 h0 rfl rfl
theorem dmod : Bin2 152 x y (.int .i64 (Cal.modV x y).1) (.int .i64 (Cal.modV x y).2) := fun w => by
 unfold Cal.modV
 by_cases h0 : y = 0
 ·subst h0; exact rmod_zero x w
 ·rw [if_neg h0]; exact rmod_any x y _ w hx.1 hx.2 hy.1 hy.2 h0 rfl
theorem dgcd : Bin2 153 x y (.int .i64 (Cal.gcdV x y).1) (.int .i64 (Cal.gcdV x y).2) := fun w => rgcd2_any x y _ _ w hx.1 hx.2 hy.1 hy.2 rfl rfl
theorem dlcm : Bin2 154 x y (.int .i64 (Cal.lcmV x y).1) (.int .i64 (Cal.lcmV x y).2) := fun w => by
 unfold Cal.lcmV
 by_cases h1 : x = 0
 ·subst h1; exact rlcm_zero1 y w
 ·by_cases h2 : y = 0
  ·subst h2; rw [if_pos (.inr rfl)]; exact rlcm_zero2 x w
  ·rw [if_neg (by omega)]; exact rlcm_any x y _ _ w hx.1 hx.2 hy.1 hy.2 h1 h2 rfl rfl
theorem dpow : Bin2 66 x y (.int .i64 (Cal.powV x y).1) (.int .i64 (Cal.powV x y).2) := fun w => by
 unfold Cal.powV
 by_cases h0 : y < 0
 ·rw [if_pos h0]; exact rpow_neg x y w h0
 ·rw [if_neg h0]
  obtain ⟨k, rfl⟩ := Int.eq_ofNat_of_zero_le (show 0 ≤ y by omega)
  have e : (k : Int).toNat = k := by omega
  rw [e]
  unfold I64 at hy
  by_cases h : PowG.Fits (x ^ k)
  ·rw [Cal.errV_of h]
   exact rpow_any x _ _ k w hx.1 hx.2 (by omega) (powN_fit h).1 (powN_fit h).2
  ·rw [Cal.errV_not h]
   exact rpow_any x _ _ k w hx.1 hx.2 (by omega) (powN_not h).1 (powN_not h).2
end
end Go.Proofs.YtpiiemneelkpkaaGreatDoor
