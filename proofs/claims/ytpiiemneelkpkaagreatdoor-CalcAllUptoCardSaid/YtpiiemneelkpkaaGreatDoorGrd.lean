import Derived.Test.YtpiiemneelkpkaaGreatDoorGra
import Derived.Test.YtpiiemneelkpkaaGreatDoorGnu
import Derived.Laws.Rows
import Derived.Laws.IdiomStrings
import Derived.Lib.Strings
set_option maxRecDepth 100000
namespace Go.Proofs.YtpiiemneelkpkaaGreatDoor
open Go.RowKit
set_option linter.unusedVariables false
theorem num_set {w : World} {B T : Nat} {n o n' o' : Bool} {m m' : Nat} (h : w.heap[B]? = some (.cells #[.bool n, .bool o, .int .u64 (m : Int)] T (0, 0))) :
  (((w.setCell ⟨B, 0, none⟩ (.bool n')).setCell ⟨B, 1, none⟩ (.bool o')).setCell ⟨B, 2, none⟩ (.int .u64 (m' : Int))).heap[B]? = some (.cells #[.bool n', .bool o', .int .u64 (m' : Int)] T (0, 0)) := by
 have h1 := heap_setCell_same w B 0 _ T (.bool n') h
 have h2 := heap_setCell_same _ B 1 _ T (.bool o') h1
 exact heap_setCell_same _ B 2 _ T (.int .u64 (m' : Int)) h2
theorem num_frozen {w : World} {B T : Nat} {n o : Bool} {m : Nat} (h : w.heap[B]? = some (.cells #[.bool n, .bool o, .int .u64 (m : Int)] T (0, 0))) :
  w.frozen? ⟨B, 0, none⟩ = false ∧ w.frozen? ⟨B, 1, none⟩ = false ∧ w.frozen? ⟨B, 2, none⟩ = false :=
 ⟨Lib.frozen_of_heap h 0, Lib.frozen_of_heap h 1, Lib.frozen_of_heap h 2⟩
theorem num_set_below {w0 w : World} {B0 B : Nat} {u v z : Value} (h : Below B0 w0 w) (hB : B0 ≤ B) :
  Below B0 w0 (((w.setCell ⟨B, 0, none⟩ u).setCell ⟨B, 1, none⟩ v).setCell ⟨B, 2, none⟩ z) :=
 ((h.setCell (p := ⟨B, 0, none⟩) hB _).setCell (p := ⟨B, 1, none⟩) hB _).setCell (p := ⟨B, 2, none⟩) hB _
theorem rpow_neg (a b : Int) (w : World) (h : b < 0) : Ret 66 #[.int .i64 a, .int .i64 b] w (.tuple #[.int .i64 0, .int .i64 13]) := by
 go_enter Tryz.func66, Tryz.ntmps66
 go_wp2
 go_ret2
 exact ⟨rfl, Below.refl _ _⟩
theorem rpow_zero (b : Int) (w : World) (h : 0 < b) : Ret 66 #[.int .i64 0, .int .i64 b] w (.tuple #[.int .i64 0, .int .i64 0]) := by
 go_enter Tryz.func66, Tryz.ntmps66
 go_wp2
 go_ret2
 exact ⟨rfl, Below.refl _ _⟩
theorem rpow_nought (w : World) : Ret 66 #[.int .i64 0, .int .i64 0] w (.tuple #[.int .i64 1, .int .i64 0]) := by
 go_enter Tryz.func66, Tryz.ntmps66
 go_wp2
 go_ret2
 exact ⟨rfl, Below.refl _ _⟩
theorem rpow_one (b : Int) (w : World) (h : 0 ≤ b) : Ret 66 #[.int .i64 1, .int .i64 b] w (.tuple #[.int .i64 1, .int .i64 0]) := by
 go_enter Tryz.func66, Tryz.ntmps66
 go_wp2
 go_ret2
 exact ⟨rfl, Below.refl _ _⟩
theorem rpow_first (a : Int) (w : World) (t0 : (a == 0) = false) (t1 : (a == 1) = false) : Ret 66 #[.int .i64 a, .int .i64 0] w (.tuple #[.int .i64 1, .int .i64 0]) := by
 go_enter Tryz.func66, Tryz.ntmps66
 go_wp2
 go_ret2
 exact ⟨rfl, Below.refl _ _⟩
theorem rpow_none (b r : Int) (w : World) (h : 0 < b) (hb : b.tmod 2 = r) (h0 : 0 ≤ r) (h1 : r ≤ 1) (t2 : (b == 0) = false) : Ret 66 #[.int .i64 (-1), .int .i64 b] w (.tuple #[.int .i64 (1 - 2 * r), .int .i64 0]) := by
 go_enter Tryz.func66, Tryz.ntmps66
 go_wp2
 go_ret2
 exact ⟨rfl, Below.refl _ _⟩
set_option maxHeartbeats 2000000 in
theorem rpow_great (a x y : Int) (b : Nat) (w : World) (ha1 : -9223372036854775808 ≤ a) (ha2 : a ≤ 9223372036854775807) (hb2 : b ≤ 9223372036854775807) (h0 : a ≠ 0) (h1 : a ≠ 1) (h2 : a ≠ -1) (hb0 : b ≠ 0)
  (hx : PowG.powN a b = x) (hy : PowG.powE a b = y) :
  Ret 66 #[.int .i64 a, .int .i64 (b : Int)] w (.tuple #[.int .i64 x, .int .i64 y]) := by
 have t0 : (a == 0) = false := by simpa using h0
 have t1 : (a == 1) = false := by simpa using h1
 have t2 : (a == -1) = false := by simpa using h2
 have t3 : ((b : Int) == 0) = false := by rw [beq_eq_false_iff_ne]; omega
 have HX := Lib.hid hx
 have HY := Lib.hid hy
 have H1 := Lib.hid (fun w => of_any 1 1 false w (by omega) (by omega) (by decide) (by decide))
 have H2 := Lib.hid (fun w => of_any a a.natAbs (decide (a < 0)) w ha1 ha2 rfl rfl)
 have hma := abs_lt a ha1 ha2
 have HV : Hid (Ref.val (decide (a < 0)) a.natAbs = a) := Lib.hid (Ref.val_neg a)
 generalize decide (a < 0) = na at *
 generalize a.natAbs = ma at *
 clear h1 h2 h0 hx hy hb0
 go_enter Tryz.func66, Tryz.ntmps66
 go_wp2_with (fail)
 refine (H1.out _).mono ?_
 rintro e w1 ⟨rfl, hb1⟩
 go_wp2_with (fail)
 have hB : (w1.alloc (Obj.cells #[.bool false, .bool false, .int .u64 1] 109)).heap[w1.heap.size]? = some (.cells #[.bool false, .bool false, .int .u64 ((1 : Nat) : Int)] 109 (0, 0)) := heap_alloc_new _ _
 have hb0 : Below w.heap.size w (w1.alloc (Obj.cells #[.bool false, .bool false, .int .u64 1] 109)) := hb1.alloc hb1.size _
 have hl0 : w1.heap.size < (w1.alloc (Obj.cells #[.bool false, .bool false, .int .u64 1] 109)).heap.size := by simp
 generalize w1.alloc (Obj.cells #[.bool false, .bool false, .int .u64 1] 109) = W0 at *
 replace hB := Lib.hid hB
 clear H1
 go_loopw [7] (fun iv wr => ∃ (k m : Nat) (n : Bool), k ≤ b ∧ iv = .int .i64 (k : Int) ∧ Hid (m < 18446744073709551616) ∧ Hid (Ref.val n m = a ^ k) ∧ Hid (PowG.Fits (a ^ k)) ∧ Hid (wr.heap[w1.heap.size]? = some (.cells #[.bool n, .bool false, .int .u64 (m : Int)] 109 (0, 0))) ∧ Below w.heap.size w wr ∧ w1.heap.size < wr.heap.size) (fun iv _ => b - (intOf iv).toNat)
 case atStart => exact ⟨0, 1, false, Nat.zero_le _, rfl, Lib.hid (by omega), Lib.hid (by rw [Int.pow_zero]; rfl), Lib.hid (by rw [Int.pow_zero]; decide), hB, hb0, hl0⟩
 case round =>
  obtain ⟨k, m, n, hk, rfl, HML, HM, HFit, HB, hb, hlt⟩ := hrel
  have F := Ref.prod_fits n m na ma (a ^ (k + 1)) (by rw [HM.out, HV.out, Int.pow_succ])
  have HP := Lib.hid (fun w => prod_any n na _ _ m ma _ w HML.out hma rfl rfl rfl)
  have HML2 : Hid (Ref.prodM m ma < 18446744073709551616) := Lib.hid (Ref.prodM_lt _ _)
  have HM2 : Hid (Ref.prodO m ma = false → Ref.val (n != na) (Ref.prodM m ma) = a ^ (k + 1)) := Lib.hid (fun e => by
   rcases Ref.prod_tells n m na ma with h | h
   ·rw [h.2, HM.out, HV.out, Int.pow_succ]
   ·rw [h.1] at e; cases e)
  generalize (n != na) = n' at *
  generalize Ref.prodM m ma = m' at *
  generalize Ref.prodO m ma = o' at *
  obtain ⟨x0, x1, x2⟩ := num_cells HB.out
  by_cases hkb : k < b
  ·by_cases hf : PowG.Fits (a ^ (k + 1))
   ·have ho : o' = false := by
     have := F.2.trans (fit_of hf).2
     unfold Ref.rB at this
     rw [Bool.and_eq_true] at this
     simpa using this.1
    subst ho
    have HF := Lib.hid (fun w => fits_any' n' false m' _ true w F.1 (F.2.trans (fit_of hf).2))
    generalize Ref.fitV (a ^ (k + 1)) = v at *
    have HFF := Lib.hid hf
    replace HM2 := Lib.hid (HM2.out rfl)
    clear hf F
    go_wp2_with (fail)
    go_region_with (first
     | (go_at_call 95; refine (H2.out _).mono ?_; rintro e w2 ⟨rfl, hb2⟩; have hk2 := (hb2.block w1.heap.size hlt).trans HB.out; have hl2 := Nat.lt_of_lt_of_le hlt hb2.size; have hs2 := hb.drew.trans (hb2.mono hb.size); obtain ⟨c0, c1, c2⟩ := num_cells hk2; replace hk2 := Lib.hid hk2)
     | (go_at_call 96; refine (HP.out _).mono ?_; rintro e w3 ⟨rfl, hb3⟩; have hk3 := (hb3.block w1.heap.size hl2).trans hk2.out; have hl3 := Nat.lt_of_lt_of_le hl2 hb3.size; have hs3 := hs2.trans (hb3.mono hs2.size); obtain ⟨z0, z1, z2⟩ := num_cells hk3; obtain ⟨f0, f1, f2⟩ := num_frozen hk3; replace hk3 := Lib.hid hk3))
    all_goals
     go_wp2_with (fail)
     refine (HF.out _).mono ?_
     rintro e w5 ⟨rfl, hb5⟩
     have hk5 := (hb5.block w1.heap.size (by simpa [World.setCell] using hl3)).trans (num_set hk3.out)
     have hs5 := Below.trans (num_set_below hs3 (B := w1.heap.size) (by have := hb1.size; omega)) (hb5.mono (by have := hs3.size; simpa [World.setCell] using this))
     have hl5 : w1.heap.size < w5.heap.size := Nat.lt_of_lt_of_le (by simpa [World.setCell] using hl3) hb5.size
     clear c0 c1 c2 z0 z1 z2 f0 f1 f2 x0 x1 x2 hb2 hb3 hb5
     replace hk5 := Lib.hid hk5
     go_wp2
     go_roundw
     case rel => exact ⟨k + 1, m', n', by omega, by go_num, HML2, HM2, HFF, hk5, hs5, hl5⟩
     case measure => simp [intOf]; omega
   ·have HF := Lib.hid (fun w => fits_any' n' o' m' 0 false w (F.1.trans (fit_not hf).1) (F.2.trans (fit_not hf).2))
    have HE : Hid (x = 0 ∧ y = 13) := by
     have hn2 := PowG.pow_over' a (k + 1) (b - (k + 1)) hf
     rw [show k + 1 + (b - (k + 1)) = b by omega] at hn2
     rw [← HX.out, ← HY.out, (powN_not hn2).1, (powN_not hn2).2]
     exact ⟨rfl, rfl⟩
    clear hf F HM2
    go_wp2_with (fail)
    go_region_with (first
     | (go_at_call 95; refine (H2.out _).mono ?_; rintro e w2 ⟨rfl, hb2⟩; have hk2 := (hb2.block w1.heap.size hlt).trans HB.out; have hl2 := Nat.lt_of_lt_of_le hlt hb2.size; have hs2 := hb.drew.trans (hb2.mono hb.size); obtain ⟨c0, c1, c2⟩ := num_cells hk2; replace hk2 := Lib.hid hk2)
     | (go_at_call 96; refine (HP.out _).mono ?_; rintro e w3 ⟨rfl, hb3⟩; have hk3 := (hb3.block w1.heap.size hl2).trans hk2.out; have hl3 := Nat.lt_of_lt_of_le hl2 hb3.size; have hs3 := hs2.trans (hb3.mono hs2.size); obtain ⟨z0, z1, z2⟩ := num_cells hk3; obtain ⟨f0, f1, f2⟩ := num_frozen hk3; replace hk3 := Lib.hid hk3))
    all_goals
     go_wp2_with (fail)
     refine (HF.out _).mono ?_
     rintro e w5 ⟨rfl, hb5⟩
     have hk5 := (hb5.block w1.heap.size (by simpa [World.setCell] using hl3)).trans (num_set hk3.out)
     have hs5 := Below.trans (num_set_below hs3 (B := w1.heap.size) (by have := hb1.size; omega)) (hb5.mono (by have := hs3.size; simpa [World.setCell] using this))
     have hl5 : w1.heap.size < w5.heap.size := Nat.lt_of_lt_of_le (by simpa [World.setCell] using hl3) hb5.size
     clear c0 c1 c2 z0 z1 z2 f0 f1 f2 x0 x1 x2 hb2 hb3 hb5
     replace hk5 := Lib.hid hk5
     go_wp2
     go_ret2
     rw [HE.out.1, HE.out.2]
     exact ⟨rfl, hs5⟩
  ·obtain rfl : k = b := by omega
   have HT := Lib.hid (fun w => told_any n false m (a ^ k) true w (by unfold Ref.rV; rw [HM.out]; exact (fit_of HFit.out).1) (by unfold Ref.rB; rw [HM.out]; simp only [Bool.not_false, Bool.true_and]; exact (fit_of HFit.out).2))
   have HE : Hid (x = a ^ k ∧ y = 0) := by
    rw [← HX.out, ← HY.out, (powN_fit HFit.out).1, (powN_fit HFit.out).2]
    exact ⟨rfl, rfl⟩
   clear F HM2
   generalize a ^ k = v at *
   go_wp2_with (fail)
   refine (HT.out _).mono ?_
   rintro e w5 ⟨rfl, hb5⟩
   go_wp2
   go_ret2
   rw [HE.out.1, HE.out.2]
   exact ⟨rfl, hb.trans (hb5.mono hb.size)⟩
set_option maxHeartbeats 1000000 in
theorem rtext_any (n : Int) (w : World) (h0 : -9223372036854775808 ≤ n) (h1 : n ≤ 9223372036854775807) :
    Ret 91 #[.int .i64 n] w (.string ⟨(Lib.itoa n).toArray⟩) := by
  have H1 := Lib.hid (fun w => of_any n n.natAbs (decide (n < 0)) w h0 h1 rfl rfl)
  have hma := abs_lt n h0 h1
  have HI : Hid (Lib.itoa n = cond (decide (n < 0)) (45 :: Lib.decDigits n.natAbs) (Lib.decDigits n.natAbs)) := Lib.hid (by
    by_cases h : n < 0
    · rw [decide_eq_true h, Ref.itoa_neg n h]; rfl
    · rw [decide_eq_false h, Ref.itoa_pos n h]; rfl)
  have hlen : (Lib.decDigits n.natAbs).length ≤ 20 := Dec.dec_len _ 20 (by omega) (by have : (10 : Nat) ^ 20 = 100000000000000000000 := by decide
                                                                                      omega)
  generalize decide (n < 0) = na at *
  generalize n.natAbs = M at *
  go_enter Tryz.func91, Tryz.ntmps91
  go_wp2_with (fail)
  refine (H1.out _).mono ?_
  rintro e w1 ⟨rfl, hb1⟩
  go_wp2_with (fail)
  have hB : (w1.alloc (Obj.cells #[.bool na, .bool false, .int .u64 (M : Int)] 109)).heap[w1.heap.size]? = some (.cells #[.bool na, .bool false, .int .u64 (M : Int)] 109 (0, 0)) := heap_alloc_new _ _
  have hb0 : Below w.heap.size w (w1.alloc (Obj.cells #[.bool na, .bool false, .int .u64 (M : Int)] 109)) := hb1.alloc hb1.size _
  have hl0 : w1.heap.size < (w1.alloc (Obj.cells #[.bool na, .bool false, .int .u64 (M : Int)] 109)).heap.size := by simp
  generalize w1.alloc (Obj.cells #[.bool na, .bool false, .int .u64 (M : Int)] 109) = W0 at *
  replace hB := Lib.hid hB
  have HLen := Lib.hid hlen
  clear H1 hlen
  go_loopw [4, 5] (fun sv mv wr => ∃ (m : Nat) (S : ByteArray), sv = .string S ∧ mv = .int .u64 (m : Int) ∧ m ≤ M ∧ Hid ((S.data.toList = [] ∧ m = M) ∨ (S.data.toList ≠ [] ∧ Ref.digs m ++ S.data.toList = Lib.decDigits M)) ∧ Hid (wr.heap[w1.heap.size]? = some (.cells #[.bool na, .bool false, .int .u64 (M : Int)] 109 (0, 0))) ∧ Below w.heap.size w wr ∧ w1.heap.size < wr.heap.size) (fun sv mv _ => (intOf mv).toNat + (match sv with | .string S => cond S.data.toList.isEmpty 1 0 | _ => 0))
  case atStart => exact ⟨M, ⟨#[]⟩, rfl, rfl, Nat.le_refl _, Lib.hid (.inl ⟨rfl, rfl⟩), hB, hb0, hl0⟩
  case round =>
    obtain ⟨m, S, rfl, rfl, hmM, HD, HB, hb, hlt⟩ := hrel
    have hS20 : S.size ≤ 20 := by
      rw [Lib.size_eq]
      rcases HD.out with ⟨h, _⟩ | ⟨_, h⟩
      · rw [h]; exact Nat.zero_le _
      · have h2 := HLen.out
        rw [← h, List.length_append] at h2
        omega
    by_cases hgo : 0 < m ∨ S.data.toList = []
    · have HD2 : Hid (Ref.digs (m / 10) ++ (UInt8.ofNat (48 + m % 10) :: S.data.toList) = Lib.decDigits M) := Lib.hid (by
        rcases HD.out with ⟨h, rfl⟩ | ⟨h, h2⟩
        · rw [h, Ref.dec_step]
        · have hm : m ≠ 0 := by
            rcases hgo with hg | hg
            · omega
            · exact absurd hg h
          rw [← h2, Ref.digs_step m hm, List.append_assoc]; rfl)
      have hc : (UInt8.ofNat (48 + m % 10)).toNat = 48 + m % 10 := by rw [UInt8.toNat_ofNat']; omega
      have e1 : (m : Int).tmod 10 = ((m % 10 : Nat) : Int) := by rw [Int.tmod_eq_emod_of_nonneg (by omega)]; omega
      have e2 : (m : Int).tdiv 10 = ((m / 10 : Nat) : Int) := by rw [Int.tdiv_eq_ediv_of_nonneg (by omega)]; omega
      have hr : m % 10 < 10 := Nat.mod_lt _ (by omega)
      have hq : m / 10 ≤ M := by omega
      have hq2 : m / 10 < m ∨ m = 0 := by omega
      have hq5 : m / 10 ≤ m := Nat.div_le_self _ _
      have hm0 : 0 < m ∨ (m = 0 ∧ S.data.toList = []) := by
        rcases hgo with h | h
        · exact .inl h
        · rcases Nat.eq_zero_or_pos m with e | e
          · exact .inr ⟨e, h⟩
          · exact .inl e
      generalize UInt8.ofNat (48 + m % 10) = c at *
      have e3 : IntKind.u64.wrap (48 + ((m % 10 : Nat) : Int)) = (c.toNat : Int) := by rw [hc]; simp [IntKind.wrap, IntKind.bits, IntKind.signed]; omega
      have e4 : IntKind.u8.wrap (c.toNat : Int) = (c.toNat : Int) := by have := UInt8.toNat_lt c; simp [IntKind.wrap, IntKind.bits, IntKind.signed]; omega
      have hcv : (convert 133 9 (.slice (some ⟨wr.heap.size, 0, none⟩) 1 1)).run Tryz.prog (wr.alloc (Obj.cells #[.int .u8 (c.toNat : Int)] 5)) = .ok (.string ⟨#[c]⟩) (wr.alloc (Obj.cells #[.int .u8 (c.toNat : Int)] 5)) := run_convert_bytes_back (P := Tryz.prog) (wr.alloc (Obj.cells #[.int .u8 (c.toNat : Int)] 5)) 133 9 5 ⟨wr.heap.size, 0, none⟩ 1 [c] Tryz.underlying133 Tryz.underlying5 Tryz.underlying9 (fun j hj => by
        match j, hj with
        | 0, _ => exact Lib.cell_of_heap (heap_alloc_new _ _) 0)
      have hbn : Below w.heap.size w (wr.alloc (Obj.cells #[.int .u8 (c.toNat : Int)] 5)) := hb.alloc hb.size _
      have hBn : Hid ((wr.alloc (Obj.cells #[.int .u8 (c.toNat : Int)] 5)).heap[w1.heap.size]? = some (.cells #[.bool na, .bool false, .int .u64 (M : Int)] 109 (0, 0))) := Lib.hid ((Below.heap_alloc _ _ _ hlt).trans HB.out)
      have HSz : Hid (∀ T : ByteArray, T = ⟨#[c]⟩ ++ S → T.data.toList = c :: S.data.toList) := Lib.hid (by rintro T rfl; simp [ByteArray.data_append])
      generalize m / 10 = q at *
      generalize m % 10 = r at *
      clear hc
      rcases hm0 with hm | ⟨hmz, hSe⟩
      · have t1 : decide ((0 : Int) < (m : Int)) = true := decide_eq_true (by omega)
        have t2 : ((m : Int) == 0) = false := by rw [beq_eq_false_iff_ne]; omega
        have hq3 : q < m := by omega
        clear hgo hq2 hq5
        go_wp2
        go_roundw
        case rel => exact ⟨q, ⟨#[c]⟩ ++ S, rfl, rfl, hq, Lib.hid (.inr ⟨by rw [HSz.out _ rfl]; simp, by rw [HSz.out _ rfl]; exact HD2.out⟩), hBn, hbn, by simp; omega⟩
        case measure =>
          have hne : ((⟨#[c]⟩ : ByteArray) ++ S).data.toList.isEmpty = false := by rw [HSz.out _ rfl]; rfl
          show (intOf (.int .u64 (q : Int))).toNat + cond ((⟨#[c]⟩ : ByteArray) ++ S).data.toList.isEmpty 1 0 < (intOf (.int .u64 (m : Int))).toNat + cond S.data.toList.isEmpty 1 0
          rw [hne]
          simp [intOf]; omega
      · have t1 : decide ((0 : Int) < (m : Int)) = false := decide_eq_false (by omega)
        have t2 : ¬ 0 < m := by omega
        have hS1 : S.toList = [] := by rw [Lib.toList_data]; exact hSe
        have hS2 : S.toList.isEmpty = true := by rw [hS1]; rfl
        have HSe := Lib.hid hSe
        have HQ : Hid (q = 0 ∧ m = 0) := Lib.hid ⟨by omega, hmz⟩
        clear hgo hq2 hq5 hmz hSe
        go_wp2
        go_roundw
        case rel => exact ⟨q, ⟨#[c]⟩ ++ S, rfl, rfl, hq, Lib.hid (.inr ⟨by rw [HSz.out _ rfl]; simp, by rw [HSz.out _ rfl]; exact HD2.out⟩), hBn, hbn, by simp; omega⟩
        case measure =>
          have hne : ((⟨#[c]⟩ : ByteArray) ++ S).data.toList.isEmpty = false := by rw [HSz.out _ rfl]; rfl
          show (intOf (.int .u64 (q : Int))).toNat + cond ((⟨#[c]⟩ : ByteArray) ++ S).data.toList.isEmpty 1 0 < (intOf (.int .u64 (m : Int))).toNat + cond S.data.toList.isEmpty 1 0
          rw [hne]
          rw [HSe.out, HQ.out.1, HQ.out.2]
          decide
    · have hmz : m = 0 := by omega
      have hSn : S.data.toList ≠ [] := fun e => hgo (.inr e)
      have t1 : decide ((0 : Int) < (m : Int)) = false := decide_eq_false (by omega)
      have t2 : ¬ 0 < m := by omega
      have hS1 : ¬ S.toList = [] := by rw [Lib.toList_data]; exact hSn
      have hS2 : S.toList.isEmpty = false := by simpa using hS1
      have HE : Hid (S.data.toList = Lib.decDigits M) := Lib.hid (by
        rcases HD.out with ⟨h, _⟩ | ⟨_, h⟩
        · exact absurd h hSn
        · rw [hmz] at h; exact h)
      clear hgo hmz hSn
      obtain ⟨x0, x1, x2⟩ := num_cells HB.out
      cases na with
      | true =>
        have HO : Hid ((⟨#[45]⟩ : ByteArray) ++ S = ⟨(Lib.itoa n).toArray⟩) := Lib.hid (by
          apply ByteArray.ext
          apply Array.ext'
          rw [HI.out]
          simp [ByteArray.data_append, HE.out])
        go_wp2
        go_ret
        exact ⟨by rw [← HO.out]; rfl, hb⟩
      | false =>
        have HO : Hid (S = ⟨(Lib.itoa n).toArray⟩) := Lib.hid (by
          apply ByteArray.ext
          apply Array.ext'
          rw [HI.out]
          simp [HE.out])
        go_wp2
        go_ret
        exact ⟨by rw [← HO.out]; rfl, hb⟩
end Go.Proofs.YtpiiemneelkpkaaGreatDoor
namespace Go.Proofs.YtpiiemneelkpkaaGreatDoor
open Go.RowKit
set_option linter.unusedVariables false
theorem rread_empty (s : ByteArray) (w : World) (hz : s.size = 0) : Ret 89 #[.string s] w (.tuple #[.int .i64 0, .int .i64 12]) := by
 have t1 : decide ((0 : Int) < (s.size : Int)) = false := decide_eq_false (by omega)
 have t2 : ¬ 0 < s.size := by omega
 have t3 : ((s.size : Int) == 0) = true := by rw [beq_iff_eq]; omega
 have t4 : (s.size == 0) = true := by rw [beq_iff_eq]; omega
 clear hz
 go_enter Tryz.func89, Tryz.ntmps89
 go_wp2
 go_ret2
 exact ⟨rfl, Below.refl _ _⟩
theorem dval_next (d : ByteArray) (k : Nat) (h : k < d.size) : Dec.dval 0 (d.data.toList.take (k + 1)) = Dec.dval 0 (d.data.toList.take k) * 10 + (d[k].toNat - 48) := by
 rw [List.take_succ_eq_append_getElem (by rw [← Lib.size_eq]; exact h), Dec.dval_append, Dec.dval_cons, Dec.dval_nil]
 rfl
theorem dval_take_lt (d : ByteArray) (k : Nat) (hk : k ≤ 19) (ha : ∀ j (h : j < d.size), 48 ≤ (d[j]'h).toNat ∧ (d[j]'h).toNat ≤ 57) : Dec.dval 0 (d.data.toList.take k) < 10 ^ k := by
 have hall : (d.data.toList.take k).all Dec.dig = true := by
  rw [List.all_eq_true]
  intro x hx
  obtain ⟨j, hj, e⟩ := List.getElem_of_mem (List.mem_of_mem_take hx)
  have h2 : j < d.size := by rw [Lib.size_eq]; exact hj
  rw [← e]
  exact Dec.dig_iff.2 (ha j h2)
 have h1 := Dec.dval_lt _ 0 hall
 have h2 : 10 ^ (d.data.toList.take k).length ≤ 10 ^ k := Nat.pow_le_pow_right (by omega) (List.length_take_le _ _)
 omega
theorem rread_m_none (s d : ByteArray) (w : World) (hz : 0 < s.size) (h45 : (((s[0]'hz).toNat : Int) == 45) = true) (hd : s.extract 1 s.size = d) (hsz : s.size - 1 = d.size) (hd0 : d.size = 0) :
  Ret 89 #[.string s] w (.tuple #[.int .i64 0, .int .i64 12]) := by
 have g0 : decide ((0 : Int) < (s.size : Int)) = true := decide_eq_true (by omega)
 have g1 : ((d.size : Int) == 0) = true := by rw [beq_iff_eq]; omega
 have g2 : (d.size == 0) = true := by rw [beq_iff_eq]; omega
 clear hd0
 go_enter Tryz.func89, Tryz.ntmps89
 go_wp2
 go_ret2
 exact ⟨rfl, Below.refl _ _⟩
theorem rread_m_idle (s d : ByteArray) (w : World) (hz : 0 < s.size) (h45 : (((s[0]'hz).toNat : Int) == 45) = true) (hd : s.extract 1 s.size = d) (hsz : s.size - 1 = d.size) (hdz : 0 < d.size) (h48 : (((d[0]'hdz).toNat : Int) == 48) = true) (hs0 : (s.toList == [48]) = false) :
  Ret 89 #[.string s] w (.tuple #[.int .i64 0, .int .i64 12]) := by
 have g0 : decide ((0 : Int) < (s.size : Int)) = true := decide_eq_true (by omega)
 have g1 : ((d.size : Int) == 0) = false := by rw [beq_eq_false_iff_ne]; omega
 have g2 : (d.size == 0) = false := by rw [beq_eq_false_iff_ne]; omega
 go_enter Tryz.func89, Tryz.ntmps89
 go_wp2
 go_ret2
 exact ⟨rfl, Below.refl _ _⟩
set_option maxHeartbeats 400000 in
theorem rread_m_bad (s d : ByteArray) (w : World) (hz : 0 < s.size) (h45 : (((s[0]'hz).toNat : Int) == 45) = true) (hd : s.extract 1 s.size = d) (hsz : s.size - 1 = d.size) (hdz : 0 < d.size) (h48 : (((d[0]'hdz).toNat : Int) == 48) = false ∨ ((((d[0]'hdz).toNat : Int) == 48) = true ∧ (s.toList == [48]) = true)) (hb : ∃ j, ∃ h : j < d.size, ¬ (48 ≤ (d[j]'h).toNat ∧ (d[j]'h).toNat ≤ 57)) (hmax : d.size ≤ 140737488351232) :
  Ret 89 #[.string s] w (.tuple #[.int .i64 0, .int .i64 12]) := by
 have HB := Lib.hid hb
 clear hb
 have g0 : decide ((0 : Int) < (s.size : Int)) = true := decide_eq_true (by omega)
 have g1 : ((d.size : Int) == 0) = false := by rw [beq_eq_false_iff_ne]; omega
 have g2 : (d.size == 0) = false := by rw [beq_eq_false_iff_ne]; omega
 rcases h48 with h48 | ⟨h48, hs0⟩
 all_goals
  go_enter Tryz.func89, Tryz.ntmps89
  go_wp2
  go_loop [5] (fun i => ∃ k : Nat, k ≤ d.size ∧ i = .int .i64 (k : Int) ∧ Hid (∀ j (h : j < d.size), j < k → 48 ≤ (d[j]'h).toNat ∧ (d[j]'h).toNat ≤ 57)) (fun i => d.size - (intOf i).toNat)
  case atStart => exact ⟨0, by omega, rfl, fun _ _ h => absurd h (by omega)⟩
  case round =>
   obtain ⟨k, hk, rfl, HD⟩ := hrel
   by_cases hlt : k < d.size
   ·by_cases hg : 48 ≤ (d[k]'hlt).toNat ∧ (d[k]'hlt).toNat ≤ 57
    ·have t1 : decide (((d[k]'hlt).toNat : Int) < 48) = false := by simp; omega
     have t2 : decide ((57 : Int) < ((d[k]'hlt).toNat : Int)) = false := by simp; omega
     have HD2 : Hid (∀ j (h : j < d.size), j < k + 1 → 48 ≤ (d[j]'h).toNat ∧ (d[j]'h).toNat ≤ 57) := fun j h hj => by
      by_cases e : j = k
      ·subst e; exact hg
      ·exact HD.out j h (by omega)
     clear hg
     go_wp2
     go_round
     case rel => exact ⟨k + 1, by omega, by go_num, HD2⟩
     case measure => simp [intOf]; omega
    ·have t3 : (decide (((d[k]'hlt).toNat : Int) < 48) = true) ∨ (decide (((d[k]'hlt).toNat : Int) < 48) = false ∧ decide ((57 : Int) < ((d[k]'hlt).toNat : Int)) = true) := by simp; omega
     clear hg
     rcases t3 with t1 | ⟨t1, t2⟩
     all_goals
      go_wp2
      go_ret2
      exact ⟨rfl, Below.refl _ _⟩
   ·obtain rfl : d.size = k := by omega
    obtain ⟨j, hj, hn⟩ := HB.out
    exact absurd (HD.out j hj hj) hn
set_option maxHeartbeats 400000 in
theorem rread_m_far (s d : ByteArray) (w : World) (hz : 0 < s.size) (h45 : (((s[0]'hz).toNat : Int) == 45) = true) (hd : s.extract 1 s.size = d) (hsz : s.size - 1 = d.size) (hdz : 0 < d.size) (h48 : (((d[0]'hdz).toNat : Int) == 48) = false ∨ ((((d[0]'hdz).toNat : Int) == 48) = true ∧ (s.toList == [48]) = true)) (ha : ∀ j (h : j < d.size), 48 ≤ (d[j]'h).toNat ∧ (d[j]'h).toNat ≤ 57) (hmax : d.size ≤ 140737488351232) (hfar : 19 < d.size) :
  Ret 89 #[.string s] w (.tuple #[.int .i64 0, .int .i64 13]) := by
 have HA := Lib.hid ha
 clear ha
 have g0 : decide ((0 : Int) < (s.size : Int)) = true := decide_eq_true (by omega)
 have g1 : ((d.size : Int) == 0) = false := by rw [beq_eq_false_iff_ne]; omega
 have g2 : (d.size == 0) = false := by rw [beq_eq_false_iff_ne]; omega
 have g3 : decide ((19 : Int) < (d.size : Int)) = true := decide_eq_true (by omega)
 rcases h48 with h48 | ⟨h48, hs0⟩
 all_goals
  go_enter Tryz.func89, Tryz.ntmps89
  go_wp2
  go_loop [5] (fun i => ∃ k : Nat, k ≤ d.size ∧ i = .int .i64 (k : Int) ∧ Hid (∀ j (h : j < d.size), j < k → 48 ≤ (d[j]'h).toNat ∧ (d[j]'h).toNat ≤ 57)) (fun i => d.size - (intOf i).toNat)
  case atStart => exact ⟨0, by omega, rfl, fun _ _ h => absurd h (by omega)⟩
  case round =>
   obtain ⟨k, hk, rfl, HD⟩ := hrel
   by_cases hlt : k < d.size
   ·by_cases hg : 48 ≤ (d[k]'hlt).toNat ∧ (d[k]'hlt).toNat ≤ 57
    ·have t1 : decide (((d[k]'hlt).toNat : Int) < 48) = false := by simp; omega
     have t2 : decide ((57 : Int) < ((d[k]'hlt).toNat : Int)) = false := by simp; omega
     have HD2 : Hid (∀ j (h : j < d.size), j < k + 1 → 48 ≤ (d[j]'h).toNat ∧ (d[j]'h).toNat ≤ 57) := fun j h hj => by
      by_cases e : j = k
      ·subst e; exact hg
      ·exact HD.out j h (by omega)
     clear hg
     go_wp2
     go_round
     case rel => exact ⟨k + 1, by omega, by go_num, HD2⟩
     case measure => simp [intOf]; omega
    ·exact absurd (HA.out k hlt) hg
   ·obtain rfl : d.size = k := by omega
    go_wp2
    go_ret2
    exact ⟨rfl, Below.refl _ _⟩
set_option maxHeartbeats 4000000 in
theorem rread_m_near (s d : ByteArray) (w : World) (hz : 0 < s.size) (h45 : (((s[0]'hz).toNat : Int) == 45) = true) (hd : s.extract 1 s.size = d) (hsz : s.size - 1 = d.size) (hdz : 0 < d.size) (h48 : (((d[0]'hdz).toNat : Int) == 48) = false ∨ ((((d[0]'hdz).toNat : Int) == 48) = true ∧ (s.toList == [48]) = true)) (ha : ∀ j (h : j < d.size), 48 ≤ (d[j]'h).toNat ∧ (d[j]'h).toNat ≤ 57) (hnear : d.size ≤ 19) (D : Nat) (hD : Dec.dval 0 d.data.toList = D) (x y : Int)
  (hT : ∀ w, Ret 97 #[.agg #[.bool true, .bool false, .int .u64 (D : Int)]] w (.tuple #[.int .i64 x, .int .i64 y])) :
  Ret 89 #[.string s] w (.tuple #[.int .i64 x, .int .i64 y]) := by
 have HA := Lib.hid ha
 have HT := Lib.hid hT
 have hD := Lib.hid hD
 clear ha hT
 have g0 : decide ((0 : Int) < (s.size : Int)) = true := decide_eq_true (by omega)
 have g1 : ((d.size : Int) == 0) = false := by rw [beq_eq_false_iff_ne]; omega
 have g2 : (d.size == 0) = false := by rw [beq_eq_false_iff_ne]; omega
 have g3 : decide ((19 : Int) < (d.size : Int)) = false := decide_eq_false (by omega)
 rcases h48 with h48 | ⟨h48, hs0⟩
 all_goals
  go_enter Tryz.func89, Tryz.ntmps89
  go_wp2
  go_loop [5] (fun i => ∃ k : Nat, k ≤ d.size ∧ i = .int .i64 (k : Int) ∧ Hid (∀ j (h : j < d.size), j < k → 48 ≤ (d[j]'h).toNat ∧ (d[j]'h).toNat ≤ 57)) (fun i => d.size - (intOf i).toNat)
  case atStart => exact ⟨0, by omega, rfl, fun _ _ h => absurd h (by omega)⟩
  case round =>
   obtain ⟨k, hk, rfl, HD⟩ := hrel
   by_cases hlt : k < d.size
   ·by_cases hg : 48 ≤ (d[k]'hlt).toNat ∧ (d[k]'hlt).toNat ≤ 57
    ·have t1 : decide (((d[k]'hlt).toNat : Int) < 48) = false := by simp; omega
     have t2 : decide ((57 : Int) < ((d[k]'hlt).toNat : Int)) = false := by simp; omega
     have HD2 : Hid (∀ j (h : j < d.size), j < k + 1 → 48 ≤ (d[j]'h).toNat ∧ (d[j]'h).toNat ≤ 57) := fun j h hj => by
      by_cases e : j = k
      ·subst e; exact hg
      ·exact HD.out j h (by omega)
     clear hg
     go_wp2
     go_round
     case rel => exact ⟨k + 1, by omega, by go_num, HD2⟩
     case measure => simp [intOf]; omega
    ·exact absurd (HA.out k hlt) hg
   ·obtain rfl : d.size = k := by omega
    go_wp2
    have hB0 : (w.alloc (Obj.cells #[.bool false, .bool false, .int .u64 0] 109)).heap[w.heap.size]? = some (.cells #[.bool false, .bool false, .int .u64 ((Dec.dval 0 (d.data.toList.take 0) : Nat) : Int)] 109 (0, 0)) := heap_alloc_new _ _
    have hb0 : Below w.heap.size w (w.alloc (Obj.cells #[.bool false, .bool false, .int .u64 0] 109)) := (Below.refl _ _).alloc (Nat.le_refl _) _
    have hl0 : w.heap.size < (w.alloc (Obj.cells #[.bool false, .bool false, .int .u64 0] 109)).heap.size := by simp
    generalize w.alloc (Obj.cells #[.bool false, .bool false, .int .u64 0] 109) = W0 at *
    replace hB0 := Lib.hid hB0
    clear HD hk
    go_loopw [7] (fun iv wr => ∃ (k : Nat), k ≤ d.size ∧ iv = .int .i64 (k : Int) ∧ Hid (wr.heap[w.heap.size]? = some (.cells #[.bool false, .bool false, .int .u64 ((Dec.dval 0 (d.data.toList.take k) : Nat) : Int)] 109 (0, 0))) ∧ Below w.heap.size w wr ∧ w.heap.size < wr.heap.size) (fun iv _ => d.size - (intOf iv).toNat)
    case atStart => exact ⟨0, Nat.zero_le _, rfl, hB0, hb0, hl0⟩
    case round =>
     clear hB0 hb0 hl0
     obtain ⟨k, hk, rfl, HB, hb, hlt⟩ := hrel
     by_cases hkd : k < d.size
     ·have hdk := HA.out k hkd
      have hV := dval_take_lt d k (by omega) HA.out
      have hp18 : 10 ^ k ≤ 10 ^ 18 := Nat.pow_le_pow_right (by omega) (by omega)
      have e18 : (10 : Nat) ^ 18 = 1000000000000000000 := by decide
      rw [e18] at hp18
      have HN := Lib.hid (dval_next d k hkd)
      have hV2 : Dec.dval 0 (d.data.toList.take k) < 1000000000000000000 := by omega
      clear hV hp18 e18
      generalize hV' : Dec.dval 0 (d.data.toList.take (k + 1)) = V' at *
      replace hV' := Lib.hid hV'
      generalize Dec.dval 0 (d.data.toList.take k) = V at *
      obtain ⟨x0, x1, x2⟩ := num_cells HB.out
      have HP : Hid (∀ w, Ret 96 #[.agg #[.bool false, .bool false, .int .u64 (V : Int)], .agg #[.bool false, .bool false, .int .u64 10]] w (.agg #[.bool false, .bool false, .int .u64 ((V * 10 : Nat) : Int)])) := Lib.hid (fun w => prod_any false false false false V 10 (V * 10) w (by omega) (by decide) rfl (decide_eq_false (by omega)) (Nat.mod_eq_of_lt (by omega)))
      have HS : Hid (∀ w (x : Int), x = ((d[k].toNat - 48 : Nat) : Int) → Ret 94 #[.agg #[.bool false, .bool false, .int .u64 ((V * 10 : Nat) : Int)], .agg #[.bool false, .bool false, .int .u64 x]] w (.agg #[.bool false, .bool false, .int .u64 (V' : Int)])) := Lib.hid (fun w x e => by
       rw [e, HN.out]
       exact sum_any false false false false false false (V * 10) (d[k].toNat - 48) (V * 10 + (d[k].toNat - 48)) w (by omega) (by omega) rfl (by unfold Ref.sumO; rw [decide_eq_false (by omega)]; rfl) (Nat.mod_eq_of_lt (by omega)))
      have hV3 : V * 10 < 18446744073709551616 := by omega
      generalize V * 10 = V10 at *
      have t1 : (48 : Int) ≤ (d[k].toNat : Int) := by omega
      have t2 : (d[k].toNat : Int) ≤ 57 := by omega
      have e5 : IntKind.u8.wrap ((d[k].toNat : Int) - 48) = (d[k].toNat : Int) - 48 := by simp [IntKind.wrap, IntKind.bits, IntKind.signed]; omega
      have e6 : IntKind.u64.wrap ((d[k].toNat : Int) - 48) = (d[k].toNat : Int) - 48 := by simp [IntKind.wrap, IntKind.bits, IntKind.signed]; omega
      clear HN
      go_wp2_with (fail)
      go_region_with (first
       | (go_at_call 96; refine (HP.out _).mono ?_; rintro e w2 ⟨rfl, hb2⟩; have hk2 := (hb2.block w.heap.size hlt).trans HB.out; have hl2 := Nat.lt_of_lt_of_le hlt hb2.size; have hs2 := hb.drew.trans (hb2.mono hb.size); replace hk2 := Lib.hid hk2)
       | (go_at_call 94; refine (HS.out _ _ (by omega)).mono ?_; rintro e w3 ⟨rfl, hb3⟩; have hk3 := (hb3.block w.heap.size hl2).trans hk2.out; have hl3 := Nat.lt_of_lt_of_le hl2 hb3.size; have hs3 := hs2.trans (hb3.mono hs2.size); obtain ⟨z0, z1, z2⟩ := num_cells hk3; obtain ⟨f0, f1, f2⟩ := num_frozen hk3; replace hk3 := Lib.hid hk3))
      all_goals
       go_wp2
       go_roundw
       case rel => exact ⟨k + 1, by omega, by go_num, Lib.hid (by rw [hV'.out]; exact num_set hk3.out), num_set_below hs3 (Nat.le_refl _), by simpa [World.setCell] using hl3⟩
       case measure => simp [intOf]; omega
     ·obtain rfl : k = d.size := by omega
      have hVV : Dec.dval 0 (d.data.toList.take d.size) = D := by rw [List.take_of_length_le (by rw [← Lib.size_eq]; omega)]; exact hD.out
      have hk1 := HB.out
      rw [hVV] at hk1
      obtain ⟨x0, x1, x2⟩ := num_cells hk1
      obtain ⟨f0, f1, f2⟩ := num_frozen hk1
      clear hVV hk1
      go_wp2_with (fail)
      refine (HT.out _).mono ?_
      rintro e w5 ⟨rfl, hb5⟩
      go_wp2
      go_ret2
      exact ⟨rfl, Below.trans (hb.setCell (p := ⟨w.heap.size, 0, none⟩) (Nat.le_refl _) _) (hb5.mono (by have := hb.size; simpa [World.setCell] using this))⟩
theorem rread_p_idle (d : ByteArray) (w : World) (hz : 0 < d.size) (h45 : (((d[0]'hz).toNat : Int) == 45) = false) (h48 : (((d[0]'hz).toNat : Int) == 48) = true) (hs0 : (d.toList == [48]) = false) :
  Ret 89 #[.string d] w (.tuple #[.int .i64 0, .int .i64 12]) := by
 have g0 : decide ((0 : Int) < (d.size : Int)) = true := decide_eq_true (by omega)
 have g1 : ((d.size : Int) == 0) = false := by rw [beq_eq_false_iff_ne]; omega
 have g2 : (d.size == 0) = false := by rw [beq_eq_false_iff_ne]; omega
 go_enter Tryz.func89, Tryz.ntmps89
 go_wp2
 go_ret2
 exact ⟨rfl, Below.refl _ _⟩
set_option maxHeartbeats 400000 in
theorem rread_p_bad (d : ByteArray) (w : World) (hz : 0 < d.size) (h45 : (((d[0]'hz).toNat : Int) == 45) = false) (h48 : (((d[0]'hz).toNat : Int) == 48) = false ∨ ((((d[0]'hz).toNat : Int) == 48) = true ∧ (d.toList == [48]) = true)) (hb : ∃ j, ∃ h : j < d.size, ¬ (48 ≤ (d[j]'h).toNat ∧ (d[j]'h).toNat ≤ 57)) (hmax : d.size ≤ 140737488351232) :
  Ret 89 #[.string d] w (.tuple #[.int .i64 0, .int .i64 12]) := by
 have HB := Lib.hid hb
 clear hb
 have g0 : decide ((0 : Int) < (d.size : Int)) = true := decide_eq_true (by omega)
 have g1 : ((d.size : Int) == 0) = false := by rw [beq_eq_false_iff_ne]; omega
 have g2 : (d.size == 0) = false := by rw [beq_eq_false_iff_ne]; omega
 rcases h48 with h48 | ⟨h48, hs0⟩
 all_goals
  go_enter Tryz.func89, Tryz.ntmps89
  go_wp2
  go_loop [5] (fun i => ∃ k : Nat, k ≤ d.size ∧ i = .int .i64 (k : Int) ∧ Hid (∀ j (h : j < d.size), j < k → 48 ≤ (d[j]'h).toNat ∧ (d[j]'h).toNat ≤ 57)) (fun i => d.size - (intOf i).toNat)
  case atStart => exact ⟨0, by omega, rfl, fun _ _ h => absurd h (by omega)⟩
  case round =>
   obtain ⟨k, hk, rfl, HD⟩ := hrel
   by_cases hlt : k < d.size
   ·by_cases hg : 48 ≤ (d[k]'hlt).toNat ∧ (d[k]'hlt).toNat ≤ 57
    ·have t1 : decide (((d[k]'hlt).toNat : Int) < 48) = false := by simp; omega
     have t2 : decide ((57 : Int) < ((d[k]'hlt).toNat : Int)) = false := by simp; omega
     have HD2 : Hid (∀ j (h : j < d.size), j < k + 1 → 48 ≤ (d[j]'h).toNat ∧ (d[j]'h).toNat ≤ 57) := fun j h hj => by
      by_cases e : j = k
      ·subst e; exact hg
      ·exact HD.out j h (by omega)
     clear hg
     go_wp2
     go_round
     case rel => exact ⟨k + 1, by omega, by go_num, HD2⟩
     case measure => simp [intOf]; omega
    ·have t3 : (decide (((d[k]'hlt).toNat : Int) < 48) = true) ∨ (decide (((d[k]'hlt).toNat : Int) < 48) = false ∧ decide ((57 : Int) < ((d[k]'hlt).toNat : Int)) = true) := by simp; omega
     clear hg
     rcases t3 with t1 | ⟨t1, t2⟩
     all_goals
      go_wp2
      go_ret2
      exact ⟨rfl, Below.refl _ _⟩
   ·obtain rfl : d.size = k := by omega
    obtain ⟨j, hj, hn⟩ := HB.out
    exact absurd (HD.out j hj hj) hn
set_option maxHeartbeats 400000 in
theorem rread_p_far (d : ByteArray) (w : World) (hz : 0 < d.size) (h45 : (((d[0]'hz).toNat : Int) == 45) = false) (h48 : (((d[0]'hz).toNat : Int) == 48) = false ∨ ((((d[0]'hz).toNat : Int) == 48) = true ∧ (d.toList == [48]) = true)) (ha : ∀ j (h : j < d.size), 48 ≤ (d[j]'h).toNat ∧ (d[j]'h).toNat ≤ 57) (hmax : d.size ≤ 140737488351232) (hfar : 19 < d.size) :
  Ret 89 #[.string d] w (.tuple #[.int .i64 0, .int .i64 13]) := by
 have HA := Lib.hid ha
 clear ha
 have g0 : decide ((0 : Int) < (d.size : Int)) = true := decide_eq_true (by omega)
 have g1 : ((d.size : Int) == 0) = false := by rw [beq_eq_false_iff_ne]; omega
 have g2 : (d.size == 0) = false := by rw [beq_eq_false_iff_ne]; omega
 have g3 : decide ((19 : Int) < (d.size : Int)) = true := decide_eq_true (by omega)
 rcases h48 with h48 | ⟨h48, hs0⟩
 all_goals
  go_enter Tryz.func89, Tryz.ntmps89
  go_wp2
  go_loop [5] (fun i => ∃ k : Nat, k ≤ d.size ∧ i = .int .i64 (k : Int) ∧ Hid (∀ j (h : j < d.size), j < k → 48 ≤ (d[j]'h).toNat ∧ (d[j]'h).toNat ≤ 57)) (fun i => d.size - (intOf i).toNat)
  case atStart => exact ⟨0, by omega, rfl, fun _ _ h => absurd h (by omega)⟩
  case round =>
   obtain ⟨k, hk, rfl, HD⟩ := hrel
   by_cases hlt : k < d.size
   ·by_cases hg : 48 ≤ (d[k]'hlt).toNat ∧ (d[k]'hlt).toNat ≤ 57
    ·have t1 : decide (((d[k]'hlt).toNat : Int) < 48) = false := by simp; omega
     have t2 : decide ((57 : Int) < ((d[k]'hlt).toNat : Int)) = false := by simp; omega
     have HD2 : Hid (∀ j (h : j < d.size), j < k + 1 → 48 ≤ (d[j]'h).toNat ∧ (d[j]'h).toNat ≤ 57) := fun j h hj => by
      by_cases e : j = k
      ·subst e; exact hg
      ·exact HD.out j h (by omega)
     clear hg
     go_wp2
     go_round
     case rel => exact ⟨k + 1, by omega, by go_num, HD2⟩
     case measure => simp [intOf]; omega
    ·exact absurd (HA.out k hlt) hg
   ·obtain rfl : d.size = k := by omega
    go_wp2
    go_ret2
    exact ⟨rfl, Below.refl _ _⟩
set_option maxHeartbeats 4000000 in
theorem rread_p_near (d : ByteArray) (w : World) (hz : 0 < d.size) (h45 : (((d[0]'hz).toNat : Int) == 45) = false) (h48 : (((d[0]'hz).toNat : Int) == 48) = false ∨ ((((d[0]'hz).toNat : Int) == 48) = true ∧ (d.toList == [48]) = true)) (ha : ∀ j (h : j < d.size), 48 ≤ (d[j]'h).toNat ∧ (d[j]'h).toNat ≤ 57) (hnear : d.size ≤ 19) (D : Nat) (hD : Dec.dval 0 d.data.toList = D) (x y : Int)
  (hT : ∀ w, Ret 97 #[.agg #[.bool false, .bool false, .int .u64 (D : Int)]] w (.tuple #[.int .i64 x, .int .i64 y])) :
  Ret 89 #[.string d] w (.tuple #[.int .i64 x, .int .i64 y]) := by
 have HA := Lib.hid ha
 have HT := Lib.hid hT
 have hD := Lib.hid hD
 clear ha hT
 have g0 : decide ((0 : Int) < (d.size : Int)) = true := decide_eq_true (by omega)
 have g1 : ((d.size : Int) == 0) = false := by rw [beq_eq_false_iff_ne]; omega
 have g2 : (d.size == 0) = false := by rw [beq_eq_false_iff_ne]; omega
 have g3 : decide ((19 : Int) < (d.size : Int)) = false := decide_eq_false (by omega)
 rcases h48 with h48 | ⟨h48, hs0⟩
 all_goals
  go_enter Tryz.func89, Tryz.ntmps89
  go_wp2
  go_loop [5] (fun i => ∃ k : Nat, k ≤ d.size ∧ i = .int .i64 (k : Int) ∧ Hid (∀ j (h : j < d.size), j < k → 48 ≤ (d[j]'h).toNat ∧ (d[j]'h).toNat ≤ 57)) (fun i => d.size - (intOf i).toNat)
  case atStart => exact ⟨0, by omega, rfl, fun _ _ h => absurd h (by omega)⟩
  case round =>
   obtain ⟨k, hk, rfl, HD⟩ := hrel
   by_cases hlt : k < d.size
   ·by_cases hg : 48 ≤ (d[k]'hlt).toNat ∧ (d[k]'hlt).toNat ≤ 57
    ·have t1 : decide (((d[k]'hlt).toNat : Int) < 48) = false := by simp; omega
     have t2 : decide ((57 : Int) < ((d[k]'hlt).toNat : Int)) = false := by simp; omega
     have HD2 : Hid (∀ j (h : j < d.size), j < k + 1 → 48 ≤ (d[j]'h).toNat ∧ (d[j]'h).toNat ≤ 57) := fun j h hj => by
      by_cases e : j = k
      ·subst e; exact hg
      ·exact HD.out j h (by omega)
     clear hg
     go_wp2
     go_round
     case rel => exact ⟨k + 1, by omega, by go_num, HD2⟩
     case measure => simp [intOf]; omega
    ·exact absurd (HA.out k hlt) hg
   ·obtain rfl : d.size = k := by omega
    go_wp2
    have hB0 : (w.alloc (Obj.cells #[.bool false, .bool false, .int .u64 0] 109)).heap[w.heap.size]? = some (.cells #[.bool false, .bool false, .int .u64 ((Dec.dval 0 (d.data.toList.take 0) : Nat) : Int)] 109 (0, 0)) := heap_alloc_new _ _
    have hb0 : Below w.heap.size w (w.alloc (Obj.cells #[.bool false, .bool false, .int .u64 0] 109)) := (Below.refl _ _).alloc (Nat.le_refl _) _
    have hl0 : w.heap.size < (w.alloc (Obj.cells #[.bool false, .bool false, .int .u64 0] 109)).heap.size := by simp
    generalize w.alloc (Obj.cells #[.bool false, .bool false, .int .u64 0] 109) = W0 at *
    replace hB0 := Lib.hid hB0
    clear HD hk
    go_loopw [7] (fun iv wr => ∃ (k : Nat), k ≤ d.size ∧ iv = .int .i64 (k : Int) ∧ Hid (wr.heap[w.heap.size]? = some (.cells #[.bool false, .bool false, .int .u64 ((Dec.dval 0 (d.data.toList.take k) : Nat) : Int)] 109 (0, 0))) ∧ Below w.heap.size w wr ∧ w.heap.size < wr.heap.size) (fun iv _ => d.size - (intOf iv).toNat)
    case atStart => exact ⟨0, Nat.zero_le _, rfl, hB0, hb0, hl0⟩
    case round =>
     clear hB0 hb0 hl0
     obtain ⟨k, hk, rfl, HB, hb, hlt⟩ := hrel
     by_cases hkd : k < d.size
     ·have hdk := HA.out k hkd
      have hV := dval_take_lt d k (by omega) HA.out
      have hp18 : 10 ^ k ≤ 10 ^ 18 := Nat.pow_le_pow_right (by omega) (by omega)
      have e18 : (10 : Nat) ^ 18 = 1000000000000000000 := by decide
      rw [e18] at hp18
      have HN := Lib.hid (dval_next d k hkd)
      have hV2 : Dec.dval 0 (d.data.toList.take k) < 1000000000000000000 := by omega
      clear hV hp18 e18
      generalize hV' : Dec.dval 0 (d.data.toList.take (k + 1)) = V' at *
      replace hV' := Lib.hid hV'
      generalize Dec.dval 0 (d.data.toList.take k) = V at *
      obtain ⟨x0, x1, x2⟩ := num_cells HB.out
      have HP : Hid (∀ w, Ret 96 #[.agg #[.bool false, .bool false, .int .u64 (V : Int)], .agg #[.bool false, .bool false, .int .u64 10]] w (.agg #[.bool false, .bool false, .int .u64 ((V * 10 : Nat) : Int)])) := Lib.hid (fun w => prod_any false false false false V 10 (V * 10) w (by omega) (by decide) rfl (decide_eq_false (by omega)) (Nat.mod_eq_of_lt (by omega)))
      have HS : Hid (∀ w (x : Int), x = ((d[k].toNat - 48 : Nat) : Int) → Ret 94 #[.agg #[.bool false, .bool false, .int .u64 ((V * 10 : Nat) : Int)], .agg #[.bool false, .bool false, .int .u64 x]] w (.agg #[.bool false, .bool false, .int .u64 (V' : Int)])) := Lib.hid (fun w x e => by
       rw [e, HN.out]
       exact sum_any false false false false false false (V * 10) (d[k].toNat - 48) (V * 10 + (d[k].toNat - 48)) w (by omega) (by omega) rfl (by unfold Ref.sumO; rw [decide_eq_false (by omega)]; rfl) (Nat.mod_eq_of_lt (by omega)))
      have hV3 : V * 10 < 18446744073709551616 := by omega
      generalize V * 10 = V10 at *
      have t1 : (48 : Int) ≤ (d[k].toNat : Int) := by omega
      have t2 : (d[k].toNat : Int) ≤ 57 := by omega
      have e5 : IntKind.u8.wrap ((d[k].toNat : Int) - 48) = (d[k].toNat : Int) - 48 := by simp [IntKind.wrap, IntKind.bits, IntKind.signed]; omega
      have e6 : IntKind.u64.wrap ((d[k].toNat : Int) - 48) = (d[k].toNat : Int) - 48 := by simp [IntKind.wrap, IntKind.bits, IntKind.signed]; omega
      clear HN
      go_wp2_with (fail)
      go_region_with (first
       | (go_at_call 96; refine (HP.out _).mono ?_; rintro e w2 ⟨rfl, hb2⟩; have hk2 := (hb2.block w.heap.size hlt).trans HB.out; have hl2 := Nat.lt_of_lt_of_le hlt hb2.size; have hs2 := hb.drew.trans (hb2.mono hb.size); replace hk2 := Lib.hid hk2)
       | (go_at_call 94; refine (HS.out _ _ (by omega)).mono ?_; rintro e w3 ⟨rfl, hb3⟩; have hk3 := (hb3.block w.heap.size hl2).trans hk2.out; have hl3 := Nat.lt_of_lt_of_le hl2 hb3.size; have hs3 := hs2.trans (hb3.mono hs2.size); obtain ⟨z0, z1, z2⟩ := num_cells hk3; obtain ⟨f0, f1, f2⟩ := num_frozen hk3; replace hk3 := Lib.hid hk3))
      all_goals
       go_wp2
       go_roundw
       case rel => exact ⟨k + 1, by omega, by go_num, Lib.hid (by rw [hV'.out]; exact num_set hk3.out), num_set_below hs3 (Nat.le_refl _), by simpa [World.setCell] using hl3⟩
       case measure => simp [intOf]; omega
     ·obtain rfl : k = d.size := by omega
      have hVV : Dec.dval 0 (d.data.toList.take d.size) = D := by rw [List.take_of_length_le (by rw [← Lib.size_eq]; omega)]; exact hD.out
      have hk1 := HB.out
      rw [hVV] at hk1
      obtain ⟨x0, x1, x2⟩ := num_cells hk1
      obtain ⟨f0, f1, f2⟩ := num_frozen hk1
      clear hVV hk1
      go_wp2_with (fail)
      refine (HT.out _).mono ?_
      rintro e w5 ⟨rfl, hb5⟩
      go_wp2
      go_ret2
      exact ⟨rfl, Below.trans (hb.setCell (p := ⟨w.heap.size, 0, none⟩) (Nat.le_refl _) _) (hb5.mono (by have := hb.size; simpa [World.setCell] using this))⟩
end Go.Proofs.YtpiiemneelkpkaaGreatDoor
namespace Go.Proofs.YtpiiemneelkpkaaGreatDoor
open Go.RowKit
set_option linter.unusedVariables false
theorem cond_fitE (v : Int) : (cond (Ref.fitB v) 0 13 : Int) = Ref.fitE v := by
 unfold Ref.fitB Ref.fitE
 by_cases h : PowG.Fits v
 ·rw [decide_eq_true h, if_pos h]; rfl
 ·rw [decide_eq_false h, if_neg h]; rfl
theorem told_read (neg : Bool) (D : Nat) (x y : Int) (w : World) (hx : Ref.fitV (Ref.val neg D) = x) (hy : Ref.fitE (Ref.val neg D) = y) :
  Ret 97 #[.agg #[.bool neg, .bool false, .int .u64 (D : Int)]] w (.tuple #[.int .i64 x, .int .i64 y]) := by
 have := told_any neg false D x (Ref.fitB (Ref.val neg D)) w hx (by unfold Ref.rB; rfl)
 rw [cond_fitE, hy] at this
 exact this
theorem rread_any (s : ByteArray) (x y : Int) (w : World) (hs : s.size ≤ 140737488351232) (h : Dec.readS s.data.toList = (x, y)) :
    Ret 89 #[.string s] w (.tuple #[.int .i64 x, .int .i64 y]) := by
  have hsz := Lib.size_eq s
  have htl := Lib.toList_data s
  rcases hl : s.data.toList with _ | ⟨c, r⟩
  · rw [hl] at h hsz
    obtain ⟨rfl, rfl⟩ : x = 0 ∧ y = 12 := by
      have : Dec.readS [] = (0, 12) := by decide
      rw [this] at h
      simp only [Prod.mk.injEq] at h
      exact ⟨h.1.symm, h.2.symm⟩
    exact rread_empty s w hsz
  · have hz : 0 < s.size := by rw [hsz, hl]; simp
    have hc : s[0] = c := by
      have := get_list s 0 hz
      rw [← this]
      simp [hl]
    rw [hl] at h
    by_cases h45 : c = 45
    · subst h45
      have t45 : (((s[0]'hz).toNat : Int) == 45) = true := by rw [hc]; decide
      obtain ⟨d, hd⟩ : ∃ d, s.extract 1 s.size = d := ⟨_, rfl⟩
      have hdl : d.data.toList = r := by rw [← hd, Lib.extract_to_end, hl]; rfl
      have hdsz : s.size - 1 = d.size := by rw [Lib.size_eq d, hdl, hsz, hl]; simp
      rcases r with _ | ⟨b, r'⟩
      · obtain ⟨rfl, rfl⟩ : x = 0 ∧ y = 12 := by
          have : Dec.readS [45] = (0, 12) := by decide
          rw [this] at h
          simp only [Prod.mk.injEq] at h
          exact ⟨h.1.symm, h.2.symm⟩
        exact rread_m_none s d w hz t45 hd hdsz (by rw [Lib.size_eq d, hdl]; rfl)
      · have hdz : 0 < d.size := by rw [Lib.size_eq d, hdl]; simp
        have hb : d[0] = b := by
          have := get_list d 0 hdz
          rw [← this]
          simp [hdl]
        have hs48 : (s.toList == [48]) = false := by rw [htl, hl]; simp
        by_cases h48 : b = 48
        · have t48 : (((d[0]'hdz).toNat : Int) == 48) = true := by rw [hb, h48]; decide
          obtain ⟨rfl, rfl⟩ : x = 0 ∧ y = 12 := by
            have hf : Dec.isForm (45 :: b :: r') = false := by
              subst h48
              unfold Dec.isForm Dec.body Dec.form
              simp
            rw [Ref.read_not hf] at h
            simp only [Prod.mk.injEq] at h
            exact ⟨h.1.symm, h.2.symm⟩
          exact rread_m_idle s d w hz t45 hd hdsz hdz t48 hs48
        · have t48 : (((d[0]'hdz).toNat : Int) == 48) = false := by
            rw [hb, beq_eq_false_iff_ne]
            intro e
            exact h48 (Dec.toNat_inj (by have : (48 : UInt8).toNat = 48 := rfl
                                         omega))
          by_cases hall : (b :: r').all Dec.dig = true
          · have hf : Dec.isForm (45 :: b :: r') = true := Dec.isForm_minus (by unfold Dec.form; rw [hall]; simp [h48]) (by simp [h48])
            have hbody : Dec.body (45 :: b :: r') = b :: r' := by unfold Dec.body; simp
            by_cases hfar : 19 < d.size
            · have := Ref.read_far hf (by rw [hbody, ← hdl, ← Lib.size_eq]; exact hfar)
              rw [this] at h
              simp only [Prod.mk.injEq] at h
              obtain ⟨rfl, rfl⟩ := h
              exact rread_m_far s d w hz t45 hd hdsz hdz (.inl t48) (all_dig (by rw [hdl]; exact hall)) (by omega) hfar
            · have := Ref.read_near hf
              rw [hbody] at this
              rw [this] at h
              simp only [List.head?_cons, beq_self_eq_true, Prod.mk.injEq] at h
              exact rread_m_near s d w hz t45 hd hdsz hdz (.inl t48) (all_dig (by rw [hdl]; exact hall)) (by omega) _ rfl x y (fun w => told_read true _ x y w (by rw [hdl]; exact h.1) (by rw [hdl]; exact h.2))
          · have hall' : (b :: r').all Dec.dig = false := by simpa using hall
            obtain ⟨rfl, rfl⟩ : x = 0 ∧ y = 12 := by
              have hf : Dec.isForm (45 :: b :: r') = false := by
                unfold Dec.isForm Dec.body Dec.form
                simp only [List.head?_cons, beq_self_eq_true, cond_true, List.tail_cons, hall', Bool.false_and]
              rw [Ref.read_not hf] at h
              simp only [Prod.mk.injEq] at h
              exact ⟨h.1.symm, h.2.symm⟩
            exact rread_m_bad s d w hz t45 hd hdsz hdz (.inl t48) (not_all_dig (by rw [hdl]; exact hall')) (by omega)
    · have h45n : c.toNat ≠ 45 := fun e => h45 (Dec.toNat_inj (by have : (45 : UInt8).toNat = 45 := rfl
                                                                  omega))
      have t45 : (((s[0]'hz).toNat : Int) == 45) = false := by rw [hc, beq_eq_false_iff_ne]; omega
      have hc45 : (c == 45) = false := by simpa using h45
      have hbody : Dec.body (c :: r) = c :: r := by
        unfold Dec.body
        simp [hc45]
      have hform : Dec.isForm (c :: r) = Dec.form (c :: r) := by
        unfold Dec.isForm
        rw [hbody]
        simp [hc45]
      by_cases h48 : c = 48 ∧ r ≠ []
      · have t48 : (((s[0]'hz).toNat : Int) == 48) = true := by rw [hc, h48.1]; decide
        have hs48 : (s.toList == [48]) = false := by rw [htl, hl]; simp [h48.2]
        obtain ⟨rfl, rfl⟩ : x = 0 ∧ y = 12 := by
          have hf : Dec.isForm (c :: r) = false := by
            rw [hform, h48.1]
            unfold Dec.form
            simp [h48.2]
          rw [Ref.read_not hf] at h
          simp only [Prod.mk.injEq] at h
          exact ⟨h.1.symm, h.2.symm⟩
        exact rread_p_idle s w hz t45 t48 hs48
      · have t48 : (((s[0]'hz).toNat : Int) == 48) = false ∨ ((((s[0]'hz).toNat : Int) == 48) = true ∧ (s.toList == [48]) = true) := by
          by_cases e : c = 48
          · right
            have hr : r = [] := by
              by_cases e2 : r = []
              · exact e2
              · exact absurd ⟨e, e2⟩ h48
            exact ⟨by rw [hc, e]; decide, by rw [htl, hl, e, hr]; decide⟩
          · left
            rw [hc, beq_eq_false_iff_ne]
            intro e2
            exact e (Dec.toNat_inj (by have : (48 : UInt8).toNat = 48 := rfl
                                       omega))
        by_cases hall : (c :: r).all Dec.dig = true
        · have hf : Dec.isForm (c :: r) = true := by
            rw [hform]
            unfold Dec.form
            rw [hall]
            by_cases e : c = 48
            · have hr : r = [] := by
                by_cases e2 : r = []
                · exact e2
                · exact absurd ⟨e, e2⟩ h48
              subst e hr
              rfl
            · simp [e]
          by_cases hfar : 19 < s.size
          · have := Ref.read_far hf (by rw [hbody, ← hl, ← Lib.size_eq]; exact hfar)
            rw [this] at h
            simp only [Prod.mk.injEq] at h
            obtain ⟨rfl, rfl⟩ := h
            exact rread_p_far s w hz t45 t48 (all_dig (by rw [hl]; exact hall)) hs hfar
          · have := Ref.read_near hf
            rw [hbody] at this
            rw [this] at h
            simp only [List.head?_cons, Prod.mk.injEq] at h
            have hh : ((some c : Option UInt8) == some 45) = false := by simpa using h45
            rw [hh] at h
            exact rread_p_near s w hz t45 t48 (all_dig (by rw [hl]; exact hall)) (by omega) _ rfl x y (fun w => told_read false _ x y w (by rw [hl]; exact h.1) (by rw [hl]; exact h.2))
        · have hall' : (c :: r).all Dec.dig = false := by simpa using hall
          obtain ⟨rfl, rfl⟩ : x = 0 ∧ y = 12 := by
            have hf : Dec.isForm (c :: r) = false := by
              rw [hform]
              unfold Dec.form
              rw [hall']
              rfl
            rw [Ref.read_not hf] at h
            simp only [Prod.mk.injEq] at h
            exact ⟨h.1.symm, h.2.symm⟩
          exact rread_p_bad s w hz t45 t48 (not_all_dig (by rw [hl]; exact hall')) hs
end Go.Proofs.YtpiiemneelkpkaaGreatDoor
