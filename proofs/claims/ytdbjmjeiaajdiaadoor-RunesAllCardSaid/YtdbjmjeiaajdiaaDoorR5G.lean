/- quadrilleref5: Times, Code, Char. -/
import Derived.Test.YtdbjmjeiaajdiaaDoorR5F
namespace Go.Proofs.YtdbjmjeiaajdiaaDoor
open Go.RowKit
set_option linter.unusedVariables false
theorem rcode_none (s : ByteArray) (w : World) (hz : s.toList = []) (hz2 : s.toList.isEmpty = true) : Calls Tryd.prog 43 #[.string s] w fun e w' => e = .returned (.tuple #[.int .i64 0, .int .i64 1]) ∧ Below w.heap.size w w' := by
  go_enter Tryd.func43, Tryd.ntmps43
  go_wp2
  go_ret2
  exact ⟨rfl, Below.refl _ _⟩
theorem rcode_some (s : ByteArray) (w : World) (hs : s.size ≤ 140737488351232) (hz : ¬ s.toList = []) (hz2 : s.toList.isEmpty = false) (hi : 0 < s.size) : Calls Tryd.prog 43 #[.string s] w fun e w' => e = .returned (.tuple #[.int .i64 (((Utf8.decode s 0).1 : Nat) : Int), .int .i64 0]) ∧ Below w.heap.size w w' := by
  have HR := Lib.hid (fun w => rune_any s 0 w hs hi)
  go_enter Tryd.func43, Tryd.ntmps43
  go_wp2_with (fail)
  refine (HR.out _).mono ?_
  rintro e w1 ⟨rfl, hb⟩
  go_wp2
  go_ret2
  exact ⟨rfl, hb⟩
theorem code_none (s : ByteArray) (w : World) (hz : ¬ 0 < s.size) : Calls Tryd.prog 35 #[.string s] w fun e w' => e = .returned (.tuple #[.int .i64 0, .int .i64 1]) ∧ Below w.heap.size w w' := by
  go_enter Tryd.func35, Tryd.ntmps35
  go_wp2
  have hit : (w.iter s 0).heap[w.heap.size]? = some (.stringIter s 0) := by simpa using World.iter_heap w s 0
  have hnx : ∀ ty, (Instr.next (.pointer (some ⟨w.heap.size, 0, none⟩)) true ty).run Tryd.prog (w.iter s 0) = _ := fun ty => Lib.run_next_end_at (w.iter s 0) w.heap.size s 0 ty hit hz
  have hb : Below w.heap.size w (w.iter s 0) := (Below.refl _ w).alloc (Nat.le_refl _) _
  generalize w.iter s 0 = W0 at *
  refine wp_loop_rounds 1 ?_
  rw [rounds_succ]
  go_wp2
  go_ret2
  exact ⟨rfl, hb⟩
theorem times_neg (s : ByteArray) (n : Int) (w : World) (h : n < 0) : Calls Tryd.prog 79 #[.string s, .int .i64 n] w fun e w' => e = .returned (.tuple #[.string ⟨#[]⟩, .int .i64 1]) ∧ Below w.heap.size w w' := by
  have t1 : decide (n < 0) = true := decide_eq_true h
  go_enter Tryd.func79, Tryd.ntmps79
  go_wp2
  go_ret2
  exact ⟨rfl, Below.refl _ _⟩

theorem rtimes_neg (s : ByteArray) (n : Int) (w : World) (h : n < 0) : Calls Tryd.prog 88 #[.string s, .int .i64 n] w fun e w' => e = .returned (.tuple #[.string ⟨#[]⟩, .int .i64 1]) ∧ Below w.heap.size w w' := by
  have t1 : decide (n < 0) = true := decide_eq_true h
  go_enter Tryd.func88, Tryd.ntmps88
  go_wp2
  go_ret2
  exact ⟨rfl, Below.refl _ _⟩
theorem rtimes_void (s : ByteArray) (n : Int) (w : World) (t1 : decide (n < 0) = false) (t2 : ((s.size : Int) == 0) = true) (t3 : (s.size == 0) = true) : Calls Tryd.prog 88 #[.string s, .int .i64 n] w fun e w' => e = .returned (.tuple #[.string ⟨#[]⟩, .int .i64 0]) ∧ Below w.heap.size w w' := by
  go_enter Tryd.func88, Tryd.ntmps88
  go_wp2
  go_ret2
  exact ⟨rfl, Below.refl _ _⟩
theorem rtimes_none (s : ByteArray) (n : Int) (w : World) (t2 : ((s.size : Int) == 0) = false) (t3 : (s.size == 0) = false) (hn : n = 0) : Calls Tryd.prog 88 #[.string s, .int .i64 n] w fun e w' => e = .returned (.tuple #[.string ⟨#[]⟩, .int .i64 0]) ∧ Below w.heap.size w w' := by
  subst hn
  go_enter Tryd.func88, Tryd.ntmps88
  go_wp2
  go_ret2
  exact ⟨rfl, Below.refl _ _⟩
theorem rtimes_long (s : ByteArray) (n : Int) (w : World) (t1 : decide (n < 0) = false) (t2 : ((s.size : Int) == 0) = false) (t3 : (s.size == 0) = false) (t4 : (n == 0) = false) (t5 : decide ((32767 : Int) < (s.size : Int)) = true) : Calls Tryd.prog 88 #[.string s, .int .i64 n] w fun e w' => e = .returned (.tuple #[.string ⟨#[]⟩, .int .i64 2]) ∧ Below w.heap.size w w' := by
  go_enter Tryd.func88, Tryd.ntmps88
  go_wp2
  go_ret2
  exact ⟨rfl, Below.refl _ _⟩
theorem rtimes_far (s : ByteArray) (n : Int) (w : World) (q : Nat) (h0 : ¬ s.size = 0) (t1 : decide (n < 0) = false) (t2 : ((s.size : Int) == 0) = false) (t3 : (s.size == 0) = false) (t4 : (n == 0) = false) (t5 : decide ((32767 : Int) < (s.size : Int)) = false) (td : (32767 : Int).tdiv (s.size : Int) = (q : Int)) (hq : q ≤ 32767) (t6 : decide ((q : Int) < n) = true) : Calls Tryd.prog 88 #[.string s, .int .i64 n] w fun e w' => e = .returned (.tuple #[.string ⟨#[]⟩, .int .i64 2]) ∧ Below w.heap.size w w' := by
  go_enter Tryd.func88, Tryd.ntmps88
  go_wp2
  go_ret2
  exact ⟨rfl, Below.refl _ _⟩
set_option maxRecDepth 100000 in
set_option maxHeartbeats 1000000 in
theorem rtimes_ok (s : ByteArray) (n q : Nat) (w : World) (h0 : ¬ s.size = 0) (t2 : ((s.size : Int) == 0) = false) (t3 : (s.size == 0) = false) (hn : 0 < n) (t5 : decide ((32767 : Int) < (s.size : Int)) = false) (td : (32767 : Int).tdiv (s.size : Int) = (q : Int)) (hq : q ≤ 32767) (hnq : n ≤ q) (hsz : s.size ≤ 32767) (hz : s.size * n ≤ 32767) :
    Calls Tryd.prog 88 #[.string s, .int .i64 (n : Int)] w fun e w' => e = .returned (.tuple #[.string (rep s n), .int .i64 0]) ∧ Below w.heap.size w w' := by
  obtain ⟨i0, hi, hz0, hz1, hz2⟩ := info_parts info5
  have t4 : ((n : Int) == 0) = false := by rw [beq_eq_false_iff_ne]; omega
  have t1 : decide ((n : Int) < 0) = false := decide_eq_false (by omega)
  have t6 : decide ((q : Int) < (n : Int)) = false := decide_eq_false (by omega)
  have t7 : decide (q < n) = false := decide_eq_false (by omega)
  have HM : Hid (∀ k, k ≤ n → s.size * k ≤ 32767) := Lib.hid (fun k hk => Nat.le_trans (Nat.mul_le_mul_left _ hk) hz)
  clear hz
  go_enter Tryd.func88, Tryd.ntmps88
  go_wp2
  go_loopw [6, 7] (fun v i wr => ∃ (k m : Nat), k ≤ n ∧ i = .int .i64 (k : Int) ∧ m ≤ 32767 ∧ Hid (s.size * k = m) ∧ wr.ownsRow w.heap.size 5 1 v m (Lib.byteCells (Lib.repeatL s.data.toList k)) ∧ Below w.heap.size w wr) (fun _ i _ => n - (intOf i).toNat)
  case atStart => exact ⟨0, 0, Nat.zero_le _, rfl, by omega, Lib.hid (by simp), World.ownsRow_nil _ _ _ _, Below.refl _ _⟩
  case round =>
    obtain ⟨k, m, hk, rfl, hm, HK, hown, hb⟩ := hrel
    by_cases hlt : k < n
    · have hm2 : m + s.size ≤ 32767 := by have := HM.out (k + 1) (by omega); rw [Nat.mul_succ, HK.out] at this; exact this
      have HK2 : Hid (s.size * (k + 1) = m + s.size) := Lib.hid (by rw [Nat.mul_succ, HK.out])
      have hbs := hb.size
      have HR : Hid (Lib.byteCells (Lib.repeatL s.data.toList k) ++ Lib.strCells s = Lib.byteCells (Lib.repeatL s.data.toList (k + 1))) := Lib.hid (by rw [strCells_app, Lib.repeatL_add, Lib.repeatL_one])
      go_wp2_with (first | (refine Lib.wpList_append_own_string _ rfl _ _ 88 9 rfl w.heap.size 5 i0 Tryd.underlying88 Tryd.underlying9 hi hz0 hz1 hz2 _ m _ rfl hown s rfl (by unfold maxLen; omega) (by omega) hbs ?_) | (refine Lib.wpList_append_own_string rfl _ _ 88 9 rfl w.heap.size 5 i0 Tryd.underlying88 Tryd.underlying9 hi hz0 hz1 hz2 _ m _ rfl hown s rfl (by unfold maxLen; omega) (by omega) hbs ?_) | fail)
      intro v' w1 hown1 hgrow _
      rw [HR.out] at hown1
      have hb1 : Below w.heap.size w w1 := hb.grown hgrow hbs (fun j hj => (hown.lt j hj).1)
      clear hgrow hown hb
      go_wp2
      go_roundw
      case rel => exact ⟨k + 1, m + s.size, by omega, by go_num, hm2, HK2, hown1, hb1⟩
      case measure => simp [intOf]; omega
    · obtain rfl : k = n := by omega
      obtain ⟨ao, cap2, rfl, hnc, hsh⟩ := own_shape hown
      have hcv := conv_own (l := Lib.repeatL s.data.toList k) (by rw [Lib.repeatL_length, ← Lib.size_eq, Nat.mul_comm]; exact HK.out) hsh
      have HX : Hid ((⟨(Lib.repeatL s.data.toList k).toArray⟩ : ByteArray) = rep s k) := Lib.hid rfl
      rw [HX.out] at hcv
      clear hown hsh
      go_wp2
      go_ret2
      exact ⟨rfl, hb⟩
theorem rtimes_any (s : ByteArray) (n : Nat) (w : World) : Calls Tryd.prog 88 #[.string s, .int .i64 (n : Int)] w fun e w' => e = .returned (.tuple #[.string (timesR s n).1, .int .i64 (timesR s n).2]) ∧ Below w.heap.size w w' := by
  have t1 : decide ((n : Int) < 0) = false := decide_eq_false (by omega)
  unfold timesR
  by_cases h0 : s.size = 0
  · rw [if_pos h0]
    exact rtimes_void s n w t1 (by rw [beq_iff_eq]; omega) (by rw [beq_iff_eq]; exact h0)
  · rw [if_neg h0]
    have t2 : ((s.size : Int) == 0) = false := by rw [beq_eq_false_iff_ne]; omega
    have t3 : (s.size == 0) = false := by rw [beq_eq_false_iff_ne]; exact h0
    have td : (32767 : Int).tdiv (s.size : Int) = ((32767 / s.size : Nat) : Int) := by rw [Int.tdiv_eq_ediv_of_nonneg (by omega)]; rfl
    have hq2 : 32767 / s.size ≤ 32767 := Nat.div_le_self _ _
    by_cases hn : n = 0
    · subst hn
      rw [if_neg (by simp)]
      have e : rep s 0 = ⟨#[]⟩ := rfl
      rw [e]
      exact rtimes_none s 0 w t2 t3 rfl
    · have t4 : ((n : Int) == 0) = false := by rw [beq_eq_false_iff_ne]; omega
      by_cases hl : 32767 < s.size
      · have : 32767 < s.size * n := Nat.lt_of_lt_of_le hl (Nat.le_mul_of_pos_right _ (by omega))
        rw [if_pos this]
        exact rtimes_long s n w t1 t2 t3 t4 (decide_eq_true (by omega))
      · have t5 : decide ((32767 : Int) < (s.size : Int)) = false := decide_eq_false (by omega)
        by_cases h1 : 32767 < s.size * n
        · rw [if_pos h1]
          have hq : 32767 / s.size < n := (Nat.div_lt_iff_lt_mul (by omega)).2 (by rw [Nat.mul_comm]; exact h1)
          exact rtimes_far s n w _ h0 t1 t2 t3 t4 t5 td hq2 (decide_eq_true (by omega))
        · rw [if_neg h1]
          have hq : n ≤ 32767 / s.size := (Nat.le_div_iff_mul_le (by omega)).2 (by rw [Nat.mul_comm]; omega)
          exact rtimes_ok s n _ w h0 t2 t3 (by omega) t5 td hq2 hq (by omega) (by omega)

theorem conv_lit1 (w : World) (x0 : Int) (h0 : 0 ≤ x0) (g0 : x0 < 256) : (convert 88 9 (.slice (some ⟨w.heap.size, 0, none⟩) 1 1)).run Tryd.prog (w.alloc (.cells #[.int .u8 x0] 5)) = .ok (.string ⟨#[UInt8.ofNat x0.toNat]⟩) (w.alloc (.cells #[.int .u8 x0] 5)) := by
  refine run_convert_bytes_back (P := Tryd.prog) (w.alloc (.cells #[.int .u8 x0] 5)) 88 9 5 ⟨w.heap.size, 0, none⟩ 1 [UInt8.ofNat x0.toNat] Tryd.underlying88 Tryd.underlying5 Tryd.underlying9 (fun j hj => ?_)
  rw [addr_add0]
  have hc : ∀ j, j < 1 → (w.alloc (.cells #[.int .u8 x0] 5)).cell? ⟨w.heap.size, j, none⟩ = [Value.int .u8 x0][j]? := fun j hj => by
    rw [Lib.cell_of_heap (heap_alloc_new w _) j]
    simp
  match j, hj with
    | 0, _ => simp only [List.getElem_cons_zero]; rw [ofNat_small _ (by omega)]; rw [hc 0 (by simp)]; simp; omega

theorem conv_lit2 (w : World) (x0 x1 : Int) (h0 : 0 ≤ x0) (g0 : x0 < 256) (h1 : 0 ≤ x1) (g1 : x1 < 256) : (convert 88 9 (.slice (some ⟨w.heap.size, 0, none⟩) 2 2)).run Tryd.prog (w.alloc (.cells #[.int .u8 x0, .int .u8 x1] 5)) = .ok (.string ⟨#[UInt8.ofNat x0.toNat, UInt8.ofNat x1.toNat]⟩) (w.alloc (.cells #[.int .u8 x0, .int .u8 x1] 5)) := by
  refine run_convert_bytes_back (P := Tryd.prog) (w.alloc (.cells #[.int .u8 x0, .int .u8 x1] 5)) 88 9 5 ⟨w.heap.size, 0, none⟩ 2 [UInt8.ofNat x0.toNat, UInt8.ofNat x1.toNat] Tryd.underlying88 Tryd.underlying5 Tryd.underlying9 (fun j hj => ?_)
  rw [addr_add0]
  have hc : ∀ j, j < 2 → (w.alloc (.cells #[.int .u8 x0, .int .u8 x1] 5)).cell? ⟨w.heap.size, j, none⟩ = [Value.int .u8 x0, Value.int .u8 x1][j]? := fun j hj => by
    rw [Lib.cell_of_heap (heap_alloc_new w _) j]
    simp
  match j, hj with
    | 0, _ => simp only [List.getElem_cons_zero]; rw [ofNat_small _ (by omega)]; rw [hc 0 (by simp)]; simp; omega
    | 1, _ => simp only [List.getElem_cons_zero, List.getElem_cons_succ]; rw [ofNat_small _ (by omega)]; rw [hc 1 (by simp)]; simp; omega

theorem conv_lit3 (w : World) (x0 x1 x2 : Int) (h0 : 0 ≤ x0) (g0 : x0 < 256) (h1 : 0 ≤ x1) (g1 : x1 < 256) (h2 : 0 ≤ x2) (g2 : x2 < 256) : (convert 88 9 (.slice (some ⟨w.heap.size, 0, none⟩) 3 3)).run Tryd.prog (w.alloc (.cells #[.int .u8 x0, .int .u8 x1, .int .u8 x2] 5)) = .ok (.string ⟨#[UInt8.ofNat x0.toNat, UInt8.ofNat x1.toNat, UInt8.ofNat x2.toNat]⟩) (w.alloc (.cells #[.int .u8 x0, .int .u8 x1, .int .u8 x2] 5)) := by
  refine run_convert_bytes_back (P := Tryd.prog) (w.alloc (.cells #[.int .u8 x0, .int .u8 x1, .int .u8 x2] 5)) 88 9 5 ⟨w.heap.size, 0, none⟩ 3 [UInt8.ofNat x0.toNat, UInt8.ofNat x1.toNat, UInt8.ofNat x2.toNat] Tryd.underlying88 Tryd.underlying5 Tryd.underlying9 (fun j hj => ?_)
  rw [addr_add0]
  have hc : ∀ j, j < 3 → (w.alloc (.cells #[.int .u8 x0, .int .u8 x1, .int .u8 x2] 5)).cell? ⟨w.heap.size, j, none⟩ = [Value.int .u8 x0, Value.int .u8 x1, Value.int .u8 x2][j]? := fun j hj => by
    rw [Lib.cell_of_heap (heap_alloc_new w _) j]
    simp
  match j, hj with
    | 0, _ => simp only [List.getElem_cons_zero]; rw [ofNat_small _ (by omega)]; rw [hc 0 (by simp)]; simp; omega
    | 1, _ => simp only [List.getElem_cons_zero, List.getElem_cons_succ]; rw [ofNat_small _ (by omega)]; rw [hc 1 (by simp)]; simp; omega
    | 2, _ => simp only [List.getElem_cons_zero, List.getElem_cons_succ]; rw [ofNat_small _ (by omega)]; rw [hc 2 (by simp)]; simp; omega

theorem conv_lit4 (w : World) (x0 x1 x2 x3 : Int) (h0 : 0 ≤ x0) (g0 : x0 < 256) (h1 : 0 ≤ x1) (g1 : x1 < 256) (h2 : 0 ≤ x2) (g2 : x2 < 256) (h3 : 0 ≤ x3) (g3 : x3 < 256) : (convert 88 9 (.slice (some ⟨w.heap.size, 0, none⟩) 4 4)).run Tryd.prog (w.alloc (.cells #[.int .u8 x0, .int .u8 x1, .int .u8 x2, .int .u8 x3] 5)) = .ok (.string ⟨#[UInt8.ofNat x0.toNat, UInt8.ofNat x1.toNat, UInt8.ofNat x2.toNat, UInt8.ofNat x3.toNat]⟩) (w.alloc (.cells #[.int .u8 x0, .int .u8 x1, .int .u8 x2, .int .u8 x3] 5)) := by
  refine run_convert_bytes_back (P := Tryd.prog) (w.alloc (.cells #[.int .u8 x0, .int .u8 x1, .int .u8 x2, .int .u8 x3] 5)) 88 9 5 ⟨w.heap.size, 0, none⟩ 4 [UInt8.ofNat x0.toNat, UInt8.ofNat x1.toNat, UInt8.ofNat x2.toNat, UInt8.ofNat x3.toNat] Tryd.underlying88 Tryd.underlying5 Tryd.underlying9 (fun j hj => ?_)
  rw [addr_add0]
  have hc : ∀ j, j < 4 → (w.alloc (.cells #[.int .u8 x0, .int .u8 x1, .int .u8 x2, .int .u8 x3] 5)).cell? ⟨w.heap.size, j, none⟩ = [Value.int .u8 x0, Value.int .u8 x1, Value.int .u8 x2, Value.int .u8 x3][j]? := fun j hj => by
    rw [Lib.cell_of_heap (heap_alloc_new w _) j]
    simp
  match j, hj with
    | 0, _ => simp only [List.getElem_cons_zero]; rw [ofNat_small _ (by omega)]; rw [hc 0 (by simp)]; simp; omega
    | 1, _ => simp only [List.getElem_cons_zero, List.getElem_cons_succ]; rw [ofNat_small _ (by omega)]; rw [hc 1 (by simp)]; simp; omega
    | 2, _ => simp only [List.getElem_cons_zero, List.getElem_cons_succ]; rw [ofNat_small _ (by omega)]; rw [hc 2 (by simp)]; simp; omega
    | 3, _ => simp only [List.getElem_cons_zero, List.getElem_cons_succ]; rw [ofNat_small _ (by omega)]; rw [hc 3 (by simp)]; simp; omega

theorem rchar_neg (n : Int) (w : World) (h : n < 0) : Calls Tryd.prog 89 #[.int .i64 (n : Int)] w fun e w' => e = .returned (.tuple #[.string ⟨#[]⟩, .int .i64 1]) ∧ Below w.heap.size w w' := by
  have t1 : decide (n < 0) = true := decide_eq_true h
  go_enter Tryd.func89, Tryd.ntmps89
  go_wp2
  go_ret2
  exact ⟨rfl, Below.refl _ _⟩

theorem rchar_far (n : Int) (w : World) (h : 1114111 < n) : Calls Tryd.prog 89 #[.int .i64 (n : Int)] w fun e w' => e = .returned (.tuple #[.string ⟨#[]⟩, .int .i64 1]) ∧ Below w.heap.size w w' := by
  have t1 : decide (n < 0) = false := decide_eq_false (by omega)
  have t2 : decide ((1114111 : Int) < n) = true := decide_eq_true h
  go_enter Tryd.func89, Tryd.ntmps89
  go_wp2
  go_ret2
  exact ⟨rfl, Below.refl _ _⟩

theorem rchar_mid (n : Int) (w : World) (h : 55296 ≤ n) (h2 : n ≤ 57343) : Calls Tryd.prog 89 #[.int .i64 (n : Int)] w fun e w' => e = .returned (.tuple #[.string ⟨#[]⟩, .int .i64 1]) ∧ Below w.heap.size w w' := by
  have t1 : decide (n < 0) = false := decide_eq_false (by omega)
  have t2 : decide ((1114111 : Int) < n) = false := decide_eq_false (by omega)
  have t3 : decide ((55296 : Int) ≤ n) = true := decide_eq_true h
  have t4 : decide (n ≤ (57343 : Int)) = true := decide_eq_true h2
  go_enter Tryd.func89, Tryd.ntmps89
  go_wp2
  go_ret2
  exact ⟨rfl, Below.refl _ _⟩

theorem rchar_a (n : Nat) (w : World) (h : n < 128) : Calls Tryd.prog 89 #[.int .i64 (n : Int)] w fun e w' => e = .returned (.tuple #[.string ⟨#[UInt8.ofNat ((n : Int)).toNat]⟩, .int .i64 0]) ∧ Below w.heap.size w w' := by
  have t1 : decide ((n : Int) < 0) = false := decide_eq_false (by omega)
  have t2 : decide ((1114111 : Int) < (n : Int)) = false := decide_eq_false (by omega)
  have t3 : decide ((55296 : Int) ≤ (n : Int)) = false := decide_eq_false (by omega)
  have t5 : decide ((n : Int) < 128) = true := decide_eq_true (by omega)
  have hcv := fun w => conv_lit1 w ((n : Int)) (by omega) (by omega)
  generalize hS : (⟨#[UInt8.ofNat ((n : Int)).toNat]⟩ : ByteArray) = S at *
  have HE := Lib.hid hS
  clear hS
  go_enter Tryd.func89, Tryd.ntmps89
  go_wp2
  go_ret2
  exact ⟨rfl, (Below.refl _ _).alloc (Nat.le_refl _) _⟩

theorem rchar_b (n q r : Nat) (w : World) (h : 128 ≤ n) (h2 : n < 2048) (hq : q < 32) (hr : r < 64) (d1 : ((n : Int)).tdiv 64 = (q : Int)) (d2 : ((n : Int)).tmod 64 = (r : Int))  : Calls Tryd.prog 89 #[.int .i64 (n : Int)] w fun e w' => e = .returned (.tuple #[.string ⟨#[UInt8.ofNat (192 + (q : Int)).toNat, UInt8.ofNat (128 + (r : Int)).toNat]⟩, .int .i64 0]) ∧ Below w.heap.size w w' := by
  have t1 : decide ((n : Int) < 0) = false := decide_eq_false (by omega)
  have t2 : decide ((1114111 : Int) < (n : Int)) = false := decide_eq_false (by omega)
  have t3 : decide ((55296 : Int) ≤ (n : Int)) = false := decide_eq_false (by omega)
  have t5 : decide ((n : Int) < 128) = false := decide_eq_false (by omega)
  have t6 : decide ((n : Int) < 2048) = true := decide_eq_true (by omega)
  have hcv := fun w => conv_lit2 w (192 + (q : Int)) (128 + (r : Int)) (by omega) (by omega) (by omega) (by omega)
  generalize hS : (⟨#[UInt8.ofNat (192 + (q : Int)).toNat, UInt8.ofNat (128 + (r : Int)).toNat]⟩ : ByteArray) = S at *
  have HE := Lib.hid hS
  clear hS
  go_enter Tryd.func89, Tryd.ntmps89
  go_wp2
  go_ret2
  exact ⟨rfl, (Below.refl _ _).alloc (Nat.le_refl _) _⟩

theorem rchar_c (n q p m r : Nat) (w : World) (h : 2048 ≤ n) (h2 : n < 55296) (hq : q < 16) (hp : p ≤ 1114111) (hm : m < 64) (hr : r < 64) (d1 : ((n : Int)).tdiv 4096 = (q : Int)) (d3 : ((n : Int)).tdiv 64 = (p : Int)) (d4 : ((p : Int)).tmod 64 = (m : Int)) (d2 : ((n : Int)).tmod 64 = (r : Int))  : Calls Tryd.prog 89 #[.int .i64 (n : Int)] w fun e w' => e = .returned (.tuple #[.string ⟨#[UInt8.ofNat (224 + (q : Int)).toNat, UInt8.ofNat (128 + (m : Int)).toNat, UInt8.ofNat (128 + (r : Int)).toNat]⟩, .int .i64 0]) ∧ Below w.heap.size w w' := by
  have t1 : decide ((n : Int) < 0) = false := decide_eq_false (by omega)
  have t2 : decide ((1114111 : Int) < (n : Int)) = false := decide_eq_false (by omega)
  have t3 : decide ((55296 : Int) ≤ (n : Int)) = false := decide_eq_false (by omega)
  have t5 : decide ((n : Int) < 128) = false := decide_eq_false (by omega)
  have t6 : decide ((n : Int) < 2048) = false := decide_eq_false (by omega)
  have t7 : decide ((n : Int) < 65536) = true := decide_eq_true (by omega)
  have hcv := fun w => conv_lit3 w (224 + (q : Int)) (128 + (m : Int)) (128 + (r : Int)) (by omega) (by omega) (by omega) (by omega) (by omega) (by omega)
  generalize hS : (⟨#[UInt8.ofNat (224 + (q : Int)).toNat, UInt8.ofNat (128 + (m : Int)).toNat, UInt8.ofNat (128 + (r : Int)).toNat]⟩ : ByteArray) = S at *
  have HE := Lib.hid hS
  clear hS
  go_enter Tryd.func89, Tryd.ntmps89
  go_wp2
  go_ret2
  exact ⟨rfl, (Below.refl _ _).alloc (Nat.le_refl _) _⟩

theorem rchar_d (n q p m r : Nat) (w : World) (h : 2048 ≤ n) (h2 : n < 65536) (h3 : 57343 < n) (hq : q < 16) (hp : p ≤ 1114111) (hm : m < 64) (hr : r < 64) (d1 : ((n : Int)).tdiv 4096 = (q : Int)) (d3 : ((n : Int)).tdiv 64 = (p : Int)) (d4 : ((p : Int)).tmod 64 = (m : Int)) (d2 : ((n : Int)).tmod 64 = (r : Int))  : Calls Tryd.prog 89 #[.int .i64 (n : Int)] w fun e w' => e = .returned (.tuple #[.string ⟨#[UInt8.ofNat (224 + (q : Int)).toNat, UInt8.ofNat (128 + (m : Int)).toNat, UInt8.ofNat (128 + (r : Int)).toNat]⟩, .int .i64 0]) ∧ Below w.heap.size w w' := by
  have t1 : decide ((n : Int) < 0) = false := decide_eq_false (by omega)
  have t2 : decide ((1114111 : Int) < (n : Int)) = false := decide_eq_false (by omega)
  have t3 : decide ((55296 : Int) ≤ (n : Int)) = true := decide_eq_true (by omega)
  have t4 : decide ((n : Int) ≤ (57343 : Int)) = false := decide_eq_false (by omega)
  have t5 : decide ((n : Int) < 128) = false := decide_eq_false (by omega)
  have t6 : decide ((n : Int) < 2048) = false := decide_eq_false (by omega)
  have t7 : decide ((n : Int) < 65536) = true := decide_eq_true (by omega)
  have hcv := fun w => conv_lit3 w (224 + (q : Int)) (128 + (m : Int)) (128 + (r : Int)) (by omega) (by omega) (by omega) (by omega) (by omega) (by omega)
  generalize hS : (⟨#[UInt8.ofNat (224 + (q : Int)).toNat, UInt8.ofNat (128 + (m : Int)).toNat, UInt8.ofNat (128 + (r : Int)).toNat]⟩ : ByteArray) = S at *
  have HE := Lib.hid hS
  clear hS
  go_enter Tryd.func89, Tryd.ntmps89
  go_wp2
  go_ret2
  exact ⟨rfl, (Below.refl _ _).alloc (Nat.le_refl _) _⟩

theorem rchar_e (n q k l p m r : Nat) (w : World) (h : 65536 ≤ n) (h2 : n ≤ 1114111) (hq : q < 8) (hk : k ≤ 1114111) (hl : l < 64) (hp : p ≤ 1114111) (hm : m < 64) (hr : r < 64) (d1 : ((n : Int)).tdiv 262144 = (q : Int)) (d5 : ((n : Int)).tdiv 4096 = (k : Int)) (d6 : ((k : Int)).tmod 64 = (l : Int)) (d3 : ((n : Int)).tdiv 64 = (p : Int)) (d4 : ((p : Int)).tmod 64 = (m : Int)) (d2 : ((n : Int)).tmod 64 = (r : Int))  : Calls Tryd.prog 89 #[.int .i64 (n : Int)] w fun e w' => e = .returned (.tuple #[.string ⟨#[UInt8.ofNat (240 + (q : Int)).toNat, UInt8.ofNat (128 + (l : Int)).toNat, UInt8.ofNat (128 + (m : Int)).toNat, UInt8.ofNat (128 + (r : Int)).toNat]⟩, .int .i64 0]) ∧ Below w.heap.size w w' := by
  have t1 : decide ((n : Int) < 0) = false := decide_eq_false (by omega)
  have t2 : decide ((1114111 : Int) < (n : Int)) = false := decide_eq_false (by omega)
  have t3 : decide ((55296 : Int) ≤ (n : Int)) = true := decide_eq_true (by omega)
  have t4 : decide ((n : Int) ≤ (57343 : Int)) = false := decide_eq_false (by omega)
  have t5 : decide ((n : Int) < 128) = false := decide_eq_false (by omega)
  have t6 : decide ((n : Int) < 2048) = false := decide_eq_false (by omega)
  have t7 : decide ((n : Int) < 65536) = false := decide_eq_false (by omega)
  have hcv := fun w => conv_lit4 w (240 + (q : Int)) (128 + (l : Int)) (128 + (m : Int)) (128 + (r : Int)) (by omega) (by omega) (by omega) (by omega) (by omega) (by omega) (by omega) (by omega)
  generalize hS : (⟨#[UInt8.ofNat (240 + (q : Int)).toNat, UInt8.ofNat (128 + (l : Int)).toNat, UInt8.ofNat (128 + (m : Int)).toNat, UInt8.ofNat (128 + (r : Int)).toNat]⟩ : ByteArray) = S at *
  have HE := Lib.hid hS
  clear hS
  go_enter Tryd.func89, Tryd.ntmps89
  go_wp2
  go_ret2
  exact ⟨rfl, (Below.refl _ _).alloc (Nat.le_refl _) _⟩

theorem tdiv_n (b m : Nat) : (b : Int).tdiv (m : Int) = ((b / m : Nat) : Int) := by
  rw [Int.tdiv_eq_ediv_of_nonneg (by omega)]
  push_cast
  rfl
theorem rchar_any (n : Nat) (w : World) (hv : Lib.validRune (n : Int) = true) : Calls Tryd.prog 89 #[.int .i64 (n : Int)] w fun e w' => e = .returned (.tuple #[.string (Utf8.encode (n : Int)), .int .i64 0]) ∧ Below w.heap.size w w' := by
  have hb := enc_bytes hv
  have hr := valid_iff.1 hv
  have ext : ∀ L : List UInt8, (Utf8.encode (n : Int)).data.toList = L → Utf8.encode (n : Int) = ⟨L.toArray⟩ := fun L h => ByteArray.ext (Array.ext' (by rw [h]))
  have e0 : (n : Int).toNat = n := Int.toNat_natCast n
  rw [e0] at hb
  have tn : ∀ (k m : Nat), ((k : Int) + (m : Int)).toNat = k + m := fun k m => by omega
  rcases hb with ⟨h1, e⟩ | ⟨h1, h2, e⟩ | ⟨h1, h2, e⟩ | ⟨h1, h2, e⟩
  · rw [ext _ e]
    exact rchar_a n w (by omega)
  · rw [ext _ e]
    have := rchar_b n (n / 64) (n % 64) w (by omega) (by omega) (by omega) (by omega) (tdiv_n n 64) (tmod_n n 64)
    rw [show (192 + ((n / 64 : Nat) : Int)).toNat = 192 + n / 64 by omega, show (128 + ((n % 64 : Nat) : Int)).toNat = 128 + n % 64 by omega] at this
    exact this
  · rw [ext _ e]
    have f1 : (224 + ((n / 4096 : Nat) : Int)).toNat = 224 + n / 4096 := by omega
    have f2 : (128 + ((n / 64 % 64 : Nat) : Int)).toNat = 128 + n / 64 % 64 := by omega
    have f3 : (128 + ((n % 64 : Nat) : Int)).toNat = 128 + n % 64 := by omega
    by_cases h3 : n < 55296
    · have := rchar_c n (n / 4096) (n / 64) (n / 64 % 64) (n % 64) w (by omega) h3 (by omega) (by omega) (by omega) (by omega) (tdiv_n n 4096) (tdiv_n n 64) (tmod_n _ 64) (tmod_n n 64)
      rw [f1, f2, f3] at this
      exact this
    · have := rchar_d n (n / 4096) (n / 64) (n / 64 % 64) (n % 64) w (by omega) (by omega) (by omega) (by omega) (by omega) (by omega) (by omega) (tdiv_n n 4096) (tdiv_n n 64) (tmod_n _ 64) (tmod_n n 64)
      rw [f1, f2, f3] at this
      exact this
  · rw [ext _ e]
    have f1 : (240 + ((n / 262144 : Nat) : Int)).toNat = 240 + n / 262144 := by omega
    have f0 : (128 + ((n / 4096 % 64 : Nat) : Int)).toNat = 128 + n / 4096 % 64 := by omega
    have f2 : (128 + ((n / 64 % 64 : Nat) : Int)).toNat = 128 + n / 64 % 64 := by omega
    have f3 : (128 + ((n % 64 : Nat) : Int)).toNat = 128 + n % 64 := by omega
    have := rchar_e n (n / 262144) (n / 4096) (n / 4096 % 64) (n / 64) (n / 64 % 64) (n % 64) w (by omega) (by omega) (by omega) (by omega) (by omega) (by omega) (by omega) (by omega) (tdiv_n n 262144) (tdiv_n n 4096) (tmod_n _ 64) (tdiv_n n 64) (tmod_n _ 64) (tmod_n n 64)
    rw [f1, f0, f2, f3] at this
    exact this
end Go.Proofs.YtdbjmjeiaajdiaaDoor
