/- Contracts of quadrilleref1's Pow and Text. -/
import Derived.Test.YtdbjmjeiaajdiaaDoorRefC
import Derived.Laws.Rows
import Derived.Laws.IdiomStrings
import Derived.Lib.Strings
namespace Go.Proofs.YtdbjmjeiaajdiaaDoor
open Go.RowKit
set_option linter.unusedVariables false
theorem num_set {w : World} {B T : Nat} {n o n' o' : Bool} {m m' : Nat} (h : w.heap[B]? = some (.cells #[.bool n, .bool o, .int .u64 (m : Int)] T (0, 0))) :
    (((w.setCell ⟨B, 0, none⟩ (.bool n')).setCell ⟨B, 1, none⟩ (.bool o')).setCell ⟨B, 2, none⟩ (.int .u64 (m' : Int))).heap[B]? = some (.cells #[.bool n', .bool o', .int .u64 (m' : Int)] T (0, 0)) := by
  have h1 := heap_setCell_same w B 0 _ T (.bool n') h
  have h2 := heap_setCell_same _ B 1 _ T (.bool o') h1
  exact heap_setCell_same _ B 2 _ T (.int .u64 (m' : Int)) h2
theorem num_frozen {w : World} {B T : Nat} {n o : Bool} {m : Nat} (h : w.heap[B]? = some (.cells #[.bool n, .bool o, .int .u64 (m : Int)] T (0, 0))) :
    w.frozen? ⟨B, 0, none⟩ = false ∧ w.frozen? ⟨B, 1, none⟩ = false ∧ w.frozen? ⟨B, 2, none⟩ = false :=
  ⟨Lib.frozen_of_heap h 0, Lib.frozen_of_heap h 1, Lib.frozen_of_heap h 2⟩
theorem num_set_below {w0 w : World} {B0 B : Nat} {u v z : Value} (h : Below B0 w0 w) (hB : B0 ≤ B) :
    Below B0 w0 (((w.setCell ⟨B, 0, none⟩ u).setCell ⟨B, 1, none⟩ v).setCell ⟨B, 2, none⟩ z) :=
  ((h.setCell (p := ⟨B, 0, none⟩) hB _).setCell (p := ⟨B, 1, none⟩) hB _).setCell (p := ⟨B, 2, none⟩) hB _

/-! ### Pow -/
/-! ### Text -/
set_option maxRecDepth 100000 in
set_option maxHeartbeats 1000000 in
theorem rtext_any (n : Int) (w : World) (h0 : -9223372036854775808 ≤ n) (h1 : n ≤ 9223372036854775807) :
    Calls Tryd.prog 55 #[.int .i64 n] w fun e w' => e = .returned (.string ⟨(Lib.itoa n).toArray⟩) ∧ Below w.heap.size w w' := by
  have H1 := Lib.hid (fun w => of_any n n.natAbs (decide (n < 0)) w h0 h1 rfl rfl)
  have hma := abs_lt n h0 h1
  have HI : Hid (Lib.itoa n = cond (decide (n < 0)) (45 :: Lib.decDigits n.natAbs) (Lib.decDigits n.natAbs)) := Lib.hid (by
    by_cases h : n < 0
    · rw [decide_eq_true h, Ref.itoa_neg n h]; rfl
    · rw [decide_eq_false h, Ref.itoa_pos n h]; rfl)
  have hlen : (Lib.decDigits n.natAbs).length ≤ 20 := Dec.dec_len _ 20 (by omega) (by have : (10 : Nat) ^ 20 = 100000000000000000000 := by decide
                                                                                      omega)
  generalize decide (n < 0) = na at *
  generalize n.natAbs = M at *
  go_enter Tryd.func55, Tryd.ntmps55
  go_wp2_with (fail)
  refine (H1.out _).mono ?_
  rintro e w1 ⟨rfl, hb1⟩
  go_wp2_with (fail)
  have hB : (w1.alloc (Obj.cells #[.bool na, .bool false, .int .u64 (M : Int)] 99)).heap[w1.heap.size]? = some (.cells #[.bool na, .bool false, .int .u64 (M : Int)] 99 (0, 0)) := heap_alloc_new _ _
  have hb0 : Below w.heap.size w (w1.alloc (Obj.cells #[.bool na, .bool false, .int .u64 (M : Int)] 99)) := hb1.alloc hb1.size _
  have hl0 : w1.heap.size < (w1.alloc (Obj.cells #[.bool na, .bool false, .int .u64 (M : Int)] 99)).heap.size := by simp
  generalize w1.alloc (Obj.cells #[.bool na, .bool false, .int .u64 (M : Int)] 99) = W0 at *
  replace hB := Lib.hid hB
  have HLen := Lib.hid hlen
  clear H1 hlen
  go_loopw [4, 5] (fun sv mv wr => ∃ (m : Nat) (S : ByteArray), sv = .string S ∧ mv = .int .u64 (m : Int) ∧ m ≤ M ∧ Hid ((S.data.toList = [] ∧ m = M) ∨ (S.data.toList ≠ [] ∧ Ref.digs m ++ S.data.toList = Lib.decDigits M)) ∧ Hid (wr.heap[w1.heap.size]? = some (.cells #[.bool na, .bool false, .int .u64 (M : Int)] 99 (0, 0))) ∧ Below w.heap.size w wr ∧ w1.heap.size < wr.heap.size) (fun sv mv _ => (intOf mv).toNat + (match sv with | .string S => cond S.data.toList.isEmpty 1 0 | _ => 0))
  case atStart => exact ⟨M, ⟨#[]⟩, rfl, rfl, Nat.le_refl _, Lib.hid (.inl ⟨rfl, rfl⟩), hB, hb0, hl0⟩
  case round =>
    obtain ⟨m, S, rfl, rfl, hmM, HD, HB, hb, hlt⟩ := hrel
    have hS20 : S.size ≤ 20 := by
      rw [Lib.size_eq]
      rcases HD.out with ⟨h, _⟩ | ⟨_, h⟩
      · rw [h]; exact Nat.zero_le _
      · have h2 := HLen.out
        rw [← h, List.length_append] at h2
        omega
    by_cases hgo : 0 < m ∨ S.data.toList = []
    · have HD2 : Hid (Ref.digs (m / 10) ++ (UInt8.ofNat (48 + m % 10) :: S.data.toList) = Lib.decDigits M) := Lib.hid (by
        rcases HD.out with ⟨h, rfl⟩ | ⟨h, h2⟩
        · rw [h, Ref.dec_step]
        · have hm : m ≠ 0 := by
            rcases hgo with hg | hg
            · omega
            · exact absurd hg h
          rw [← h2, Ref.digs_step m hm, List.append_assoc]; rfl)
      have hc : (UInt8.ofNat (48 + m % 10)).toNat = 48 + m % 10 := by rw [UInt8.toNat_ofNat']; omega
      have e1 : (m : Int).tmod 10 = ((m % 10 : Nat) : Int) := by rw [Int.tmod_eq_emod_of_nonneg (by omega)]; omega
      have e2 : (m : Int).tdiv 10 = ((m / 10 : Nat) : Int) := by rw [Int.tdiv_eq_ediv_of_nonneg (by omega)]; omega
      have hr : m % 10 < 10 := Nat.mod_lt _ (by omega)
      have hq : m / 10 ≤ M := by omega
      have hq2 : m / 10 < m ∨ m = 0 := by omega
      have hq5 : m / 10 ≤ m := Nat.div_le_self _ _
      have hm0 : 0 < m ∨ (m = 0 ∧ S.data.toList = []) := by
        rcases hgo with h | h
        · exact .inl h
        · rcases Nat.eq_zero_or_pos m with e | e
          · exact .inr ⟨e, h⟩
          · exact .inl e
      generalize UInt8.ofNat (48 + m % 10) = c at *
      have e3 : IntKind.u64.wrap (48 + ((m % 10 : Nat) : Int)) = (c.toNat : Int) := by rw [hc]; simp [IntKind.wrap, IntKind.bits, IntKind.signed]; omega
      have e4 : IntKind.u8.wrap (c.toNat : Int) = (c.toNat : Int) := by have := UInt8.toNat_lt c; simp [IntKind.wrap, IntKind.bits, IntKind.signed]; omega
      have hcv : (convert 88 9 (.slice (some ⟨wr.heap.size, 0, none⟩) 1 1)).run Tryd.prog (wr.alloc (Obj.cells #[.int .u8 (c.toNat : Int)] 5)) = .ok (.string ⟨#[c]⟩) (wr.alloc (Obj.cells #[.int .u8 (c.toNat : Int)] 5)) := run_convert_bytes_back (P := Tryd.prog) (wr.alloc (Obj.cells #[.int .u8 (c.toNat : Int)] 5)) 88 9 5 ⟨wr.heap.size, 0, none⟩ 1 [c] Tryd.underlying88 Tryd.underlying5 Tryd.underlying9 (fun j hj => by
        match j, hj with
        | 0, _ => exact Lib.cell_of_heap (heap_alloc_new _ _) 0)
      have hbn : Below w.heap.size w (wr.alloc (Obj.cells #[.int .u8 (c.toNat : Int)] 5)) := hb.alloc hb.size _
      have hBn : Hid ((wr.alloc (Obj.cells #[.int .u8 (c.toNat : Int)] 5)).heap[w1.heap.size]? = some (.cells #[.bool na, .bool false, .int .u64 (M : Int)] 99 (0, 0))) := Lib.hid ((Below.heap_alloc _ _ _ hlt).trans HB.out)
      have HSz : Hid (∀ T : ByteArray, T = ⟨#[c]⟩ ++ S → T.data.toList = c :: S.data.toList) := Lib.hid (by rintro T rfl; simp [ByteArray.data_append])
      generalize m / 10 = q at *
      generalize m % 10 = r at *
      clear hc
      rcases hm0 with hm | ⟨hmz, hSe⟩
      · have t1 : decide ((0 : Int) < (m : Int)) = true := decide_eq_true (by omega)
        have t2 : ((m : Int) == 0) = false := by rw [beq_eq_false_iff_ne]; omega
        have hq3 : q < m := by omega
        clear hgo hq2 hq5
        go_wp2
        go_roundw
        case rel => exact ⟨q, ⟨#[c]⟩ ++ S, rfl, rfl, hq, Lib.hid (.inr ⟨by rw [HSz.out _ rfl]; simp, by rw [HSz.out _ rfl]; exact HD2.out⟩), hBn, hbn, by simp; omega⟩
        case measure =>
          have hne : ((⟨#[c]⟩ : ByteArray) ++ S).data.toList.isEmpty = false := by rw [HSz.out _ rfl]; rfl
          show (intOf (.int .u64 (q : Int))).toNat + cond ((⟨#[c]⟩ : ByteArray) ++ S).data.toList.isEmpty 1 0 < (intOf (.int .u64 (m : Int))).toNat + cond S.data.toList.isEmpty 1 0
          rw [hne]
          simp [intOf]; omega
      · have t1 : decide ((0 : Int) < (m : Int)) = false := decide_eq_false (by omega)
        have t2 : ¬ 0 < m := by omega
        have hS1 : S.toList = [] := by rw [Lib.toList_data]; exact hSe
        have hS2 : S.toList.isEmpty = true := by rw [hS1]; rfl
        have HSe := Lib.hid hSe
        have HQ : Hid (q = 0 ∧ m = 0) := Lib.hid ⟨by omega, hmz⟩
        clear hgo hq2 hq5 hmz hSe
        go_wp2
        go_roundw
        case rel => exact ⟨q, ⟨#[c]⟩ ++ S, rfl, rfl, hq, Lib.hid (.inr ⟨by rw [HSz.out _ rfl]; simp, by rw [HSz.out _ rfl]; exact HD2.out⟩), hBn, hbn, by simp; omega⟩
        case measure =>
          have hne : ((⟨#[c]⟩ : ByteArray) ++ S).data.toList.isEmpty = false := by rw [HSz.out _ rfl]; rfl
          show (intOf (.int .u64 (q : Int))).toNat + cond ((⟨#[c]⟩ : ByteArray) ++ S).data.toList.isEmpty 1 0 < (intOf (.int .u64 (m : Int))).toNat + cond S.data.toList.isEmpty 1 0
          rw [hne]
          rw [HSe.out, HQ.out.1, HQ.out.2]
          decide
    · have hmz : m = 0 := by omega
      have hSn : S.data.toList ≠ [] := fun e => hgo (.inr e)
      have t1 : decide ((0 : Int) < (m : Int)) = false := decide_eq_false (by omega)
      have t2 : ¬ 0 < m := by omega
      have hS1 : ¬ S.toList = [] := by rw [Lib.toList_data]; exact hSn
      have hS2 : S.toList.isEmpty = false := by simpa using hS1
      have HE : Hid (S.data.toList = Lib.decDigits M) := Lib.hid (by
        rcases HD.out with ⟨h, _⟩ | ⟨_, h⟩
        · exact absurd h hSn
        · rw [hmz] at h; exact h)
      clear hgo hmz hSn
      obtain ⟨x0, x1, x2⟩ := num_cells HB.out
      cases na with
      | true =>
        have HO : Hid ((⟨#[45]⟩ : ByteArray) ++ S = ⟨(Lib.itoa n).toArray⟩) := Lib.hid (by
          apply ByteArray.ext
          apply Array.ext'
          rw [HI.out]
          simp [ByteArray.data_append, HE.out])
        go_wp2
        go_ret
        exact ⟨by rw [← HO.out]; rfl, hb⟩
      | false =>
        have HO : Hid (S = ⟨(Lib.itoa n).toArray⟩) := Lib.hid (by
          apply ByteArray.ext
          apply Array.ext'
          rw [HI.out]
          simp [HE.out])
        go_wp2
        go_ret
        exact ⟨by rw [← HO.out]; rfl, hb⟩
end Go.Proofs.YtdbjmjeiaajdiaaDoor
