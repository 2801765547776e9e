/- quadrillelaw1.NumText is true at every number of 64 bits and every text of at most 2^47 bytes, in every world that holds the table of powers of ten and the error of the range. -/
import Derived.Test.YtedcfddbfpgeaaaDoorNumG
import Derived.ShutString
namespace Go.Proofs.YtedcfddbfpgeaaaDoor
open Go.RowKit
set_option linter.unusedVariables false

set_option maxHeartbeats 400000 in
theorem numtext_ok (n k : Int) (T s : ByteArray) (w : World) (hN : NumW w) (hs : s.size ≤ 140737488351232)
    (hT : ∀ w, NumW w → Calls Tryd.prog 32 #[.int .i64 n] w fun e w' => e = .returned (.string T) ∧ Below w.heap.size w w')
    (hR : ∀ w, NumW w → Calls Tryd.prog 33 #[.string T] w fun e w' => e = .returned (.tuple #[.int .i64 n, .int .i64 0]) ∧ Below w.heap.size w w') (h1 : 1 ≤ T.size) (h2 : T.size ≤ 20)
    (hS : ∀ w, NumW w → Calls Tryd.prog 33 #[.string s] w fun e w' => e = .returned (.tuple #[.int .i64 k, .int .i64 0]) ∧ Below w.heap.size w w')
    (hK : ∀ w, NumW w → Calls Tryd.prog 32 #[.int .i64 k] w fun e w' => e = .returned (.string s) ∧ Below w.heap.size w w') :
    Calls Tryd.prog 9 #[.int .i64 n, .string s] w fun e w' => e = .returned (.bool true) ∧ Below w.heap.size w w' := by
  have HT := Lib.hid hT
  have HR := Lib.hid hR
  have HS := Lib.hid hS
  have HK := Lib.hid hK
  have t1 : ((T.size : Int) == 0) = false := by rw [beq_eq_false_iff_ne]; omega
  have t2 : decide ((20 : Int) < (T.size : Int)) = false := by simp; omega
  clear hT hR hS hK
  go_enter Tryd.func9, Tryd.ntmps9
  go_wp2_with (fail)
  refine (begun1 w hN).mono ?_
  rintro e w1 ⟨rfl, hb1⟩
  have hN1 := hN.below hb1
  go_wp2_with (fail)
  refine (HT.out _ hN1).mono ?_
  rintro e w2 ⟨rfl, hb2⟩
  have hN2 := hN1.below hb2
  go_wp2_with (fail)
  refine (HR.out _ hN2).mono ?_
  rintro e w3 ⟨rfl, hb3⟩
  have hN3 := hN2.below hb3
  go_wp2_with (fail)
  refine (HS.out _ hN3).mono ?_
  rintro e w4 ⟨rfl, hb4⟩
  have hN4 := hN3.below hb4
  go_wp2_with (fail)
  refine (HK.out _ hN4).mono ?_
  rintro e w5 ⟨rfl, hb5⟩
  go_wp2
  go_ret
  have b12 := hb1.trans (hb2.mono hb1.size)
  have b13 := b12.trans (hb3.mono b12.size)
  have b14 := b13.trans (hb4.mono b13.size)
  exact ⟨by simp, b14.trans (hb5.mono b14.size)⟩
set_option maxHeartbeats 400000 in
theorem numtext_no (n y : Int) (T s : ByteArray) (w : World) (hN : NumW w) (hs : s.size ≤ 140737488351232)
    (hT : ∀ w, NumW w → Calls Tryd.prog 32 #[.int .i64 n] w fun e w' => e = .returned (.string T) ∧ Below w.heap.size w w')
    (hR : ∀ w, NumW w → Calls Tryd.prog 33 #[.string T] w fun e w' => e = .returned (.tuple #[.int .i64 n, .int .i64 0]) ∧ Below w.heap.size w w') (h1 : 1 ≤ T.size) (h2 : T.size ≤ 20)
    (hS : ∀ w, NumW w → Calls Tryd.prog 33 #[.string s] w fun e w' => e = .returned (.tuple #[.int .i64 0, .int .i64 y]) ∧ Below w.heap.size w w')
    (t3 : (y != 0) = true) (hy : (y == 12) = true ∨ ((y == 12) = false ∧ (y == 13) = true ∧ decide ((19 : Int) ≤ (s.size : Int)) = true)) :
    Calls Tryd.prog 9 #[.int .i64 n, .string s] w fun e w' => e = .returned (.bool true) ∧ Below w.heap.size w w' := by
  have HT := Lib.hid hT
  have HR := Lib.hid hR
  have HS := Lib.hid hS
  have t1 : ((T.size : Int) == 0) = false := by rw [beq_eq_false_iff_ne]; omega
  have t2 : decide ((20 : Int) < (T.size : Int)) = false := by simp; omega
  clear hT hR hS
  rcases hy with hy | ⟨hy, hy2, hy3⟩
  all_goals
    go_enter Tryd.func9, Tryd.ntmps9
    go_wp2_with (fail)
    refine (begun1 w hN).mono ?_
    rintro e w1 ⟨rfl, hb1⟩
    have hN1 := hN.below hb1
    go_wp2_with (fail)
    refine (HT.out _ hN1).mono ?_
    rintro e w2 ⟨rfl, hb2⟩
    have hN2 := hN1.below hb2
    go_wp2_with (fail)
    refine (HR.out _ hN2).mono ?_
    rintro e w3 ⟨rfl, hb3⟩
    have hN3 := hN2.below hb3
    go_wp2_with (fail)
    refine (HS.out _ hN3).mono ?_
    rintro e w4 ⟨rfl, hb4⟩
    go_wp2
    go_ret
    have b12 := hb1.trans (hb2.mono hb1.size)
    have b13 := b12.trans (hb3.mono b12.size)
    exact ⟨rfl, b13.trans (hb4.mono b13.size)⟩

theorem numtext_any (n : Int) (s : ByteArray) (w : World) (hN : NumW w) (h1 : -9223372036854775808 ≤ n) (h2 : n ≤ 9223372036854775807) (hs : s.size ≤ 140737488351232) :
    Calls Tryd.prog 9 #[.int .i64 n, .string s] w fun e w' => e = .returned (.bool true) ∧ Below w.heap.size w w' := by
  have hl := Dec.itoa_len n h1 h2
  have hsz : (⟨(Lib.itoa n).toArray⟩ : ByteArray).size = (Lib.itoa n).length := size_of_list _
  have hT : ∀ w, NumW w → Calls Tryd.prog 32 #[.int .i64 n] w fun e w' => e = .returned (.string ⟨(Lib.itoa n).toArray⟩) ∧ Below w.heap.size w w' := fun w hN => text_any n w h1 h2 hN
  have hR : ∀ w, NumW w → Calls Tryd.prog 33 #[.string ⟨(Lib.itoa n).toArray⟩] w fun e w' => e = .returned (.tuple #[.int .i64 n, .int .i64 0]) ∧ Below w.heap.size w w' := fun w hN => read_any _ n 0 w (by omega) hN (by rw [Dec.read_itoa n h1 h2])
  rcases hrs : Dec.readS s.data.toList with ⟨k, e⟩
  rcases Dec.readS_range hrs with ⟨rfl, k1, k2⟩ | ⟨rfl, rfl⟩ | ⟨rfl, rfl, h19⟩
  · have hk := Dec.itoa_read hrs
    refine numtext_ok n k _ s w hN hs hT hR (by omega) (by omega) (fun w hN => read_any s k 0 w hs hN hrs) (fun w hN => ?_)
    have := text_any k w k1 k2 hN
    rw [hk] at this
    simpa using this
  · exact numtext_no n 12 _ s w hN hs hT hR (by omega) (by omega) (fun w hN => read_any s 0 12 w hs hN hrs) (by decide) (.inl (by decide))
  · refine numtext_no n 13 _ s w hN hs hT hR (by omega) (by omega) (fun w hN => read_any s 0 13 w hs hN hrs) (by decide) (.inr ⟨by decide, by decide, ?_⟩)
    have := Lib.size_eq s
    simp
    omega
end Go.Proofs.YtedcfddbfpgeaaaDoor
