/- The walk of quadrillelaw5.RunesHalves. -/
import Derived.Test.YtedcfddbfpgeaaaDoorRunG
namespace Go.Proofs.YtedcfddbfpgeaaaDoor
open Go.RowKit
set_option linter.unusedVariables false

def shortS (s : ByteArray) : ByteArray := if 200000 < s.size then s.extract 0 200000 else s
theorem shortS_size (s : ByteArray) : (shortS s).size ≤ 200000 := by
  unfold shortS
  by_cases h : 200000 < s.size
  · rw [if_pos h, ByteArray.size_extract]; omega
  · rw [if_neg h]; omega
theorem short_any (s : ByteArray) (w : World) (hs : s.size ≤ 140737488351232) :
    Calls Tryd.prog 18 #[.string s] w fun e w' => e = .returned (.string (shortS s)) ∧ w = w' := by
  unfold shortS
  by_cases h : 200000 < s.size
  · rw [if_pos h]
    go_enter Tryd.func18, Tryd.ntmps18
    go_wp2
    go_ret
    exact ⟨rfl, rfl⟩
  · rw [if_neg h]
    go_enter Tryd.func18, Tryd.ntmps18
    go_wp2
    go_ret
    exact ⟨rfl, rfl⟩

theorem cut_join (t : ByteArray) (q : Nat) (h : q ≤ t.size) : t.extract 0 q ++ t.extract q t.size = t := by
  have hl : t.data.toList.length = t.size := by rw [← Lib.size_eq]
  apply ByteArray.ext
  rw [ByteArray.data_append, ByteArray.data_extract, ByteArray.data_extract]
  apply Array.ext'
  rw [Array.toList_append, Array.toList_extract, Array.toList_extract]
  generalize t.data.toList = l at *
  rw [← hl]
  simp only [List.extract_eq_take_drop, Nat.sub_zero, List.drop_zero]
  rw [List.take_of_length_le (l := l.drop q) (by rw [List.length_drop]; exact Nat.le_refl _)]
  exact List.take_append_drop q l
theorem cut_cut (t : ByteArray) (q q2 : Nat) (h : q + q2 ≤ t.size) : (t.extract q t.size).extract 0 q2 = t.extract q (q + q2) := by
  rw [ByteArray.extract_extract]
  congr 1
  omega
theorem cut_join3 (t : ByteArray) (q q2 : Nat) (h : q + q2 ≤ t.size) : t.extract 0 q ++ (t.extract q t.size).extract 0 q2 ++ t.extract (q + q2) t.size = t := by
  rw [cut_cut t q q2 h]
  have e : t.extract 0 q ++ t.extract q (q + q2) = t.extract 0 (q + q2) := by
    have := cut_join (t.extract 0 (q + q2)) q (by rw [ByteArray.size_extract]; omega)
    rw [ByteArray.extract_extract, ByteArray.extract_extract, ByteArray.size_extract] at this
    rw [show min (0 + q) (q + q2) = q by omega, show 0 + 0 = 0 from rfl, show min (0 + (min (q + q2) t.size - 0)) (q + q2) = q + q2 by omega, show 0 + q = q from Nat.zero_add q] at this
    exact this
  rw [e]
  exact cut_join t _ h

set_option maxRecDepth 100000 in
set_option maxHeartbeats 1000000 in
theorem halves_walk (s t : ByteArray) (n m k j0 j c q q2 d r : Nat) (w : World) (hs : s.size ≤ 140737488351232) (hT : Lib.Utf8Tabs 0 1 w)
    (hn : n ≤ 65535) (hm : m ≤ 65535) (ht : shortS s = t) (hts : t.size ≤ 200000) (hc : Run.cnt t 0 = c) (hct : c ≤ t.size)
    (hk : (n : Int).tmod ((c : Int) + 1) = (k : Int)) (hk2 : k ≤ c) (hj0 : (m : Int).tmod ((c : Int) + 1) = (j0 : Int)) (hj02 : j0 ≤ c)
    (hj : (c < k + j0 ∧ j = d) ∨ (k + j0 ≤ c ∧ j = j0)) (hjk : k + j + r = c) (hdk : d + k = c) (hq : Run.adv t k 0 = q) (hq2 : Run.adv (t.extract q t.size) j 0 = q2) (hq3 : Run.adv t (k + j) 0 = q + q2) (hqs : q + q2 ≤ t.size) :
    Calls Tryd.prog 5 #[.string s, .int .u16 (n : Int), .int .u16 (m : Int)] w fun e w' => e = .returned (.bool true) ∧ Below w.heap.size w w' := by
  have H1 := Lib.hid (fun w => short_any s w hs)
  rw [ht] at H1
  have H2 := Lib.hid (fun w => len_any t w (by omega))
  rw [hc] at H2
  have H3 := Lib.hid (fun w => left_any t k q w (by omega) (by omega) hq)
  have H4 : Hid (∀ w (x : Int), x = (d : Int) → Calls _ _ #[.string t, .int .i64 x] w _) := Lib.hid (fun w x e => by rw [e]; exact right_any t d q w (by omega) (by omega) (by rw [hc, show c - d = k by omega]; exact hq))
  have H5 := Lib.hid (fun w => len_any (t.extract 0 q) w (by rw [ByteArray.size_extract]; omega))
  have hl5 := Run.cnt_le_size (t.extract 0 q)
  have hs5 : (t.extract 0 q).size = q := by rw [ByteArray.size_extract]; omega
  have H6 : Hid (∀ w (x : Int), x = (j : Int) → Calls _ _ #[.string t, .int .i64 ((k : Int) + 1), .int .i64 x] w _) := Lib.hid (fun w x e => by rw [e]; exact mid_any t (t.extract q t.size) k j q q2 w (by omega) (by omega) (by omega) hq rfl hq2)
  have H7 : Hid (∀ w (x : Int), x = (r : Int) → Calls _ _ #[.string t, .int .i64 x] w _) := Lib.hid (fun w x e => by rw [e]; exact right_any t r (q + q2) w (by omega) (by omega) (by rw [hc, show c - r = k + j by omega]; exact hq3))
  generalize Run.cnt (t.extract 0 q) 0 = c5 at *
  have t0 : ((c : Int) + 1 == 0) = false := by rw [beq_eq_false_iff_ne]; omega
  have e1 : t.extract 0 q ++ t.extract q t.size = t := cut_join t q (by omega)
  have e2 : t.extract 0 q ++ (t.extract q t.size).extract 0 q2 ++ t.extract (q + q2) t.size = t := cut_join3 t q q2 hqs
  clear hq hq2 hq3 hc ht
  have HD := Lib.hid (show d + k = c ∧ k + j + r = c from ⟨hdk, hjk⟩)
  have hc2 : c ≤ 200000 := by omega
  clear hjk hdk
  rcases hj with ⟨hj1, hj2⟩ | ⟨hj1, hj2⟩
  all_goals
    replace hj2 := Lib.hid hj2
    go_enter Tryd.func5, Tryd.ntmps5
    go_wp2_with (fail)
    refine (begun5 w hT).mono ?_
    rintro e w1 ⟨rfl, hb1⟩
    go_wp2_with (fail)
    refine (H1.out _).mono ?_
    rintro e w' ⟨rfl, rfl⟩
    go_wp2_with (fail)
    refine (H2.out _).mono ?_
    rintro e w2 ⟨rfl, hb2⟩
    go_wp2_with (fail)
    go_region
    have hb3 := (hb1.trans (hb2.mono hb1.size)).drew
    clear hb1 hb2
    generalize w2.drew = w3 at *
    go_wp2_with (fail)
    refine (H3.out _).mono ?_
    rintro e w4 ⟨rfl, hb4⟩
    replace hb4 := hb3.trans (hb4.mono hb3.size)
    clear hb3
    go_wp2_with (fail)
    refine (H4.out _ _ (by have := HD.out; omega)).mono ?_
    rintro e w5 ⟨rfl, hb5⟩
    replace hb5 := hb4.trans (hb5.mono hb4.size)
    clear hb4
    go_wp2_with (fail)
    refine (H5.out _).mono ?_
    rintro e w6 ⟨rfl, hb6⟩
    replace hb6 := hb5.trans (hb6.mono hb5.size)
    clear hb5
    go_wp2_with (fail)
    refine (H6.out _ _ (by have := HD.out; have := hj2.out; omega)).mono ?_
    rintro e w7 ⟨rfl, hb7⟩
    replace hb7 := hb6.trans (hb7.mono hb6.size)
    clear hb6
    go_wp2_with (fail)
    refine (H7.out _ _ (by have := HD.out; have := hj2.out; omega)).mono ?_
    rintro e w8 ⟨rfl, hb8⟩
    replace hb8 := hb7.trans (hb8.mono hb7.size)
    clear hb7
    go_wp2
    go_ret
    exact ⟨rfl, hb8⟩
theorem tmod_nat (n c : Nat) : (n : Int).tmod ((c : Int) + 1) = ((n % (c + 1) : Nat) : Int) := by
  rw [Int.tmod_eq_emod_of_nonneg (by omega)]
  push_cast
  rfl
theorem halves_any (s : ByteArray) (n m : Int) (w : World) (hs : s.size ≤ 140737488351232) (hT : Lib.Utf8Tabs 0 1 w) (hn0 : 0 ≤ n) (hn : n ≤ 65535) (hm0 : 0 ≤ m) (hm : m ≤ 65535) :
    Calls Tryd.prog 5 #[.string s, .int .u16 n, .int .u16 m] w fun e w' => e = .returned (.bool true) ∧ Below w.heap.size w w' := by
  obtain ⟨n, rfl⟩ := Int.eq_ofNat_of_zero_le hn0
  obtain ⟨m, rfl⟩ := Int.eq_ofNat_of_zero_le hm0
  have hts := shortS_size s
  obtain ⟨t, ht⟩ : ∃ t, shortS s = t := ⟨_, rfl⟩
  rw [ht] at hts
  have hct := Run.cnt_le_size t
  obtain ⟨c, hc⟩ : ∃ c, Run.cnt t 0 = c := ⟨_, rfl⟩
  rw [hc] at hct
  have hk2 : n % (c + 1) ≤ c := by have := Nat.mod_lt n (show 0 < c + 1 by omega); omega
  have hj2 : m % (c + 1) ≤ c := by have := Nat.mod_lt m (show 0 < c + 1 by omega); omega
  have hk := tmod_nat n c
  have hj := tmod_nat m c
  generalize n % (c + 1) = k at *
  generalize m % (c + 1) = j0 at *
  obtain ⟨j, hjj, hkj⟩ : ∃ j, ((c < k + j0 ∧ j = c - k) ∨ (k + j0 ≤ c ∧ j = j0)) ∧ k + j ≤ c := by
    by_cases h : c < k + j0
    · exact ⟨c - k, .inl ⟨h, rfl⟩, by omega⟩
    · exact ⟨j0, .inr ⟨by omega, rfl⟩, by omega⟩
  have hq := Run.adv_le t k 0 (by omega)
  have htl := Run.adv_tail t (Run.adv t k 0) hq j 0
  have hq3 : Run.adv t (k + j) 0 = Run.adv t k 0 + Run.adv (t.extract (Run.adv t k 0) t.size) j 0 := by rw [Run.adv_add, htl]; rfl
  have hqs : Run.adv t k 0 + Run.adv (t.extract (Run.adv t k 0) t.size) j 0 ≤ t.size := by rw [← hq3]; exact Run.adv_le t _ 0 (by omega)
  exact halves_walk s t n m k j0 j c _ _ (c - k) (c - k - j) w hs hT (by omega) (by omega) ht hts hc hct hk hk2 hj hj2 hjj (by omega) (by omega) rfl rfl hq3 hqs
end Go.Proofs.YtedcfddbfpgeaaaDoor
