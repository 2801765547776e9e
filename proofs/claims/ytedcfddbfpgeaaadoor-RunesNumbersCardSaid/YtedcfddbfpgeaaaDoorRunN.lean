/- The walk of quadrillelaw5.RunesNumbers. -/
import Derived.Test.YtedcfddbfpgeaaaDoorRunH
namespace Go.Proofs.YtedcfddbfpgeaaaDoor
open Go.RowKit
set_option linter.unusedVariables false

theorem enc_cnt {n : Int} (h : Lib.validRune n = true) : Run.cnt (Utf8.encode n) 0 = 1 := by
  have hd := dec_enc h (Utf8.encode n) [] (by simp)
  have hz := (enc_size h).1
  rw [Run.cnt_step _ 0 (by omega), Run.wd_eq, hd, ← Lib.size_eq]
  simp only []
  rw [Run.cnt_end _ _ (by omega)]
theorem enc_code {n : Int} (h : Lib.validRune n = true) (u : ByteArray) : (Utf8.decode (Utf8.encode n ++ u) 0).1 = n.toNat := by
  rw [dec_enc h (Utf8.encode n ++ u) u.data.toList (by simp)]

set_option maxRecDepth 100000 in
set_option maxHeartbeats 1000000 in
theorem numbers_far (n : Int) (s : ByteArray) (w : World) (hs : s.size ≤ 140737488351232) (hT : Lib.Utf8Tabs 0 1 w) (h : (n < 0 ∨ 1114111 < n) ∨ (55296 ≤ n ∧ n ≤ 57343)) :
    Calls Tryd.prog 3 #[.int .i64 n, .string s] w fun e w' => e = .returned (.bool true) ∧ Below w.heap.size w w' := by
  have HC : Hid (∀ w, Calls Tryd.prog 16 #[.int .i64 n] w fun e w' => e = .returned (.tuple #[.string ⟨#[]⟩, .int .i64 1]) ∧ w = w') := by
    rcases h with h | ⟨h1, h2⟩
    · exact Lib.hid (fun w => char_far n w h)
    · refine Lib.hid (fun w => char_bad n w (by omega) (by omega) ?_)
      cases hv : Lib.validRune n with
      | false => rfl
      | true => rw [valid_iff] at hv; omega
  rcases h with (h | h) | ⟨h1, h2⟩
  all_goals
    go_enter Tryd.func3, Tryd.ntmps3
    go_wp2_with (fail)
    refine (begun5 w hT).mono ?_
    rintro e w1 ⟨rfl, hb1⟩
    go_wp2_with (fail)
    refine (HC.out _).mono ?_
    rintro e w' ⟨rfl, rfl⟩
    go_wp2
    go_ret
    exact ⟨rfl, hb1⟩

set_option maxRecDepth 100000 in
set_option maxHeartbeats 1000000 in
theorem numbers_ok (n : Int) (s u x : ByteArray) (w : World) (hs : s.size ≤ 140737488351232) (hT : Lib.Utf8Tabs 0 1 w) (h0 : 0 ≤ n) (h1 : n ≤ 1114111) (hv : Lib.validRune n = true) (hu : shortS s = u) (hus : u.size ≤ 200000) (hx : Utf8.encode n = x) :
    Calls Tryd.prog 3 #[.int .i64 n, .string s] w fun e w' => e = .returned (.bool true) ∧ Below w.heap.size w w' := by
  have hz := enc_size hv
  have hcn := enc_cnt hv
  have hcd := enc_code hv u
  have HC := Lib.hid (fun w => char_ok n w h0 h1 hv)
  rw [hx] at hz hcn hcd HC
  have H1 := Lib.hid (fun w => short_any s w hs)
  rw [hu] at H1
  have hxu : (x ++ u).size = x.size + u.size := ByteArray.size_append
  have H2 := Lib.hid (fun w => code_any (x ++ u) n.toNat w (by omega) (by omega) hcd)
  rw [Int.toNat_of_nonneg h0] at H2
  have H3 := Lib.hid (fun w => len_any x w (by omega))
  rw [hcn] at H3
  obtain ⟨hz1, hz2⟩ := hz
  have t4 : decide ((x.size : Int) ≤ 4) = true := by simp; omega
  clear hcn hcd hx hu hv hxu
  go_enter Tryd.func3, Tryd.ntmps3
  go_wp2_with (fail)
  refine (begun5 w hT).mono ?_
  rintro e w1 ⟨rfl, hb1⟩
  go_wp2_with (fail)
  refine (HC.out _).mono ?_
  rintro e w' ⟨rfl, rfl⟩
  go_wp2_with (fail)
  refine (H1.out _).mono ?_
  rintro e w' ⟨rfl, rfl⟩
  go_wp2_with (fail)
  refine (H2.out _).mono ?_
  rintro e w2 ⟨rfl, hb2⟩
  replace hb2 := hb1.trans (hb2.mono hb1.size)
  clear hb1
  go_wp2_with (fail)
  refine (H3.out _).mono ?_
  rintro e w3 ⟨rfl, hb3⟩
  replace hb3 := hb2.trans (hb3.mono hb2.size)
  clear hb2
  go_wp2
  go_ret
  exact ⟨rfl, hb3⟩

theorem numbers_any (n : Int) (s : ByteArray) (w : World) (hs : s.size ≤ 140737488351232) (hT : Lib.Utf8Tabs 0 1 w) :
    Calls Tryd.prog 3 #[.int .i64 n, .string s] w fun e w' => e = .returned (.bool true) ∧ Below w.heap.size w w' := by
  by_cases h : (n < 0 ∨ 1114111 < n) ∨ (55296 ≤ n ∧ n ≤ 57343)
  · exact numbers_far n s w hs hT h
  · exact numbers_ok n s _ _ w hs hT (by omega) (by omega) (by rw [valid_iff]; omega) rfl (shortS_size s) rfl
end Go.Proofs.YtedcfddbfpgeaaaDoor
