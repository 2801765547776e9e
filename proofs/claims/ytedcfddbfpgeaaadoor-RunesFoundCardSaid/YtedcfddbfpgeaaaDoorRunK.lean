/- quadrillelaw5.RunesFound: the far place; the law. -/
import Derived.Test.YtedcfddbfpgeaaaDoorRunL
namespace Go.Proofs.YtedcfddbfpgeaaaDoor
open Go.RowKit
set_option linter.unusedVariables false

set_option maxRecDepth 100000 in
set_option maxHeartbeats 1000000 in
theorem found_far (what s wh t : ByteArray) (fr c : Nat) (w : World) (hs : s.size ≤ 140737488351232) (hT : Lib.Utf8Tabs 0 1 w)
    (hfr : fr ≤ 255) (ht : cutS s = t) (hwh : cutS what = wh) (hts : t.size ≤ 500) (hws : wh.size ≤ 500) (hc : Run.cnt t 0 = c) (hct : c ≤ t.size)
    (hat : (fr : Int).tmod ((c : Int) + 2) = (c : Int) + 1) :
    Calls Tryd.prog 4 #[.string what, .string s, .int .u8 (fr : Int)] w fun e w' => e = .returned (.bool true) ∧ Below w.heap.size w w' := by
  have H2 := Lib.hid (fun w => len_any t w (by omega))
  rw [hc] at H2
  have HF : Hid (∀ w (x : Int), x = (c : Int) + 2 → Calls _ _ #[.string wh, .string t, .int .i64 x] w _) := Lib.hid (fun w x e => find_arg wh t x w (by omega) (by rw [hc]; omega))
  clear hc
  have h1 : (500 < s.size ∧ s.extract 0 500 = t) ∨ (¬ 500 < s.size ∧ t = s) := by
    unfold cutS at ht
    by_cases h : 500 < s.size
    · exact .inl ⟨h, by rw [if_pos h] at ht; exact ht⟩
    · exact .inr ⟨h, by rw [if_neg h] at ht; exact ht.symm⟩
  have h2 : (500 < what.size ∧ what.extract 0 500 = wh) ∨ (¬ 500 < what.size ∧ wh = what) := by
    unfold cutS at hwh
    by_cases h : 500 < what.size
    · exact .inl ⟨h, by rw [if_pos h] at hwh; exact hwh⟩
    · exact .inr ⟨h, by rw [if_neg h] at hwh; exact hwh.symm⟩
  clear ht hwh
  rcases h1 with ⟨h1, h1b⟩ | ⟨h1, rfl⟩
  all_goals rcases h2 with ⟨h2, h2b⟩ | ⟨h2, rfl⟩
  all_goals
    go_enter Tryd.func4, Tryd.ntmps4
    go_wp2_with (fail)
    refine (begun5 w hT).mono ?_
    rintro e w1 ⟨rfl, hb1⟩
    go_wp2_with (fail)
    refine (H2.out _).mono ?_
    rintro e w2 ⟨rfl, hb2⟩
    replace hb2 := hb1.trans (hb2.mono hb1.size)
    clear hb1
    go_wp2_with (fail)
    refine (HF.out _ _ (by omega)).mono ?_
    rintro e w3 ⟨rfl, hb3⟩
    replace hb3 := hb2.trans (hb3.mono hb2.size)
    clear hb2
    go_wp2
    go_ret
    exact ⟨rfl, hb3⟩

/-- What the loop compares is what Find looks for. -/
theorem has_iff (wh X : ByteArray) : (wh.size ≤ X.size ∧ X.extract 0 wh.size = wh) ↔ Lib.hasPrefix X.data.toList wh.data.toList = true := by
  unfold Lib.hasPrefix
  rw [List.isPrefixOf_iff_prefix, List.prefix_iff_eq_take]
  have hw : wh.data.toList.length = wh.size := (Lib.size_eq wh).symm
  have hX : X.data.toList.length = X.size := (Lib.size_eq X).symm
  have he : (X.extract 0 wh.size).data.toList = X.data.toList.take wh.size := by
    rw [ByteArray.data_extract, Array.toList_extract, List.extract_eq_take_drop]; simp
  constructor
  · rintro ⟨_, h⟩
    rw [hw, ← he, h]
  · intro h
    refine ⟨?_, ByteArray.ext (Array.ext' ?_)⟩
    · have := congrArg List.length h
      rw [List.length_take, hw, hX] at this
      omega
    · rw [he, ← hw]; exact h.symm
end Go.Proofs.YtedcfddbfpgeaaaDoor
