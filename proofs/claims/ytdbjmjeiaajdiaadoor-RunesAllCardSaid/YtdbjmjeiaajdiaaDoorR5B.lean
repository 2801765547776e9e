/- quadrilleref5.Starts: where each rune begins, and the end. -/
import Derived.Test.YtdbjmjeiaajdiaaDoorR5A
import Derived.Laws.OwnMore
import Derived.OwnWalk
namespace Go.Proofs.YtdbjmjeiaajdiaaDoor
open Go.RowKit
set_option linter.unusedVariables false
theorem infoInt : (Tryd.prog.info? 3).map (fun i => (i.zero, i.size, i.bytes)) = some (some (.int .i64 0), 1, 8) := by kernel_rfl
/-- The first k starts, as cells. -/
def stL (s : ByteArray) : Nat → List Value
  | 0 => []
  | k + 1 => stL s k ++ [.int .i64 (Run.adv s k 0 : Int)]
theorem stL_length (s : ByteArray) : ∀ k, (stL s k).length = k
  | 0 => rfl
  | k + 1 => by rw [stL, List.length_append, stL_length s k]; rfl
theorem stL_at (s : ByteArray) : ∀ k j, j < k → (stL s k)[j]? = some (.int .i64 (Run.adv s j 0 : Int))
  | 0, j, h => absurd h (Nat.not_lt_zero j)
  | k + 1, j, h => by
    rw [stL]
    by_cases hj : j < k
    · rw [List.getElem?_append_left (by rw [stL_length]; exact hj)]
      exact stL_at s k j hj
    · obtain rfl : j = k := by omega
      rw [List.getElem?_append_right (by rw [stL_length]; exact Nat.le_refl _), stL_length, Nat.sub_self]
      rfl
theorem own_below5 {W W' : World} {B e size n : Nat} {v : Value} {xs : List Value} (h : W.ownsRow B e size v n xs) (hb : Below W.heap.size W W') : W'.ownsRow B e size v n xs :=
  h.kept (row := none) ⟨hb.os, hb.tape, hb.output, hb.size, fun k hk _ => hb.block k hk⟩ (Classical.em _)
/-- What Starts answers lies in new memory. -/
def StartsAt (s : ByteArray) (B g cap : Nat) (w : World) : Prop := B ≤ g ∧ g < w.heap.size ∧ Run.cnt s 0 + 1 ≤ cap ∧ ∀ j, j ≤ Run.cnt s 0 → w.cell? ⟨g, j, none⟩ = some (.int .i64 (Run.adv s j 0 : Int))
theorem StartsAt.below {s : ByteArray} {B g cap n : Nat} {w w' : World} (h : StartsAt s B g cap w) (hb : Below n w w') (hg : g < n) : StartsAt s B g cap w' :=
  ⟨h.1, Nat.lt_of_lt_of_le h.2.1 hb.size, h.2.2.1, fun j hj => (hb.cell (p := ⟨g, j, none⟩) hg).trans (h.2.2.2 j hj)⟩
set_option maxHeartbeats 1000000 in
theorem starts_any (s : ByteArray) (w : World) (hs : s.size ≤ 200000) :
    Calls Tryd.prog 70 #[.string s] w fun e w' => ∃ g cap, e = .returned (.slice (some ⟨g, 0, none⟩) (Run.cnt s 0 + 1) cap) ∧ StartsAt s w.heap.size g cap w' ∧ Below w.heap.size w w' := by
  have HR := Lib.hid (fun w i hi => rune_any s i w (by omega) hi)
  have hcl := Run.cnt_le_size s
  obtain ⟨i0, hi, hz0, hz1, hz2⟩ := info_parts infoInt
  go_enter Tryd.func70, Tryd.ntmps70
  go_wp2
  go_loopw [3, 4] (fun v i wr => ∃ (pos k : Nat), pos ≤ s.size ∧ i = .int .i64 (pos : Int) ∧ k ≤ 200000 ∧ Hid (pos = Run.adv s k 0) ∧ Hid (k + Run.cnt s pos = Run.cnt s 0) ∧ wr.ownsRow w.heap.size 3 1 v k (stL s k) ∧ Below w.heap.size w wr) (fun _ i _ => s.size - (intOf i).toNat)
  case atStart => exact ⟨0, 0, by omega, rfl, by omega, Lib.hid rfl, Lib.hid (by omega), World.ownsRow_nil _ _ _ _, Below.refl _ _⟩
  case round =>
    obtain ⟨pos, k, hpos, rfl, hk2, HP, HK, hown, hb⟩ := hrel
    by_cases hp : pos < s.size
    · have hwd := Run.wd_pos s pos
      have hwl := Run.wd_le s pos hp
      have hkc : k + 1 ≤ 200000 := by have := HK.out; rw [Run.cnt_step s pos hp] at this; omega
      have HK2 : Hid (k + 1 + Run.cnt s (pos + Run.wd s pos) = Run.cnt s 0) := by have := HK.out; rw [Run.cnt_step s pos hp] at this; exact Lib.hid (by omega)
      have HP2 : Hid (pos + Run.wd s pos = Run.adv s (k + 1) 0) := by
        have := HP.out
        have h2 := Run.adv_next s k 0 (by omega)
        rw [← this] at h2
        exact Lib.hid h2.symm
      have HS : Hid (stL s k ++ [.int .i64 (pos : Int)] = stL s (k + 1)) := Lib.hid (by rw [stL, ← HP.out])
      have HR2 := Lib.hid (fun w => HR.out w pos hp)
      generalize Run.wd s pos = d at *
      generalize (Utf8.decode s pos).1 = r at *
      have hbs := hb.size
      go_wp2_with (first | (at_builtin; refine wpList_append_own _ rfl _ _ 90 rfl w.heap.size 3 i0 (.int .i64 0) 1 8 Tryd.underlying90 hi hz0 hz1 hz2 rfl (by decide) _ _ _ rfl (hown.alloc _) ⟨wr.heap.size, 0, none⟩ 1 1 [.int .i64 (pos : Int)] rfl rfl ?c1 ?c2 ?c3 ?c4 ?c5 ?_) | fail)
      case c1 =>
        intro j u hj
        match j, hj with
        | 0, hj => simp at hj; subst hj; simp [Addr.add]
      case c2 => intro u hu; simp at hu; subst hu; rfl
      case c3 => unfold maxLen; omega
      case c4 => omega
      case c5 => simp; omega
      intro v' w1 hown1 hgrow _
      rw [HS.out] at hown1
      have hb1 : Below w.heap.size w w1 := (hb.alloc hbs _).grown hgrow (by simp; omega) (fun j hj => (hown.lt j hj).1)
      clear hgrow hown hb
      go_wp2_with (fail)
      refine (HR2.out _).mono ?_
      rintro e w2 ⟨rfl, hb2⟩
      have hown2 := own_below5 hown1 hb2
      replace hb1 := hb1.trans (hb2.mono hb1.size)
      clear hb2 hown1
      go_wp2
      go_roundw
      case rel => exact ⟨pos + d, k + 1, hwl, by go_num, hkc, HP2, HK2, hown2, hb1⟩
      case measure => simp [intOf]; omega
    · have hk : k = Run.cnt s 0 := by have := HK.out; rw [Run.cnt_end s pos hp] at this; omega
      obtain rfl : pos = s.size := by omega
      subst hk
      have HS : Hid (stL s (Run.cnt s 0) ++ [.int .i64 (s.size : Int)] = stL s (Run.cnt s 0 + 1)) := Lib.hid (by rw [stL, Run.adv_all])
      have HAT := Lib.hid (stL_at s (Run.cnt s 0 + 1))
      clear HP HK HR
      generalize hc : Run.cnt s 0 = c at *
      replace hc := Lib.hid hc
      have hbs := hb.size
      go_wp2_with (first | (at_builtin; refine wpList_append_own _ rfl _ _ 90 rfl w.heap.size 3 i0 (.int .i64 0) 1 8 Tryd.underlying90 hi hz0 hz1 hz2 rfl (by decide) _ _ _ rfl (hown.alloc _) ⟨wr.heap.size, 0, none⟩ 1 1 [.int .i64 (s.size : Int)] rfl rfl ?d1 ?d2 ?d3 ?d4 ?d5 ?_) | fail)
      case d1 =>
        intro j u hj
        match j, hj with
        | 0, hj => simp at hj; subst hj; simp [Addr.add]
      case d2 => intro u hu; simp at hu; subst hu; rfl
      case d3 => unfold maxLen; omega
      case d4 => omega
      case d5 => simp; omega
      intro v' w1 hown1 hgrow _
      rw [HS.out] at hown1
      have hb1 : Below w.heap.size w w1 := (hb.alloc hbs _).grown hgrow (by simp; omega) (fun j hj => (hown.lt j hj).1)
      clear hgrow hown hb
      obtain ⟨g, cap, rfl, hg, hgl, hgc⟩ : ∃ g cap, v' = .slice (some ⟨g, 0, none⟩) (c + 1) cap ∧ w.heap.size ≤ g ∧ g < w1.heap.size ∧ c + 1 ≤ cap := by
        rcases hown1.2 with ⟨_, h0⟩ | ⟨g, cap, cur, h1, h2, h3, h4, _⟩
        · omega
        · exact ⟨g, cap, h1, h2, (Array.getElem?_eq_some_iff.1 h3).1, h4⟩
      have hcell : ∀ j, j ≤ c → w1.cell? ⟨g, j, none⟩ = some (.int .i64 (Run.adv s j 0 : Int)) := fun j hj => by
        rw [hown1.cellAt j (by omega)]
        exact HAT.out j (by omega)
      replace hcell := Lib.hid hcell
      clear hown1 HAT HS
      go_wp2
      go_ret
      obtain rfl := hc.out
      exact ⟨g, cap, rfl, ⟨hg, hgl, hgc, hcell.out⟩, hb1⟩
end Go.Proofs.YtdbjmjeiaajdiaaDoor
