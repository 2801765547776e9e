import Derived.Test.YtpiiemneelkpkaaGreatDoorR5A
import Derived.Laws.OwnMore
import Derived.OwnWalk
import Derived.Test.YtpiiemneelkpkaaGreatDoorGrw
import Derived.Lib.AppendStr
import Derived.Deep.RegionLaw
set_option maxRecDepth 100000
namespace Go.Proofs.YtpiiemneelkpkaaGreatDoor
open Go.RowKit
set_option linter.unusedVariables false
theorem infoInt : (Tryz.prog.info? 3).map (fun i => (i.zero, i.size, i.bytes)) = some (some (.int .i64 0), 1, 8) := by kernel_rfl
def stL (s : ByteArray) : Nat → List Value
 | 0 => []
 | k + 1 => stL s k ++ [.int .i64 (Run.adv s k 0 : Int)]
theorem stL_length (s : ByteArray) : ∀ k, (stL s k).length = k
 | 0 => rfl
 | k + 1 => by rw [stL, List.length_append, stL_length s k]; rfl
theorem stL_at (s : ByteArray) : ∀ k j, j < k → (stL s k)[j]? = some (.int .i64 (Run.adv s j 0 : Int))
 | 0, j, h => absurd h (Nat.not_lt_zero j)
 | k + 1, j, h => by
  rw [stL]
  by_cases hj : j < k
  ·rw [List.getElem?_append_left (by rw [stL_length]; exact hj)]
   exact stL_at s k j hj
  ·obtain rfl : j = k := by omega
   rw [List.getElem?_append_right (by rw [stL_length]; exact Nat.le_refl _), stL_length, Nat.sub_self]
   rfl
theorem own_below5 {W W' : World} {B e size n : Nat} {v : Value} {xs : List Value} (h : W.ownsRow B e size v n xs) (hb : Below W.heap.size W W') : W'.ownsRow B e size v n xs :=
 h.kept (row := none) ⟨hb.os, hb.tape, hb.output, hb.size, fun k hk _ => hb.block k hk⟩ (Classical.em _)
def StartsAt (s : ByteArray) (B g cap : Nat) (w : World) : Prop := B ≤ g ∧ g < w.heap.size ∧ Run.cnt s 0 + 1 ≤ cap ∧ ∀ j, j ≤ Run.cnt s 0 → w.cell? ⟨g, j, none⟩ = some (.int .i64 (Run.adv s j 0 : Int))
set_option maxHeartbeats 1000000 in
theorem starts_any (s : ByteArray) (w : World) (hs : s.size ≤ 200000) :
  Calls Tryz.prog 192 #[.string s] w fun e w' => ∃ g cap, e = .returned (.slice (some ⟨g, 0, none⟩) (Run.cnt s 0 + 1) cap) ∧ StartsAt s w.heap.size g cap w' ∧ Below w.heap.size w w' := by
 have HR := Lib.hid (fun w i hi => rune_any s i w (by omega) hi)
 have hcl := Run.cnt_le_size s
 obtain ⟨i0, hi, hz0, hz1, hz2⟩ := info_parts infoInt
 go_enter Tryz.func192, Tryz.ntmps192
 go_wp2
 go_loopw [3, 4] (fun v i wr => ∃ (pos k : Nat), pos ≤ s.size ∧ i = .int .i64 (pos : Int) ∧ k ≤ 200000 ∧ Hid (pos = Run.adv s k 0) ∧ Hid (k + Run.cnt s pos = Run.cnt s 0) ∧ wr.ownsRow w.heap.size 3 1 v k (stL s k) ∧ Below w.heap.size w wr) (fun _ i _ => s.size - (intOf i).toNat)
 case atStart => exact ⟨0, 0, by omega, rfl, by omega, Lib.hid rfl, Lib.hid (by omega), World.ownsRow_nil _ _ _ _, Below.refl _ _⟩
 case round =>
  obtain ⟨pos, k, hpos, rfl, hk2, HP, HK, hown, hb⟩ := hrel
  by_cases hp : pos < s.size
  ·have hwd := Run.wd_pos s pos
   have hwl := Run.wd_le s pos hp
   have hkc : k + 1 ≤ 200000 := by have := HK.out; rw [Run.cnt_step s pos hp] at this; omega
   have HK2 : Hid (k + 1 + Run.cnt s (pos + Run.wd s pos) = Run.cnt s 0) := by have := HK.out; rw [Run.cnt_step s pos hp] at this; exact Lib.hid (by omega)
   have HP2 : Hid (pos + Run.wd s pos = Run.adv s (k + 1) 0) := by
    have := HP.out
    have h2 := Run.adv_next s k 0 (by omega)
    rw [← this] at h2
    exact Lib.hid h2.symm
   have HS : Hid (stL s k ++ [.int .i64 (pos : Int)] = stL s (k + 1)) := Lib.hid (by rw [stL, ← HP.out])
   have HR2 := Lib.hid (fun w => HR.out w pos hp)
   generalize Run.wd s pos = d at *
   generalize (Utf8.decode s pos).1 = r at *
   have hbs := hb.size
   go_wp2_with (first | (at_builtin; refine wpList_append_own _ rfl _ _ 114 rfl w.heap.size 3 i0 (.int .i64 0) 1 8 Tryz.underlying114 hi hz0 hz1 hz2 rfl (by decide) _ _ _ rfl (hown.alloc _) ⟨wr.heap.size, 0, none⟩ 1 1 [.int .i64 (pos : Int)] rfl rfl ?c1 ?c2 ?c3 ?c4 ?c5 ?_) | fail)
   case c1 =>
    intro j u hj
    match j, hj with
    | 0, hj => simp at hj; subst hj; simp [Addr.add]
   case c2 => intro u hu; simp at hu; subst hu; rfl
   case c3 => unfold maxLen; omega
   case c4 => omega
   case c5 => simp; omega
   intro v' w1 hown1 hgrow _
   rw [HS.out] at hown1
   have hb1 : Below w.heap.size w w1 := (hb.alloc hbs _).grown hgrow (by simp; omega) (fun j hj => (hown.lt j hj).1)
   clear hgrow hown hb
   go_wp2_with (fail)
   refine (HR2.out _).mono ?_
   rintro e w2 ⟨rfl, hb2⟩
   have hown2 := own_below5 hown1 hb2
   replace hb1 := hb1.trans (hb2.mono hb1.size)
   clear hb2 hown1
   go_wp2
   go_roundw
   case rel => exact ⟨pos + d, k + 1, hwl, by go_num, hkc, HP2, HK2, hown2, hb1⟩
   case measure => simp [intOf]; omega
  ·have hk : k = Run.cnt s 0 := by have := HK.out; rw [Run.cnt_end s pos hp] at this; omega
   obtain rfl : pos = s.size := by omega
   subst hk
   have HS : Hid (stL s (Run.cnt s 0) ++ [.int .i64 (s.size : Int)] = stL s (Run.cnt s 0 + 1)) := Lib.hid (by rw [stL, Run.adv_all])
   have HAT := Lib.hid (stL_at s (Run.cnt s 0 + 1))
   clear HP HK HR
   generalize hc : Run.cnt s 0 = c at *
   replace hc := Lib.hid hc
   have hbs := hb.size
   go_wp2_with (first | (at_builtin; refine wpList_append_own _ rfl _ _ 114 rfl w.heap.size 3 i0 (.int .i64 0) 1 8 Tryz.underlying114 hi hz0 hz1 hz2 rfl (by decide) _ _ _ rfl (hown.alloc _) ⟨wr.heap.size, 0, none⟩ 1 1 [.int .i64 (s.size : Int)] rfl rfl ?d1 ?d2 ?d3 ?d4 ?d5 ?_) | fail)
   case d1 =>
    intro j u hj
    match j, hj with
    | 0, hj => simp at hj; subst hj; simp [Addr.add]
   case d2 => intro u hu; simp at hu; subst hu; rfl
   case d3 => unfold maxLen; omega
   case d4 => omega
   case d5 => simp; omega
   intro v' w1 hown1 hgrow _
   rw [HS.out] at hown1
   have hb1 : Below w.heap.size w w1 := (hb.alloc hbs _).grown hgrow (by simp; omega) (fun j hj => (hown.lt j hj).1)
   clear hgrow hown hb
   obtain ⟨g, cap, rfl, hg, hgl, hgc⟩ : ∃ g cap, v' = .slice (some ⟨g, 0, none⟩) (c + 1) cap ∧ w.heap.size ≤ g ∧ g < w1.heap.size ∧ c + 1 ≤ cap := by
    rcases hown1.2 with ⟨_, h0⟩ | ⟨g, cap, cur, h1, h2, h3, h4, _⟩
    ·omega
    ·exact ⟨g, cap, h1, h2, (Array.getElem?_eq_some_iff.1 h3).1, h4⟩
   have hcell : ∀ j, j ≤ c → w1.cell? ⟨g, j, none⟩ = some (.int .i64 (Run.adv s j 0 : Int)) := fun j hj => by
    rw [hown1.cellAt j (by omega)]
    exact HAT.out j (by omega)
   replace hcell := Lib.hid hcell
   clear hown1 HAT HS
   go_wp2
   go_ret
   obtain rfl := hc.out
   exact ⟨g, cap, rfl, ⟨hg, hgl, hgc, hcell.out⟩, hb1⟩
end Go.Proofs.YtpiiemneelkpkaaGreatDoor
namespace Go.Proofs.YtpiiemneelkpkaaGreatDoor
open Go.RowKit
set_option linter.unusedVariables false
theorem rlen5_any (s : ByteArray) (w : World) (hs : s.size ≤ 200000) :
  Ret 155 #[.string s] w (.int .i64 (Run.cnt s 0 : Int)) := by
 have hcl := Run.cnt_le_size s
 have HS := Lib.hid (fun w => starts_any s w hs)
 generalize Run.cnt s 0 = c at *
 go_enter Tryz.func155, Tryz.ntmps155
 go_wp2_with (fail)
 refine (HS.out _).mono ?_
 rintro e w1 ⟨g, cap, rfl, hst, hb⟩
 clear hst
 go_wp2
 go_ret
 exact ⟨rfl, hb⟩
theorem rleft5_neg (s : ByteArray) (n : Int) (w : World) (h : n < 0) :
  Ret 156 #[.string s, .int .i64 n] w (.tuple #[.string ⟨#[]⟩, .int .i64 1]) := by
 have t1 : decide (n < 0) = true := decide_eq_true h
 go_enter Tryz.func156, Tryz.ntmps156
 go_wp2
 go_ret2
 exact ⟨rfl, Below.refl _ _⟩
theorem rleft5_any (s : ByteArray) (n q : Nat) (w : World) (hs : s.size ≤ 200000) (hn : n ≤ 9223372036854775807) (hq : Run.adv s n 0 = q) :
  Ret 156 #[.string s, .int .i64 (n : Int)] w (.tuple #[.string (s.extract 0 q), .int .i64 0]) := by
 have hql : q ≤ s.size := by rw [← hq]; exact Run.adv_le s n 0 (by omega)
 have hcl := Run.cnt_le_size s
 have HS := Lib.hid (fun w => starts_any s w hs)
 have hover := fun h : Run.cnt s 0 ≤ n => Run.adv_over s n h
 unfold StartsAt at HS
 have hall := Run.adv_all s
 by_cases h : n ≤ Run.cnt s 0
 ·have HC : Hid (∀ (g : Nat) (w1 : World), (∀ j, j ≤ Run.cnt s 0 → w1.cell? ⟨g, j, none⟩ = some (.int .i64 (Run.adv s j 0 : Int))) → w1.cell? ⟨g, n, none⟩ = some (.int .i64 (q : Int))) := Lib.hid (fun g w1 hc => by rw [hc n h, hq])
  clear hover hall hq
  generalize Run.cnt s 0 = c at *
  have hmin : min (n : Int) (c : Int) = (n : Int) := by omega
  go_enter Tryz.func156, Tryz.ntmps156
  go_wp2_with (fail)
  refine (HS.out _).mono ?_
  rintro e w1 ⟨g, cap, rfl, ⟨_, _, _, hst⟩, hb⟩
  have hc := HC.out g w1 hst
  clear hst
  go_wp2
  go_ret2
  exact ⟨rfl, hb⟩
 ·have hqs : q = s.size := by rw [← hq]; exact hover (by omega)
  subst hqs
  rw [show s.extract 0 s.size = s by simp]
  have HC : Hid (∀ (g : Nat) (w1 : World), (∀ j, j ≤ Run.cnt s 0 → w1.cell? ⟨g, j, none⟩ = some (.int .i64 (Run.adv s j 0 : Int))) → w1.cell? ⟨g, Run.cnt s 0, none⟩ = some (.int .i64 (s.size : Int))) := Lib.hid (fun g w1 hc => by rw [hc _ (Nat.le_refl _), hall])
  clear hover hall hq
  generalize Run.cnt s 0 = c at *
  have hmin : min (n : Int) (c : Int) = (c : Int) := by omega
  go_enter Tryz.func156, Tryz.ntmps156
  go_wp2_with (fail)
  refine (HS.out _).mono ?_
  rintro e w1 ⟨g, cap, rfl, ⟨_, _, _, hst⟩, hb⟩
  have hc := HC.out g w1 hst
  clear hst
  go_wp2
  go_ret2
  exact ⟨rfl, hb⟩
theorem rright5_neg (s : ByteArray) (n : Int) (w : World) (h : n < 0) :
  Ret 157 #[.string s, .int .i64 n] w (.tuple #[.string ⟨#[]⟩, .int .i64 1]) := by
 have t1 : decide (n < 0) = true := decide_eq_true h
 go_enter Tryz.func157, Tryz.ntmps157
 go_wp2
 go_ret2
 exact ⟨rfl, Below.refl _ _⟩
theorem rright5_any (s : ByteArray) (n p : Nat) (w : World) (hs : s.size ≤ 200000) (hn : n ≤ 9223372036854775807) (hp : Run.adv s (Run.cnt s 0 - n) 0 = p) :
  Ret 157 #[.string s, .int .i64 (n : Int)] w (.tuple #[.string (s.extract p s.size), .int .i64 0]) := by
 have hpl : p ≤ s.size := by rw [← hp]; exact Run.adv_le s _ 0 (by omega)
 have hcl := Run.cnt_le_size s
 have HS := Lib.hid (fun w => starts_any s w hs)
 unfold StartsAt at HS
 obtain ⟨m, hm⟩ : ∃ m, Run.cnt s 0 - n = m := ⟨_, rfl⟩
 have HC : Hid (∀ (g : Nat) (w1 : World), (∀ j, j ≤ Run.cnt s 0 → w1.cell? ⟨g, j, none⟩ = some (.int .i64 (Run.adv s j 0 : Int))) → w1.cell? ⟨g, m, none⟩ = some (.int .i64 (p : Int))) := Lib.hid (fun g w1 hc => by rw [hc m (by omega), ← hm, hp])
 clear hp
 generalize Run.cnt s 0 = c at *
 by_cases h : n ≤ c
 ·have e1 : (c : Int) - (n : Int) = (m : Int) := by omega
  have hmin : min (n : Int) (c : Int) = (n : Int) := by omega
  have hm1 : m ≤ c := by omega
  clear hm h
  go_enter Tryz.func157, Tryz.ntmps157
  go_wp2_with (fail)
  refine (HS.out _).mono ?_
  rintro e w1 ⟨g, cap, rfl, ⟨_, _, _, hst⟩, hb⟩
  have hc := HC.out g w1 hst
  clear hst
  go_wp2
  go_ret2
  exact ⟨rfl, hb⟩
 ·obtain rfl : m = 0 := by omega
  have hmin : min (n : Int) (c : Int) = (c : Int) := by omega
  clear hm h
  go_enter Tryz.func157, Tryz.ntmps157
  go_wp2_with (fail)
  refine (HS.out _).mono ?_
  rintro e w1 ⟨g, cap, rfl, ⟨_, _, _, hst⟩, hb⟩
  have hc := HC.out g w1 hst
  clear hst
  go_wp2
  go_ret2
  exact ⟨rfl, hb⟩
theorem left_neg (s : ByteArray) (n : Int) (h : n < 0) (w : World) : Ret 125 #[.string s, .int .i64 n] w (.tuple #[.string ⟨#[]⟩, .int .i64 1]) := by
 have t1 : decide (n < 0) = true := decide_eq_true h
 go_enter Tryz.func125, Tryz.ntmps125
 go_wp2
 go_ret2
 exact ⟨rfl, Below.refl _ _⟩
theorem right_neg (s : ByteArray) (n : Int) (h : n < 0) (w : World) : Ret 128 #[.string s, .int .i64 n] w (.tuple #[.string ⟨#[]⟩, .int .i64 1]) := by
 have t1 : decide (n < 0) = true := decide_eq_true h
 go_enter Tryz.func128, Tryz.ntmps128
 go_wp2
 go_ret2
 exact ⟨rfl, Below.refl _ _⟩
theorem mid_far (s : ByteArray) (f n : Int) (h : f < 1) (w : World) : Ret 130 #[.string s, .int .i64 f, .int .i64 n] w (.tuple #[.string ⟨#[]⟩, .int .i64 1]) := by
 have t1 : decide (f < 1) = true := decide_eq_true h
 go_enter Tryz.func130, Tryz.ntmps130
 go_wp2
 go_ret2
 exact ⟨rfl, Below.refl _ _⟩
theorem mid_neg (s : ByteArray) (f n : Int) (h : ¬ f < 1) (h2 : n < 0) (w : World) : Ret 130 #[.string s, .int .i64 f, .int .i64 n] w (.tuple #[.string ⟨#[]⟩, .int .i64 1]) := by
 have t1 : decide (f < 1) = false := decide_eq_false h
 have t2 : decide (n < 0) = true := decide_eq_true h2
 go_enter Tryz.func130, Tryz.ntmps130
 go_wp2
 go_ret2
 exact ⟨rfl, Below.refl _ _⟩
theorem rmid5_far (s : ByteArray) (f n : Int) (h : f < 1) (w : World) : Ret 158 #[.string s, .int .i64 f, .int .i64 n] w (.tuple #[.string ⟨#[]⟩, .int .i64 1]) := by
 have t1 : decide (f < 1) = true := decide_eq_true h
 go_enter Tryz.func158, Tryz.ntmps158
 go_wp2
 go_ret2
 exact ⟨rfl, Below.refl _ _⟩
theorem rmid5_neg (s : ByteArray) (f n : Int) (h : ¬ f < 1) (h2 : n < 0) (w : World) : Ret 158 #[.string s, .int .i64 f, .int .i64 n] w (.tuple #[.string ⟨#[]⟩, .int .i64 1]) := by
 have t1 : decide (f < 1) = false := decide_eq_false h
 have t2 : decide (n < 0) = true := decide_eq_true h2
 go_enter Tryz.func158, Tryz.ntmps158
 go_wp2
 go_ret2
 exact ⟨rfl, Below.refl _ _⟩
set_option maxHeartbeats 400000 in
theorem rmid5_out (s : ByteArray) (m n p r : Nat) (w : World) (hs : s.size ≤ 200000) (hm : m ≤ 9223372036854775806) (hn : n ≤ 9223372036854775807) (hp : Run.adv s m 0 = p) (hr : Run.adv s (m + n) 0 = r) (h : Run.cnt s 0 ≤ m) :
  Ret 158 #[.string s, .int .i64 ((m : Int) + 1), .int .i64 (n : Int)] w (.tuple #[.string ⟨#[]⟩, .int .i64 0]) := by
 have hpl : p ≤ s.size := by rw [← hp]; exact Run.adv_le s m 0 (by omega)
 have hrl : r ≤ s.size := by rw [← hr]; exact Run.adv_le s (m + n) 0 (by omega)
 have hpr : p ≤ r := by rw [← hp, ← hr, Run.adv_add]; exact Run.adv_ge s n _
 have hcl := Run.cnt_le_size s
 have HS := Lib.hid (fun w => starts_any s w hs)
 unfold StartsAt at HS
 clear hp hr
 generalize Run.cnt s 0 = c at *
 have e1 : (m : Int) + 1 - 1 = (m : Int) := by omega
 have h1 : (c : Int) < (m : Int) + 1 := by omega
 go_enter Tryz.func158, Tryz.ntmps158
 go_wp2_with (fail)
 refine (HS.out _).mono ?_
 rintro e w1 ⟨g, cap, rfl, ⟨_, _, _, hst⟩, hb⟩
 clear hst
 go_wp2
 go_ret2
 exact ⟨rfl, hb⟩
set_option maxHeartbeats 400000 in
theorem rmid5_in (s : ByteArray) (m n p r : Nat) (w : World) (hs : s.size ≤ 200000) (hm : m ≤ 9223372036854775806) (hn : n ≤ 9223372036854775807) (hp : Run.adv s m 0 = p) (hr : Run.adv s (m + n) 0 = r) (h : m < Run.cnt s 0) (h2 : m + n < Run.cnt s 0) :
  Ret 158 #[.string s, .int .i64 ((m : Int) + 1), .int .i64 (n : Int)] w (.tuple #[.string (s.extract p r), .int .i64 0]) := by
 have hpl : p ≤ s.size := by rw [← hp]; exact Run.adv_le s m 0 (by omega)
 have hrl : r ≤ s.size := by rw [← hr]; exact Run.adv_le s (m + n) 0 (by omega)
 have hpr : p ≤ r := by rw [← hp, ← hr, Run.adv_add]; exact Run.adv_ge s n _
 have hcl := Run.cnt_le_size s
 have HS := Lib.hid (fun w => starts_any s w hs)
 unfold StartsAt at HS
 obtain ⟨x, hx⟩ : ∃ x, m + n = x := ⟨_, rfl⟩
 have HC : Hid (∀ (g : Nat) (w1 : World), (∀ j, j ≤ Run.cnt s 0 → w1.cell? ⟨g, j, none⟩ = some (.int .i64 (Run.adv s j 0 : Int))) → w1.cell? ⟨g, m, none⟩ = some (.int .i64 (p : Int))) := Lib.hid (fun g w1 hc => by rw [hc m (by omega), hp])
 have HD : Hid (∀ (g : Nat) (w1 : World), (∀ j, j ≤ Run.cnt s 0 → w1.cell? ⟨g, j, none⟩ = some (.int .i64 (Run.adv s j 0 : Int))) → w1.cell? ⟨g, x, none⟩ = some (.int .i64 (r : Int))) := Lib.hid (fun g w1 hc => by rw [hc x (by omega), ← hx, hr])
 clear hp hr
 generalize Run.cnt s 0 = c at *
 have e1 : (m : Int) + 1 - 1 = (m : Int) := by omega
 have h1 : ¬ (c : Int) < (m : Int) + 1 := by omega
 have h3 : (n : Int) < (c : Int) - (m : Int) := by omega
 have e2 : (m : Int) + (n : Int) = (x : Int) := by omega
 have hxc : x < c := by omega
 clear hx h2
 go_enter Tryz.func158, Tryz.ntmps158
 go_wp2_with (fail)
 refine (HS.out _).mono ?_
 rintro e w1 ⟨g, cap, rfl, ⟨_, _, _, hst⟩, hb⟩
 have hc : w1.drew.cell? _ = _ := HC.out g w1 hst
 have hd : w1.drew.cell? _ = _ := HD.out g w1 hst
 clear hst
 go_wp2
 go_region
 go_wp2
 go_ret2
 exact ⟨rfl, hb.drew⟩
set_option maxHeartbeats 400000 in
theorem rmid5_all (s : ByteArray) (m n p r : Nat) (w : World) (hs : s.size ≤ 200000) (hm : m ≤ 9223372036854775806) (hn : n ≤ 9223372036854775807) (hp : Run.adv s m 0 = p) (hr : Run.adv s (m + n) 0 = r) (h : m < Run.cnt s 0) (h2 : Run.cnt s 0 ≤ m + n) :
  Ret 158 #[.string s, .int .i64 ((m : Int) + 1), .int .i64 (n : Int)] w (.tuple #[.string (s.extract p r), .int .i64 0]) := by
 have hpl : p ≤ s.size := by rw [← hp]; exact Run.adv_le s m 0 (by omega)
 have hrl : r ≤ s.size := by rw [← hr]; exact Run.adv_le s (m + n) 0 (by omega)
 have hpr : p ≤ r := by rw [← hp, ← hr, Run.adv_add]; exact Run.adv_ge s n _
 have hcl := Run.cnt_le_size s
 have HS := Lib.hid (fun w => starts_any s w hs)
 unfold StartsAt at HS
 have hall : r = s.size := by rw [← hr]; exact Run.adv_over s _ h2
 have hall2 := Run.adv_all s
 have HC : Hid (∀ (g : Nat) (w1 : World), (∀ j, j ≤ Run.cnt s 0 → w1.cell? ⟨g, j, none⟩ = some (.int .i64 (Run.adv s j 0 : Int))) → w1.cell? ⟨g, m, none⟩ = some (.int .i64 (p : Int))) := Lib.hid (fun g w1 hc => by rw [hc m (by omega), hp])
 have HD : Hid (∀ (g : Nat) (w1 : World), (∀ j, j ≤ Run.cnt s 0 → w1.cell? ⟨g, j, none⟩ = some (.int .i64 (Run.adv s j 0 : Int))) → w1.cell? ⟨g, Run.cnt s 0, none⟩ = some (.int .i64 (r : Int))) := Lib.hid (fun g w1 hc => by rw [hc _ (Nat.le_refl _), hall2, hall])
 clear hall hall2
 clear hp hr
 generalize Run.cnt s 0 = c at *
 have e1 : (m : Int) + 1 - 1 = (m : Int) := by omega
 have h1 : ¬ (c : Int) < (m : Int) + 1 := by omega
 have h3 : ¬ (n : Int) < (c : Int) - (m : Int) := by omega
 go_enter Tryz.func158, Tryz.ntmps158
 go_wp2_with (fail)
 refine (HS.out _).mono ?_
 rintro e w1 ⟨g, cap, rfl, ⟨_, _, _, hst⟩, hb⟩
 have hc : w1.drew.cell? _ = _ := HC.out g w1 hst
 have hd : w1.drew.cell? _ = _ := HD.out g w1 hst
 clear hst
 go_wp2
 go_region
 go_wp2
 go_ret2
 exact ⟨rfl, hb.drew⟩
theorem rmid5_any (s : ByteArray) (m n p r : Nat) (w : World) (hs : s.size ≤ 200000) (hm : m ≤ 9223372036854775806) (hn : n ≤ 9223372036854775807) (hp : Run.adv s m 0 = p) (hr : Run.adv s (m + n) 0 = r) :
  Ret 158 #[.string s, .int .i64 ((m : Int) + 1), .int .i64 (n : Int)] w (.tuple #[.string (s.extract p r), .int .i64 0]) := by
 by_cases h : m < Run.cnt s 0
 ·by_cases h2 : m + n < Run.cnt s 0
  ·exact rmid5_in s m n p r w hs hm hn hp hr h h2
  ·exact rmid5_all s m n p r w hs hm hn hp hr h (by omega)
 ·have h1 : p = s.size := by rw [← hp]; exact Run.adv_over s m (by omega)
  have h2 : r = s.size := by rw [← hr]; exact Run.adv_over s _ (by omega)
  have e : s.extract p r = ⟨#[]⟩ := by
   apply ByteArray.ext
   rw [h1, h2, ByteArray.data_extract]
   simp
  rw [e]
  exact rmid5_out s m n p r w hs hm hn hp hr (by omega)
end Go.Proofs.YtpiiemneelkpkaaGreatDoor
namespace Go.Proofs.YtpiiemneelkpkaaGreatDoor
open Go.RowKit
set_option linter.unusedVariables false
theorem upB_in (c : UInt8) (h1 : 97 ≤ c.toNat) (h2 : c.toNat ≤ 122) : (upB c).toNat = c.toNat - 32 := by
 have hc := UInt8.toNat_lt c
 unfold upB
 rw [decide_eq_true h1, decide_eq_true h2]
 show (UInt8.ofNat (c.toNat - 32)).toNat = _
 rw [UInt8.toNat_ofNat']
 omega
theorem upB_out (c : UInt8) (h : ¬ (97 ≤ c.toNat ∧ c.toNat ≤ 122)) : (upB c).toNat = c.toNat := by
 unfold upB
 by_cases h1 : 97 ≤ c.toNat
 ·rw [decide_eq_true h1, decide_eq_false (fun h2 => h ⟨h1, h2⟩)]; rfl
 ·rw [decide_eq_false h1]; rfl
set_option maxHeartbeats 1000000 in
theorem rup_any (s : ByteArray) (w : World) (hs : s.size ≤ 140737488351232) : Ret 159 #[.string s] w (.string (eachS upB s)) := by
 have hcv := fun (w : World) => run_bytes_of_string (P := Tryz.prog) w 9 133 5 s Tryz.underlying9 Tryz.underlying133 Tryz.underlying5
 have hsz : (s.data.toList.map upB).length = s.size := by rw [List.length_map, Lib.size_eq]
 have HS := Lib.hid hsz
 clear hsz
 go_enter Tryz.func159, Tryz.ntmps159
 go_wp2
 clear hcv
 have hc0 : ∀ j, j < s.size → ((w.alloc (Obj.cells (bytesRow s (grownCap w s.size 0 5)) 5 ((bytesRow s (grownCap w s.size 0 5)).size, (bytesRow s (grownCap w s.size 0 5)).size + 1))).drew).cell? ⟨w.heap.size, j, none⟩ = some (.int .u8 (bv upB s 0 j : Int)) := by
  intro j hj
  rw [cell_drew, World.cell?_alloc_mark, bytesRow_at s _ j hj]
  unfold bv
  rw [if_neg (by omega), List.getD_eq_getElem?_getD, List.getElem?_eq_getElem (by simpa using hj)]
  rfl
 have hf0 : ∀ j, j < s.size → ((w.alloc (Obj.cells (bytesRow s (grownCap w s.size 0 5)) 5 ((bytesRow s (grownCap w s.size 0 5)).size, (bytesRow s (grownCap w s.size 0 5)).size + 1))).drew).frozen? ⟨w.heap.size, j, none⟩ = false := by
  intro j hj
  rw [frozen_drew, World.frozen?_alloc_mark]
  have hsz : s.size ≤ (bytesRow s (grownCap w s.size 0 5)).size := by unfold bytesRow; simp
  rw [decide_eq_false (by omega)]; rfl
 have hb0 : Below w.heap.size w ((w.alloc (Obj.cells (bytesRow s (grownCap w s.size 0 5)) 5 ((bytesRow s (grownCap w s.size 0 5)).size, (bytesRow s (grownCap w s.size 0 5)).size + 1))).drew) := ((Below.refl _ w).alloc (Nat.le_refl _) _).drew
 generalize ((w.alloc (Obj.cells (bytesRow s (grownCap w s.size 0 5)) 5 ((bytesRow s (grownCap w s.size 0 5)).size, (bytesRow s (grownCap w s.size 0 5)).size + 1))).drew) = W0 at *
 generalize grownCap w s.size 0 5 = cap at *
 have HC0 := Lib.hid hc0
 have HF0 := Lib.hid hf0
 clear hc0 hf0
 go_loopw [4] (fun i wr => ∃ k : Nat, k ≤ s.size ∧ i = .int .i64 (k : Int) ∧ Hid (∀ j, j < s.size → wr.cell? ⟨w.heap.size, j, none⟩ = some (.int .u8 (bv upB s k j : Int))) ∧ Hid (∀ j, j < s.size → wr.frozen? ⟨w.heap.size, j, none⟩ = false) ∧ Below w.heap.size w wr) (fun i _ => s.size - (intOf i).toNat)
 case atStart => exact ⟨0, Nat.zero_le _, rfl, HC0, HF0, hb0⟩
 case round =>
  obtain ⟨k, hk, rfl, HC, HF, hb⟩ := hrel
  by_cases hlt : k < s.size
  ·have hc := HC.out k hlt
   have hf := HF.out k hlt
   rw [bv_here] at hc
   have HN0 := bv_next upB s k
   have hcl := UInt8.toNat_lt (s.data.toList.getD k 0)
   have HI := upB_in (s.data.toList.getD k 0)
   have HO := upB_out (s.data.toList.getD k 0)
   rw [← HN0] at HI HO
   clear HN0
   generalize (s.data.toList.getD k 0).toNat = c at *
   obtain ⟨v, hv⟩ : ∃ v, bv upB s (k + 1) k = v := ⟨_, rfl⟩
   rw [hv] at HI HO
   have HN := Lib.hid hv
   clear hv
   by_cases hin : 97 ≤ c ∧ c ≤ 122
   ·have t1 : decide ((97 : Int) ≤ (c : Int)) = true := decide_eq_true (by omega)
    have t2 : decide ((c : Int) ≤ 122) = true := decide_eq_true (by omega)
    have hv2 : (c : Int) - 32 = (v : Int) := by have := HI hin.1 hin.2; omega
    have hv3 : v ≤ 255 := by omega
    clear HI HO hin
    go_wp2
    go_roundw
    case rel =>
     refine ⟨k + 1, by omega, by go_num, Lib.hid fun j hj => ?_, Lib.hid fun j hj => ?_, hb.setCell (p := ⟨w.heap.size, k, none⟩) (Nat.le_refl _) _⟩
     ·by_cases e : j = k
      ·subst e
       rw [HN.out]
       exact World.cell?_setCell_same' _ _ _ (by rw [hc]; rfl)
      ·rw [bv_other _ _ _ _ e]
       exact (World.cell?_setCell_other _ _ _ _ (by intro e2; apply e; have := congrArg Addr.off e2; simpa using this.symm)).trans (HC.out j hj)
     ·rw [World.frozen?_setCell]; exact HF.out j hj
    case measure => simp [intOf]; omega
   ·have hv2 : v = c := HO hin
    subst hv2
    have t3 : decide ((97 : Int) ≤ (v : Int)) = false ∨ (decide ((97 : Int) ≤ (v : Int)) = true ∧ decide ((v : Int) ≤ 122) = false) := by
     by_cases h : 97 ≤ v
     ·exact .inr ⟨decide_eq_true (by omega), decide_eq_false (by omega)⟩
     ·exact .inl (decide_eq_false (by omega))
    clear HI HO hin
    rcases t3 with t1 | ⟨t1, t2⟩
    all_goals
    go_wp2
    go_roundw
    case rel =>
     refine ⟨k + 1, by omega, by go_num, Lib.hid fun j hj => ?_, HF, hb⟩
     by_cases e : j = k
     ·subst e
      rw [HN.out]
      exact hc
     ·rw [bv_other _ _ _ _ e]
      exact HC.out j hj
    case measure => simp [intOf]; omega
  ·obtain rfl : k = s.size := by omega
   have hcv := run_convert_bytes_back (P := Tryz.prog) wr 133 9 5 ⟨w.heap.size, 0, none⟩ cap (s.data.toList.map upB) Tryz.underlying133 Tryz.underlying5 Tryz.underlying9 (fun j hj => by
    have h2 : j < s.size := by rw [HS.out] at hj; exact hj
    have := HC.out j h2
    rw [bv_end _ _ j hj] at this
    rw [addr_add0]; exact this)
   rw [HS.out] at hcv
   go_wp2
   go_ret
   exact ⟨rfl, hb⟩
theorem lowB_in (c : UInt8) (h1 : 65 ≤ c.toNat) (h2 : c.toNat ≤ 90) : (lowB c).toNat = c.toNat + 32 := by
 have hc := UInt8.toNat_lt c
 unfold lowB
 rw [decide_eq_true h1, decide_eq_true h2]
 show (UInt8.ofNat (c.toNat + 32)).toNat = _
 rw [UInt8.toNat_ofNat']
 omega
theorem lowB_out (c : UInt8) (h : ¬ (65 ≤ c.toNat ∧ c.toNat ≤ 90)) : (lowB c).toNat = c.toNat := by
 unfold lowB
 by_cases h1 : 65 ≤ c.toNat
 ·rw [decide_eq_true h1, decide_eq_false (fun h2 => h ⟨h1, h2⟩)]; rfl
 ·rw [decide_eq_false h1]; rfl
set_option maxHeartbeats 1000000 in
theorem rlow_any (s : ByteArray) (w : World) (hs : s.size ≤ 140737488351232) : Ret 160 #[.string s] w (.string (eachS lowB s)) := by
 have hcv := fun (w : World) => run_bytes_of_string (P := Tryz.prog) w 9 133 5 s Tryz.underlying9 Tryz.underlying133 Tryz.underlying5
 have hsz : (s.data.toList.map lowB).length = s.size := by rw [List.length_map, Lib.size_eq]
 have HS := Lib.hid hsz
 clear hsz
 go_enter Tryz.func160, Tryz.ntmps160
 go_wp2
 clear hcv
 have hc0 : ∀ j, j < s.size → ((w.alloc (Obj.cells (bytesRow s (grownCap w s.size 0 5)) 5 ((bytesRow s (grownCap w s.size 0 5)).size, (bytesRow s (grownCap w s.size 0 5)).size + 1))).drew).cell? ⟨w.heap.size, j, none⟩ = some (.int .u8 (bv lowB s 0 j : Int)) := by
  intro j hj
  rw [cell_drew, World.cell?_alloc_mark, bytesRow_at s _ j hj]
  unfold bv
  rw [if_neg (by omega), List.getD_eq_getElem?_getD, List.getElem?_eq_getElem (by simpa using hj)]
  rfl
 have hf0 : ∀ j, j < s.size → ((w.alloc (Obj.cells (bytesRow s (grownCap w s.size 0 5)) 5 ((bytesRow s (grownCap w s.size 0 5)).size, (bytesRow s (grownCap w s.size 0 5)).size + 1))).drew).frozen? ⟨w.heap.size, j, none⟩ = false := by
  intro j hj
  rw [frozen_drew, World.frozen?_alloc_mark]
  have hsz : s.size ≤ (bytesRow s (grownCap w s.size 0 5)).size := by unfold bytesRow; simp
  rw [decide_eq_false (by omega)]; rfl
 have hb0 : Below w.heap.size w ((w.alloc (Obj.cells (bytesRow s (grownCap w s.size 0 5)) 5 ((bytesRow s (grownCap w s.size 0 5)).size, (bytesRow s (grownCap w s.size 0 5)).size + 1))).drew) := ((Below.refl _ w).alloc (Nat.le_refl _) _).drew
 generalize ((w.alloc (Obj.cells (bytesRow s (grownCap w s.size 0 5)) 5 ((bytesRow s (grownCap w s.size 0 5)).size, (bytesRow s (grownCap w s.size 0 5)).size + 1))).drew) = W0 at *
 generalize grownCap w s.size 0 5 = cap at *
 have HC0 := Lib.hid hc0
 have HF0 := Lib.hid hf0
 clear hc0 hf0
 go_loopw [4] (fun i wr => ∃ k : Nat, k ≤ s.size ∧ i = .int .i64 (k : Int) ∧ Hid (∀ j, j < s.size → wr.cell? ⟨w.heap.size, j, none⟩ = some (.int .u8 (bv lowB s k j : Int))) ∧ Hid (∀ j, j < s.size → wr.frozen? ⟨w.heap.size, j, none⟩ = false) ∧ Below w.heap.size w wr) (fun i _ => s.size - (intOf i).toNat)
 case atStart => exact ⟨0, Nat.zero_le _, rfl, HC0, HF0, hb0⟩
 case round =>
  obtain ⟨k, hk, rfl, HC, HF, hb⟩ := hrel
  by_cases hlt : k < s.size
  ·have hc := HC.out k hlt
   have hf := HF.out k hlt
   rw [bv_here] at hc
   have HN0 := bv_next lowB s k
   have hcl := UInt8.toNat_lt (s.data.toList.getD k 0)
   have HI := lowB_in (s.data.toList.getD k 0)
   have HO := lowB_out (s.data.toList.getD k 0)
   rw [← HN0] at HI HO
   clear HN0
   generalize (s.data.toList.getD k 0).toNat = c at *
   obtain ⟨v, hv⟩ : ∃ v, bv lowB s (k + 1) k = v := ⟨_, rfl⟩
   rw [hv] at HI HO
   have HN := Lib.hid hv
   clear hv
   by_cases hin : 65 ≤ c ∧ c ≤ 90
   ·have t1 : decide ((65 : Int) ≤ (c : Int)) = true := decide_eq_true (by omega)
    have t2 : decide ((c : Int) ≤ 90) = true := decide_eq_true (by omega)
    have hv2 : (c : Int) + 32 = (v : Int) := by have := HI hin.1 hin.2; omega
    have hv3 : v ≤ 255 := by omega
    clear HI HO hin
    go_wp2
    go_roundw
    case rel =>
     refine ⟨k + 1, by omega, by go_num, Lib.hid fun j hj => ?_, Lib.hid fun j hj => ?_, hb.setCell (p := ⟨w.heap.size, k, none⟩) (Nat.le_refl _) _⟩
     ·by_cases e : j = k
      ·subst e
       rw [HN.out]
       exact World.cell?_setCell_same' _ _ _ (by rw [hc]; rfl)
      ·rw [bv_other _ _ _ _ e]
       exact (World.cell?_setCell_other _ _ _ _ (by intro e2; apply e; have := congrArg Addr.off e2; simpa using this.symm)).trans (HC.out j hj)
     ·rw [World.frozen?_setCell]; exact HF.out j hj
    case measure => simp [intOf]; omega
   ·have hv2 : v = c := HO hin
    subst hv2
    have t3 : decide ((65 : Int) ≤ (v : Int)) = false ∨ (decide ((65 : Int) ≤ (v : Int)) = true ∧ decide ((v : Int) ≤ 90) = false) := by
     by_cases h : 65 ≤ v
     ·exact .inr ⟨decide_eq_true (by omega), decide_eq_false (by omega)⟩
     ·exact .inl (decide_eq_false (by omega))
    clear HI HO hin
    rcases t3 with t1 | ⟨t1, t2⟩
    all_goals
    go_wp2
    go_roundw
    case rel =>
     refine ⟨k + 1, by omega, by go_num, Lib.hid fun j hj => ?_, HF, hb⟩
     by_cases e : j = k
     ·subst e
      rw [HN.out]
      exact hc
     ·rw [bv_other _ _ _ _ e]
      exact HC.out j hj
    case measure => simp [intOf]; omega
  ·obtain rfl : k = s.size := by omega
   have hcv := run_convert_bytes_back (P := Tryz.prog) wr 133 9 5 ⟨w.heap.size, 0, none⟩ cap (s.data.toList.map lowB) Tryz.underlying133 Tryz.underlying5 Tryz.underlying9 (fun j hj => by
    have h2 : j < s.size := by rw [HS.out] at hj; exact hj
    have := HC.out j h2
    rw [bv_end _ _ j hj] at this
    rw [addr_add0]; exact this)
   rw [HS.out] at hcv
   go_wp2
   go_ret
   exact ⟨rfl, hb⟩
end Go.Proofs.YtpiiemneelkpkaaGreatDoor
namespace Go.Proofs.YtpiiemneelkpkaaGreatDoor
open Go.RowKit
set_option linter.unusedVariables false
theorem own_shape {w : World} {B : Nat} {e : TypeId} {v : Value} {n : Nat} {xs : List Value} (h : w.ownsRow B e 1 v n xs) :
  ∃ ao cap, v = .slice ao n cap ∧ n ≤ cap ∧ ((ao = none ∧ n = 0 ∧ cap = 0) ∨ ∃ g, ao = some ⟨g, 0, none⟩ ∧ B ≤ g ∧ ∀ j, j < n → w.cell? ⟨g, j, none⟩ = xs[j]?) := by
 rcases h.2 with ⟨rfl, rfl⟩ | ⟨g, cap, cur, rfl, h2, h3, h4, _⟩
 ·exact ⟨none, 0, rfl, Nat.le_refl _, .inl ⟨rfl, rfl, rfl⟩⟩
 ·exact ⟨_, cap, rfl, h4, .inr ⟨g, rfl, h2, fun j hj => h.cellAt j (by omega)⟩⟩
theorem byteCells_at (l : List UInt8) (j : Nat) (h : j < l.length) : (Lib.byteCells l)[j]? = some (.int .u8 (l[j].toNat : Int)) := by
 unfold Lib.byteCells
 rw [List.getElem?_map, List.getElem?_eq_getElem h]
 rfl
theorem conv_own {w : World} {B : Nat} {ao : Option Addr} {n cap : Nat} {l : List UInt8} (hl : l.length = n) (h : (ao = none ∧ n = 0 ∧ cap = 0) ∨ ∃ g, ao = some ⟨g, 0, none⟩ ∧ B ≤ g ∧ ∀ j, j < n → w.cell? ⟨g, j, none⟩ = (Lib.byteCells l)[j]?) :
  (convert 133 9 (.slice ao n cap)).run Tryz.prog w = .ok (.string ⟨l.toArray⟩) w := by
 rcases h with ⟨rfl, rfl, rfl⟩ | ⟨g, rfl, _, hc⟩
 ·have : l = [] := List.eq_nil_of_length_eq_zero hl
  subst this
  exact run_convert_bytes_nil (P := Tryz.prog) (w := w) 133 5 Tryz.underlying133 Tryz.underlying5 0 0 9 Tryz.underlying9
 ·subst hl
  refine run_convert_bytes_back (P := Tryz.prog) w 133 9 5 ⟨g, 0, none⟩ cap l Tryz.underlying133 Tryz.underlying5 Tryz.underlying9 (fun j hj => ?_)
  rw [addr_add0, hc j hj]
  exact byteCells_at l j hj
theorem u8_not32 (c : UInt8) (h : ¬ c = 32) : ((c.toNat : Int) == 32) = false := by
 rw [beq_eq_false_iff_ne]
 intro e
 exact h (blank_of c e)
set_option maxHeartbeats 2000000 in
theorem rtrim_any (s : ByteArray) (w : World) (hs : s.size ≤ 200000) : Ret 161 #[.string s] w (.string (trimS s)) := by
 have HE : Hid ((⟨(Tr.strike (Tr.sq true s.data.toList)).toArray⟩ : ByteArray) = trimS s) := Lib.hid (by rw [Tr.strike_sq]; rfl)
 have HUL : Hid (s.data.toList.length = s.size) := Lib.hid (Lib.size_eq s).symm
 obtain ⟨i0, hi, hz0, hz1, hz2⟩ := info_parts info5
 go_enter Tryz.func161, Tryz.ntmps161
 go_wp2
 go_loopw [3, 4] (fun v i wr => ∃ (k n : Nat) (acc : List UInt8), k ≤ s.size ∧ i = .int .i64 (k : Int) ∧ n ≤ k ∧ Hid (acc = Tr.sq true (s.data.toList.take k)) ∧ Hid (acc.length = n) ∧ wr.ownsRow w.heap.size 5 1 v n (Lib.byteCells acc) ∧ Below w.heap.size w wr) (fun _ i _ => s.size - (intOf i).toNat)
 case atStart => exact ⟨0, 0, [], Nat.zero_le _, rfl, Nat.le_refl _, Lib.hid rfl, Lib.hid rfl, World.ownsRow_nil _ _ _ _, Below.refl _ _⟩
 case round =>
  obtain ⟨k, n, acc, hk, rfl, hnk, HA, HL, hown, hb⟩ := hrel
  obtain ⟨ao, cap, rfl, hnc, hsh⟩ := own_shape hown
  by_cases hlt : k < s.size
  ·have HN : Hid (Tr.sq true (s.data.toList.take (k + 1)) = acc ++ cond (s[k] == 32 && Tr.lastQ true acc) [] [s[k]]) := Lib.hid (by
    rw [List.take_succ_eq_append_getElem (by rw [HUL.out]; exact hlt), Tr.sq_snocQ, ← HA.out]
    rfl)
   by_cases hc : s[k] = 32
   ·have t1 : ((s[k].toNat : Int) == 32) = true := by rw [hc]; rfl
    by_cases hn : n = 0
    ·subst hn
     have ha : acc = [] := List.eq_nil_of_length_eq_zero HL.out
     subst ha
     have HC := Lib.hid hc
     clear hc hsh
     have hown' := hown
     go_wp2
     go_roundw
     case rel => exact ⟨k + 1, 0, [], by omega, by go_num, by omega, Lib.hid (by rw [HN.out]; rw [HC.out]; rfl), HL, hown', hb⟩
     case measure => simp [intOf]; omega
    ·obtain ⟨m, rfl⟩ : ∃ m, n = m + 1 := ⟨n - 1, by omega⟩
     obtain ⟨g, rfl, hg, hcells⟩ := hsh.resolve_left (by omega)
     have hml : m < acc.length := by rw [HL.out]; omega
     have hcell := hcells m (by omega)
     rw [byteCells_at _ m hml] at hcell
     obtain ⟨d, hd0⟩ : ∃ d, acc[m] = d := ⟨_, rfl⟩
     rw [hd0] at hcell
     have HLQ : Hid (Tr.lastQ true acc = (d == 32)) := Lib.hid (by unfold Tr.lastQ; rw [List.getLast?_eq_getElem?, HL.out, Nat.add_sub_cancel, List.getElem?_eq_getElem hml, hd0])
     clear hcells hd0 hml hsh hn
     by_cases hd : d = 32
     ·have t2 : ((d.toNat : Int) == 32) = true := by rw [hd]; rfl
      have HC := Lib.hid hc
      have HD := Lib.hid hd
      clear hc hd
      have hown' := hown
      go_wp2
      go_roundw
      case rel => exact ⟨k + 1, m + 1, acc, by omega, by go_num, by omega, Lib.hid (by rw [HN.out]; rw [HC.out, HLQ.out, HD.out]; simp), HL, hown', hb⟩
      case measure => simp [intOf]; omega
     ·have t2 : ((d.toNat : Int) == 32) = false := u8_not32 d hd
      have HC := Lib.hid hc
      have HD := Lib.hid hd
      clear hc hd
      obtain ⟨n, hn2⟩ : ∃ n, n = m + 1 := ⟨_, rfl⟩
      have hbs := hb.size
      have hL : m + 1 ≤ 200000 := by omega
      have HY : Hid (Lib.byteCells acc ++ [.int .u8 (s[k].toNat : Int)] = Lib.byteCells (acc ++ [s[k]])) := Lib.hid (by simp [Lib.byteCells])
      go_wp2_with (first | (at_builtin; refine wpList_append_own _ rfl _ _ 133 rfl w.heap.size 5 i0 (.int .u8 0) 1 1 Tryz.underlying133 hi hz0 hz1 hz2 rfl (by decide) _ _ _ rfl (hown.alloc _) ⟨wr.heap.size, 0, none⟩ 1 1 [.int .u8 (s[k].toNat : Int)] rfl rfl ?c1a ?c2a ?c3a ?c4a ?c5a ?_) | fail)
      case c1a =>
       intro j u hj
       match j, hj with
       | 0, hj => simp at hj; subst hj; simp [Addr.add]
      case c2a => intro u hu; simp at hu; subst hu; rfl
      case c3a => unfold maxLen; omega
      case c4a => omega
      case c5a => simp; omega
      intro v' w1 hown1 hgrow _
      rw [HY.out] at hown1
      have hb1 : Below w.heap.size w w1 := (hb.alloc hbs _).grown hgrow (by simp; omega) (fun j hj => (hown.lt j hj).1)
      clear hgrow hown hb
      go_wp2
      go_roundw
      case rel => exact ⟨k + 1, m + 1 + 1, acc ++ [s[k]], by omega, by go_num, by omega, Lib.hid (by rw [HN.out]; rw [HLQ.out, show (d == 32) = false by simpa using HD.out, Bool.and_false]; rfl), Lib.hid (by rw [List.length_append, HL.out]; rfl), hown1, hb1⟩
      case measure => simp [intOf]; omega
   ·have t1 : ((s[k].toNat : Int) == 32) = false := u8_not32 _ hc
    have HC := Lib.hid hc
    clear hc hsh
    have hbs := hb.size
    have hL : n ≤ 200000 := by omega
    have HY : Hid (Lib.byteCells acc ++ [.int .u8 (s[k].toNat : Int)] = Lib.byteCells (acc ++ [s[k]])) := Lib.hid (by simp [Lib.byteCells])
    go_wp2_with (first | (at_builtin; refine wpList_append_own _ rfl _ _ 133 rfl w.heap.size 5 i0 (.int .u8 0) 1 1 Tryz.underlying133 hi hz0 hz1 hz2 rfl (by decide) _ _ _ rfl (hown.alloc _) ⟨wr.heap.size, 0, none⟩ 1 1 [.int .u8 (s[k].toNat : Int)] rfl rfl ?c1b ?c2b ?c3b ?c4b ?c5b ?_) | fail)
    case c1b =>
     intro j u hj
     match j, hj with
     | 0, hj => simp at hj; subst hj; simp [Addr.add]
    case c2b => intro u hu; simp at hu; subst hu; rfl
    case c3b => unfold maxLen; omega
    case c4b => omega
    case c5b => simp; omega
    intro v' w1 hown1 hgrow _
    rw [HY.out] at hown1
    have hb1 : Below w.heap.size w w1 := (hb.alloc hbs _).grown hgrow (by simp; omega) (fun j hj => (hown.lt j hj).1)
    clear hgrow hown hb
    go_wp2
    go_roundw
    case rel => exact ⟨k + 1, n + 1, acc ++ [s[k]], by omega, by go_num, by omega, Lib.hid (by rw [HN.out]; rw [show (s[k] == 32) = false by simpa using HC.out, Bool.false_and]; rfl), Lib.hid (by rw [List.length_append, HL.out]; rfl), hown1, hb1⟩
    case measure => simp [intOf]; omega
  ·obtain rfl : k = s.size := by omega
   have HF : Hid (acc = Tr.sq true s.data.toList) := Lib.hid (by rw [HA.out, ← HUL.out, List.take_length])
   clear HA
   by_cases hn : n = 0
   ·have hcv := conv_own HL.out hsh
    subst hn
    have ha : acc = [] := List.eq_nil_of_length_eq_zero HL.out
    subst ha
    clear hsh hown
    go_wp2
    go_ret
    refine ⟨?_, hb⟩
    rw [← HE.out, ← HF.out]
    rfl
   ·obtain ⟨m, rfl⟩ : ∃ m, n = m + 1 := ⟨n - 1, by omega⟩
    obtain ⟨g, rfl, hg, hcells⟩ := hsh.resolve_left (by omega)
    have hml : m < acc.length := by rw [HL.out]; omega
    have hcell := hcells m (by omega)
    rw [byteCells_at _ m hml] at hcell
    obtain ⟨d, hd0⟩ : ∃ d, acc[m] = d := ⟨_, rfl⟩
    rw [hd0] at hcell
    have HG : Hid (acc.getLast? = some d) := Lib.hid (by rw [List.getLast?_eq_getElem?, HL.out, Nat.add_sub_cancel, List.getElem?_eq_getElem hml, hd0])
    clear hd0
    by_cases hd : d = 32
    ·have t2 : ((d.toNat : Int) == 32) = true := by rw [hd]; rfl
     have hdl : acc.dropLast.length = m := by rw [List.length_dropLast, HL.out]; rfl
     have hcv := conv_own (w := wr) (B := w.heap.size) (ao := some ⟨g, 0, none⟩) (n := m) (cap := cap) (l := acc.dropLast) hdl (.inr ⟨g, rfl, hg, fun j hj => by
      rw [hcells j (by omega), byteCells_at _ j (by omega), byteCells_at _ j (by omega), List.getElem_dropLast]⟩)
     have hst : Tr.strike acc = acc.dropLast := if_pos (by rw [HG.out, hd])
     have HST := Lib.hid hst
     generalize acc.dropLast = y at *
     clear hd hown hcells hml hdl hst hsh
     have hmc : m ≤ cap := by omega
     go_wp2
     go_ret
     refine ⟨?_, hb⟩
     rw [← HE.out, ← HF.out, HST.out]
     rfl
    ·have t2 : ((d.toNat : Int) == 32) = false := u8_not32 d hd
     have hcv := conv_own HL.out hsh
     have HD := Lib.hid hd
     have HST : Hid (Tr.strike acc = acc) := Lib.hid (Tr.strike_none acc (by rw [HG.out]; simpa using hd))
     clear hd hown hcells hml hsh
     go_wp2
     go_ret
     refine ⟨?_, hb⟩
     rw [← HE.out, ← HF.out, HST.out]
     rfl
end Go.Proofs.YtpiiemneelkpkaaGreatDoor
namespace Go.Proofs.YtpiiemneelkpkaaGreatDoor
open Go.RowKit
set_option linter.unusedVariables false
theorem has_iff5 (wh X : ByteArray) : (wh.size ≤ X.size ∧ X.extract 0 wh.size = wh) ↔ Lib.hasPrefix X.data.toList wh.data.toList = true := by
 unfold Lib.hasPrefix
 rw [List.isPrefixOf_iff_prefix, List.prefix_iff_eq_take]
 have hw : wh.data.toList.length = wh.size := (Lib.size_eq wh).symm
 have hX : X.data.toList.length = X.size := (Lib.size_eq X).symm
 have he : (X.extract 0 wh.size).data.toList = X.data.toList.take wh.size := by
  rw [ByteArray.data_extract, Array.toList_extract, List.extract_eq_take_drop]; simp
 constructor
 ·rintro ⟨_, h⟩
  rw [hw, ← he, h]
 ·intro h
  refine ⟨?_, ByteArray.ext (Array.ext' ?_)⟩
  ·have := congrArg List.length h
   rw [List.length_take, hw, hX] at this
   omega
  ·rw [he, ← hw]; exact h.symm
theorem begins_no (s what : ByteArray) (w : World) (t1 : decide (what.size ≤ s.size) = false) (h : ¬ what.size ≤ s.size) :
  Calls Tryz.prog 193 #[.string s, .string what] w fun e w' => e = .returned (.bool false) ∧ w = w' := by
 go_enter Tryz.func193, Tryz.ntmps193
 go_wp2
 go_ret
 exact ⟨rfl, rfl⟩
theorem begins_eq (s what : ByteArray) (b : Bool) (w : World) (t1 : decide (what.size ≤ s.size) = true) (h : what.size ≤ s.size) (t2 : ((s.extract 0 what.size).toList == what.toList) = b) :
  Calls Tryz.prog 193 #[.string s, .string what] w fun e w' => e = .returned (.bool b) ∧ w = w' := by
 go_enter Tryz.func193, Tryz.ntmps193
 go_wp2
 go_ret
 exact ⟨rfl, rfl⟩
theorem begins_any (s what : ByteArray) (w : World) :
  Calls Tryz.prog 193 #[.string s, .string what] w fun e w' => e = .returned (.bool (Lib.hasPrefix s.data.toList what.data.toList)) ∧ w = w' := by
 have hi := has_iff5 what s
 by_cases h : what.size ≤ s.size
 ·refine begins_eq s what _ w (decide_eq_true h) h ?_
  rw [Lib.toList_data, Lib.toList_data]
  cases hb : Lib.hasPrefix s.data.toList what.data.toList with
  | true =>
   have := (hi.2 hb).2
   rw [this]
   simp
  | false =>
   rw [beq_eq_false_iff_ne]
   intro e
   have : Lib.hasPrefix s.data.toList what.data.toList = true := hi.1 ⟨h, ByteArray.ext (Array.ext' e)⟩
   rw [hb] at this
   cases this
 ·have hb : Lib.hasPrefix s.data.toList what.data.toList = false := by
   cases hb : Lib.hasPrefix s.data.toList what.data.toList with
   | false => rfl
   | true => exact absurd (hi.2 hb).1 h
  rw [hb]
  exact begins_no s what w (decide_eq_false h) h
theorem rfind_arg (what s : ByteArray) (f : Int) (w : World) (hs : s.size ≤ 200000) (hf : f < 1 ∨ (Run.cnt s 0 : Int) + 1 < f) :
  Ret 163 #[.string what, .string s, .int .i64 f] w (.tuple #[.int .i64 0, .int .i64 1]) := by
 have hcl := Run.cnt_le_size s
 have HS := Lib.hid (fun w => starts_any s w hs)
 generalize Run.cnt s 0 = c at *
 by_cases h1 : f < 1
 ·have t1 : decide (f < 1) = true := decide_eq_true h1
  clear hf
  go_enter Tryz.func163, Tryz.ntmps163
  go_wp2_with (fail)
  refine (HS.out _).mono ?_
  rintro e w1 ⟨g, cap, rfl, hst, hb⟩
  clear hst
  go_wp2
  go_ret2
  exact ⟨rfl, hb⟩
 ·have h2 : (c : Int) + 1 < f := by omega
  have t1 : decide (f < 1) = false := decide_eq_false h1
  have t2 : decide ((c : Int) + 1 < f) = true := decide_eq_true h2
  clear hf h1
  go_enter Tryz.func163, Tryz.ntmps163
  go_wp2_with (fail)
  refine (HS.out _).mono ?_
  rintro e w1 ⟨g, cap, rfl, hst, hb⟩
  clear hst
  go_wp2
  go_ret2
  exact ⟨rfl, hb⟩
theorem drop_tail (s : ByteArray) (p : Nat) : (s.extract p s.size).data.toList = s.data.toList.drop p := Lib.extract_to_end s p
theorem rfind_walk (what s : ByteArray) (f : Nat) (a b : Int) (w : World) (hs : s.size ≤ 200000) (hf1 : 1 ≤ f) (hf2 : f ≤ Run.cnt s 0 + 1)
  (hfound : ∀ k, k ≤ Run.cnt s 0 → f ≤ k + 1 → Has what s k = true → (∀ j, j < k → f ≤ j + 1 → Has what s j = false) → a = (k : Int) + 1 ∧ b = 0)
  (hnone : (∀ j, j ≤ Run.cnt s 0 → f ≤ j + 1 → Has what s j = false) → a = 0 ∧ b = 3) :
  Ret 163 #[.string what, .string s, .int .i64 (f : Int)] w (.tuple #[.int .i64 a, .int .i64 b]) := by
 have hcl := Run.cnt_le_size s
 have HS := Lib.hid (fun w => starts_any s w hs)
 unfold StartsAt at HS
 have HF := Lib.hid hfound
 have HN := Lib.hid hnone
 have HB : Hid (∀ k w, Calls Tryz.prog 193 #[.string (s.extract (Run.adv s k 0) s.size), .string what] w fun e w' => e = .returned (.bool (Has what s k)) ∧ w = w') := Lib.hid (fun k w => by
  have h := begins_any (s.extract (Run.adv s k 0) s.size) what w
  rw [drop_tail] at h
  exact h)
 have HA := Lib.hid (fun k => Run.adv_le s k 0 (Nat.zero_le _))
 clear hfound hnone
 generalize hc : Run.cnt s 0 = c at *
 replace hc := Lib.hid hc
 have hfi : ¬ (f : Int) < 1 := by omega
 go_enter Tryz.func163, Tryz.ntmps163
 go_wp2_with (fail)
 refine (HS.out _).mono ?_
 rintro e w1 ⟨g, cap, rfl, ⟨_, _, _, hst⟩, hb⟩
 have HST := Lib.hid hst
 clear hst
 go_wp2
 go_loopw [9] (fun i wr => ∃ k : Nat, f ≤ k + 1 ∧ k ≤ c + 1 ∧ i = .int .i64 ((k : Int) + 1) ∧ wr = w1 ∧ Hid (∀ j, j < k → f ≤ j + 1 → Has what s j = false)) (fun i _ => c + 2 - (intOf i).toNat)
 case atStart =>
  refine ⟨f - 1, by omega, by omega, by simp; omega, rfl, Lib.hid (fun j h1 h2 => by omega)⟩
 case round =>
  obtain ⟨k, hfk, hk, rfl, rfl, HJ⟩ := hrel
  by_cases hlt : k ≤ c
  ·have hcell := HST.out k hlt
   have HB2 := Lib.hid (HB.out k)
   have HF2 := Lib.hid (HF.out k hlt hfk)
   have hal := HA.out k
   have HJ2 : Hid (Has what s k = false → ∀ j, j < k + 1 → f ≤ j + 1 → Has what s j = false) := Lib.hid (fun h j hj h2 => by
    by_cases e : j = k
    ·rw [e]; exact h
    ·exact HJ.out j (by omega) h2)
   have e1 : (k : Int) + 1 - 1 = (k : Int) := by omega
   have hk2 : k ≤ 200000 := by omega
   generalize Run.adv s k 0 = q at *
   generalize hv : Has what s k = v at *
   clear hv
   go_wp2_with (fail)
   refine (HB2.out _).mono ?_
   rintro e w2 ⟨rfl, rfl⟩
   cases v with
   | true =>
    obtain ⟨rfl, rfl⟩ := HF2.out rfl HJ.out
    go_wp2
    go_ret2
    exact ⟨rfl, hb⟩
   | false =>
    go_wp2
    go_roundw
    case rel => exact ⟨k + 1, by omega, by omega, by go_num, by first | rfl | trivial, Lib.hid (HJ2.out (by first | rfl | trivial))⟩
    case measure => simp [intOf]; omega
  ·obtain rfl : k = c + 1 := by omega
   obtain ⟨rfl, rfl⟩ := HN.out (fun j h1 h2 => HJ.out j (by omega) h2)
   go_wp2
   go_ret2
   exact ⟨rfl, hb⟩
theorem tn_split (s : ByteArray) (k : Nat) : tn s (k + 1) = (s.extract (Run.adv s k 0) (Run.adv s (k + 1) 0)).data.toList ++ tn s k := rfl
theorem strCells_app (x : List UInt8) (t : ByteArray) : Lib.byteCells x ++ Lib.strCells t = Lib.byteCells (x ++ t.data.toList) := by
 simp [Lib.byteCells, Lib.strCells]
theorem adv_mono1 (s : ByteArray) (k : Nat) : Run.adv s k 0 ≤ Run.adv s (k + 1) 0 := by
 rw [Run.adv_add s k 1 0]
 exact Run.adv_ge s 1 _
theorem step_append_eq {P : Program} {ops : Array Oper} {o : Oper} {a : Act} {w : World} {K : Act → World → Prop} {Q : Exit → Act → World → Prop} {E : Prop}
  (hg : o.guard = none) (s x : Operand) (t u : TypeId) (hop : o.op = Op.call { callee := Callee.builtin Builtin.append, args := #[s, x], argTypes := #[t, u] })
  (v y : Value) (hs : a.eval s = v) (hx : a.eval x = y) (v' : Value) (w' : World) (hrun : (Builtin.append_ #[t, u] o.type #[v, y]).run P w = .ok v' w') (hK : K (a.put o.dst v') w') :
  if Region.wanted o (yielded ops a.tmps) = true then Oper.wp P o a w K Q else E := by
 have hw : Region.wanted o (yielded ops a.tmps) = true := by simp [Region.wanted, hg]
 rw [if_pos hw]
 unfold Oper.wp
 simp [execOp, hop, resolve, invoke, builtin, hs, hx, hrun, Result.andThen]
 exact hK
set_option maxHeartbeats 1000000 in
theorem rturn_any (s : ByteArray) (w : World) (hs : s.size ≤ 200000) :
  Ret 162 #[.string s] w (.string (turned s)) := by
 have hcl := Run.cnt_le_size s
 have HS := Lib.hid (fun w => starts_any s w hs)
 unfold StartsAt at HS
 have HTl := Lib.hid (tn_length s)
 have hall := Run.adv_all s
 have HE : Hid ((⟨(tn s (Run.cnt s 0)).toArray⟩ : ByteArray) = turned s) := Lib.hid rfl
 obtain ⟨i0, hi, hz0, hz1, hz2⟩ := info_parts info5
 generalize Run.cnt s 0 = c at *
 have HTc : Hid ((tn s c).length = s.size) := Lib.hid (by rw [HTl.out, hall])
 clear hall
 go_enter Tryz.func162, Tryz.ntmps162
 go_wp2_with (fail)
 refine (HS.out _).mono ?_
 rintro e w1 ⟨g, cap, rfl, ⟨hg, hgl, hgc, hst⟩, hb0⟩
 have HST := Lib.hid hst
 clear hst
 have hsz0 := hb0.size
 go_wp2
 go_loopw [4, 5] (fun v i wr => ∃ (j n : Nat) (acc : List UInt8), j ≤ c ∧ i = .int .i64 ((j : Int) - 1) ∧ n ≤ 200000 ∧ Hid (acc ++ tn s j = tn s c) ∧ Hid (acc.length = n) ∧ wr.ownsRow w1.heap.size 5 1 v n (Lib.byteCells acc) ∧ Below w1.heap.size w1 wr) (fun _ i _ => (intOf i + 1).toNat)
 case atStart => exact ⟨c, 0, [], Nat.le_refl _, by simp; omega, by omega, Lib.hid rfl, Lib.hid rfl, World.ownsRow_nil _ _ _ _, Below.refl _ _⟩
 case round =>
  obtain ⟨j, n, acc, hj, rfl, hn, HA, HL, hown, hb⟩ := hrel
  by_cases hlt : 0 < j
  ·obtain ⟨m, rfl⟩ : ∃ m, j = m + 1 := ⟨j - 1, by omega⟩
   have hp : wr.drew.cell? ⟨g, m, none⟩ = some (.int .i64 (Run.adv s m 0 : Int)) := (hb.cell (p := ⟨g, m, none⟩) hgl).trans (HST.out m (by omega))
   have hq : wr.drew.cell? ⟨g, m + 1, none⟩ = some (.int .i64 (Run.adv s (m + 1) 0 : Int)) := (hb.cell (p := ⟨g, m + 1, none⟩) hgl).trans (HST.out (m + 1) (by omega))
   have hpq := adv_mono1 s m
   have hqs := Run.adv_le s (m + 1) 0 (Nat.zero_le _)
   have htn := tn_split s m
   have hsz := show (s.extract (Run.adv s m 0) (Run.adv s (m + 1) 0)).size = _ from ByteArray.size_extract
   have hnl : n + (s.extract (Run.adv s m 0) (Run.adv s (m + 1) 0)).size ≤ 200000 := by
    have h1 := congrArg List.length HA.out
    rw [htn, List.length_append, List.length_append, HL.out, ← Lib.size_eq, HTc.out] at h1
    omega
   have e1 : ((m : Int) + 1 - 1) = (m : Int) := by omega
   have e2 : (((m + 1 : Nat) : Int) - 1) = (m : Int) := by omega
   have hbs := hb.size
   obtain ⟨v', w2, hr, hown2, hgrow, _⟩ := Lib.run_append_own_string (P := Tryz.prog) (w := wr.drew) w1.heap.size 133 9 133 5 i0 Tryz.underlying133 Tryz.underlying9 hi hz0 hz1 hz2 _ n _ hown.drew (s.extract (Run.adv s m 0) (Run.adv s (m + 1) 0)) (by unfold maxLen; omega) (by omega) (by exact hbs)
   have hb2 : Below w1.heap.size w1 w2 := hb.drew.grown hgrow (by exact hbs) (fun j hj => (hown.drew.lt j hj).1)
   rw [strCells_app] at hown2
   have HA2 : Hid ((acc ++ (s.extract (Run.adv s m 0) (Run.adv s (m + 1) 0)).data.toList) ++ tn s m = tn s c) := Lib.hid (by rw [List.append_assoc, ← htn]; exact HA.out)
   have HL2 : Hid ((acc ++ (s.extract (Run.adv s m 0) (Run.adv s (m + 1) 0)).data.toList).length = n + (s.extract (Run.adv s m 0) (Run.adv s (m + 1) 0)).size) := Lib.hid (by rw [List.length_append, HL.out, ← Lib.size_eq])
   clear hgrow hown hb htn HA HL hsz
   generalize Run.adv s m 0 = p at *
   generalize Run.adv s (m + 1) 0 = q at *
   have HR2 := Lib.hid hr
   have HO := Lib.hid hown2
   have HNL := Lib.hid hnl
   clear hown2 hr hnl
   simp only [e2] at *
   go_wp2
   have i1 : (m : Int) < (c : Int) + 1 := by omega
   have i2 : (m : Int) < (c : Int) := by omega
   have i2' : m < c := by omega
   have i3 : IntKind.i64.wrap ((m : Int) + 1) = (m : Int) + 1 := by rw [IntKind.wrap_i64]; omega
   have i4 : 0 ≤ (m : Int) + 1 := by omega
   have i5 : (p : Int) ≤ (q : Int) := by omega
   have i6 : (q : Int) ≤ (s.size : Int) := by omega
   go_region_law (refine step_append_eq rfl (.tmp 15) (.tmp 26) 133 9 rfl _ _ rfl rfl _ _ HR2.out ?_)
   all_goals (try go_wp2)
   all_goals
    go_roundw
    case rel => exact ⟨m, n + (s.extract p q).size, acc ++ (s.extract p q).data.toList, by omega, by go_num, HNL.out, HA2, HL2, HO.out, hb2⟩
    case measure => simp [intOf] <;> omega
  ·obtain rfl : j = 0 := by omega
   obtain ⟨ao, cap2, rfl, hnc, hsh⟩ := own_shape hown
   have hcv := conv_own HL.out hsh
   have HX : Hid ((⟨acc.toArray⟩ : ByteArray) = turned s) := Lib.hid (by
    rw [← HE.out, ← HA.out]
    show _ = (⟨(acc ++ []).toArray⟩ : ByteArray)
    rw [List.append_nil])
   rw [HX.out] at hcv
   clear hown hsh HA
   go_wp2
   go_ret
   exact ⟨rfl, hb0.trans (hb.mono hsz0)⟩
end Go.Proofs.YtpiiemneelkpkaaGreatDoor
namespace Go.Proofs.YtpiiemneelkpkaaGreatDoor
open Go.RowKit
set_option linter.unusedVariables false
theorem rcode_none (s : ByteArray) (w : World) (hz : s.toList = []) (hz2 : s.toList.isEmpty = true) : Ret 167 #[.string s] w (.tuple #[.int .i64 0, .int .i64 1]) := by
 go_enter Tryz.func167, Tryz.ntmps167
 go_wp2
 go_ret2
 exact ⟨rfl, Below.refl _ _⟩
theorem rcode_some (s : ByteArray) (w : World) (hs : s.size ≤ 140737488351232) (hz : ¬ s.toList = []) (hz2 : s.toList.isEmpty = false) (hi : 0 < s.size) : Ret 167 #[.string s] w (.tuple #[.int .i64 (((Utf8.decode s 0).1 : Nat) : Int), .int .i64 0]) := by
 have HR := Lib.hid (fun w => rune_any s 0 w hs hi)
 go_enter Tryz.func167, Tryz.ntmps167
 go_wp2_with (fail)
 refine (HR.out _).mono ?_
 rintro e w1 ⟨rfl, hb⟩
 go_wp2
 go_ret2
 exact ⟨rfl, hb⟩
theorem code_none (s : ByteArray) (w : World) (hz : ¬ 0 < s.size) : Ret 145 #[.string s] w (.tuple #[.int .i64 0, .int .i64 1]) := by
 go_enter Tryz.func145, Tryz.ntmps145
 go_wp2
 have hit : (w.iter s 0).heap[w.heap.size]? = some (.stringIter s 0) := by simpa using World.iter_heap w s 0
 have hnx : ∀ ty, (Instr.next (.pointer (some ⟨w.heap.size, 0, none⟩)) true ty).run Tryz.prog (w.iter s 0) = _ := fun ty => Lib.run_next_end_at (w.iter s 0) w.heap.size s 0 ty hit hz
 have hb : Below w.heap.size w (w.iter s 0) := (Below.refl _ w).alloc (Nat.le_refl _) _
 generalize w.iter s 0 = W0 at *
 refine wp_loop_rounds 1 ?_
 rw [rounds_succ]
 go_wp2
 go_ret2
 exact ⟨rfl, hb⟩
theorem times_neg (s : ByteArray) (n : Int) (w : World) (h : n < 0) : Ret 142 #[.string s, .int .i64 n] w (.tuple #[.string ⟨#[]⟩, .int .i64 1]) := by
 have t1 : decide (n < 0) = true := decide_eq_true h
 go_enter Tryz.func142, Tryz.ntmps142
 go_wp2
 go_ret2
 exact ⟨rfl, Below.refl _ _⟩
theorem rtimes_neg (s : ByteArray) (n : Int) (w : World) (h : n < 0) : Ret 166 #[.string s, .int .i64 n] w (.tuple #[.string ⟨#[]⟩, .int .i64 1]) := by
 have t1 : decide (n < 0) = true := decide_eq_true h
 go_enter Tryz.func166, Tryz.ntmps166
 go_wp2
 go_ret2
 exact ⟨rfl, Below.refl _ _⟩
theorem rtimes_void (s : ByteArray) (n : Int) (w : World) (t1 : decide (n < 0) = false) (t2 : ((s.size : Int) == 0) = true) (t3 : (s.size == 0) = true) : Ret 166 #[.string s, .int .i64 n] w (.tuple #[.string ⟨#[]⟩, .int .i64 0]) := by
 go_enter Tryz.func166, Tryz.ntmps166
 go_wp2
 go_ret2
 exact ⟨rfl, Below.refl _ _⟩
theorem rtimes_none (s : ByteArray) (n : Int) (w : World) (t2 : ((s.size : Int) == 0) = false) (t3 : (s.size == 0) = false) (hn : n = 0) : Ret 166 #[.string s, .int .i64 n] w (.tuple #[.string ⟨#[]⟩, .int .i64 0]) := by
 subst hn
 go_enter Tryz.func166, Tryz.ntmps166
 go_wp2
 go_ret2
 exact ⟨rfl, Below.refl _ _⟩
theorem rtimes_long (s : ByteArray) (n : Int) (w : World) (t1 : decide (n < 0) = false) (t2 : ((s.size : Int) == 0) = false) (t3 : (s.size == 0) = false) (t4 : (n == 0) = false) (t5 : decide ((32767 : Int) < (s.size : Int)) = true) : Ret 166 #[.string s, .int .i64 n] w (.tuple #[.string ⟨#[]⟩, .int .i64 2]) := by
 go_enter Tryz.func166, Tryz.ntmps166
 go_wp2
 go_ret2
 exact ⟨rfl, Below.refl _ _⟩
theorem rtimes_far (s : ByteArray) (n : Int) (w : World) (q : Nat) (h0 : ¬ s.size = 0) (t1 : decide (n < 0) = false) (t2 : ((s.size : Int) == 0) = false) (t3 : (s.size == 0) = false) (t4 : (n == 0) = false) (t5 : decide ((32767 : Int) < (s.size : Int)) = false) (td : (32767 : Int).tdiv (s.size : Int) = (q : Int)) (hq : q ≤ 32767) (t6 : decide ((q : Int) < n) = true) : Ret 166 #[.string s, .int .i64 n] w (.tuple #[.string ⟨#[]⟩, .int .i64 2]) := by
 go_enter Tryz.func166, Tryz.ntmps166
 go_wp2
 go_ret2
 exact ⟨rfl, Below.refl _ _⟩
set_option maxHeartbeats 1000000 in
theorem rtimes_ok (s : ByteArray) (n q : Nat) (w : World) (h0 : ¬ s.size = 0) (t2 : ((s.size : Int) == 0) = false) (t3 : (s.size == 0) = false) (hn : 0 < n) (t5 : decide ((32767 : Int) < (s.size : Int)) = false) (td : (32767 : Int).tdiv (s.size : Int) = (q : Int)) (hq : q ≤ 32767) (hnq : n ≤ q) (hsz : s.size ≤ 32767) (hz : s.size * n ≤ 32767) :
  Ret 166 #[.string s, .int .i64 (n : Int)] w (.tuple #[.string (rep s n), .int .i64 0]) := by
 obtain ⟨i0, hi, hz0, hz1, hz2⟩ := info_parts info5
 have t4 : ((n : Int) == 0) = false := by rw [beq_eq_false_iff_ne]; omega
 have t1 : decide ((n : Int) < 0) = false := decide_eq_false (by omega)
 have t6 : decide ((q : Int) < (n : Int)) = false := decide_eq_false (by omega)
 have t7 : decide (q < n) = false := decide_eq_false (by omega)
 have HM : Hid (∀ k, k ≤ n → s.size * k ≤ 32767) := Lib.hid (fun k hk => Nat.le_trans (Nat.mul_le_mul_left _ hk) hz)
 clear hz
 go_enter Tryz.func166, Tryz.ntmps166
 go_wp2
 go_loopw [6, 7] (fun v i wr => ∃ (k m : Nat), k ≤ n ∧ i = .int .i64 (k : Int) ∧ m ≤ 32767 ∧ Hid (s.size * k = m) ∧ wr.ownsRow w.heap.size 5 1 v m (Lib.byteCells (Lib.repeatL s.data.toList k)) ∧ Below w.heap.size w wr) (fun _ i _ => n - (intOf i).toNat)
 case atStart => exact ⟨0, 0, Nat.zero_le _, rfl, by omega, Lib.hid (by simp), World.ownsRow_nil _ _ _ _, Below.refl _ _⟩
 case round =>
  obtain ⟨k, m, hk, rfl, hm, HK, hown, hb⟩ := hrel
  by_cases hlt : k < n
  ·have hm2 : m + s.size ≤ 32767 := by have := HM.out (k + 1) (by omega); rw [Nat.mul_succ, HK.out] at this; exact this
   have HK2 : Hid (s.size * (k + 1) = m + s.size) := Lib.hid (by rw [Nat.mul_succ, HK.out])
   have hbs := hb.size
   have HR : Hid (Lib.byteCells (Lib.repeatL s.data.toList k) ++ Lib.strCells s = Lib.byteCells (Lib.repeatL s.data.toList (k + 1))) := Lib.hid (by rw [strCells_app, Lib.repeatL_add, Lib.repeatL_one])
   go_wp2_with (first | (refine Lib.wpList_append_own_string _ rfl _ _ 133 9 rfl w.heap.size 5 i0 Tryz.underlying133 Tryz.underlying9 hi hz0 hz1 hz2 _ m _ rfl hown s rfl (by unfold maxLen; omega) (by omega) hbs ?_) | fail)
   intro v' w1 hown1 hgrow _
   rw [HR.out] at hown1
   have hb1 : Below w.heap.size w w1 := hb.grown hgrow hbs (fun j hj => (hown.lt j hj).1)
   clear hgrow hown hb
   go_wp2
   go_roundw
   case rel => exact ⟨k + 1, m + s.size, by omega, by go_num, hm2, HK2, hown1, hb1⟩
   case measure => simp [intOf]; omega
  ·obtain rfl : k = n := by omega
   obtain ⟨ao, cap2, rfl, hnc, hsh⟩ := own_shape hown
   have hcv := conv_own (l := Lib.repeatL s.data.toList k) (by rw [Lib.repeatL_length, ← Lib.size_eq, Nat.mul_comm]; exact HK.out) hsh
   have HX : Hid ((⟨(Lib.repeatL s.data.toList k).toArray⟩ : ByteArray) = rep s k) := Lib.hid rfl
   rw [HX.out] at hcv
   clear hown hsh
   go_wp2
   go_ret2
   exact ⟨rfl, hb⟩
theorem rtimes_any (s : ByteArray) (n : Nat) (w : World) : Ret 166 #[.string s, .int .i64 (n : Int)] w (.tuple #[.string (timesR s n).1, .int .i64 (timesR s n).2]) := by
 have t1 : decide ((n : Int) < 0) = false := decide_eq_false (by omega)
 unfold timesR
 by_cases h0 : s.size = 0
 ·rw [if_pos h0]
  exact rtimes_void s n w t1 (by rw [beq_iff_eq]; omega) (by rw [beq_iff_eq]; exact h0)
 ·rw [if_neg h0]
  have t2 : ((s.size : Int) == 0) = false := by rw [beq_eq_false_iff_ne]; omega
  have t3 : (s.size == 0) = false := by rw [beq_eq_false_iff_ne]; exact h0
  have td : (32767 : Int).tdiv (s.size : Int) = ((32767 / s.size : Nat) : Int) := by rw [Int.tdiv_eq_ediv_of_nonneg (by omega)]; rfl
  have hq2 : 32767 / s.size ≤ 32767 := Nat.div_le_self _ _
  by_cases hn : n = 0
  ·subst hn
   rw [if_neg (by simp)]
   have e : rep s 0 = ⟨#[]⟩ := rfl
   rw [e]
   exact rtimes_none s 0 w t2 t3 rfl
  ·have t4 : ((n : Int) == 0) = false := by rw [beq_eq_false_iff_ne]; omega
   by_cases hl : 32767 < s.size
   ·have : 32767 < s.size * n := Nat.lt_of_lt_of_le hl (Nat.le_mul_of_pos_right _ (by omega))
    rw [if_pos this]
    exact rtimes_long s n w t1 t2 t3 t4 (decide_eq_true (by omega))
   ·have t5 : decide ((32767 : Int) < (s.size : Int)) = false := decide_eq_false (by omega)
    by_cases h1 : 32767 < s.size * n
    ·rw [if_pos h1]
     have hq : 32767 / s.size < n := (Nat.div_lt_iff_lt_mul (by omega)).2 (by rw [Nat.mul_comm]; exact h1)
     exact rtimes_far s n w _ h0 t1 t2 t3 t4 t5 td hq2 (decide_eq_true (by omega))
    ·rw [if_neg h1]
     have hq : n ≤ 32767 / s.size := (Nat.le_div_iff_mul_le (by omega)).2 (by rw [Nat.mul_comm]; omega)
     exact rtimes_ok s n _ w h0 t2 t3 (by omega) t5 td hq2 hq (by omega) (by omega)
theorem conv_lit1 (w : World) (x0 : Int) (h0 : 0 ≤ x0) (g0 : x0 < 256) : (convert 133 9 (.slice (some ⟨w.heap.size, 0, none⟩) 1 1)).run Tryz.prog (w.alloc (.cells #[.int .u8 x0] 5)) = .ok (.string ⟨#[UInt8.ofNat x0.toNat]⟩) (w.alloc (.cells #[.int .u8 x0] 5)) := by
 refine run_convert_bytes_back (P := Tryz.prog) (w.alloc (.cells #[.int .u8 x0] 5)) 133 9 5 ⟨w.heap.size, 0, none⟩ 1 [UInt8.ofNat x0.toNat] Tryz.underlying133 Tryz.underlying5 Tryz.underlying9 (fun j hj => ?_)
 rw [addr_add0]
 have hc : ∀ j, j < 1 → (w.alloc (.cells #[.int .u8 x0] 5)).cell? ⟨w.heap.size, j, none⟩ = [Value.int .u8 x0][j]? := fun j hj => by
  rw [Lib.cell_of_heap (heap_alloc_new w _) j]
  simp
 match j, hj with
  | 0, _ => simp only [List.getElem_cons_zero]; rw [ofNat_small _ (by omega)]; rw [hc 0 (by simp)]; simp; omega
theorem conv_lit2 (w : World) (x0 x1 : Int) (h0 : 0 ≤ x0) (g0 : x0 < 256) (h1 : 0 ≤ x1) (g1 : x1 < 256) : (convert 133 9 (.slice (some ⟨w.heap.size, 0, none⟩) 2 2)).run Tryz.prog (w.alloc (.cells #[.int .u8 x0, .int .u8 x1] 5)) = .ok (.string ⟨#[UInt8.ofNat x0.toNat, UInt8.ofNat x1.toNat]⟩) (w.alloc (.cells #[.int .u8 x0, .int .u8 x1] 5)) := by
 refine run_convert_bytes_back (P := Tryz.prog) (w.alloc (.cells #[.int .u8 x0, .int .u8 x1] 5)) 133 9 5 ⟨w.heap.size, 0, none⟩ 2 [UInt8.ofNat x0.toNat, UInt8.ofNat x1.toNat] Tryz.underlying133 Tryz.underlying5 Tryz.underlying9 (fun j hj => ?_)
 rw [addr_add0]
 have hc : ∀ j, j < 2 → (w.alloc (.cells #[.int .u8 x0, .int .u8 x1] 5)).cell? ⟨w.heap.size, j, none⟩ = [Value.int .u8 x0, Value.int .u8 x1][j]? := fun j hj => by
  rw [Lib.cell_of_heap (heap_alloc_new w _) j]
  simp
 match j, hj with
  | 0, _ => simp only [List.getElem_cons_zero]; rw [ofNat_small _ (by omega)]; rw [hc 0 (by simp)]; simp; omega
  | 1, _ => simp only [List.getElem_cons_zero, List.getElem_cons_succ]; rw [ofNat_small _ (by omega)]; rw [hc 1 (by simp)]; simp; omega
theorem conv_lit3 (w : World) (x0 x1 x2 : Int) (h0 : 0 ≤ x0) (g0 : x0 < 256) (h1 : 0 ≤ x1) (g1 : x1 < 256) (h2 : 0 ≤ x2) (g2 : x2 < 256) : (convert 133 9 (.slice (some ⟨w.heap.size, 0, none⟩) 3 3)).run Tryz.prog (w.alloc (.cells #[.int .u8 x0, .int .u8 x1, .int .u8 x2] 5)) = .ok (.string ⟨#[UInt8.ofNat x0.toNat, UInt8.ofNat x1.toNat, UInt8.ofNat x2.toNat]⟩) (w.alloc (.cells #[.int .u8 x0, .int .u8 x1, .int .u8 x2] 5)) := by
 refine run_convert_bytes_back (P := Tryz.prog) (w.alloc (.cells #[.int .u8 x0, .int .u8 x1, .int .u8 x2] 5)) 133 9 5 ⟨w.heap.size, 0, none⟩ 3 [UInt8.ofNat x0.toNat, UInt8.ofNat x1.toNat, UInt8.ofNat x2.toNat] Tryz.underlying133 Tryz.underlying5 Tryz.underlying9 (fun j hj => ?_)
 rw [addr_add0]
 have hc : ∀ j, j < 3 → (w.alloc (.cells #[.int .u8 x0, .int .u8 x1, .int .u8 x2] 5)).cell? ⟨w.heap.size, j, none⟩ = [Value.int .u8 x0, Value.int .u8 x1, Value.int .u8 x2][j]? := fun j hj => by
  rw [Lib.cell_of_heap (heap_alloc_new w _) j]
  simp
 match j, hj with
  | 0, _ => simp only [List.getElem_cons_zero]; rw [ofNat_small _ (by omega)]; rw [hc 0 (by simp)]; simp; omega
  | 1, _ => simp only [List.getElem_cons_zero, List.getElem_cons_succ]; rw [ofNat_small _ (by omega)]; rw [hc 1 (by simp)]; simp; omega
  | 2, _ => simp only [List.getElem_cons_zero, List.getElem_cons_succ]; rw [ofNat_small _ (by omega)]; rw [hc 2 (by simp)]; simp; omega
theorem conv_lit4 (w : World) (x0 x1 x2 x3 : Int) (h0 : 0 ≤ x0) (g0 : x0 < 256) (h1 : 0 ≤ x1) (g1 : x1 < 256) (h2 : 0 ≤ x2) (g2 : x2 < 256) (h3 : 0 ≤ x3) (g3 : x3 < 256) : (convert 133 9 (.slice (some ⟨w.heap.size, 0, none⟩) 4 4)).run Tryz.prog (w.alloc (.cells #[.int .u8 x0, .int .u8 x1, .int .u8 x2, .int .u8 x3] 5)) = .ok (.string ⟨#[UInt8.ofNat x0.toNat, UInt8.ofNat x1.toNat, UInt8.ofNat x2.toNat, UInt8.ofNat x3.toNat]⟩) (w.alloc (.cells #[.int .u8 x0, .int .u8 x1, .int .u8 x2, .int .u8 x3] 5)) := by
 refine run_convert_bytes_back (P := Tryz.prog) (w.alloc (.cells #[.int .u8 x0, .int .u8 x1, .int .u8 x2, .int .u8 x3] 5)) 133 9 5 ⟨w.heap.size, 0, none⟩ 4 [UInt8.ofNat x0.toNat, UInt8.ofNat x1.toNat, UInt8.ofNat x2.toNat, UInt8.ofNat x3.toNat] Tryz.underlying133 Tryz.underlying5 Tryz.underlying9 (fun j hj => ?_)
 rw [addr_add0]
 have hc : ∀ j, j < 4 → (w.alloc (.cells #[.int .u8 x0, .int .u8 x1, .int .u8 x2, .int .u8 x3] 5)).cell? ⟨w.heap.size, j, none⟩ = [Value.int .u8 x0, Value.int .u8 x1, Value.int .u8 x2, Value.int .u8 x3][j]? := fun j hj => by
  rw [Lib.cell_of_heap (heap_alloc_new w _) j]
  simp
 match j, hj with
  | 0, _ => simp only [List.getElem_cons_zero]; rw [ofNat_small _ (by omega)]; rw [hc 0 (by simp)]; simp; omega
  | 1, _ => simp only [List.getElem_cons_zero, List.getElem_cons_succ]; rw [ofNat_small _ (by omega)]; rw [hc 1 (by simp)]; simp; omega
  | 2, _ => simp only [List.getElem_cons_zero, List.getElem_cons_succ]; rw [ofNat_small _ (by omega)]; rw [hc 2 (by simp)]; simp; omega
  | 3, _ => simp only [List.getElem_cons_zero, List.getElem_cons_succ]; rw [ofNat_small _ (by omega)]; rw [hc 3 (by simp)]; simp; omega
theorem rchar_neg (n : Int) (w : World) (h : n < 0) : Ret 83 #[.int .i64 (n : Int)] w (.tuple #[.string ⟨#[]⟩, .int .i64 1]) := by
 have t1 : decide (n < 0) = true := decide_eq_true h
 go_enter Tryz.func83, Tryz.ntmps83
 go_wp2
 go_ret2
 exact ⟨rfl, Below.refl _ _⟩
theorem rchar_far (n : Int) (w : World) (h : 1114111 < n) : Ret 83 #[.int .i64 (n : Int)] w (.tuple #[.string ⟨#[]⟩, .int .i64 1]) := by
 have t1 : decide (n < 0) = false := decide_eq_false (by omega)
 have t2 : decide ((1114111 : Int) < n) = true := decide_eq_true h
 go_enter Tryz.func83, Tryz.ntmps83
 go_wp2
 go_ret2
 exact ⟨rfl, Below.refl _ _⟩
theorem rchar_mid (n : Int) (w : World) (h : 55296 ≤ n) (h2 : n ≤ 57343) : Ret 83 #[.int .i64 (n : Int)] w (.tuple #[.string ⟨#[]⟩, .int .i64 1]) := by
 have t1 : decide (n < 0) = false := decide_eq_false (by omega)
 have t2 : decide ((1114111 : Int) < n) = false := decide_eq_false (by omega)
 have t3 : decide ((55296 : Int) ≤ n) = true := decide_eq_true h
 have t4 : decide (n ≤ (57343 : Int)) = true := decide_eq_true h2
 go_enter Tryz.func83, Tryz.ntmps83
 go_wp2
 go_ret2
 exact ⟨rfl, Below.refl _ _⟩
theorem rchar_a (n : Nat) (w : World) (h : n < 128) : Ret 83 #[.int .i64 (n : Int)] w (.tuple #[.string ⟨#[UInt8.ofNat ((n : Int)).toNat]⟩, .int .i64 0]) := by
 have t1 : decide ((n : Int) < 0) = false := decide_eq_false (by omega)
 have t2 : decide ((1114111 : Int) < (n : Int)) = false := decide_eq_false (by omega)
 have t3 : decide ((55296 : Int) ≤ (n : Int)) = false := decide_eq_false (by omega)
 have t5 : decide ((n : Int) < 128) = true := decide_eq_true (by omega)
 have hcv := fun w => conv_lit1 w ((n : Int)) (by omega) (by omega)
 generalize hS : (⟨#[UInt8.ofNat ((n : Int)).toNat]⟩ : ByteArray) = S at *
 have HE := Lib.hid hS
 clear hS
 go_enter Tryz.func83, Tryz.ntmps83
 go_wp2
 go_ret2
 exact ⟨rfl, (Below.refl _ _).alloc (Nat.le_refl _) _⟩
theorem rchar_b (n q r : Nat) (w : World) (h : 128 ≤ n) (h2 : n < 2048) (hq : q < 32) (hr : r < 64) (d1 : ((n : Int)).tdiv 64 = (q : Int)) (d2 : ((n : Int)).tmod 64 = (r : Int))  : Ret 83 #[.int .i64 (n : Int)] w (.tuple #[.string ⟨#[UInt8.ofNat (192 + (q : Int)).toNat, UInt8.ofNat (128 + (r : Int)).toNat]⟩, .int .i64 0]) := by
 have t1 : decide ((n : Int) < 0) = false := decide_eq_false (by omega)
 have t2 : decide ((1114111 : Int) < (n : Int)) = false := decide_eq_false (by omega)
 have t3 : decide ((55296 : Int) ≤ (n : Int)) = false := decide_eq_false (by omega)
 have t5 : decide ((n : Int) < 128) = false := decide_eq_false (by omega)
 have t6 : decide ((n : Int) < 2048) = true := decide_eq_true (by omega)
 have hcv := fun w => conv_lit2 w (192 + (q : Int)) (128 + (r : Int)) (by omega) (by omega) (by omega) (by omega)
 generalize hS : (⟨#[UInt8.ofNat (192 + (q : Int)).toNat, UInt8.ofNat (128 + (r : Int)).toNat]⟩ : ByteArray) = S at *
 have HE := Lib.hid hS
 clear hS
 go_enter Tryz.func83, Tryz.ntmps83
 go_wp2
 go_ret2
 exact ⟨rfl, (Below.refl _ _).alloc (Nat.le_refl _) _⟩
theorem rchar_c (n q p m r : Nat) (w : World) (h : 2048 ≤ n) (h2 : n < 55296) (hq : q < 16) (hp : p ≤ 1114111) (hm : m < 64) (hr : r < 64) (d1 : ((n : Int)).tdiv 4096 = (q : Int)) (d3 : ((n : Int)).tdiv 64 = (p : Int)) (d4 : ((p : Int)).tmod 64 = (m : Int)) (d2 : ((n : Int)).tmod 64 = (r : Int))  : Ret 83 #[.int .i64 (n : Int)] w (.tuple #[.string ⟨#[UInt8.ofNat (224 + (q : Int)).toNat, UInt8.ofNat (128 + (m : Int)).toNat, UInt8.ofNat (128 + (r : Int)).toNat]⟩, .int .i64 0]) := by
 have t1 : decide ((n : Int) < 0) = false := decide_eq_false (by omega)
 have t2 : decide ((1114111 : Int) < (n : Int)) = false := decide_eq_false (by omega)
 have t3 : decide ((55296 : Int) ≤ (n : Int)) = false := decide_eq_false (by omega)
 have t5 : decide ((n : Int) < 128) = false := decide_eq_false (by omega)
 have t6 : decide ((n : Int) < 2048) = false := decide_eq_false (by omega)
 have t7 : decide ((n : Int) < 65536) = true := decide_eq_true (by omega)
 have hcv := fun w => conv_lit3 w (224 + (q : Int)) (128 + (m : Int)) (128 + (r : Int)) (by omega) (by omega) (by omega) (by omega) (by omega) (by omega)
 generalize hS : (⟨#[UInt8.ofNat (224 + (q : Int)).toNat, UInt8.ofNat (128 + (m : Int)).toNat, UInt8.ofNat (128 + (r : Int)).toNat]⟩ : ByteArray) = S at *
 have HE := Lib.hid hS
 clear hS
 go_enter Tryz.func83, Tryz.ntmps83
 go_wp2
 go_ret2
 exact ⟨rfl, (Below.refl _ _).alloc (Nat.le_refl _) _⟩
theorem rchar_d (n q p m r : Nat) (w : World) (h : 2048 ≤ n) (h2 : n < 65536) (h3 : 57343 < n) (hq : q < 16) (hp : p ≤ 1114111) (hm : m < 64) (hr : r < 64) (d1 : ((n : Int)).tdiv 4096 = (q : Int)) (d3 : ((n : Int)).tdiv 64 = (p : Int)) (d4 : ((p : Int)).tmod 64 = (m : Int)) (d2 : ((n : Int)).tmod 64 = (r : Int))  : Ret 83 #[.int .i64 (n : Int)] w (.tuple #[.string ⟨#[UInt8.ofNat (224 + (q : Int)).toNat, UInt8.ofNat (128 + (m : Int)).toNat, UInt8.ofNat (128 + (r : Int)).toNat]⟩, .int .i64 0]) := by
 have t1 : decide ((n : Int) < 0) = false := decide_eq_false (by omega)
 have t2 : decide ((1114111 : Int) < (n : Int)) = false := decide_eq_false (by omega)
 have t3 : decide ((55296 : Int) ≤ (n : Int)) = true := decide_eq_true (by omega)
 have t4 : decide ((n : Int) ≤ (57343 : Int)) = false := decide_eq_false (by omega)
 have t5 : decide ((n : Int) < 128) = false := decide_eq_false (by omega)
 have t6 : decide ((n : Int) < 2048) = false := decide_eq_false (by omega)
 have t7 : decide ((n : Int) < 65536) = true := decide_eq_true (by omega)
 have hcv := fun w => conv_lit3 w (224 + (q : Int)) (128 + (m : Int)) (128 + (r : Int)) (by omega) (by omega) (by omega) (by omega) (by omega) (by omega)
 generalize hS : (⟨#[UInt8.ofNat (224 + (q : Int)).toNat, UInt8.ofNat (128 + (m : Int)).toNat, UInt8.ofNat (128 + (r : Int)).toNat]⟩ : ByteArray) = S at *
 have HE := Lib.hid hS
 clear hS
 go_enter Tryz.func83, Tryz.ntmps83
 go_wp2
 go_ret2
 exact ⟨rfl, (Below.refl _ _).alloc (Nat.le_refl _) _⟩
theorem rchar_e (n q k l p m r : Nat) (w : World) (h : 65536 ≤ n) (h2 : n ≤ 1114111) (hq : q < 8) (hk : k ≤ 1114111) (hl : l < 64) (hp : p ≤ 1114111) (hm : m < 64) (hr : r < 64) (d1 : ((n : Int)).tdiv 262144 = (q : Int)) (d5 : ((n : Int)).tdiv 4096 = (k : Int)) (d6 : ((k : Int)).tmod 64 = (l : Int)) (d3 : ((n : Int)).tdiv 64 = (p : Int)) (d4 : ((p : Int)).tmod 64 = (m : Int)) (d2 : ((n : Int)).tmod 64 = (r : Int))  : Ret 83 #[.int .i64 (n : Int)] w (.tuple #[.string ⟨#[UInt8.ofNat (240 + (q : Int)).toNat, UInt8.ofNat (128 + (l : Int)).toNat, UInt8.ofNat (128 + (m : Int)).toNat, UInt8.ofNat (128 + (r : Int)).toNat]⟩, .int .i64 0]) := by
 have t1 : decide ((n : Int) < 0) = false := decide_eq_false (by omega)
 have t2 : decide ((1114111 : Int) < (n : Int)) = false := decide_eq_false (by omega)
 have t3 : decide ((55296 : Int) ≤ (n : Int)) = true := decide_eq_true (by omega)
 have t4 : decide ((n : Int) ≤ (57343 : Int)) = false := decide_eq_false (by omega)
 have t5 : decide ((n : Int) < 128) = false := decide_eq_false (by omega)
 have t6 : decide ((n : Int) < 2048) = false := decide_eq_false (by omega)
 have t7 : decide ((n : Int) < 65536) = false := decide_eq_false (by omega)
 have hcv := fun w => conv_lit4 w (240 + (q : Int)) (128 + (l : Int)) (128 + (m : Int)) (128 + (r : Int)) (by omega) (by omega) (by omega) (by omega) (by omega) (by omega) (by omega) (by omega)
 generalize hS : (⟨#[UInt8.ofNat (240 + (q : Int)).toNat, UInt8.ofNat (128 + (l : Int)).toNat, UInt8.ofNat (128 + (m : Int)).toNat, UInt8.ofNat (128 + (r : Int)).toNat]⟩ : ByteArray) = S at *
 have HE := Lib.hid hS
 clear hS
 go_enter Tryz.func83, Tryz.ntmps83
 go_wp2
 go_ret2
 exact ⟨rfl, (Below.refl _ _).alloc (Nat.le_refl _) _⟩
theorem tdiv_n (b m : Nat) : (b : Int).tdiv (m : Int) = ((b / m : Nat) : Int) := by
 rw [Int.tdiv_eq_ediv_of_nonneg (by omega)]
 push_cast
 rfl
theorem rchar_any (n : Nat) (w : World) (hv : Lib.validRune (n : Int) = true) : Ret 83 #[.int .i64 (n : Int)] w (.tuple #[.string (Utf8.encode (n : Int)), .int .i64 0]) := by
 have hb := enc_bytes hv
 have hr := valid_iff.1 hv
 have ext : ∀ L : List UInt8, (Utf8.encode (n : Int)).data.toList = L → Utf8.encode (n : Int) = ⟨L.toArray⟩ := fun L h => ByteArray.ext (Array.ext' (by rw [h]))
 have e0 : (n : Int).toNat = n := Int.toNat_natCast n
 rw [e0] at hb
 have tn : ∀ (k m : Nat), ((k : Int) + (m : Int)).toNat = k + m := fun k m => by omega
 rcases hb with ⟨h1, e⟩ | ⟨h1, h2, e⟩ | ⟨h1, h2, e⟩ | ⟨h1, h2, e⟩
 ·rw [ext _ e]
  exact rchar_a n w (by omega)
 ·rw [ext _ e]
  have := rchar_b n (n / 64) (n % 64) w (by omega) (by omega) (by omega) (by omega) (tdiv_n n 64) (tmod_n n 64)
  rw [show (192 + ((n / 64 : Nat) : Int)).toNat = 192 + n / 64 by omega, show (128 + ((n % 64 : Nat) : Int)).toNat = 128 + n % 64 by omega] at this
  exact this
 ·rw [ext _ e]
  have f1 : (224 + ((n / 4096 : Nat) : Int)).toNat = 224 + n / 4096 := by omega
  have f2 : (128 + ((n / 64 % 64 : Nat) : Int)).toNat = 128 + n / 64 % 64 := by omega
  have f3 : (128 + ((n % 64 : Nat) : Int)).toNat = 128 + n % 64 := by omega
  by_cases h3 : n < 55296
  ·have := rchar_c n (n / 4096) (n / 64) (n / 64 % 64) (n % 64) w (by omega) h3 (by omega) (by omega) (by omega) (by omega) (tdiv_n n 4096) (tdiv_n n 64) (tmod_n _ 64) (tmod_n n 64)
   rw [f1, f2, f3] at this
   exact this
  ·have := rchar_d n (n / 4096) (n / 64) (n / 64 % 64) (n % 64) w (by omega) (by omega) (by omega) (by omega) (by omega) (by omega) (by omega) (tdiv_n n 4096) (tdiv_n n 64) (tmod_n _ 64) (tmod_n n 64)
   rw [f1, f2, f3] at this
   exact this
 ·rw [ext _ e]
  have f1 : (240 + ((n / 262144 : Nat) : Int)).toNat = 240 + n / 262144 := by omega
  have f0 : (128 + ((n / 4096 % 64 : Nat) : Int)).toNat = 128 + n / 4096 % 64 := by omega
  have f2 : (128 + ((n / 64 % 64 : Nat) : Int)).toNat = 128 + n / 64 % 64 := by omega
  have f3 : (128 + ((n % 64 : Nat) : Int)).toNat = 128 + n % 64 := by omega
  have := rchar_e n (n / 262144) (n / 4096) (n / 4096 % 64) (n / 64) (n / 64 % 64) (n % 64) w (by omega) (by omega) (by omega) (by omega) (by omega) (by omega) (by omega) (by omega) (tdiv_n n 262144) (tdiv_n n 4096) (tmod_n _ 64) (tdiv_n n 64) (tmod_n _ 64) (tmod_n n 64)
  rw [f1, f0, f2, f3] at this
  exact this
end Go.Proofs.YtpiiemneelkpkaaGreatDoor
namespace Go.Proofs.YtpiiemneelkpkaaGreatDoor
open Go.RowKit
set_option linter.unusedVariables false
theorem rswap_none (s o wt : ByteArray) (w : World) (t1 : o.toList = []) (t2 : o.toList.isEmpty = true) : Ret 164 #[.string s, .string o, .string wt] w (.tuple #[.string s, .int .i64 0]) := by
 go_enter Tryz.func164, Tryz.ntmps164
 go_wp2
 go_ret2
 exact ⟨rfl, Below.refl _ _⟩
set_option maxHeartbeats 2000000 in
theorem rswap_walk (s o wt a : ByteArray) (b : Int) (w : World) (hs : s.size ≤ 200000) (hw : wt.size ≤ 200000) (t1 : ¬ o.toList = []) (t2 : o.toList.isEmpty = false) (ho : 1 ≤ o.size) (ho2 : o.size ≤ 200000)
  (h1 : 32767 < (Sw.swp o.data.toList wt.data.toList s.data.toList).length → a = ⟨#[]⟩ ∧ b = 2)
  (h2 : ¬ 32767 < (Sw.swp o.data.toList wt.data.toList s.data.toList).length → a = ⟨(Sw.swp o.data.toList wt.data.toList s.data.toList).toArray⟩ ∧ b = 0) :
  Ret 164 #[.string s, .string o, .string wt] w (.tuple #[.string a, .int .i64 b]) := by
 obtain ⟨i0, hi, hz0, hz1, hz2⟩ := info_parts info5
 have hne : o.data.toList ≠ [] := by rw [← Lib.toList_data]; exact t1
 have HNE := Lib.hid hne
 obtain ⟨R, hR⟩ : ∃ R, Sw.swp o.data.toList wt.data.toList s.data.toList = R := ⟨_, rfl⟩
 rw [hR] at h1 h2
 have HL1 := Lib.hid h1
 have HL2' := Lib.hid h2
 have HR := Lib.hid hR
 have HB : Hid (∀ k w, Calls Tryz.prog 193 #[.string (s.extract k s.size), .string o] w fun e w' => e = .returned (.bool (o.data.toList.isPrefixOf (s.data.toList.drop k))) ∧ w = w') := Lib.hid (fun k w => by
  have h := begins_any (s.extract k s.size) o w
  rw [drop_tail] at h
  exact h)
 have HUL : Hid (s.data.toList.length = s.size) := Lib.hid (Lib.size_eq s).symm
 have HOL : Hid (o.data.toList.length = o.size) := Lib.hid (Lib.size_eq o).symm
 have HWL : Hid (wt.data.toList.length = wt.size) := Lib.hid (Lib.size_eq wt).symm
 clear h1 h2 hR hne
 go_enter Tryz.func164, Tryz.ntmps164
 go_wp2
 go_loopw [8, 9] (fun v i wr => ∃ (k n : Nat) (acc : List UInt8), k ≤ s.size ∧ i = .int .i64 (k : Int) ∧ n ≤ 32767 ∧ Hid (acc ++ Sw.swp o.data.toList wt.data.toList (s.data.toList.drop k) = R) ∧ Hid (acc.length = n) ∧ wr.ownsRow w.heap.size 5 1 v n (Lib.byteCells acc) ∧ Below w.heap.size w wr) (fun _ i _ => s.size - (intOf i).toNat)
 case atStart => exact ⟨0, 0, [], Nat.zero_le _, rfl, by omega, Lib.hid (by rw [List.drop_zero]; exact HR.out), Lib.hid rfl, World.ownsRow_nil _ _ _ _, Below.refl _ _⟩
 case round =>
  obtain ⟨k, n, acc, hk, rfl, hn, HA, HL, hown, hb⟩ := hrel
  have hbs := hb.size
  by_cases hlt : k < s.size
  ·have HB2 := Lib.hid (HB.out k)
   have hkl : k < s.data.toList.length := by rw [HUL.out]; exact hlt
   cases hp : o.data.toList.isPrefixOf (s.data.toList.drop k) with
   | true =>
    have hfit : k + o.size ≤ s.size := by
     have h := (List.isPrefixOf_iff_prefix.1 hp).length_le
     rw [List.length_drop, HUL.out, HOL.out] at h
     omega
    have HA2 : Hid ((acc ++ wt.data.toList) ++ Sw.swp o.data.toList wt.data.toList (s.data.toList.drop (k + o.size)) = R) := Lib.hid (by
     rw [← HA.out, Sw.swp_hit HNE.out _ hp, List.drop_drop, HOL.out, List.append_assoc])
    have HL2 : Hid ((acc ++ wt.data.toList).length = n + wt.size) := Lib.hid (by rw [List.length_append, HL.out, HWL.out])
    have HY : Hid (Lib.byteCells acc ++ Lib.strCells wt = Lib.byteCells (acc ++ wt.data.toList)) := Lib.hid (strCells_app acc wt)
    rw [hp] at HB2
    clear hp HA HL hkl
    go_wp2_with (fail)
    refine (HB2.out _).mono ?_
    rintro e w0 ⟨rfl, rfl⟩
    go_wp2_with (first | (refine Lib.wpList_append_own_string _ rfl _ _ 133 9 rfl w.heap.size 5 i0 Tryz.underlying133 Tryz.underlying9 hi hz0 hz1 hz2 _ n _ rfl hown wt rfl (by unfold maxLen; omega) (by omega) hbs ?_) | fail)
    intro v' w1 hown1 hgrow _
    rw [HY.out] at hown1
    have hb1 : Below w.heap.size w w1 := hb.grown hgrow hbs (fun j hj => (hown.lt j hj).1)
    obtain ⟨ao, cap2, rfl, hnc, hsh⟩ := own_shape hown1
    clear hgrow hown hb hsh hnc
    have HO := Lib.hid hown1
    clear hown1
    have hn2 : n + wt.size ≤ 232767 := by omega
    clear hn
    generalize n + wt.size = n2 at *
    by_cases hbig : 32767 < n2
    ·obtain ⟨rfl, rfl⟩ := HL1.out (by rw [← HA2.out, List.length_append, HL2.out]; omega)
     go_wp2
     go_ret2
     exact ⟨rfl, hb1⟩
    ·go_wp2
     go_roundw
     case rel => exact ⟨k + o.size, n2, acc ++ wt.data.toList, by omega, by go_num, by omega, HA2, HL2, HO.out, hb1⟩
     case measure => simp [intOf]; omega
   | false =>
    have HA2 : Hid ((acc ++ [s[k]'hlt]) ++ Sw.swp o.data.toList wt.data.toList (s.data.toList.drop (k + 1)) = R) := Lib.hid (by
     rw [← HA.out, List.drop_eq_getElem_cons hkl]
     rw [List.drop_eq_getElem_cons hkl] at hp
     rw [Sw.swp_keep HNE.out _ _ hp, List.append_assoc]
     rfl)
    have HL2 : Hid ((acc ++ [s[k]'hlt]).length = n + 1) := Lib.hid (by rw [List.length_append, HL.out]; rfl)
    have HY : Hid (Lib.byteCells acc ++ [.int .u8 ((s[k]'hlt).toNat : Int)] = Lib.byteCells (acc ++ [s[k]'hlt])) := Lib.hid (by simp [Lib.byteCells])
    rw [hp] at HB2
    clear hp HA HL hkl
    go_wp2_with (fail)
    refine (HB2.out _).mono ?_
    rintro e w0 ⟨rfl, rfl⟩
    go_wp2_with (first | (at_builtin; refine wpList_append_own _ rfl _ _ 133 rfl w.heap.size 5 i0 (.int .u8 0) 1 1 Tryz.underlying133 hi hz0 hz1 hz2 rfl (by decide) _ _ _ rfl (hown.alloc _) ⟨wr.heap.size, 0, none⟩ 1 1 [.int .u8 (s[k].toNat : Int)] rfl rfl ?c1b ?c2b ?c3b ?c4b ?c5b ?_) | fail)
    case c1b =>
     intro j u hj
     match j, hj with
     | 0, hj => simp at hj; subst hj; simp [Addr.add]
    case c2b => intro u hu; simp at hu; subst hu; rfl
    case c3b => unfold maxLen; omega
    case c4b => omega
    case c5b => simp; omega
    intro v' w1 hown1 hgrow _
    rw [HY.out] at hown1
    have hb1 : Below w.heap.size w w1 := (hb.alloc hbs _).grown hgrow (by simp; omega) (fun j hj => (hown.lt j hj).1)
    obtain ⟨ao, cap2, rfl, hnc, hsh⟩ := own_shape hown1
    clear hgrow hown hb hsh hnc
    have HO := Lib.hid hown1
    clear hown1
    have hn2 : n + 1 ≤ 232767 := by omega
    clear hn
    generalize n + 1 = n2 at *
    by_cases hbig : 32767 < n2
    ·obtain ⟨rfl, rfl⟩ := HL1.out (by rw [← HA2.out, List.length_append, HL2.out]; omega)
     go_wp2
     go_ret2
     exact ⟨rfl, hb1⟩
    ·go_wp2
     go_roundw
     case rel => exact ⟨k + 1, n2, acc ++ [s[k]'hlt], by omega, by go_num, by omega, HA2, HL2, HO.out, hb1⟩
     case measure => simp [intOf]; omega
  ·obtain rfl : k = s.size := by omega
   obtain ⟨ao, cap2, rfl, hnc, hsh⟩ := own_shape hown
   have hcv := conv_own HL.out hsh
   have HX : Hid (acc = R) := Lib.hid (by
    have := HA.out
    rw [List.drop_of_length_le (by rw [HUL.out]; exact Nat.le_refl _), Sw.swp_nil, List.append_nil] at this
    exact this)
   obtain ⟨rfl, rfl⟩ := HL2'.out (by rw [← HX.out, HL.out]; omega)
   rw [HX.out] at hcv
   clear hown hsh HA
   go_wp2
   go_ret2
   exact ⟨rfl, hb⟩
theorem swap_none (s o wt : ByteArray) (w : World) (t1 : o.toList = []) (t2 : o.toList.isEmpty = true) : Ret 139 #[.string s, .string o, .string wt] w (.tuple #[.string s, .int .i64 0]) := by
 go_enter Tryz.func139, Tryz.ntmps139
 go_wp2
 go_ret2
 exact ⟨rfl, Below.refl _ _⟩
def strLen : Value → Nat
 | .string t => t.size
 | _ => 0
theorem toArr (t : ByteArray) : (⟨t.data.toList.toArray⟩ : ByteArray) = t := by
 apply ByteArray.ext
 simp
theorem isB_drew {B b : Nat} {bs : List Value} {w : World} (n : Nat) (h : Lib.IsBuilder 144 5 B b bs w) : Lib.IsBuilder 144 5 B b bs (w.drewN n) := h
theorem byteCells_len (l : List UInt8) : (Lib.byteCells l).length = l.length := Lib.byteCells_length l
set_option maxHeartbeats 2000000 in
theorem swap_walk (s o wt a : ByteArray) (b m : Int) (w : World) (hs : s.size ≤ 200000) (hw : wt.size ≤ 200000) (t1 : ¬ o.toList = []) (t2 : o.toList.isEmpty = false) (ho : 1 ≤ o.size) (ho2 : o.size ≤ 200000)
  (hM : w.cell? ⟨0, 0, none⟩ = some (.int .i64 m)) (hM0 : 0 < w.heap.size)
  (h1 : 32767 < (Sw.swp o.data.toList wt.data.toList s.data.toList).length → a = ⟨#[]⟩ ∧ b = 2)
  (h2 : ¬ 32767 < (Sw.swp o.data.toList wt.data.toList s.data.toList).length → a = ⟨(Sw.swp o.data.toList wt.data.toList s.data.toList).toArray⟩ ∧ b = 0) :
  Ret 139 #[.string s, .string o, .string wt] w (.tuple #[.string a, .int .i64 b]) := by
 have hne : o.data.toList ≠ [] := by rw [← Lib.toList_data]; exact t1
 have HNE := Lib.hid hne
 obtain ⟨R, hR⟩ : ∃ R, Sw.swp o.data.toList wt.data.toList s.data.toList = R := ⟨_, rfl⟩
 rw [hR] at h1 h2
 have HL1 := Lib.hid h1
 have HL2' := Lib.hid h2
 have HR := Lib.hid hR
 have HOL : Hid (o.data.toList.length = o.size) := Lib.hid (Lib.size_eq o).symm
 have HWL : Hid (wt.data.toList.length = wt.size) := Lib.hid (Lib.size_eq wt).symm
 have HM := Lib.hid hM
 clear h1 h2 hR hne hM
 go_enter Tryz.func139, Tryz.ntmps139
 go_wp2
 have hB0 := Lib.fresh_isBuilder 144 5 w
 have hb0 : Below w.heap.size w (w.alloc (.cells #[.pointer none, .slice none 0 0] 144)) := (Below.refl _ _).alloc (Nat.le_refl _) _
 generalize w.alloc (.cells #[.pointer none, .slice none 0 0] 144) = W0 at *
 go_loopw [0] (fun sv wr => ∃ (t : ByteArray) (acc : List UInt8), sv = .string t ∧ t.size ≤ 200000 ∧ acc.length ≤ 32767 ∧ Hid (acc ++ Sw.swp o.data.toList wt.data.toList t.data.toList = R) ∧ Hid (Lib.IsBuilder 144 5 w.heap.size w.heap.size (Lib.byteCells acc) wr) ∧ Below w.heap.size w wr) (fun sv _ => strLen sv)
 case atStart => exact ⟨s, [], rfl, hs, by simp, Lib.hid HR.out, Lib.hid hB0, hb0⟩
 case round =>
  obtain ⟨t, acc, rfl, ht, hacc, HA, HB, hb⟩ := hrel
  have hTL := Lib.size_eq t
  have HTL := Lib.hid hTL
  clear hTL
  have hm : wr.cell? ⟨0, 0, none⟩ = some (.int .i64 m) := (hb.cell (p := ⟨0, 0, none⟩) hM0).trans HM.out
  have HC := Lib.hid (fun w hm => Tryz.strings_Cut t o m w (by omega) hm)
  have hix := Sw.swp_index (wit := wt.data.toList) HNE.out t.data.toList
  have hgx := Lib.index_ge t.data.toList o.data.toList
  have hrx := Lib.index_room t.data.toList o.data.toList
  by_cases hneg : Lib.index t.data.toList o.data.toList = -1
  ·have hcut : Lib.cut t.data.toList o.data.toList = (t.data.toList, [], false) := by
    unfold Lib.cut
    rw [if_neg (by omega)]
   rw [hcut] at HC
   simp only [toArr] at HC
   have HX : Hid (acc ++ t.data.toList = R) := Lib.hid (by rw [← HA.out, hix.1 hneg])
   have hN : (acc ++ t.data.toList).length = acc.length + t.size := by rw [List.length_append, ← HTL.out]
   have HY1 : Hid (Lib.byteCells acc ++ Lib.strCells t = Lib.byteCells (acc ++ t.data.toList)) := Lib.hid (strCells_app acc t)
   have HW1 := Lib.hid (fun v h hz => writeString_any w.heap.size w.heap.size (Lib.byteCells acc) t v h (by rw [byteCells_len]; omega) hz)
   obtain ⟨n2, hn2⟩ : ∃ n2, acc.length + t.size = n2 := ⟨_, rfl⟩
   rw [hn2] at hN
   have HLn : Hid (∀ v, Lib.IsBuilder 144 5 w.heap.size w.heap.size (Lib.byteCells (acc ++ t.data.toList)) v → Calls Tryz.prog 188 #[.pointer (some ⟨w.heap.size, 0, none⟩)] v fun e v' => e = .returned (.int .i64 (n2 : Int)) ∧ v' = v) := Lib.hid (fun v h => by
    have := Tryz.Builder_Len w.heap.size w.heap.size (Lib.byteCells (acc ++ t.data.toList)) v h
    rw [byteCells_len, hN] at this
    exact this)
   have HSt : Hid (∀ v, Lib.IsBuilder 144 5 w.heap.size w.heap.size (Lib.byteCells (acc ++ t.data.toList)) v → w.heap.size ≤ v.heap.size → Calls Tryz.prog 183 #[.pointer (some ⟨w.heap.size, 0, none⟩)] v fun e v' => e = .returned (.string ⟨R.toArray⟩) ∧ Below w.heap.size v v') := Lib.hid (fun v h hz => by
    have := Tryz.Builder_String_any w.heap.size w.heap.size (acc ++ t.data.toList) v h hz
    rw [HX.out] at this
    exact this)
   have HRL : Hid (R.length = n2) := Lib.hid (by rw [← HX.out]; exact hN)
   have hn3 : n2 ≤ 232767 := by omega
   clear hn2 hN hcut hix hgx hrx hneg HX HA
   go_wp2_with (fail)
   refine (HC.out _ hm).mono ?_
   rintro e w1 ⟨rfl, nd, rfl⟩
   have hb1 : Below w.heap.size w (wr.drewN nd) := hb.trans ⟨rfl, rfl, rfl, Nat.le_refl _, fun _ _ => rfl⟩
   have HB1 : Hid (Lib.IsBuilder 144 5 w.heap.size w.heap.size (Lib.byteCells acc) (wr.drewN nd)) := Lib.hid (isB_drew nd HB.out)
   clear hm HB hb HC
   generalize wr.drewN nd = W1 at *
   go_wp2_with (fail)
   refine (HW1.out _ HB1.out hb1.size).mono ?_
   rintro e w2 ⟨rfl, hB2, hb2⟩
   rw [HY1.out] at hB2
   have hb3 := hb1.trans hb2
   have HB2 := Lib.hid hB2
   clear hB2 hb2 hb1 HB1
   go_wp2_with (fail)
   refine (HLn.out _ (.inr HB2.out)).mono ?_
   rintro e w3 ⟨rfl, rfl⟩
   by_cases hbig : 32767 < n2
   ·obtain ⟨rfl, rfl⟩ := HL1.out (by rw [HRL.out]; exact hbig)
    go_wp2
    go_ret2
    exact ⟨rfl, hb3⟩
   ·obtain ⟨rfl, rfl⟩ := HL2'.out (by rw [HRL.out]; exact hbig)
    go_wp2_with (fail)
    refine (HSt.out _ (.inr HB2.out) hb3.size).mono ?_
    rintro e w4 ⟨rfl, hb4⟩
    go_wp2
    go_ret2
    exact ⟨rfl, hb3.trans hb4⟩
  ·obtain ⟨i, hi⟩ : ∃ i : Nat, Lib.index t.data.toList o.data.toList = (i : Int) := ⟨(Lib.index t.data.toList o.data.toList).toNat, by omega⟩
   have hroom : i + o.size ≤ t.size := by
    have := hrx (by omega)
    rw [hi, HOL.out, ← HTL.out] at this
    omega
   have hcut : Lib.cut t.data.toList o.data.toList = (t.data.toList.take i, t.data.toList.drop (i + o.size), true) := by
    unfold Lib.cut
    rw [if_pos (by omega), hi, HOL.out]
    rfl
   rw [hcut] at HC
   have hsw := hix.2 i hi
   rw [HOL.out] at hsw
   obtain ⟨hd, hhd⟩ : ∃ hd : ByteArray, (⟨(t.data.toList.take i).toArray⟩ : ByteArray) = hd := ⟨_, rfl⟩
   obtain ⟨tl, htl⟩ : ∃ tl : ByteArray, (⟨(t.data.toList.drop (i + o.size)).toArray⟩ : ByteArray) = tl := ⟨_, rfl⟩
   have hdl : hd.data.toList = t.data.toList.take i := by rw [← hhd]
   have htll : tl.data.toList = t.data.toList.drop (i + o.size) := by rw [← htl]
   rw [← hdl, ← htll] at hsw
   have hds : hd.size ≤ 200000 := by rw [Lib.size_eq, hdl, List.length_take]; omega
   have hts : tl.size = t.size - (i + o.size) := by rw [Lib.size_eq, htll, List.length_drop, HTL.out]
   rw [hhd, htl] at HC
   have HA2 : Hid ((acc ++ hd.data.toList ++ wt.data.toList) ++ Sw.swp o.data.toList wt.data.toList tl.data.toList = R) := Lib.hid (by
    rw [← HA.out, hsw]
    simp only [List.append_assoc])
   have hN : (acc ++ hd.data.toList ++ wt.data.toList).length = acc.length + hd.size + wt.size := by rw [List.length_append, List.length_append, HWL.out, ← Lib.size_eq]
   have HY1 : Hid (Lib.byteCells acc ++ Lib.strCells hd = Lib.byteCells (acc ++ hd.data.toList)) := Lib.hid (strCells_app acc hd)
   have HY2 : Hid (Lib.byteCells (acc ++ hd.data.toList) ++ Lib.strCells wt = Lib.byteCells (acc ++ hd.data.toList ++ wt.data.toList)) := Lib.hid (strCells_app _ wt)
   have HW1 := Lib.hid (fun v h hz => writeString_any w.heap.size w.heap.size (Lib.byteCells acc) hd v h (by rw [byteCells_len]; omega) hz)
   have HW2 := Lib.hid (fun v h hz => writeString_any w.heap.size w.heap.size (Lib.byteCells (acc ++ hd.data.toList)) wt v h (by rw [byteCells_len, List.length_append, ← Lib.size_eq]; omega) hz)
   obtain ⟨n2, hn2⟩ : ∃ n2, acc.length + hd.size + wt.size = n2 := ⟨_, rfl⟩
   rw [hn2] at hN
   have HLn : Hid (∀ v, Lib.IsBuilder 144 5 w.heap.size w.heap.size (Lib.byteCells (acc ++ hd.data.toList ++ wt.data.toList)) v → Calls Tryz.prog 188 #[.pointer (some ⟨w.heap.size, 0, none⟩)] v fun e v' => e = .returned (.int .i64 (n2 : Int)) ∧ v' = v) := Lib.hid (fun v h => by
    have := Tryz.Builder_Len w.heap.size w.heap.size (Lib.byteCells (acc ++ hd.data.toList ++ wt.data.toList)) v h
    rw [byteCells_len, hN] at this
    exact this)
   have HRL : Hid (n2 ≤ R.length) := Lib.hid (by rw [← HA2.out, List.length_append, hN]; omega)
   have HN := Lib.hid hN
   have hn3 : n2 ≤ 432767 := by omega
   have hlt : tl.size < t.size := by omega
   clear hn2 hN hcut hix hgx hrx hneg HA hsw hdl htll hhd htl hds hts hi
   generalize acc ++ hd.data.toList ++ wt.data.toList = acc2 at *
   go_wp2_with (fail)
   refine (HC.out _ hm).mono ?_
   rintro e w1 ⟨rfl, nd, rfl⟩
   have hb1 : Below w.heap.size w (wr.drewN nd) := hb.trans ⟨rfl, rfl, rfl, Nat.le_refl _, fun _ _ => rfl⟩
   have HB1 : Hid (Lib.IsBuilder 144 5 w.heap.size w.heap.size (Lib.byteCells acc) (wr.drewN nd)) := Lib.hid (isB_drew nd HB.out)
   clear hm HB hb HC
   generalize wr.drewN nd = W1 at *
   go_wp2_with (fail)
   refine (HW1.out _ HB1.out hb1.size).mono ?_
   rintro e w2 ⟨rfl, hB2, hb2⟩
   rw [HY1.out] at hB2
   have hb3 := hb1.trans hb2
   have HB2 := Lib.hid hB2
   clear hB2 hb2 hb1 HB1
   go_wp2_with (fail)
   refine (HW2.out _ (.inr HB2.out) hb3.size).mono ?_
   rintro e w3 ⟨rfl, hB3, hb2⟩
   rw [HY2.out] at hB3
   replace hb3 := hb3.trans hb2
   have HB3 := Lib.hid hB3
   clear hB3 hb2 HB2
   go_wp2_with (fail)
   refine (HLn.out _ (.inr HB3.out)).mono ?_
   rintro e w4 ⟨rfl, rfl⟩
   by_cases hbig : 32767 < n2
   ·obtain ⟨rfl, rfl⟩ := HL1.out (by have := HRL.out; omega)
    go_wp2
    go_ret2
    exact ⟨rfl, hb3⟩
   ·go_wp2
    go_roundw
    case rel => exact ⟨tl, acc2, rfl, by omega, by rw [HN.out]; omega, HA2, Lib.hid (.inr HB3.out), hb3⟩
    case measure => exact hlt
end Go.Proofs.YtpiiemneelkpkaaGreatDoor
namespace Go.Proofs.YtpiiemneelkpkaaGreatDoor
open Go.RowKit
set_option linter.unusedVariables false
structure TxtW (w : World) : Prop where
 tabs : Lib.Utf8Tabs 4 5 w
 max : ∃ m : Int, w.cell? ⟨0, 0, none⟩ = some (.int .i64 m)
 lt : 0 < w.heap.size
theorem TxtW.below {w w' : World} {n : Nat} (h : TxtW w) (hn : n = w.heap.size) (hb : Below n w w') : TxtW w' := by
 subst hn
 obtain ⟨m, hm⟩ := h.max
 exact ⟨Utf8Tabs_below h.tabs hb, ⟨m, (hb.cell (p := ⟨0, 0, none⟩) h.lt).trans hm⟩, Nat.lt_of_lt_of_le h.lt hb.size⟩
namespace Cal
def cE : ByteArray := ⟨#[]⟩
def lenV (s : ByteArray) : Int := (Run.cnt s 0 : Int)
def leftV (s : ByteArray) (n : Int) : ByteArray × Int := if n < 0 then (cE, 1) else (s.extract 0 (Run.adv s n.toNat 0), 0)
def rightV (s : ByteArray) (n : Int) : ByteArray × Int := if n < 0 then (cE, 1) else (s.extract (Run.adv s (Run.cnt s 0 - n.toNat) 0) s.size, 0)
def midV (s : ByteArray) (f n : Int) : ByteArray × Int := if f < 1 ∨ n < 0 then (cE, 1) else (s.extract (Run.adv s (f - 1).toNat 0) (Run.adv s ((f - 1).toNat + n.toNat) 0), 0)
def timesV (s : ByteArray) (n : Int) : ByteArray × Int := if n < 0 then (cE, 1) else timesR s n.toNat
def codeV (s : ByteArray) : Int × Int := if 0 < s.size then (((Utf8.decode s 0).1 : Nat), 0) else (0, 1)
def charV (n : Int) : ByteArray × Int := cond (Lib.validRune n) (Utf8.encode n, 0) (cE, 1)
def swapV (s o t : ByteArray) : ByteArray × Int := if o.size = 0 then (s, 0) else if 32767 < (Sw.swp o.data.toList t.data.toList s.data.toList).length then (cE, 2) else (⟨(Sw.swp o.data.toList t.data.toList s.data.toList).toArray⟩, 0)
def findF (what s : ByteArray) : Nat → Nat → Int × Int
 | k, 0 => cond (Has what s k) ((k : Int) + 1, 0) (0, 3)
 | k, n + 1 => cond (Has what s k) ((k : Int) + 1, 0) (findF what s (k + 1) n)
def findV (what s : ByteArray) (f : Int) : Int × Int := if f < 1 ∨ (Run.cnt s 0 : Int) + 1 < f then (0, 1) else findF what s (f.toNat - 1) (Run.cnt s 0 + 1 - f.toNat)
theorem findF_at (what s : ByteArray) : ∀ (n k j : Nat), k ≤ j → j ≤ k + n → Has what s j = true → (∀ i, k ≤ i → i < j → Has what s i = false) → findF what s k n = ((j : Int) + 1, 0)
 | 0, k, j, h1, h2, h3, h4 => by
  obtain rfl : k = j := by omega
  unfold findF; rw [h3]; rfl
 | n + 1, k, j, h1, h2, h3, h4 => by
  unfold findF
  by_cases e : k = j
  ·subst e; rw [h3]; rfl
  ·rw [h4 k (Nat.le_refl _) (by omega)]
   exact findF_at what s n (k + 1) j (by omega) (by omega) h3 (fun i a b => h4 i (by omega) b)
theorem findF_no (what s : ByteArray) : ∀ (n k : Nat), (∀ i, k ≤ i → i ≤ k + n → Has what s i = false) → findF what s k n = (0, 3)
 | 0, k, h => by unfold findF; rw [h k (Nat.le_refl _) (by omega)]; rfl
 | n + 1, k, h => by
  unfold findF
  rw [h k (Nat.le_refl _) (by omega)]
  exact findF_no what s n (k + 1) (fun i a b => h i (by omega) (by omega))
end Cal
theorem below_same {f : FuncId} {args : Array Value} {v : Value} {w : World} (h : Calls Tryz.prog f args w fun e w' => e = .returned v ∧ w = w') : Ret f args w v :=
 h.mono fun _ _ ⟨he, hw⟩ => ⟨he, hw ▸ Below.refl _ _⟩
theorem has_end (what s : ByteArray) : Has what s (Run.cnt s 0) = what.toList.isEmpty := by
 unfold Has Lib.hasPrefix
 rw [Run.adv_all, List.drop_of_length_le (by rw [← Lib.size_eq]; exact Nat.le_refl _), Lib.toList_data]
 cases what.data.toList <;> rfl
theorem mid_same (s : ByteArray) (m n : Nat) : (s.extract (Run.adv s m 0) s.size).extract 0 (Run.adv (s.extract (Run.adv s m 0) s.size) n 0) = s.extract (Run.adv s m 0) (Run.adv s (m + n) 0) := by
 have hp := Run.adv_le s m 0 (Nat.zero_le _)
 have h1 := Run.adv_tail s (Run.adv s m 0) hp n 0
 rw [Nat.add_zero] at h1
 have h2 := Run.adv_add s m n 0
 have h3 := Run.adv_le s (m + n) 0 (Nat.zero_le _)
 rw [ByteArray.extract_extract]
 congr 1
 omega
theorem tleft (s : ByteArray) (n : Int) (w : World) (hs : s.size ≤ 200000) (hn : n ≤ 9223372036854775807) : Ret 125 #[.string s, .int .i64 n] w (.tuple #[.string (Cal.leftV s n).1, .int .i64 (Cal.leftV s n).2]) := by
 unfold Cal.leftV
 by_cases h : n < 0
 ·rw [if_pos h]; exact left_neg s n h w
 ·rw [if_neg h]
  obtain ⟨n, rfl⟩ := Int.eq_ofNat_of_zero_le (show 0 ≤ n by omega)
  rw [Int.toNat_natCast]
  exact left_any s n _ w (by omega) (by omega) rfl
theorem uleft (s : ByteArray) (n : Int) (w : World) (hs : s.size ≤ 200000) (hn : n ≤ 9223372036854775807) : Ret 156 #[.string s, .int .i64 n] w (.tuple #[.string (Cal.leftV s n).1, .int .i64 (Cal.leftV s n).2]) := by
 unfold Cal.leftV
 by_cases h : n < 0
 ·rw [if_pos h]; exact rleft5_neg s n w h
 ·rw [if_neg h]
  obtain ⟨n, rfl⟩ := Int.eq_ofNat_of_zero_le (show 0 ≤ n by omega)
  rw [Int.toNat_natCast]
  exact rleft5_any s n _ w hs (by omega) rfl
theorem tright (s : ByteArray) (n : Int) (w : World) (hs : s.size ≤ 200000) (hn : n ≤ 9223372036854775807) : Ret 128 #[.string s, .int .i64 n] w (.tuple #[.string (Cal.rightV s n).1, .int .i64 (Cal.rightV s n).2]) := by
 unfold Cal.rightV
 by_cases h : n < 0
 ·rw [if_pos h]; exact right_neg s n h w
 ·rw [if_neg h]
  obtain ⟨n, rfl⟩ := Int.eq_ofNat_of_zero_le (show 0 ≤ n by omega)
  rw [Int.toNat_natCast]
  exact right_any s n _ w (by omega) (by omega) rfl
theorem uright (s : ByteArray) (n : Int) (w : World) (hs : s.size ≤ 200000) (hn : n ≤ 9223372036854775807) : Ret 157 #[.string s, .int .i64 n] w (.tuple #[.string (Cal.rightV s n).1, .int .i64 (Cal.rightV s n).2]) := by
 unfold Cal.rightV
 by_cases h : n < 0
 ·rw [if_pos h]; exact rright5_neg s n w h
 ·rw [if_neg h]
  obtain ⟨n, rfl⟩ := Int.eq_ofNat_of_zero_le (show 0 ≤ n by omega)
  rw [Int.toNat_natCast]
  exact rright5_any s n _ w hs (by omega) rfl
theorem ttimes (s : ByteArray) (n : Int) (w : World) (hs : s.size ≤ 200000) (hn : n ≤ 9223372036854775807) : Ret 142 #[.string s, .int .i64 n] w (.tuple #[.string (Cal.timesV s n).1, .int .i64 (Cal.timesV s n).2]) := by
 unfold Cal.timesV
 by_cases h : n < 0
 ·rw [if_pos h]; exact times_neg s n w h
 ·rw [if_neg h]
  obtain ⟨n, rfl⟩ := Int.eq_ofNat_of_zero_le (show 0 ≤ n by omega)
  rw [Int.toNat_natCast]
  exact times_any s n w (by omega) (by omega)
theorem utimes (s : ByteArray) (n : Int) (w : World) (hs : s.size ≤ 200000) (hn : n ≤ 9223372036854775807) : Ret 166 #[.string s, .int .i64 n] w (.tuple #[.string (Cal.timesV s n).1, .int .i64 (Cal.timesV s n).2]) := by
 unfold Cal.timesV
 by_cases h : n < 0
 ·rw [if_pos h]; exact rtimes_neg s n w h
 ·rw [if_neg h]
  obtain ⟨n, rfl⟩ := Int.eq_ofNat_of_zero_le (show 0 ≤ n by omega)
  rw [Int.toNat_natCast]
  exact rtimes_any s n w
theorem tmid (s : ByteArray) (f n : Int) (w : World) (hs : s.size ≤ 200000) (hn : n ≤ 9223372036854775807) (hf : f ≤ 9223372036854775807) : Ret 130 #[.string s, .int .i64 f, .int .i64 n] w (.tuple #[.string (Cal.midV s f n).1, .int .i64 (Cal.midV s f n).2]) := by
 unfold Cal.midV
 by_cases h1 : f < 1
 ·rw [if_pos (.inl h1)]; exact mid_far s f n h1 w
 by_cases h2 : n < 0
 ·rw [if_pos (.inr h2)]; exact mid_neg s f n h1 h2 w
 ·rw [if_neg (by omega)]
  obtain ⟨n, rfl⟩ := Int.eq_ofNat_of_zero_le (show 0 ≤ n by omega)
  obtain ⟨f, hf⟩ : ∃ k : Nat, f = (k : Int) + 1 := ⟨(f - 1).toNat, by omega⟩
  subst hf
  rw [Int.toNat_natCast, show ((f : Int) + 1 - 1).toNat = f by omega]
  rw [← mid_same]
  exact mid_any s _ f n _ _ w (by omega) (by omega) (by omega) rfl rfl rfl
theorem umid (s : ByteArray) (f n : Int) (w : World) (hs : s.size ≤ 200000) (hn : n ≤ 9223372036854775807) (hf : f ≤ 9223372036854775807) : Ret 158 #[.string s, .int .i64 f, .int .i64 n] w (.tuple #[.string (Cal.midV s f n).1, .int .i64 (Cal.midV s f n).2]) := by
 unfold Cal.midV
 by_cases h1 : f < 1
 ·rw [if_pos (.inl h1)]; exact rmid5_far s f n h1 w
 by_cases h2 : n < 0
 ·rw [if_pos (.inr h2)]; exact rmid5_neg s f n h1 h2 w
 ·rw [if_neg (by omega)]
  obtain ⟨n, rfl⟩ := Int.eq_ofNat_of_zero_le (show 0 ≤ n by omega)
  obtain ⟨f, hf⟩ : ∃ k : Nat, f = (k : Int) + 1 := ⟨(f - 1).toNat, by omega⟩
  subst hf
  rw [Int.toNat_natCast, show ((f : Int) + 1 - 1).toNat = f by omega]
  exact rmid5_any s f n _ _ w hs (by omega) (by omega) rfl rfl
theorem tfind (what s : ByteArray) (f : Int) (w : World) (hs : s.size ≤ 200000) : Ret 137 #[.string what, .string s, .int .i64 f] w (.tuple #[.int .i64 (Cal.findV what s f).1, .int .i64 (Cal.findV what s f).2]) := by
 unfold Cal.findV
 by_cases hf : f < 1 ∨ (Run.cnt s 0 : Int) + 1 < f
 ·rw [if_pos hf]; exact find_arg what s f w (by omega) hf
 ·rw [if_neg hf]
  obtain ⟨f, rfl⟩ := Int.eq_ofNat_of_zero_le (show 0 ≤ f by omega)
  have h1 : 1 ≤ f := by omega
  have h2 : f ≤ Run.cnt s 0 + 1 := by omega
  have hend := has_end what s
  rw [Int.toNat_natCast]
  refine find_walk what s f _ _ w (by omega) h1 h2 (fun j a b c d => ?_) (fun hno => ?_)
  ·rw [Cal.findF_at what s _ _ j (by omega) (by omega) c (fun i x y => d i y (by omega))]
   exact ⟨rfl, rfl⟩
  ·cases he : what.toList.isEmpty with
   | true =>
    refine .inl ⟨rfl, ?_⟩
    rw [Cal.findF_at what s _ _ (Run.cnt s 0) (by omega) (by omega) (hend.trans he) (fun i x y => hno i y (by omega))]
    exact ⟨rfl, rfl⟩
   | false =>
    refine .inr ⟨rfl, fun e => (by rw [e] at he; cases he), ?_⟩
    rw [Cal.findF_no what s _ _ (fun i x y => ?_)]
    ·exact ⟨rfl, rfl⟩
    ·by_cases e : i = Run.cnt s 0
     ·rw [e, hend]; exact he
     ·exact hno i (by omega) (by omega)
theorem ufind (what s : ByteArray) (f : Int) (w : World) (hs : s.size ≤ 200000) : Ret 163 #[.string what, .string s, .int .i64 f] w (.tuple #[.int .i64 (Cal.findV what s f).1, .int .i64 (Cal.findV what s f).2]) := by
 unfold Cal.findV
 by_cases hf : f < 1 ∨ (Run.cnt s 0 : Int) + 1 < f
 ·rw [if_pos hf]; exact rfind_arg what s f w hs hf
 ·rw [if_neg hf]
  obtain ⟨f, rfl⟩ := Int.eq_ofNat_of_zero_le (show 0 ≤ f by omega)
  rw [Int.toNat_natCast]
  refine rfind_walk what s f _ _ w hs (by omega) (by omega) (fun j a b c d => ?_) (fun hno => ?_)
  ·rw [Cal.findF_at what s _ _ j (by omega) (by omega) c (fun i x y => d i y (by omega))]
   exact ⟨rfl, rfl⟩
  ·rw [Cal.findF_no what s _ _ (fun i x y => hno i (by omega) (by omega))]
   exact ⟨rfl, rfl⟩
theorem tchar (n : Int) (w : World) : Ret 147 #[.int .i64 n] w (.tuple #[.string (Cal.charV n).1, .int .i64 (Cal.charV n).2]) := by
 unfold Cal.charV
 cases hv : Lib.validRune n with
 | true =>
  have h := valid_iff.1 hv
  exact below_same (char_ok n w (by omega) (by omega) hv)
 | false =>
  by_cases h : n < 0 ∨ 1114111 < n
  ·exact below_same (char_far n w h)
  ·exact below_same (char_bad n w (by omega) (by omega) hv)
theorem uchar (n : Int) (w : World) : Ret 83 #[.int .i64 n] w (.tuple #[.string (Cal.charV n).1, .int .i64 (Cal.charV n).2]) := by
 unfold Cal.charV
 cases hv : Lib.validRune n with
 | true =>
  have h := valid_iff.1 hv
  obtain ⟨n, rfl⟩ := Int.eq_ofNat_of_zero_le (show 0 ≤ n by omega)
  simp only [cond_true]
  exact rchar_any n w hv
 | false =>
  have h2 : ¬ ((0 ≤ n ∧ n < 55296) ∨ (57343 < n ∧ n ≤ 1114111)) := fun h => by
   have := valid_iff.2 h
   rw [hv] at this
   cases this
  by_cases h0 : n < 0
  ·exact rchar_neg n w h0
  by_cases h1 : 1114111 < n
  ·exact rchar_far n w h1
  ·exact rchar_mid n w (by omega) (by omega)
theorem tcode (s : ByteArray) (w : World) (hs : s.size ≤ 200000) : Ret 145 #[.string s] w (.tuple #[.int .i64 (Cal.codeV s).1, .int .i64 (Cal.codeV s).2]) := by
 unfold Cal.codeV
 by_cases hz : 0 < s.size
 ·rw [if_pos hz]; exact code_any s _ w (by omega) hz rfl
 ·rw [if_neg hz]; exact code_none s w hz
theorem ucode (s : ByteArray) (w : World) (hs : s.size ≤ 200000) : Ret 167 #[.string s] w (.tuple #[.int .i64 (Cal.codeV s).1, .int .i64 (Cal.codeV s).2]) := by
 have hl : s.toList.length = s.size := by rw [Lib.toList_data, ← Lib.size_eq]
 unfold Cal.codeV
 by_cases hz : 0 < s.size
 ·rw [if_pos hz]
  have h1 : ¬ s.toList = [] := fun e => by rw [e] at hl; simp at hl; omega
  exact rcode_some s w (by omega) h1 (by simpa using h1) hz
 ·rw [if_neg hz]
  have h1 : s.toList = [] := List.eq_nil_of_length_eq_zero (by omega)
  exact rcode_none s w h1 (by rw [h1]; rfl)
theorem tswap (s o t : ByteArray) (w : World) (hs : s.size ≤ 200000) (ho : o.size ≤ 200000) (ht : t.size ≤ 200000) (hW : TxtW w) : Ret 139 #[.string s, .string o, .string t] w (.tuple #[.string (Cal.swapV s o t).1, .int .i64 (Cal.swapV s o t).2]) := by
 have hl : o.toList.length = o.size := by rw [Lib.toList_data, ← Lib.size_eq]
 obtain ⟨m, hm⟩ := hW.max
 unfold Cal.swapV
 by_cases h0 : o.size = 0
 ·rw [if_pos h0]
  have h1 : o.toList = [] := List.eq_nil_of_length_eq_zero (by omega)
  exact swap_none s o t w h1 (by rw [h1]; rfl)
 ·rw [if_neg h0]
  have h1 : ¬ o.toList = [] := fun e => by rw [e] at hl; simp at hl; omega
  by_cases hl2 : 32767 < (Sw.swp o.data.toList t.data.toList s.data.toList).length
  ·rw [if_pos hl2]
   exact swap_walk s o t _ _ m w hs ht h1 (by simpa using h1) (by omega) ho hm hW.lt (fun _ => ⟨rfl, rfl⟩) (fun h => absurd hl2 h)
  ·rw [if_neg hl2]
   exact swap_walk s o t _ _ m w hs ht h1 (by simpa using h1) (by omega) ho hm hW.lt (fun h => absurd h hl2) (fun _ => ⟨rfl, rfl⟩)
theorem uswap (s o t : ByteArray) (w : World) (hs : s.size ≤ 200000) (ho : o.size ≤ 200000) (ht : t.size ≤ 200000) : Ret 164 #[.string s, .string o, .string t] w (.tuple #[.string (Cal.swapV s o t).1, .int .i64 (Cal.swapV s o t).2]) := by
 have hl : o.toList.length = o.size := by rw [Lib.toList_data, ← Lib.size_eq]
 unfold Cal.swapV
 by_cases h0 : o.size = 0
 ·rw [if_pos h0]
  have h1 : o.toList = [] := List.eq_nil_of_length_eq_zero (by omega)
  exact rswap_none s o t w h1 (by rw [h1]; rfl)
 ·rw [if_neg h0]
  have h1 : ¬ o.toList = [] := fun e => by rw [e] at hl; simp at hl; omega
  by_cases hl2 : 32767 < (Sw.swp o.data.toList t.data.toList s.data.toList).length
  ·rw [if_pos hl2]
   exact rswap_walk s o t _ _ w hs ht h1 (by simpa using h1) (by omega) ho (fun _ => ⟨rfl, rfl⟩) (fun h => absurd hl2 h)
  ·rw [if_neg hl2]
   exact rswap_walk s o t _ _ w hs ht h1 (by simpa using h1) (by omega) ho (fun h => absurd h hl2) (fun _ => ⟨rfl, rfl⟩)
end Go.Proofs.YtpiiemneelkpkaaGreatDoor
