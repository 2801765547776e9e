/- The walk of quadrillelaw5.RunesHalves. -/
import Derived.Test.YtdbjmjeiaajdiaaDoorRunG
namespace Go.Proofs.YtdbjmjeiaajdiaaDoor
open Go.RowKit
set_option linter.unusedVariables false

def shortS (s : ByteArray) : ByteArray := if 200000 < s.size then s.extract 0 200000 else s
theorem shortS_size (s : ByteArray) : (shortS s).size ≤ 200000 := by
  unfold shortS
  by_cases h : 200000 < s.size
  · rw [if_pos h, ByteArray.size_extract]; omega
  · rw [if_neg h]; omega
theorem short_any (s : ByteArray) (w : World) (hs : s.size ≤ 140737488351232) :
    Calls Tryd.prog 40 #[.string s] w fun e w' => e = .returned (.string (shortS s)) ∧ w = w' := by
  unfold shortS
  by_cases h : 200000 < s.size
  · rw [if_pos h]
    go_enter Tryd.func40, Tryd.ntmps40
    go_wp2
    go_ret
    exact ⟨rfl, rfl⟩
  · rw [if_neg h]
    go_enter Tryd.func40, Tryd.ntmps40
    go_wp2
    go_ret
    exact ⟨rfl, rfl⟩

theorem cut_join (t : ByteArray) (q : Nat) (h : q ≤ t.size) : t.extract 0 q ++ t.extract q t.size = t := by
  have hl : t.data.toList.length = t.size := by rw [← Lib.size_eq]
  apply ByteArray.ext
  rw [ByteArray.data_append, ByteArray.data_extract, ByteArray.data_extract]
  apply Array.ext'
  rw [Array.toList_append, Array.toList_extract, Array.toList_extract]
  generalize t.data.toList = l at *
  rw [← hl]
  simp only [List.extract_eq_take_drop, Nat.sub_zero, List.drop_zero]
  rw [List.take_of_length_le (l := l.drop q) (by rw [List.length_drop]; exact Nat.le_refl _)]
  exact List.take_append_drop q l
theorem cut_cut (t : ByteArray) (q q2 : Nat) (h : q + q2 ≤ t.size) : (t.extract q t.size).extract 0 q2 = t.extract q (q + q2) := by
  rw [ByteArray.extract_extract]
  congr 1
  omega
theorem cut_join3 (t : ByteArray) (q q2 : Nat) (h : q + q2 ≤ t.size) : t.extract 0 q ++ (t.extract q t.size).extract 0 q2 ++ t.extract (q + q2) t.size = t := by
  rw [cut_cut t q q2 h]
  have e : t.extract 0 q ++ t.extract q (q + q2) = t.extract 0 (q + q2) := by
    have := cut_join (t.extract 0 (q + q2)) q (by rw [ByteArray.size_extract]; omega)
    rw [ByteArray.extract_extract, ByteArray.extract_extract, ByteArray.size_extract] at this
    rw [show min (0 + q) (q + q2) = q by omega, show 0 + 0 = 0 from rfl, show min (0 + (min (q + q2) t.size - 0)) (q + q2) = q + q2 by omega, show 0 + q = q from Nat.zero_add q] at this
    exact this
  rw [e]
  exact cut_join t _ h

theorem tmod_nat (n c : Nat) : (n : Int).tmod ((c : Int) + 1) = ((n % (c + 1) : Nat) : Int) := by
  rw [Int.tmod_eq_emod_of_nonneg (by omega)]
  push_cast
  rfl
end Go.Proofs.YtdbjmjeiaajdiaaDoor
