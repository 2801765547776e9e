/- The contract of runes.Times; the walk of quadrillelaw5.RunesTimes. -/
import Derived.Test.YtdbjmjeiaajdiaaDoorRunH
import Derived.Test.YtdbjmjeiaajdiaaDoorShRep
namespace Go.Proofs.YtdbjmjeiaajdiaaDoor
open Go.RowKit
set_option linter.unusedVariables false

theorem toList_len (s : ByteArray) : s.toList.length = s.size := by rw [Lib.toList_data, ← Lib.size_eq]
def rep (s : ByteArray) (n : Nat) : ByteArray := ⟨(Lib.repeatL s.data.toList n).toArray⟩
/-- What Times answers, the count no less than 0. -/
def timesR (s : ByteArray) (n : Nat) : ByteArray × Int := if s.size = 0 then (⟨#[]⟩, 0) else if 32767 < s.size * n then (⟨#[]⟩, 2) else (rep s n, 0)

theorem times_any (s : ByteArray) (n : Nat) (w : World) (hs : s.size ≤ 140737488351232) (hn : n ≤ 9223372036854775807) :
    Calls Tryd.prog 79 #[.string s, .int .i64 (n : Int)] w fun e w' => e = .returned (.tuple #[.string (timesR s n).1, .int .i64 (timesR s n).2]) ∧ Below w.heap.size w w' := by
  unfold timesR
  by_cases h0 : s.size = 0
  · have hl2 : s.toList = [] := List.eq_nil_of_length_eq_zero (by rw [toList_len]; exact h0)
    have hl : s.toList.isEmpty = true := by rw [hl2]; rfl
    simp only [if_pos h0]
    clear h0
    go_enter Tryd.func79, Tryd.ntmps79
    go_wp2
    go_ret2
    exact ⟨rfl, Below.refl _ _⟩
  · simp only [if_neg h0]
    have hl2 : ¬ s.toList = [] := fun e => h0 (by rw [← toList_len, e]; rfl)
    have hl : s.toList.isEmpty = false := by simpa using hl2
    have td : (32767 : Int).tdiv (s.size : Int) = ((32767 / s.size : Nat) : Int) := by rw [Int.tdiv_eq_ediv_of_nonneg (by omega)]; rfl
    have tz : ((s.size : Int) == 0) = false := by rw [beq_eq_false_iff_ne]; omega
    by_cases h1 : 32767 < s.size * n
    · simp only [if_pos h1]
      have hq : 32767 / s.size < n := (Nat.div_lt_iff_lt_mul (by omega)).2 (by rw [Nat.mul_comm]; exact h1)
      have hq2 : 32767 / s.size ≤ 32767 := Nat.div_le_self _ _
      generalize 32767 / s.size = q at *
      clear h1
      go_enter Tryd.func79, Tryd.ntmps79
      go_wp2
      go_ret2
      exact ⟨rfl, Below.refl _ _⟩
    · simp only [if_neg h1]
      have hq : n ≤ 32767 / s.size := (Nat.le_div_iff_mul_le (by omega)).2 (by rw [Nat.mul_comm]; omega)
      have hq2 : 32767 / s.size ≤ 32767 := Nat.div_le_self _ _
      have HR := Lib.hid (fun w => Tryd.strings_Repeat s n w hn (by omega))
      generalize 32767 / s.size = q at *
      clear h1
      unfold rep
      go_enter Tryd.func79, Tryd.ntmps79
      go_wp2_with (fail)
      refine (HR.out _).mono ?_
      rintro e w1 ⟨rfl, hb1⟩
      go_wp2
      go_ret2
      exact ⟨rfl, hb1⟩

theorem rep_size (s : ByteArray) (n : Nat) : (rep s n).size = s.size * n := by
  rw [Lib.size_eq, rep, Lib.repeatL_length, Nat.mul_comm, ← Lib.size_eq]
theorem rep_add (s : ByteArray) (n m : Nat) : rep s n ++ rep s m = rep s (n + m) := by
  apply ByteArray.ext
  rw [ByteArray.data_append]
  unfold rep
  simp [Lib.repeatL_add]
end Go.Proofs.YtdbjmjeiaajdiaaDoor
