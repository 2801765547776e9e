/- quadrilleref5: Len, Left, Right, Mid, Code, begins, Find. -/
import Derived.Test.YtdbjmjeiaajdiaaDoorR5B
namespace Go.Proofs.YtdbjmjeiaajdiaaDoor
open Go.RowKit
set_option linter.unusedVariables false
theorem rlen5_any (s : ByteArray) (w : World) (hs : s.size ≤ 200000) :
    Calls Tryd.prog 41 #[.string s] w fun e w' => e = .returned (.int .i64 (Run.cnt s 0 : Int)) ∧ Below w.heap.size w w' := by
  have hcl := Run.cnt_le_size s
  have HS := Lib.hid (fun w => starts_any s w hs)
  generalize Run.cnt s 0 = c at *
  go_enter Tryd.func41, Tryd.ntmps41
  go_wp2_with (fail)
  refine (HS.out _).mono ?_
  rintro e w1 ⟨g, cap, rfl, hst, hb⟩
  clear hst
  go_wp2
  go_ret
  exact ⟨rfl, hb⟩
theorem rleft5_neg (s : ByteArray) (n : Int) (w : World) (h : n < 0) :
    Calls Tryd.prog 80 #[.string s, .int .i64 n] w fun e w' => e = .returned (.tuple #[.string ⟨#[]⟩, .int .i64 1]) ∧ Below w.heap.size w w' := by
  have t1 : decide (n < 0) = true := decide_eq_true h
  go_enter Tryd.func80, Tryd.ntmps80
  go_wp2
  go_ret2
  exact ⟨rfl, Below.refl _ _⟩
theorem rleft5_any (s : ByteArray) (n q : Nat) (w : World) (hs : s.size ≤ 200000) (hn : n ≤ 9223372036854775807) (hq : Run.adv s n 0 = q) :
    Calls Tryd.prog 80 #[.string s, .int .i64 (n : Int)] w fun e w' => e = .returned (.tuple #[.string (s.extract 0 q), .int .i64 0]) ∧ Below w.heap.size w w' := by
  have hql : q ≤ s.size := by rw [← hq]; exact Run.adv_le s n 0 (by omega)
  have hcl := Run.cnt_le_size s
  have HS := Lib.hid (fun w => starts_any s w hs)
  have hover := fun h : Run.cnt s 0 ≤ n => Run.adv_over s n h
  unfold StartsAt at HS
  have hall := Run.adv_all s
  by_cases h : n ≤ Run.cnt s 0
  · have HC : Hid (∀ (g : Nat) (w1 : World), (∀ j, j ≤ Run.cnt s 0 → w1.cell? ⟨g, j, none⟩ = some (.int .i64 (Run.adv s j 0 : Int))) → w1.cell? ⟨g, n, none⟩ = some (.int .i64 (q : Int))) := Lib.hid (fun g w1 hc => by rw [hc n h, hq])
    clear hover hall hq
    generalize Run.cnt s 0 = c at *
    have hmin : min (n : Int) (c : Int) = (n : Int) := by omega
    go_enter Tryd.func80, Tryd.ntmps80
    go_wp2_with (fail)
    refine (HS.out _).mono ?_
    rintro e w1 ⟨g, cap, rfl, ⟨_, _, _, hst⟩, hb⟩
    have hc := HC.out g w1 hst
    clear hst
    go_wp2
    go_ret2
    exact ⟨rfl, hb⟩
  · have hqs : q = s.size := by rw [← hq]; exact hover (by omega)
    subst hqs
    rw [show s.extract 0 s.size = s by simp]
    have HC : Hid (∀ (g : Nat) (w1 : World), (∀ j, j ≤ Run.cnt s 0 → w1.cell? ⟨g, j, none⟩ = some (.int .i64 (Run.adv s j 0 : Int))) → w1.cell? ⟨g, Run.cnt s 0, none⟩ = some (.int .i64 (s.size : Int))) := Lib.hid (fun g w1 hc => by rw [hc _ (Nat.le_refl _), hall])
    clear hover hall hq
    generalize Run.cnt s 0 = c at *
    have hmin : min (n : Int) (c : Int) = (c : Int) := by omega
    go_enter Tryd.func80, Tryd.ntmps80
    go_wp2_with (fail)
    refine (HS.out _).mono ?_
    rintro e w1 ⟨g, cap, rfl, ⟨_, _, _, hst⟩, hb⟩
    have hc := HC.out g w1 hst
    clear hst
    go_wp2
    go_ret2
    exact ⟨rfl, hb⟩
theorem rright5_neg (s : ByteArray) (n : Int) (w : World) (h : n < 0) :
    Calls Tryd.prog 81 #[.string s, .int .i64 n] w fun e w' => e = .returned (.tuple #[.string ⟨#[]⟩, .int .i64 1]) ∧ Below w.heap.size w w' := by
  have t1 : decide (n < 0) = true := decide_eq_true h
  go_enter Tryd.func81, Tryd.ntmps81
  go_wp2
  go_ret2
  exact ⟨rfl, Below.refl _ _⟩
theorem rright5_any (s : ByteArray) (n p : Nat) (w : World) (hs : s.size ≤ 200000) (hn : n ≤ 9223372036854775807) (hp : Run.adv s (Run.cnt s 0 - n) 0 = p) :
    Calls Tryd.prog 81 #[.string s, .int .i64 (n : Int)] w fun e w' => e = .returned (.tuple #[.string (s.extract p s.size), .int .i64 0]) ∧ Below w.heap.size w w' := by
  have hpl : p ≤ s.size := by rw [← hp]; exact Run.adv_le s _ 0 (by omega)
  have hcl := Run.cnt_le_size s
  have HS := Lib.hid (fun w => starts_any s w hs)
  unfold StartsAt at HS
  obtain ⟨m, hm⟩ : ∃ m, Run.cnt s 0 - n = m := ⟨_, rfl⟩
  have HC : Hid (∀ (g : Nat) (w1 : World), (∀ j, j ≤ Run.cnt s 0 → w1.cell? ⟨g, j, none⟩ = some (.int .i64 (Run.adv s j 0 : Int))) → w1.cell? ⟨g, m, none⟩ = some (.int .i64 (p : Int))) := Lib.hid (fun g w1 hc => by rw [hc m (by omega), ← hm, hp])
  clear hp
  generalize Run.cnt s 0 = c at *
  by_cases h : n ≤ c
  · have e1 : (c : Int) - (n : Int) = (m : Int) := by omega
    have hmin : min (n : Int) (c : Int) = (n : Int) := by omega
    have hm1 : m ≤ c := by omega
    clear hm h
    go_enter Tryd.func81, Tryd.ntmps81
    go_wp2_with (fail)
    refine (HS.out _).mono ?_
    rintro e w1 ⟨g, cap, rfl, ⟨_, _, _, hst⟩, hb⟩
    have hc := HC.out g w1 hst
    clear hst
    go_wp2
    go_ret2
    exact ⟨rfl, hb⟩
  · obtain rfl : m = 0 := by omega
    have hmin : min (n : Int) (c : Int) = (c : Int) := by omega
    clear hm h
    go_enter Tryd.func81, Tryd.ntmps81
    go_wp2_with (fail)
    refine (HS.out _).mono ?_
    rintro e w1 ⟨g, cap, rfl, ⟨_, _, _, hst⟩, hb⟩
    have hc := HC.out g w1 hst
    clear hst
    go_wp2
    go_ret2
    exact ⟨rfl, hb⟩
theorem left_neg (s : ByteArray) (n : Int) (h : n < 0) (w : World) : Calls Tryd.prog 33 #[.string s, .int .i64 n] w fun e w' => e = .returned (.tuple #[.string ⟨#[]⟩, .int .i64 1]) ∧ Below w.heap.size w w' := by
  have t1 : decide (n < 0) = true := decide_eq_true h
  go_enter Tryd.func33, Tryd.ntmps33
  go_wp2
  go_ret2
  exact ⟨rfl, Below.refl _ _⟩
theorem right_neg (s : ByteArray) (n : Int) (h : n < 0) (w : World) : Calls Tryd.prog 73 #[.string s, .int .i64 n] w fun e w' => e = .returned (.tuple #[.string ⟨#[]⟩, .int .i64 1]) ∧ Below w.heap.size w w' := by
  have t1 : decide (n < 0) = true := decide_eq_true h
  go_enter Tryd.func73, Tryd.ntmps73
  go_wp2
  go_ret2
  exact ⟨rfl, Below.refl _ _⟩
theorem mid_far (s : ByteArray) (f n : Int) (h : f < 1) (w : World) : Calls Tryd.prog 74 #[.string s, .int .i64 f, .int .i64 n] w fun e w' => e = .returned (.tuple #[.string ⟨#[]⟩, .int .i64 1]) ∧ Below w.heap.size w w' := by
  have t1 : decide (f < 1) = true := decide_eq_true h
  go_enter Tryd.func74, Tryd.ntmps74
  go_wp2
  go_ret2
  exact ⟨rfl, Below.refl _ _⟩
theorem mid_neg (s : ByteArray) (f n : Int) (h : ¬ f < 1) (h2 : n < 0) (w : World) : Calls Tryd.prog 74 #[.string s, .int .i64 f, .int .i64 n] w fun e w' => e = .returned (.tuple #[.string ⟨#[]⟩, .int .i64 1]) ∧ Below w.heap.size w w' := by
  have t1 : decide (f < 1) = false := decide_eq_false h
  have t2 : decide (n < 0) = true := decide_eq_true h2
  go_enter Tryd.func74, Tryd.ntmps74
  go_wp2
  go_ret2
  exact ⟨rfl, Below.refl _ _⟩
theorem rmid5_far (s : ByteArray) (f n : Int) (h : f < 1) (w : World) : Calls Tryd.prog 82 #[.string s, .int .i64 f, .int .i64 n] w fun e w' => e = .returned (.tuple #[.string ⟨#[]⟩, .int .i64 1]) ∧ Below w.heap.size w w' := by
  have t1 : decide (f < 1) = true := decide_eq_true h
  go_enter Tryd.func82, Tryd.ntmps82
  go_wp2
  go_ret2
  exact ⟨rfl, Below.refl _ _⟩
theorem rmid5_neg (s : ByteArray) (f n : Int) (h : ¬ f < 1) (h2 : n < 0) (w : World) : Calls Tryd.prog 82 #[.string s, .int .i64 f, .int .i64 n] w fun e w' => e = .returned (.tuple #[.string ⟨#[]⟩, .int .i64 1]) ∧ Below w.heap.size w w' := by
  have t1 : decide (f < 1) = false := decide_eq_false h
  have t2 : decide (n < 0) = true := decide_eq_true h2
  go_enter Tryd.func82, Tryd.ntmps82
  go_wp2
  go_ret2
  exact ⟨rfl, Below.refl _ _⟩
set_option maxHeartbeats 400000 in
theorem rmid5_out (s : ByteArray) (m n p r : Nat) (w : World) (hs : s.size ≤ 200000) (hm : m ≤ 9223372036854775806) (hn : n ≤ 9223372036854775807) (hp : Run.adv s m 0 = p) (hr : Run.adv s (m + n) 0 = r) (h : Run.cnt s 0 ≤ m) :
    Calls Tryd.prog 82 #[.string s, .int .i64 ((m : Int) + 1), .int .i64 (n : Int)] w fun e w' => e = .returned (.tuple #[.string ⟨#[]⟩, .int .i64 0]) ∧ Below w.heap.size w w' := by
  have hpl : p ≤ s.size := by rw [← hp]; exact Run.adv_le s m 0 (by omega)
  have hrl : r ≤ s.size := by rw [← hr]; exact Run.adv_le s (m + n) 0 (by omega)
  have hpr : p ≤ r := by rw [← hp, ← hr, Run.adv_add]; exact Run.adv_ge s n _
  have hcl := Run.cnt_le_size s
  have HS := Lib.hid (fun w => starts_any s w hs)
  unfold StartsAt at HS
  clear hp hr
  generalize Run.cnt s 0 = c at *
  have e1 : (m : Int) + 1 - 1 = (m : Int) := by omega
  have h1 : (c : Int) < (m : Int) + 1 := by omega
  go_enter Tryd.func82, Tryd.ntmps82
  go_wp2_with (fail)
  refine (HS.out _).mono ?_
  rintro e w1 ⟨g, cap, rfl, ⟨_, _, _, hst⟩, hb⟩
  clear hst
  go_wp2
  go_ret2
  exact ⟨rfl, hb⟩
set_option maxHeartbeats 400000 in
theorem rmid5_in (s : ByteArray) (m n p r : Nat) (w : World) (hs : s.size ≤ 200000) (hm : m ≤ 9223372036854775806) (hn : n ≤ 9223372036854775807) (hp : Run.adv s m 0 = p) (hr : Run.adv s (m + n) 0 = r) (h : m < Run.cnt s 0) (h2 : m + n < Run.cnt s 0) :
    Calls Tryd.prog 82 #[.string s, .int .i64 ((m : Int) + 1), .int .i64 (n : Int)] w fun e w' => e = .returned (.tuple #[.string (s.extract p r), .int .i64 0]) ∧ Below w.heap.size w w' := by
  have hpl : p ≤ s.size := by rw [← hp]; exact Run.adv_le s m 0 (by omega)
  have hrl : r ≤ s.size := by rw [← hr]; exact Run.adv_le s (m + n) 0 (by omega)
  have hpr : p ≤ r := by rw [← hp, ← hr, Run.adv_add]; exact Run.adv_ge s n _
  have hcl := Run.cnt_le_size s
  have HS := Lib.hid (fun w => starts_any s w hs)
  unfold StartsAt at HS
  obtain ⟨x, hx⟩ : ∃ x, m + n = x := ⟨_, rfl⟩
  have HC : Hid (∀ (g : Nat) (w1 : World), (∀ j, j ≤ Run.cnt s 0 → w1.cell? ⟨g, j, none⟩ = some (.int .i64 (Run.adv s j 0 : Int))) → w1.cell? ⟨g, m, none⟩ = some (.int .i64 (p : Int))) := Lib.hid (fun g w1 hc => by rw [hc m (by omega), hp])
  have HD : Hid (∀ (g : Nat) (w1 : World), (∀ j, j ≤ Run.cnt s 0 → w1.cell? ⟨g, j, none⟩ = some (.int .i64 (Run.adv s j 0 : Int))) → w1.cell? ⟨g, x, none⟩ = some (.int .i64 (r : Int))) := Lib.hid (fun g w1 hc => by rw [hc x (by omega), ← hx, hr])
  clear hp hr
  generalize Run.cnt s 0 = c at *
  have e1 : (m : Int) + 1 - 1 = (m : Int) := by omega
  have h1 : ¬ (c : Int) < (m : Int) + 1 := by omega
  have h3 : (n : Int) < (c : Int) - (m : Int) := by omega
  have e2 : (m : Int) + (n : Int) = (x : Int) := by omega
  have hxc : x < c := by omega
  clear hx h2
  go_enter Tryd.func82, Tryd.ntmps82
  go_wp2_with (fail)
  refine (HS.out _).mono ?_
  rintro e w1 ⟨g, cap, rfl, ⟨_, _, _, hst⟩, hb⟩
  have hc : w1.drew.cell? _ = _ := HC.out g w1 hst
  have hd : w1.drew.cell? _ = _ := HD.out g w1 hst
  clear hst
  go_wp2
  go_region
  go_wp2
  go_ret2
  exact ⟨rfl, hb.drew⟩
set_option maxHeartbeats 400000 in
theorem rmid5_all (s : ByteArray) (m n p r : Nat) (w : World) (hs : s.size ≤ 200000) (hm : m ≤ 9223372036854775806) (hn : n ≤ 9223372036854775807) (hp : Run.adv s m 0 = p) (hr : Run.adv s (m + n) 0 = r) (h : m < Run.cnt s 0) (h2 : Run.cnt s 0 ≤ m + n) :
    Calls Tryd.prog 82 #[.string s, .int .i64 ((m : Int) + 1), .int .i64 (n : Int)] w fun e w' => e = .returned (.tuple #[.string (s.extract p r), .int .i64 0]) ∧ Below w.heap.size w w' := by
  have hpl : p ≤ s.size := by rw [← hp]; exact Run.adv_le s m 0 (by omega)
  have hrl : r ≤ s.size := by rw [← hr]; exact Run.adv_le s (m + n) 0 (by omega)
  have hpr : p ≤ r := by rw [← hp, ← hr, Run.adv_add]; exact Run.adv_ge s n _
  have hcl := Run.cnt_le_size s
  have HS := Lib.hid (fun w => starts_any s w hs)
  unfold StartsAt at HS
  have hall : r = s.size := by rw [← hr]; exact Run.adv_over s _ h2
  have hall2 := Run.adv_all s
  have HC : Hid (∀ (g : Nat) (w1 : World), (∀ j, j ≤ Run.cnt s 0 → w1.cell? ⟨g, j, none⟩ = some (.int .i64 (Run.adv s j 0 : Int))) → w1.cell? ⟨g, m, none⟩ = some (.int .i64 (p : Int))) := Lib.hid (fun g w1 hc => by rw [hc m (by omega), hp])
  have HD : Hid (∀ (g : Nat) (w1 : World), (∀ j, j ≤ Run.cnt s 0 → w1.cell? ⟨g, j, none⟩ = some (.int .i64 (Run.adv s j 0 : Int))) → w1.cell? ⟨g, Run.cnt s 0, none⟩ = some (.int .i64 (r : Int))) := Lib.hid (fun g w1 hc => by rw [hc _ (Nat.le_refl _), hall2, hall])
  clear hall hall2
  clear hp hr
  generalize Run.cnt s 0 = c at *
  have e1 : (m : Int) + 1 - 1 = (m : Int) := by omega
  have h1 : ¬ (c : Int) < (m : Int) + 1 := by omega
  have h3 : ¬ (n : Int) < (c : Int) - (m : Int) := by omega
  go_enter Tryd.func82, Tryd.ntmps82
  go_wp2_with (fail)
  refine (HS.out _).mono ?_
  rintro e w1 ⟨g, cap, rfl, ⟨_, _, _, hst⟩, hb⟩
  have hc : w1.drew.cell? _ = _ := HC.out g w1 hst
  have hd : w1.drew.cell? _ = _ := HD.out g w1 hst
  clear hst
  go_wp2
  go_region
  go_wp2
  go_ret2
  exact ⟨rfl, hb.drew⟩
theorem rmid5_any (s : ByteArray) (m n p r : Nat) (w : World) (hs : s.size ≤ 200000) (hm : m ≤ 9223372036854775806) (hn : n ≤ 9223372036854775807) (hp : Run.adv s m 0 = p) (hr : Run.adv s (m + n) 0 = r) :
    Calls Tryd.prog 82 #[.string s, .int .i64 ((m : Int) + 1), .int .i64 (n : Int)] w fun e w' => e = .returned (.tuple #[.string (s.extract p r), .int .i64 0]) ∧ Below w.heap.size w w' := by
  by_cases h : m < Run.cnt s 0
  · by_cases h2 : m + n < Run.cnt s 0
    · exact rmid5_in s m n p r w hs hm hn hp hr h h2
    · exact rmid5_all s m n p r w hs hm hn hp hr h (by omega)
  · have h1 : p = s.size := by rw [← hp]; exact Run.adv_over s m (by omega)
    have h2 : r = s.size := by rw [← hr]; exact Run.adv_over s _ (by omega)
    have e : s.extract p r = ⟨#[]⟩ := by
      apply ByteArray.ext
      rw [h1, h2, ByteArray.data_extract]
      simp
    rw [e]
    exact rmid5_out s m n p r w hs hm hn hp hr (by omega)
end Go.Proofs.YtdbjmjeiaajdiaaDoor
