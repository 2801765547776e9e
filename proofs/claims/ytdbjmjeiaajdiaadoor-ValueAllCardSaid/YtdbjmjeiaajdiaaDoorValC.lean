/- as, place, class; cmp's Compare and Or. -/
import Derived.Test.YtdbjmjeiaajdiaaDoorValB
import Derived.Test.YtdbjmjeiaajdiaaDoorShVal
namespace Go.Proofs.YtdbjmjeiaajdiaaDoor
open Go.RowKit
set_option linter.unusedVariables false
def Val.asV (v b : Val.V) : Val.V := ⟨cond (v.k == 0 && b.k != 4) b.k v.k, v.n, v.t⟩
def Val.placeOf (k : Int) : Int := cond (k == 1) 1 <| cond (k == 3) 2 <| cond (k == 2) 3 <| cond (k == 4) 4 0
def Val.cmpI (a b : Int) : Int := cond (decide (a < b)) (-1) (cond (decide (b < a)) 1 0)
def Val.orI (x y z : Int) : Int := cond (x != 0) x (cond (y != 0) y z)
theorem as_z (bk n m : Int) (t s : ByteArray) (w : World) (h : (bk != 4) = true) : Calls Tryd.prog 47 #[.agg #[.int .i64 0, .int .i64 n, .string t], .agg #[.int .i64 bk, .int .i64 m, .string s]] w fun e w' => e = .returned (.agg #[.int .i64 bk, .int .i64 n, .string t]) ∧ Below w.heap.size w w' := by
  go_enter Tryd.func47, Tryd.ntmps47
  go_wp2
  exact bodyPost_ret (v := .agg #[.int .i64 bk, .int .i64 n, .string t]) (by simp [results, Tryd.results47, go_sem]) rfl ⟨rfl, (((Below.refl _ _).alloc (Nat.le_refl _) _).alloc (by simp) _).alloc (by simp; omega) _⟩

theorem as_e (bk n m : Int) (t s : ByteArray) (w : World) (h : (bk != 4) = false) : Calls Tryd.prog 47 #[.agg #[.int .i64 0, .int .i64 n, .string t], .agg #[.int .i64 bk, .int .i64 m, .string s]] w fun e w' => e = .returned (.agg #[.int .i64 0, .int .i64 n, .string t]) ∧ Below w.heap.size w w' := by
  go_enter Tryd.func47, Tryd.ntmps47
  go_wp2
  exact bodyPost_ret (v := .agg #[.int .i64 0, .int .i64 n, .string t]) (by simp [results, Tryd.results47, go_sem]) rfl ⟨rfl, (((Below.refl _ _).alloc (Nat.le_refl _) _).alloc (by simp) _).alloc (by simp; omega) _⟩

theorem as_o (k bk n m : Int) (t s : ByteArray) (w : World) (h : (k == 0) = false) : Calls Tryd.prog 47 #[.agg #[.int .i64 k, .int .i64 n, .string t], .agg #[.int .i64 bk, .int .i64 m, .string s]] w fun e w' => e = .returned (.agg #[.int .i64 k, .int .i64 n, .string t]) ∧ Below w.heap.size w w' := by
  go_enter Tryd.func47, Tryd.ntmps47
  go_wp2
  exact bodyPost_ret (v := .agg #[.int .i64 k, .int .i64 n, .string t]) (by simp [results, Tryd.results47, go_sem]) rfl ⟨rfl, (((Below.refl _ _).alloc (Nat.le_refl _) _).alloc (by simp) _).alloc (by simp; omega) _⟩

theorem as_any (v b : Val.V) (w : World) : Calls Tryd.prog 47 #[vv v, vv b] w fun e w' => e = .returned (vv (Val.asV v b)) ∧ Below w.heap.size w w' := by
  obtain ⟨k, n, t⟩ := v
  obtain ⟨bk, m, s⟩ := b
  unfold Val.asV
  show Calls Tryd.prog 47 #[.agg #[.int .i64 k, .int .i64 n, .string t], .agg #[.int .i64 bk, .int .i64 m, .string s]] w fun e w' => e = .returned (.agg #[.int .i64 (cond (k == 0 && bk != 4) bk k), .int .i64 n, .string t]) ∧ Below w.heap.size w w'
  by_cases h : k = 0
  · subst h
    cases h4 : (bk != 4) with
    | true => exact as_z bk n m t s w h4
    | false => exact as_e bk n m t s w h4
  · have h0 : (k == 0) = false := by simpa using h
    rw [h0]
    exact as_o k bk n m t s w h0
theorem place_any (k : Int) (w : World) : Calls Tryd.prog 50 #[.int .i64 k] w fun e w' => e = .returned (.int .i64 (Val.placeOf k)) ∧ w = w' := by
  unfold Val.placeOf
  cases h1 : (k == 1) with
  | true =>
    go_enter Tryd.func50, Tryd.ntmps50
    go_wp2
    go_ret
    exact ⟨rfl, rfl⟩
  | false =>
    cases h3 : (k == 3) with
    | true =>
      go_enter Tryd.func50, Tryd.ntmps50
      go_wp2
      go_ret
      exact ⟨rfl, rfl⟩
    | false =>
      cases h2 : (k == 2) with
      | true =>
        go_enter Tryd.func50, Tryd.ntmps50
        go_wp2
        go_ret
        exact ⟨rfl, rfl⟩
      | false =>
        cases h4 : (k == 4) with
        | true =>
          go_enter Tryd.func50, Tryd.ntmps50
          go_wp2
          go_ret
          exact ⟨rfl, rfl⟩
        | false =>
          go_enter Tryd.func50, Tryd.ntmps50
          go_wp2
          go_ret
          exact ⟨rfl, rfl⟩

theorem class_0 (n : Int) (t : ByteArray) (w : World) : Calls Tryd.prog 56 #[.agg #[.int .i64 0, .int .i64 n, .string t]] w fun e w' => e = .returned (.int .i64 0) ∧ Below w.heap.size w w' := by
  go_enter Tryd.func56, Tryd.ntmps56
  go_wp2
  go_ret
  exact ⟨rfl, ((Below.refl _ _).alloc (Nat.le_refl _) _).alloc (by simp) _⟩

theorem class_1 (n : Int) (t : ByteArray) (w : World) : Calls Tryd.prog 56 #[.agg #[.int .i64 1, .int .i64 n, .string t]] w fun e w' => e = .returned (.int .i64 1) ∧ Below w.heap.size w w' := by
  go_enter Tryd.func56, Tryd.ntmps56
  go_wp2
  go_ret
  exact ⟨rfl, ((Below.refl _ _).alloc (Nat.le_refl _) _).alloc (by simp) _⟩

theorem class_2 (n : Int) (t : ByteArray) (w : World) : Calls Tryd.prog 56 #[.agg #[.int .i64 2, .int .i64 n, .string t]] w fun e w' => e = .returned (.int .i64 3) ∧ Below w.heap.size w w' := by
  go_enter Tryd.func56, Tryd.ntmps56
  go_wp2
  go_ret
  exact ⟨rfl, ((Below.refl _ _).alloc (Nat.le_refl _) _).alloc (by simp) _⟩

theorem class_3 (n : Int) (t : ByteArray) (w : World) : Calls Tryd.prog 56 #[.agg #[.int .i64 3, .int .i64 n, .string t]] w fun e w' => e = .returned (.int .i64 2) ∧ Below w.heap.size w w' := by
  go_enter Tryd.func56, Tryd.ntmps56
  go_wp2
  go_ret
  exact ⟨rfl, ((Below.refl _ _).alloc (Nat.le_refl _) _).alloc (by simp) _⟩

theorem class_4 (n : Int) (t : ByteArray) (w : World) : Calls Tryd.prog 56 #[.agg #[.int .i64 4, .int .i64 n, .string t]] w fun e w' => e = .returned (.int .i64 4) ∧ Below w.heap.size w w' := by
  go_enter Tryd.func56, Tryd.ntmps56
  go_wp2
  go_ret
  exact ⟨rfl, ((Below.refl _ _).alloc (Nat.le_refl _) _).alloc (by simp) _⟩

theorem class_any (v : Val.V) (w : World) (h : v.k = 0 ∨ v.k = 1 ∨ v.k = 2 ∨ v.k = 3 ∨ v.k = 4) : Calls Tryd.prog 56 #[vv v] w fun e w' => e = .returned (.int .i64 (Val.placeOf v.k)) ∧ Below w.heap.size w w' := by
  obtain ⟨k, n, t⟩ := v
  simp only at h
  rcases h with rfl | rfl | rfl | rfl | rfl
  · exact class_0 n t w
  · exact class_1 n t w
  · exact class_2 n t w
  · exact class_3 n t w
  · exact class_4 n t w
theorem isnan_int (a : Int) (w : World) : Calls Tryd.prog 90 #[.int .i64 a] w fun e w' => e = .returned (.bool false) ∧ w = w' := by
  have h : (a != a) = false := by simp
  go_enter Tryd.func90, Tryd.ntmps90
  go_wp2
  go_ret
  exact ⟨rfl, rfl⟩
theorem cmp_int (a b : Int) (w : World) : Calls Tryd.prog 49 #[.int .i64 a, .int .i64 b] w fun e w' => e = .returned (.int .i64 (Val.cmpI a b)) ∧ w = w' := by
  have H1 := Lib.hid (fun w => isnan_int a w)
  have H2 := Lib.hid (fun w => isnan_int b w)
  unfold Val.cmpI
  cases h1 : decide (a < b) with
  | true =>
    go_enter Tryd.func49, Tryd.ntmps49
    go_wp2_with (fail)
    refine (H1.out _).mono ?_
    rintro e w1 ⟨rfl, rfl⟩
    go_wp2_with (fail)
    refine (H2.out _).mono ?_
    rintro e w1 ⟨rfl, rfl⟩
    go_wp2
    go_ret
    exact ⟨rfl, rfl⟩
  | false =>
    cases h2 : decide (b < a) with
    | true =>
      go_enter Tryd.func49, Tryd.ntmps49
      go_wp2_with (fail)
      refine (H1.out _).mono ?_
      rintro e w1 ⟨rfl, rfl⟩
      go_wp2_with (fail)
      refine (H2.out _).mono ?_
      rintro e w1 ⟨rfl, rfl⟩
      go_wp2
      go_ret
      exact ⟨rfl, rfl⟩
    | false =>
      go_enter Tryd.func49, Tryd.ntmps49
      go_wp2_with (fail)
      refine (H1.out _).mono ?_
      rintro e w1 ⟨rfl, rfl⟩
      go_wp2_with (fail)
      refine (H2.out _).mono ?_
      rintro e w1 ⟨rfl, rfl⟩
      go_wp2
      go_ret
      exact ⟨rfl, rfl⟩

theorem isnan_int64 (a : Int) (w : World) : Calls Tryd.prog 91 #[.int .i64 a] w fun e w' => e = .returned (.bool false) ∧ w = w' := by
  have h : (a != a) = false := by simp
  go_enter Tryd.func91, Tryd.ntmps91
  go_wp2
  go_ret
  exact ⟨rfl, rfl⟩
theorem cmp_int64 (a b : Int) (w : World) : Calls Tryd.prog 51 #[.int .i64 a, .int .i64 b] w fun e w' => e = .returned (.int .i64 (Val.cmpI a b)) ∧ w = w' := by
  have H1 := Lib.hid (fun w => isnan_int64 a w)
  have H2 := Lib.hid (fun w => isnan_int64 b w)
  unfold Val.cmpI
  cases h1 : decide (a < b) with
  | true =>
    go_enter Tryd.func51, Tryd.ntmps51
    go_wp2_with (fail)
    refine (H1.out _).mono ?_
    rintro e w1 ⟨rfl, rfl⟩
    go_wp2_with (fail)
    refine (H2.out _).mono ?_
    rintro e w1 ⟨rfl, rfl⟩
    go_wp2
    go_ret
    exact ⟨rfl, rfl⟩
  | false =>
    cases h2 : decide (b < a) with
    | true =>
      go_enter Tryd.func51, Tryd.ntmps51
      go_wp2_with (fail)
      refine (H1.out _).mono ?_
      rintro e w1 ⟨rfl, rfl⟩
      go_wp2_with (fail)
      refine (H2.out _).mono ?_
      rintro e w1 ⟨rfl, rfl⟩
      go_wp2
      go_ret
      exact ⟨rfl, rfl⟩
    | false =>
      go_enter Tryd.func51, Tryd.ntmps51
      go_wp2_with (fail)
      refine (H1.out _).mono ?_
      rintro e w1 ⟨rfl, rfl⟩
      go_wp2_with (fail)
      refine (H2.out _).mono ?_
      rintro e w1 ⟨rfl, rfl⟩
      go_wp2
      go_ret
      exact ⟨rfl, rfl⟩

theorem or3_any (B : Nat) (x y z : Int) (w : World) (c0 : w.cell? ⟨B, 0, none⟩ = some (.int .i64 x)) (c1 : w.cell? ⟨B, 1, none⟩ = some (.int .i64 y)) (c2 : w.cell? ⟨B, 2, none⟩ = some (.int .i64 z)) :
    Calls Tryd.prog 48 #[.slice (some ⟨B, 0, none⟩) 3 3] w fun e w' => e = .returned (.int .i64 (Val.orI x y z)) ∧ w = w' := by
  unfold Val.orI
  go_enter Tryd.func48, Tryd.ntmps48
  go_wp2
  go_loop [8] (fun i => ∃ j : Nat, i = .int .i64 (j : Int) ∧ (j = 0 ∨ (j = 1 ∧ x = 0) ∨ (j = 2 ∧ x = 0 ∧ y = 0) ∨ (j = 3 ∧ x = 0 ∧ y = 0 ∧ z = 0))) (fun i => 3 - (intOf i).toNat)
  case atStart => exact ⟨0, rfl, .inl rfl⟩
  case round =>
    obtain ⟨j, rfl, hj⟩ := hrel
    rcases hj with rfl | ⟨rfl, rfl⟩ | ⟨rfl, rfl, rfl⟩ | ⟨rfl, rfl, rfl, rfl⟩
    · cases h : (x != 0) with
      | true =>
        go_wp2
        go_ret
        exact ⟨rfl, rfl⟩
      | false =>
        obtain rfl : x = 0 := by simpa using h
        go_wp2
        go_round
        case rel => exact ⟨1, rfl, .inr (.inl (by simp))⟩
        case measure => simp [intOf]
    · cases h : (y != 0) with
      | true =>
        go_wp2
        go_ret
        exact ⟨rfl, rfl⟩
      | false =>
        obtain rfl : y = 0 := by simpa using h
        go_wp2
        go_round
        case rel => exact ⟨2, rfl, .inr (.inr (.inl (by simp)))⟩
        case measure => simp [intOf]
    · cases h : (z != 0) with
      | true =>
        go_wp2
        go_ret
        exact ⟨rfl, rfl⟩
      | false =>
        obtain rfl : z = 0 := by simpa using h
        go_wp2
        go_round
        case rel => exact ⟨3, rfl, .inr (.inr (.inr (by simp)))⟩
        case measure => simp [intOf]
    · go_wp2
      go_ret
      exact ⟨rfl, rfl⟩
end Go.Proofs.YtdbjmjeiaajdiaaDoor
