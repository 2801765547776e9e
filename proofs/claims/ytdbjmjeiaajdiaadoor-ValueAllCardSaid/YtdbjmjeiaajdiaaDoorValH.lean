/- Literal: package value and its reference. -/
import Derived.Test.YtdbjmjeiaajdiaaDoorValF
namespace Go.Proofs.YtdbjmjeiaajdiaaDoor
open Go.RowKit
set_option linter.unusedVariables false

set_option maxHeartbeats 1600000 in
theorem lit_0 (t : ByteArray) (w : World) (e1 : t.toList = []) (e2 : t.toList.isEmpty = true) : Calls Tryd.prog 11 #[.string t] w fun e w' => e = .returned (.tuple #[.agg #[.int .i64 0, .int .i64 0, .string ⟨#[]⟩], .bool true]) ∧ Below w.heap.size w w' := by
  go_enter Tryd.func11, Tryd.ntmps11
  go_wp2
  exact bodyPost_ret (v := .tuple #[.agg #[.int .i64 0, .int .i64 0, .string ⟨#[]⟩], .bool true]) (by simp [results, Tryd.results11, go_sem]) rfl ⟨rfl, (Below.refl _ _).alloc (Nat.le_refl _) _⟩

set_option maxHeartbeats 1600000 in
theorem lit_1 (t : ByteArray) (w : World) (e1 : ¬ t.toList = []) (e2 : t.toList.isEmpty = false) (hz : 0 < t.size) (h61 : (((t[0]'hz).toNat : Int) == 61) = true) : Calls Tryd.prog 11 #[.string t] w fun e w' => e = .returned (.tuple #[.agg #[.int .i64 0, .int .i64 0, .string ⟨#[]⟩], .bool false]) ∧ Below w.heap.size w w' := by
  go_enter Tryd.func11, Tryd.ntmps11
  go_wp2
  exact bodyPost_ret (v := .tuple #[.agg #[.int .i64 0, .int .i64 0, .string ⟨#[]⟩], .bool false]) (by simp [results, Tryd.results11, go_sem]) rfl ⟨rfl, (Below.refl _ _).alloc (Nat.le_refl _) _⟩

set_option maxHeartbeats 1600000 in
theorem rlit_0 (t : ByteArray) (w : World) (e1 : t.toList = []) (e2 : t.toList.isEmpty = true) : Calls Tryd.prog 25 #[.string t] w fun e w' => e = .returned (.tuple #[.agg #[.int .i64 0, .int .i64 0, .string ⟨#[]⟩], .bool true]) ∧ Below w.heap.size w w' := by
  go_enter Tryd.func25, Tryd.ntmps25
  go_wp2
  exact bodyPost_ret (v := .tuple #[.agg #[.int .i64 0, .int .i64 0, .string ⟨#[]⟩], .bool true]) (by simp [results, Tryd.results25, go_sem]) rfl ⟨rfl, (Below.refl _ _).alloc (Nat.le_refl _) _⟩

set_option maxHeartbeats 1600000 in
theorem rlit_1 (t : ByteArray) (w : World) (e1 : ¬ t.toList = []) (e2 : t.toList.isEmpty = false) (hz : 0 < t.size) (h61 : (((t[0]'hz).toNat : Int) == 61) = true) : Calls Tryd.prog 25 #[.string t] w fun e w' => e = .returned (.tuple #[.agg #[.int .i64 0, .int .i64 0, .string ⟨#[]⟩], .bool false]) ∧ Below w.heap.size w w' := by
  go_enter Tryd.func25, Tryd.ntmps25
  go_wp2
  exact bodyPost_ret (v := .tuple #[.agg #[.int .i64 0, .int .i64 0, .string ⟨#[]⟩], .bool false]) (by simp [results, Tryd.results25, go_sem]) rfl ⟨rfl, (Below.refl _ _).alloc (Nat.le_refl _) _⟩

set_option maxHeartbeats 1600000 in
theorem lit_2 (t : ByteArray) (w : World) (e1 : ¬ t.toList = []) (e2 : t.toList.isEmpty = false) (hz : 0 < t.size) (h61 : (((t[0]'hz).toNat : Int) == 61) = false) (h39 : (((t[0]'hz).toNat : Int) == 39) = true) (n39 : (((t[0]'hz).toNat : Int) != 39) = false) (gk gn : Int) (gt u : ByteArray) (HT0 : ∀ w, Calls Tryd.prog 32 #[.string t, .string ⟨#[39]⟩] w fun e w' => e = .returned (.string u) ∧ w' = w) (HG0 : ∀ w, Calls Tryd.prog 28 #[.agg #[.int .i64 3, .int .i64 0, .string u]] w fun e w' => e = .returned (.agg #[.int .i64 gk, .int .i64 gn, .string gt]) ∧ Below w.heap.size w w') : Calls Tryd.prog 11 #[.string t] w fun e w' => e = .returned (.tuple #[.agg #[.int .i64 gk, .int .i64 gn, .string gt], .bool true]) ∧ Below w.heap.size w w' := by
  have HT := Lib.hid HT0
  have HG := Lib.hid HG0
  clear HT0 HG0
  go_enter Tryd.func11, Tryd.ntmps11
  go_wp2_with (fail)
  refine (HT.out _).mono ?_
  rintro e w1 ⟨rfl, rfl⟩
  go_wp2_with (fail)
  refine (HG.out _).mono ?_
  rintro e w1 ⟨rfl, hb1⟩
  have hx := (hb1.block w.heap.size (by simp)).trans (heap_alloc_new _ _)
  have hs : Below w.heap.size w w1 := alloc_below hb1
  have hl : w.heap.size < w1.heap.size := Nat.lt_of_lt_of_le (by simp) hb1.size
  clear hb1
  obtain ⟨x0, x1, x2⟩ := val_cells hx
  obtain ⟨f0, f1, f2⟩ := val_frozen hx
  clear hx
  go_wp2
  exact bodyPost_ret (v := .tuple #[.agg #[.int .i64 gk, .int .i64 gn, .string gt], .bool true]) (by simp [results, Tryd.results11, go_sem, x0, x1, x2]) rfl ⟨rfl, ((hs.setCell (p := ⟨w.heap.size, 0, none⟩) (by simp) _).setCell (p := ⟨w.heap.size, 1, none⟩) (by simp) _).setCell (p := ⟨w.heap.size, 2, none⟩) (by simp) _⟩

set_option maxHeartbeats 1600000 in
theorem rlit_2 (t : ByteArray) (w : World) (e1 : ¬ t.toList = []) (e2 : t.toList.isEmpty = false) (hz : 0 < t.size) (h61 : (((t[0]'hz).toNat : Int) == 61) = false) (h39 : (((t[0]'hz).toNat : Int) == 39) = true) (n39 : (((t[0]'hz).toNat : Int) != 39) = false) (gk gn : Int) (gt u : ByteArray) (hu : t.extract 1 t.size = u) (HT0 : ∀ w, Calls Tryd.prog 59 #[.string u] w fun e w' => e = .returned (.agg #[.int .i64 gk, .int .i64 gn, .string gt]) ∧ Below w.heap.size w w') : Calls Tryd.prog 25 #[.string t] w fun e w' => e = .returned (.tuple #[.agg #[.int .i64 gk, .int .i64 gn, .string gt], .bool true]) ∧ Below w.heap.size w w' := by
  subst hu
  have HT := Lib.hid HT0
  clear HT0
  go_enter Tryd.func25, Tryd.ntmps25
  go_wp2_with (fail)
  refine (HT.out _).mono ?_
  rintro e w1 ⟨rfl, hb1⟩
  have hx := (hb1.block w.heap.size (by simp)).trans (heap_alloc_new _ _)
  have hs : Below w.heap.size w w1 := alloc_below hb1
  have hl : w.heap.size < w1.heap.size := Nat.lt_of_lt_of_le (by simp) hb1.size
  clear hb1
  obtain ⟨x0, x1, x2⟩ := val_cells hx
  obtain ⟨f0, f1, f2⟩ := val_frozen hx
  clear hx
  go_wp2
  exact bodyPost_ret (v := .tuple #[.agg #[.int .i64 gk, .int .i64 gn, .string gt], .bool true]) (by simp [results, Tryd.results25, go_sem, x0, x1, x2]) rfl ⟨rfl, ((hs.setCell (p := ⟨w.heap.size, 0, none⟩) (by simp) _).setCell (p := ⟨w.heap.size, 1, none⟩) (by simp) _).setCell (p := ⟨w.heap.size, 2, none⟩) (by simp) _⟩

set_option maxHeartbeats 1600000 in
theorem lit_3 (t : ByteArray) (w : World) (e1 : ¬ t.toList = []) (e2 : t.toList.isEmpty = false) (hz : 0 < t.size) (h61 : (((t[0]'hz).toNat : Int) == 61) = false) (h39 : (((t[0]'hz).toNat : Int) == 39) = false) (n39 : (((t[0]'hz).toNat : Int) != 39) = true) (x y : Int) (HR0 : ∀ w', Below w.heap.size w w' → Calls Tryd.prog 31 #[.string t] w' fun e w'' => e = .returned (.tuple #[.int .i64 x, .int .i64 y]) ∧ Below w'.heap.size w' w'') (hy : (y == 0) = true) : Calls Tryd.prog 11 #[.string t] w fun e w' => e = .returned (.tuple #[.agg #[.int .i64 1, .int .i64 x, .string ⟨#[]⟩], .bool true]) ∧ Below w.heap.size w w' := by
  have HR := Lib.hid HR0
  clear HR0
  go_enter Tryd.func11, Tryd.ntmps11
  go_wp2_with (fail)
  refine (HR.out _ ((Below.refl _ _).alloc (Nat.le_refl _) _)).mono ?_
  rintro e w1 ⟨rfl, hb1⟩
  have hx := (hb1.block w.heap.size (by simp)).trans (heap_alloc_new _ _)
  have hs : Below w.heap.size w w1 := alloc_below hb1
  have hl : w.heap.size < w1.heap.size := Nat.lt_of_lt_of_le (by simp) hb1.size
  clear hb1
  obtain ⟨x0, x1, x2⟩ := val_cells hx
  obtain ⟨f0, f1, f2⟩ := val_frozen hx
  clear hx
  go_wp2
  exact bodyPost_ret (v := .tuple #[.agg #[.int .i64 1, .int .i64 x, .string ⟨#[]⟩], .bool true]) (by simp [results, Tryd.results11, go_sem, x0, x1, x2]) rfl ⟨rfl, ((hs.setCell (p := ⟨w.heap.size, 0, none⟩) (by simp) _).setCell (p := ⟨w.heap.size, 1, none⟩) (by simp) _).setCell (p := ⟨w.heap.size, 2, none⟩) (by simp) _⟩

set_option maxHeartbeats 1600000 in
theorem lit_4 (t : ByteArray) (w : World) (e1 : ¬ t.toList = []) (e2 : t.toList.isEmpty = false) (hz : 0 < t.size) (h61 : (((t[0]'hz).toNat : Int) == 61) = false) (h39 : (((t[0]'hz).toNat : Int) == 39) = false) (n39 : (((t[0]'hz).toNat : Int) != 39) = true) (x y : Int) (HR0 : ∀ w', Below w.heap.size w w' → Calls Tryd.prog 31 #[.string t] w' fun e w'' => e = .returned (.tuple #[.int .i64 x, .int .i64 y]) ∧ Below w'.heap.size w' w'') (hy : (y == 0) = false) (tt : (t.toList == [84, 82, 85, 69]) = true) : Calls Tryd.prog 11 #[.string t] w fun e w' => e = .returned (.tuple #[.agg #[.int .i64 2, .int .i64 1, .string ⟨#[]⟩], .bool true]) ∧ Below w.heap.size w w' := by
  have HR := Lib.hid HR0
  clear HR0
  go_enter Tryd.func11, Tryd.ntmps11
  go_wp2_with (fail)
  refine (HR.out _ ((Below.refl _ _).alloc (Nat.le_refl _) _)).mono ?_
  rintro e w1 ⟨rfl, hb1⟩
  have hx := (hb1.block w.heap.size (by simp)).trans (heap_alloc_new _ _)
  have hs : Below w.heap.size w w1 := alloc_below hb1
  have hl : w.heap.size < w1.heap.size := Nat.lt_of_lt_of_le (by simp) hb1.size
  clear hb1
  obtain ⟨x0, x1, x2⟩ := val_cells hx
  obtain ⟨f0, f1, f2⟩ := val_frozen hx
  clear hx
  go_wp2
  exact bodyPost_ret (v := .tuple #[.agg #[.int .i64 2, .int .i64 1, .string ⟨#[]⟩], .bool true]) (by simp [results, Tryd.results11, go_sem, x0, x1, x2]) rfl ⟨rfl, ((hs.setCell (p := ⟨w.heap.size, 0, none⟩) (by simp) _).setCell (p := ⟨w.heap.size, 1, none⟩) (by simp) _).setCell (p := ⟨w.heap.size, 2, none⟩) (by simp) _⟩

set_option maxHeartbeats 1600000 in
theorem lit_5 (t : ByteArray) (w : World) (e1 : ¬ t.toList = []) (e2 : t.toList.isEmpty = false) (hz : 0 < t.size) (h61 : (((t[0]'hz).toNat : Int) == 61) = false) (h39 : (((t[0]'hz).toNat : Int) == 39) = false) (n39 : (((t[0]'hz).toNat : Int) != 39) = true) (x y : Int) (HR0 : ∀ w', Below w.heap.size w w' → Calls Tryd.prog 31 #[.string t] w' fun e w'' => e = .returned (.tuple #[.int .i64 x, .int .i64 y]) ∧ Below w'.heap.size w' w'') (hy : (y == 0) = false) (tt : (t.toList == [84, 82, 85, 69]) = false) (tf : (t.toList == [70, 65, 76, 83, 69]) = true) : Calls Tryd.prog 11 #[.string t] w fun e w' => e = .returned (.tuple #[.agg #[.int .i64 2, .int .i64 0, .string ⟨#[]⟩], .bool true]) ∧ Below w.heap.size w w' := by
  have HR := Lib.hid HR0
  clear HR0
  go_enter Tryd.func11, Tryd.ntmps11
  go_wp2_with (fail)
  refine (HR.out _ ((Below.refl _ _).alloc (Nat.le_refl _) _)).mono ?_
  rintro e w1 ⟨rfl, hb1⟩
  have hx := (hb1.block w.heap.size (by simp)).trans (heap_alloc_new _ _)
  have hs : Below w.heap.size w w1 := alloc_below hb1
  have hl : w.heap.size < w1.heap.size := Nat.lt_of_lt_of_le (by simp) hb1.size
  clear hb1
  obtain ⟨x0, x1, x2⟩ := val_cells hx
  obtain ⟨f0, f1, f2⟩ := val_frozen hx
  clear hx
  go_wp2
  exact bodyPost_ret (v := .tuple #[.agg #[.int .i64 2, .int .i64 0, .string ⟨#[]⟩], .bool true]) (by simp [results, Tryd.results11, go_sem, x0, x1, x2]) rfl ⟨rfl, ((hs.setCell (p := ⟨w.heap.size, 0, none⟩) (by simp) _).setCell (p := ⟨w.heap.size, 1, none⟩) (by simp) _).setCell (p := ⟨w.heap.size, 2, none⟩) (by simp) _⟩

set_option maxHeartbeats 1600000 in
theorem lit_c (t : ByteArray) (w : World) (e1 : ¬ t.toList = []) (e2 : t.toList.isEmpty = false) (hz : 0 < t.size) (h61 : (((t[0]'hz).toNat : Int) == 61) = false) (h39 : (((t[0]'hz).toNat : Int) == 39) = false) (n39 : (((t[0]'hz).toNat : Int) != 39) = true) (x y : Int) (HR0 : ∀ w', Below w.heap.size w w' → Calls Tryd.prog 31 #[.string t] w' fun e w'' => e = .returned (.tuple #[.int .i64 x, .int .i64 y]) ∧ Below w'.heap.size w' w'') (hy : (y == 0) = false) (tt : (t.toList == [84, 82, 85, 69]) = false) (tf : (t.toList == [70, 65, 76, 83, 69]) = false) (i : Nat) (hi1 : 1 ≤ i) (hn : ∀ j : Nat, 1 ≤ j → j < i → (t.toList == (Val.nameT (j : Int)).toList) = false) (hi : i ≤ 6) (ht : (t.toList == (Val.nameT (i : Int)).toList) = true) : Calls Tryd.prog 11 #[.string t] w fun e w' => e = .returned (.tuple #[.agg #[.int .i64 4, .int .i64 (i : Int), .string ⟨#[]⟩], .bool true]) ∧ Below w.heap.size w w' := by
  have HN := Lib.hid hn
  clear hn
  have HM := Lib.hid (fun n h0 h1 w => name_any n w h0 h1)
  have HE := Lib.hid (fun e w => fault_any e w)
  have HX := Lib.hid ht
  clear ht
  have HR := Lib.hid HR0
  clear HR0
  go_enter Tryd.func11, Tryd.ntmps11
  go_wp2_with (fail)
  refine (HR.out _ ((Below.refl _ _).alloc (Nat.le_refl _) _)).mono ?_
  rintro e w1 ⟨rfl, hb1⟩
  have hx := (hb1.block w.heap.size (by simp)).trans (heap_alloc_new _ _)
  have hs : Below w.heap.size w w1 := alloc_below hb1
  have hl : w.heap.size < w1.heap.size := Nat.lt_of_lt_of_le (by simp) hb1.size
  clear hb1
  obtain ⟨x0, x1, x2⟩ := val_cells hx
  obtain ⟨f0, f1, f2⟩ := val_frozen hx
  clear hx
  go_wp2
  go_loop [6] (fun v => ∃ j : Nat, v = .int .i64 (j : Int) ∧ 1 ≤ j ∧ j ≤ i) (fun v => 7 - (intOf v).toNat)
  case atStart => exact ⟨1, rfl, by omega, by omega⟩
  case round =>
    obtain ⟨j, rfl, hj1, hj2⟩ := hrel
    by_cases hlt : j < i
    · have t6 : decide ((j : Int) ≤ 6) = true := decide_eq_true (by omega)
      have tj := HN.out j hj1 hlt
      go_wp2_with (fail)
      refine (HM.out _ (by omega) (by omega) _).mono ?_
      rintro e w2 ⟨rfl, rfl⟩
      go_wp2
      go_round
      case rel => exact ⟨j + 1, by go_num, by omega, by omega⟩
      case measure => simp [intOf]; omega
    · obtain rfl : j = i := by omega
      have t6 : decide ((j : Int) ≤ 6) = true := decide_eq_true (by omega)
      have tj := HX.out
      go_wp2_with (fail)
      refine (HM.out _ (by omega) (by omega) _).mono ?_
      rintro e w2 ⟨rfl, rfl⟩
      go_wp2_with (fail)
      refine (HE.out _ _).mono ?_
      rintro e w2 ⟨rfl, hb2⟩
      obtain ⟨x0, x1, x2⟩ : _ ∧ _ ∧ _ := ⟨(hb2.cell (p := ⟨w.heap.size, 0, none⟩) hl).trans x0, (hb2.cell (p := ⟨w.heap.size, 1, none⟩) hl).trans x1, (hb2.cell (p := ⟨w.heap.size, 2, none⟩) hl).trans x2⟩
      obtain ⟨f0, f1, f2⟩ : _ ∧ _ ∧ _ := ⟨(hb2.frozen (p := ⟨w.heap.size, 0, none⟩) hl).trans f0, (hb2.frozen (p := ⟨w.heap.size, 1, none⟩) hl).trans f1, (hb2.frozen (p := ⟨w.heap.size, 2, none⟩) hl).trans f2⟩
      replace hs := hs.trans (hb2.mono hs.size)
      go_wp2
      exact bodyPost_ret (v := .tuple #[.agg #[.int .i64 4, .int .i64 (j : Int), .string ⟨#[]⟩], .bool true]) (by simp [results, Tryd.results11, go_sem, x0, x1, x2]) rfl ⟨rfl, ((hs.setCell (p := ⟨w.heap.size, 0, none⟩) (by simp) _).setCell (p := ⟨w.heap.size, 1, none⟩) (by simp) _).setCell (p := ⟨w.heap.size, 2, none⟩) (by simp) _⟩

set_option maxHeartbeats 1600000 in
theorem lit_n (t : ByteArray) (w : World) (e1 : ¬ t.toList = []) (e2 : t.toList.isEmpty = false) (hz : 0 < t.size) (h61 : (((t[0]'hz).toNat : Int) == 61) = false) (h39 : (((t[0]'hz).toNat : Int) == 39) = false) (n39 : (((t[0]'hz).toNat : Int) != 39) = true) (x y : Int) (HR0 : ∀ w', Below w.heap.size w w' → Calls Tryd.prog 31 #[.string t] w' fun e w'' => e = .returned (.tuple #[.int .i64 x, .int .i64 y]) ∧ Below w'.heap.size w' w'') (hy : (y == 0) = false) (tt : (t.toList == [84, 82, 85, 69]) = false) (tf : (t.toList == [70, 65, 76, 83, 69]) = false) (i : Nat) (hi1 : 1 ≤ i) (hn : ∀ j : Nat, 1 ≤ j → j < i → (t.toList == (Val.nameT (j : Int)).toList) = false) (hi : i = 7) (gk gn : Int) (gt : ByteArray) (HT0 : ∀ w, Calls Tryd.prog 32 #[.string t, .string ⟨#[39]⟩] w fun e w' => e = .returned (.string t) ∧ w' = w) (HG0 : ∀ w, Calls Tryd.prog 28 #[.agg #[.int .i64 3, .int .i64 0, .string t]] w fun e w' => e = .returned (.agg #[.int .i64 gk, .int .i64 gn, .string gt]) ∧ Below w.heap.size w w') : Calls Tryd.prog 11 #[.string t] w fun e w' => e = .returned (.tuple #[.agg #[.int .i64 gk, .int .i64 gn, .string gt], .bool true]) ∧ Below w.heap.size w w' := by
  have HN := Lib.hid hn
  clear hn
  have HM := Lib.hid (fun n h0 h1 w => name_any n w h0 h1)
  subst hi
  have HT := Lib.hid HT0
  have HG := Lib.hid HG0
  clear HT0 HG0
  have HR := Lib.hid HR0
  clear HR0
  go_enter Tryd.func11, Tryd.ntmps11
  go_wp2_with (fail)
  refine (HR.out _ ((Below.refl _ _).alloc (Nat.le_refl _) _)).mono ?_
  rintro e w1 ⟨rfl, hb1⟩
  have hx := (hb1.block w.heap.size (by simp)).trans (heap_alloc_new _ _)
  have hs : Below w.heap.size w w1 := alloc_below hb1
  have hl : w.heap.size < w1.heap.size := Nat.lt_of_lt_of_le (by simp) hb1.size
  clear hb1
  obtain ⟨x0, x1, x2⟩ := val_cells hx
  obtain ⟨f0, f1, f2⟩ := val_frozen hx
  clear hx
  go_wp2
  go_loop [6] (fun v => ∃ j : Nat, v = .int .i64 (j : Int) ∧ 1 ≤ j ∧ j ≤ 7) (fun v => 7 - (intOf v).toNat)
  case atStart => exact ⟨1, rfl, by omega, by omega⟩
  case round =>
    obtain ⟨j, rfl, hj1, hj2⟩ := hrel
    by_cases hlt : j < 7
    · have t6 : decide ((j : Int) ≤ 6) = true := decide_eq_true (by omega)
      have tj := HN.out j hj1 hlt
      go_wp2_with (fail)
      refine (HM.out _ (by omega) (by omega) _).mono ?_
      rintro e w2 ⟨rfl, rfl⟩
      go_wp2
      go_round
      case rel => exact ⟨j + 1, by go_num, by omega, by omega⟩
      case measure => simp [intOf]; omega
    · obtain rfl : j = 7 := by omega
      go_wp2_with (fail)
      refine (HT.out _).mono ?_
      rintro e w2 ⟨rfl, rfl⟩
      go_wp2_with (fail)
      refine (HG.out _).mono ?_
      rintro e w2 ⟨rfl, hb2⟩
      obtain ⟨x0, x1, x2⟩ : _ ∧ _ ∧ _ := ⟨(hb2.cell (p := ⟨w.heap.size, 0, none⟩) hl).trans x0, (hb2.cell (p := ⟨w.heap.size, 1, none⟩) hl).trans x1, (hb2.cell (p := ⟨w.heap.size, 2, none⟩) hl).trans x2⟩
      obtain ⟨f0, f1, f2⟩ : _ ∧ _ ∧ _ := ⟨(hb2.frozen (p := ⟨w.heap.size, 0, none⟩) hl).trans f0, (hb2.frozen (p := ⟨w.heap.size, 1, none⟩) hl).trans f1, (hb2.frozen (p := ⟨w.heap.size, 2, none⟩) hl).trans f2⟩
      replace hs := hs.trans (hb2.mono hs.size)
      go_wp2
      exact bodyPost_ret (v := .tuple #[.agg #[.int .i64 gk, .int .i64 gn, .string gt], .bool true]) (by simp [results, Tryd.results11, go_sem, x0, x1, x2]) rfl ⟨rfl, ((hs.setCell (p := ⟨w.heap.size, 0, none⟩) (by simp) _).setCell (p := ⟨w.heap.size, 1, none⟩) (by simp) _).setCell (p := ⟨w.heap.size, 2, none⟩) (by simp) _⟩

set_option maxHeartbeats 1600000 in
theorem rlit_3 (t : ByteArray) (w : World) (e1 : ¬ t.toList = []) (e2 : t.toList.isEmpty = false) (hz : 0 < t.size) (h61 : (((t[0]'hz).toNat : Int) == 61) = false) (h39 : (((t[0]'hz).toNat : Int) == 39) = false) (n39 : (((t[0]'hz).toNat : Int) != 39) = true) (x y : Int) (HR0 : ∀ w', Below w.heap.size w w' → Calls Tryd.prog 54 #[.string t] w' fun e w'' => e = .returned (.tuple #[.int .i64 x, .int .i64 y]) ∧ Below w'.heap.size w' w'') (hy : (y == 0) = true) : Calls Tryd.prog 25 #[.string t] w fun e w' => e = .returned (.tuple #[.agg #[.int .i64 1, .int .i64 x, .string ⟨#[]⟩], .bool true]) ∧ Below w.heap.size w w' := by
  have HI := Lib.hid (fun w => rint_any x w)
  have HR := Lib.hid HR0
  clear HR0
  go_enter Tryd.func25, Tryd.ntmps25
  go_wp2_with (fail)
  refine (HR.out _ ((Below.refl _ _).alloc (Nat.le_refl _) _)).mono ?_
  rintro e w1 ⟨rfl, hb1⟩
  have hx := (hb1.block w.heap.size (by simp)).trans (heap_alloc_new _ _)
  have hs : Below w.heap.size w w1 := alloc_below hb1
  have hl : w.heap.size < w1.heap.size := Nat.lt_of_lt_of_le (by simp) hb1.size
  clear hb1
  go_wp2_with (fail)
  refine (HI.out _).mono ?_
  rintro e w2 ⟨rfl, hb2⟩
  replace hx := (hb2.block _ hl).trans hx
  replace hs := hs.trans (hb2.mono hs.size)
  clear hb2
  obtain ⟨x0, x1, x2⟩ := val_cells hx
  obtain ⟨f0, f1, f2⟩ := val_frozen hx
  clear hx
  go_wp2
  exact bodyPost_ret (v := .tuple #[.agg #[.int .i64 1, .int .i64 x, .string ⟨#[]⟩], .bool true]) (by simp [results, Tryd.results25, go_sem, x0, x1, x2]) rfl ⟨rfl, ((hs.setCell (p := ⟨w.heap.size, 0, none⟩) (by simp) _).setCell (p := ⟨w.heap.size, 1, none⟩) (by simp) _).setCell (p := ⟨w.heap.size, 2, none⟩) (by simp) _⟩

set_option maxHeartbeats 1600000 in
theorem rlit_4 (t : ByteArray) (w : World) (e1 : ¬ t.toList = []) (e2 : t.toList.isEmpty = false) (hz : 0 < t.size) (h61 : (((t[0]'hz).toNat : Int) == 61) = false) (h39 : (((t[0]'hz).toNat : Int) == 39) = false) (n39 : (((t[0]'hz).toNat : Int) != 39) = true) (x y : Int) (HR0 : ∀ w', Below w.heap.size w w' → Calls Tryd.prog 54 #[.string t] w' fun e w'' => e = .returned (.tuple #[.int .i64 x, .int .i64 y]) ∧ Below w'.heap.size w' w'') (hy : (y == 0) = false) (tt : (t.toList == [84, 82, 85, 69]) = true) : Calls Tryd.prog 25 #[.string t] w fun e w' => e = .returned (.tuple #[.agg #[.int .i64 2, .int .i64 1, .string ⟨#[]⟩], .bool true]) ∧ Below w.heap.size w w' := by
  have HI := Lib.hid (fun w => rbool_true w)
  have HR := Lib.hid HR0
  clear HR0
  go_enter Tryd.func25, Tryd.ntmps25
  go_wp2_with (fail)
  refine (HR.out _ ((Below.refl _ _).alloc (Nat.le_refl _) _)).mono ?_
  rintro e w1 ⟨rfl, hb1⟩
  have hx := (hb1.block w.heap.size (by simp)).trans (heap_alloc_new _ _)
  have hs : Below w.heap.size w w1 := alloc_below hb1
  have hl : w.heap.size < w1.heap.size := Nat.lt_of_lt_of_le (by simp) hb1.size
  clear hb1
  go_wp2_with (fail)
  refine (HI.out _).mono ?_
  rintro e w2 ⟨rfl, hb2⟩
  replace hx := (hb2.block _ hl).trans hx
  replace hs := hs.trans (hb2.mono hs.size)
  clear hb2
  obtain ⟨x0, x1, x2⟩ := val_cells hx
  obtain ⟨f0, f1, f2⟩ := val_frozen hx
  clear hx
  go_wp2
  exact bodyPost_ret (v := .tuple #[.agg #[.int .i64 2, .int .i64 1, .string ⟨#[]⟩], .bool true]) (by simp [results, Tryd.results25, go_sem, x0, x1, x2]) rfl ⟨rfl, ((hs.setCell (p := ⟨w.heap.size, 0, none⟩) (by simp) _).setCell (p := ⟨w.heap.size, 1, none⟩) (by simp) _).setCell (p := ⟨w.heap.size, 2, none⟩) (by simp) _⟩

set_option maxHeartbeats 1600000 in
theorem rlit_5 (t : ByteArray) (w : World) (e1 : ¬ t.toList = []) (e2 : t.toList.isEmpty = false) (hz : 0 < t.size) (h61 : (((t[0]'hz).toNat : Int) == 61) = false) (h39 : (((t[0]'hz).toNat : Int) == 39) = false) (n39 : (((t[0]'hz).toNat : Int) != 39) = true) (x y : Int) (HR0 : ∀ w', Below w.heap.size w w' → Calls Tryd.prog 54 #[.string t] w' fun e w'' => e = .returned (.tuple #[.int .i64 x, .int .i64 y]) ∧ Below w'.heap.size w' w'') (hy : (y == 0) = false) (tt : (t.toList == [84, 82, 85, 69]) = false) (tf : (t.toList == [70, 65, 76, 83, 69]) = true) : Calls Tryd.prog 25 #[.string t] w fun e w' => e = .returned (.tuple #[.agg #[.int .i64 2, .int .i64 0, .string ⟨#[]⟩], .bool true]) ∧ Below w.heap.size w w' := by
  have HI := Lib.hid (fun w => rbool_false w)
  have HR := Lib.hid HR0
  clear HR0
  go_enter Tryd.func25, Tryd.ntmps25
  go_wp2_with (fail)
  refine (HR.out _ ((Below.refl _ _).alloc (Nat.le_refl _) _)).mono ?_
  rintro e w1 ⟨rfl, hb1⟩
  have hx := (hb1.block w.heap.size (by simp)).trans (heap_alloc_new _ _)
  have hs : Below w.heap.size w w1 := alloc_below hb1
  have hl : w.heap.size < w1.heap.size := Nat.lt_of_lt_of_le (by simp) hb1.size
  clear hb1
  go_wp2_with (fail)
  refine (HI.out _).mono ?_
  rintro e w2 ⟨rfl, hb2⟩
  replace hx := (hb2.block _ hl).trans hx
  replace hs := hs.trans (hb2.mono hs.size)
  clear hb2
  obtain ⟨x0, x1, x2⟩ := val_cells hx
  obtain ⟨f0, f1, f2⟩ := val_frozen hx
  clear hx
  go_wp2
  exact bodyPost_ret (v := .tuple #[.agg #[.int .i64 2, .int .i64 0, .string ⟨#[]⟩], .bool true]) (by simp [results, Tryd.results25, go_sem, x0, x1, x2]) rfl ⟨rfl, ((hs.setCell (p := ⟨w.heap.size, 0, none⟩) (by simp) _).setCell (p := ⟨w.heap.size, 1, none⟩) (by simp) _).setCell (p := ⟨w.heap.size, 2, none⟩) (by simp) _⟩

set_option maxHeartbeats 1600000 in
theorem rlit_c (t : ByteArray) (w : World) (e1 : ¬ t.toList = []) (e2 : t.toList.isEmpty = false) (hz : 0 < t.size) (h61 : (((t[0]'hz).toNat : Int) == 61) = false) (h39 : (((t[0]'hz).toNat : Int) == 39) = false) (n39 : (((t[0]'hz).toNat : Int) != 39) = true) (x y : Int) (HR0 : ∀ w', Below w.heap.size w w' → Calls Tryd.prog 54 #[.string t] w' fun e w'' => e = .returned (.tuple #[.int .i64 x, .int .i64 y]) ∧ Below w'.heap.size w' w'') (hy : (y == 0) = false) (tt : (t.toList == [84, 82, 85, 69]) = false) (tf : (t.toList == [70, 65, 76, 83, 69]) = false) (i : Nat) (hi1 : 1 ≤ i) (hn : ∀ j : Nat, 1 ≤ j → j < i → (t.toList == (Val.nameT (j : Int)).toList) = false) (hi : i ≤ 6) (ht : (t.toList == (Val.nameT (i : Int)).toList) = true) : Calls Tryd.prog 25 #[.string t] w fun e w' => e = .returned (.tuple #[.agg #[.int .i64 4, .int .i64 (i : Int), .string ⟨#[]⟩], .bool true]) ∧ Below w.heap.size w w' := by
  have HN := Lib.hid hn
  clear hn
  have HM := Lib.hid (fun w => errors_any w)
  have HE := Lib.hid (fun e w => rerr_any e w)
  have HX := Lib.hid ht
  clear ht
  have HR := Lib.hid HR0
  clear HR0
  go_enter Tryd.func25, Tryd.ntmps25
  go_wp2_with (fail)
  refine (HR.out _ ((Below.refl _ _).alloc (Nat.le_refl _) _)).mono ?_
  rintro e w1 ⟨rfl, hb1⟩
  have hx := (hb1.block w.heap.size (by simp)).trans (heap_alloc_new _ _)
  have hs : Below w.heap.size w w1 := alloc_below hb1
  have hl : w.heap.size < w1.heap.size := Nat.lt_of_lt_of_le (by simp) hb1.size
  clear hb1
  go_wp2_with (fail)
  refine (HM.out _).mono ?_
  rintro e w2 ⟨rfl, hb2, hc2⟩
  replace hx := (hb2.block _ hl).trans hx
  replace hl := Nat.lt_of_lt_of_le hl hb2.size
  replace hs := hs.trans (hb2.mono hs.size)
  have hcs : Hid (∀ j : Nat, 1 ≤ j → j ≤ 6 → w2.cell? ⟨w1.heap.size, j, none⟩ = some (.string (Val.nameT (j : Int)))) := Lib.hid (fun j h1 h6 => by
    obtain rfl | rfl | rfl | rfl | rfl | rfl : j = 1 ∨ j = 2 ∨ j = 3 ∨ j = 4 ∨ j = 5 ∨ j = 6 := by omega
    all_goals exact Lib.cell_of_heap hc2 _)
  clear hb2 hc2
  obtain ⟨x0, x1, x2⟩ := val_cells hx
  obtain ⟨f0, f1, f2⟩ := val_frozen hx
  clear hx
  go_wp2
  go_loop [7] (fun v => ∃ j : Nat, v = .int .i64 (j : Int) ∧ 1 ≤ j ∧ j ≤ i) (fun v => 7 - (intOf v).toNat)
  case atStart => exact ⟨1, rfl, by omega, by omega⟩
  case round =>
    obtain ⟨j, rfl, hj1, hj2⟩ := hrel
    by_cases hlt : j < i
    · have t6 : decide ((j : Int) ≤ 6) = true := decide_eq_true (by omega)
      have tj := HN.out j hj1 hlt
      have cj := hcs.out j hj1 (by omega)
      go_wp2
      go_round
      case rel => exact ⟨j + 1, by go_num, by omega, by omega⟩
      case measure => simp [intOf]; omega
    · obtain rfl : j = i := by omega
      have t6 : decide ((j : Int) ≤ 6) = true := decide_eq_true (by omega)
      have tj := HX.out
      have cj := hcs.out j hj1 (by omega)
      go_wp2_with (fail)
      refine (HE.out _ _).mono ?_
      rintro e w3 ⟨rfl, hb2⟩
      obtain ⟨x0, x1, x2⟩ : _ ∧ _ ∧ _ := ⟨(hb2.cell (p := ⟨w.heap.size, 0, none⟩) hl).trans x0, (hb2.cell (p := ⟨w.heap.size, 1, none⟩) hl).trans x1, (hb2.cell (p := ⟨w.heap.size, 2, none⟩) hl).trans x2⟩
      obtain ⟨f0, f1, f2⟩ : _ ∧ _ ∧ _ := ⟨(hb2.frozen (p := ⟨w.heap.size, 0, none⟩) hl).trans f0, (hb2.frozen (p := ⟨w.heap.size, 1, none⟩) hl).trans f1, (hb2.frozen (p := ⟨w.heap.size, 2, none⟩) hl).trans f2⟩
      replace hs := hs.trans (hb2.mono hs.size)
      go_wp2
      exact bodyPost_ret (v := .tuple #[.agg #[.int .i64 4, .int .i64 (j : Int), .string ⟨#[]⟩], .bool true]) (by simp [results, Tryd.results25, go_sem, x0, x1, x2]) rfl ⟨rfl, ((hs.setCell (p := ⟨w.heap.size, 0, none⟩) (by simp) _).setCell (p := ⟨w.heap.size, 1, none⟩) (by simp) _).setCell (p := ⟨w.heap.size, 2, none⟩) (by simp) _⟩

set_option maxHeartbeats 1600000 in
theorem rlit_n (t : ByteArray) (w : World) (e1 : ¬ t.toList = []) (e2 : t.toList.isEmpty = false) (hz : 0 < t.size) (h61 : (((t[0]'hz).toNat : Int) == 61) = false) (h39 : (((t[0]'hz).toNat : Int) == 39) = false) (n39 : (((t[0]'hz).toNat : Int) != 39) = true) (x y : Int) (HR0 : ∀ w', Below w.heap.size w w' → Calls Tryd.prog 54 #[.string t] w' fun e w'' => e = .returned (.tuple #[.int .i64 x, .int .i64 y]) ∧ Below w'.heap.size w' w'') (hy : (y == 0) = false) (tt : (t.toList == [84, 82, 85, 69]) = false) (tf : (t.toList == [70, 65, 76, 83, 69]) = false) (i : Nat) (hi1 : 1 ≤ i) (hn : ∀ j : Nat, 1 ≤ j → j < i → (t.toList == (Val.nameT (j : Int)).toList) = false) (hi : i = 7) (gk gn : Int) (gt : ByteArray) (HT0 : ∀ w, Calls Tryd.prog 59 #[.string t] w fun e w' => e = .returned (.agg #[.int .i64 gk, .int .i64 gn, .string gt]) ∧ Below w.heap.size w w') : Calls Tryd.prog 25 #[.string t] w fun e w' => e = .returned (.tuple #[.agg #[.int .i64 gk, .int .i64 gn, .string gt], .bool true]) ∧ Below w.heap.size w w' := by
  have HN := Lib.hid hn
  clear hn
  have HM := Lib.hid (fun w => errors_any w)
  subst hi
  have HT := Lib.hid HT0
  clear HT0
  have HR := Lib.hid HR0
  clear HR0
  go_enter Tryd.func25, Tryd.ntmps25
  go_wp2_with (fail)
  refine (HR.out _ ((Below.refl _ _).alloc (Nat.le_refl _) _)).mono ?_
  rintro e w1 ⟨rfl, hb1⟩
  have hx := (hb1.block w.heap.size (by simp)).trans (heap_alloc_new _ _)
  have hs : Below w.heap.size w w1 := alloc_below hb1
  have hl : w.heap.size < w1.heap.size := Nat.lt_of_lt_of_le (by simp) hb1.size
  clear hb1
  go_wp2_with (fail)
  refine (HM.out _).mono ?_
  rintro e w2 ⟨rfl, hb2, hc2⟩
  replace hx := (hb2.block _ hl).trans hx
  replace hl := Nat.lt_of_lt_of_le hl hb2.size
  replace hs := hs.trans (hb2.mono hs.size)
  have hcs : Hid (∀ j : Nat, 1 ≤ j → j ≤ 6 → w2.cell? ⟨w1.heap.size, j, none⟩ = some (.string (Val.nameT (j : Int)))) := Lib.hid (fun j h1 h6 => by
    obtain rfl | rfl | rfl | rfl | rfl | rfl : j = 1 ∨ j = 2 ∨ j = 3 ∨ j = 4 ∨ j = 5 ∨ j = 6 := by omega
    all_goals exact Lib.cell_of_heap hc2 _)
  clear hb2 hc2
  obtain ⟨x0, x1, x2⟩ := val_cells hx
  obtain ⟨f0, f1, f2⟩ := val_frozen hx
  clear hx
  go_wp2
  go_loop [7] (fun v => ∃ j : Nat, v = .int .i64 (j : Int) ∧ 1 ≤ j ∧ j ≤ 7) (fun v => 7 - (intOf v).toNat)
  case atStart => exact ⟨1, rfl, by omega, by omega⟩
  case round =>
    obtain ⟨j, rfl, hj1, hj2⟩ := hrel
    by_cases hlt : j < 7
    · have t6 : decide ((j : Int) ≤ 6) = true := decide_eq_true (by omega)
      have tj := HN.out j hj1 hlt
      have cj := hcs.out j hj1 (by omega)
      go_wp2
      go_round
      case rel => exact ⟨j + 1, by go_num, by omega, by omega⟩
      case measure => simp [intOf]; omega
    · obtain rfl : j = 7 := by omega
      go_wp2_with (fail)
      refine (HT.out _).mono ?_
      rintro e w3 ⟨rfl, hb2⟩
      obtain ⟨x0, x1, x2⟩ : _ ∧ _ ∧ _ := ⟨(hb2.cell (p := ⟨w.heap.size, 0, none⟩) hl).trans x0, (hb2.cell (p := ⟨w.heap.size, 1, none⟩) hl).trans x1, (hb2.cell (p := ⟨w.heap.size, 2, none⟩) hl).trans x2⟩
      obtain ⟨f0, f1, f2⟩ : _ ∧ _ ∧ _ := ⟨(hb2.frozen (p := ⟨w.heap.size, 0, none⟩) hl).trans f0, (hb2.frozen (p := ⟨w.heap.size, 1, none⟩) hl).trans f1, (hb2.frozen (p := ⟨w.heap.size, 2, none⟩) hl).trans f2⟩
      replace hs := hs.trans (hb2.mono hs.size)
      go_wp2
      exact bodyPost_ret (v := .tuple #[.agg #[.int .i64 gk, .int .i64 gn, .string gt], .bool true]) (by simp [results, Tryd.results25, go_sem, x0, x1, x2]) rfl ⟨rfl, ((hs.setCell (p := ⟨w.heap.size, 0, none⟩) (by simp) _).setCell (p := ⟨w.heap.size, 1, none⟩) (by simp) _).setCell (p := ⟨w.heap.size, 2, none⟩) (by simp) _⟩

def Val.tl (t : ByteArray) : ByteArray := ⟨(t.data.toList.drop 1).toArray⟩
def Val.codeOf (t : ByteArray) : Nat := cond (t.toList == (Val.nameT 1).toList) 1 <| cond (t.toList == (Val.nameT 2).toList) 2 <| cond (t.toList == (Val.nameT 3).toList) 3 <| cond (t.toList == (Val.nameT 4).toList) 4 <| cond (t.toList == (Val.nameT 5).toList) 5 <| cond (t.toList == (Val.nameT 6).toList) 6 7
/-- What a text is worth as a cell; false: it begins with =. -/
def Val.lit (t : ByteArray) : Val.V × Bool :=
  cond (Val.isE t) (⟨0, 0, ⟨#[]⟩⟩, true) <| cond (t.data.toList.head? == some 61) (⟨0, 0, ⟨#[]⟩⟩, false) <| cond (t.data.toList.head? == some 39) (Val.good ⟨3, 0, Val.tl t⟩, true) <|
  cond ((Dec.readS t.data.toList).2 == 0) (⟨1, (Dec.readS t.data.toList).1, ⟨#[]⟩⟩, true) <| cond (Val.isT t) (⟨2, 1, ⟨#[]⟩⟩, true) <| cond (Val.isF t) (⟨2, 0, ⟨#[]⟩⟩, true) <|
  cond (Val.codeOf t == 7) (Val.good ⟨3, 0, t⟩, true) (⟨4, (Val.codeOf t : Int), ⟨#[]⟩⟩, true)
theorem Val.code_spec (t : ByteArray) : 1 ≤ Val.codeOf t ∧ Val.codeOf t ≤ 7 ∧ (Val.codeOf t ≤ 6 → (t.toList == (Val.nameT (Val.codeOf t : Int)).toList) = true) ∧ (∀ j : Nat, 1 ≤ j → j < Val.codeOf t → (t.toList == (Val.nameT (j : Int)).toList) = false) := by
  unfold Val.codeOf
  generalize t.toList = l
  have key : ∀ j k : Nat, k ≤ 7 → 1 ≤ j → j < k → j = 1 ∨ j = 2 ∨ j = 3 ∨ j = 4 ∨ j = 5 ∨ j = 6 := by omega
  cases h1 : (l == (Val.nameT 1).toList) with
  | true => exact ⟨by simp, by simp, fun _ => h1, fun j a b => absurd b (by simp only [cond_true]; omega)⟩
  | false =>
  cases h2 : (l == (Val.nameT 2).toList) with
  | true =>
    refine ⟨by simp, by simp, fun _ => h2, fun j a b => ?_⟩
    simp only [cond_true, cond_false] at b
    obtain rfl : j = 1 := by omega
    exact h1
  | false =>
  cases h3 : (l == (Val.nameT 3).toList) with
  | true =>
    refine ⟨by simp, by simp, fun _ => h3, fun j a b => ?_⟩
    simp only [cond_true, cond_false] at b
    obtain rfl | rfl : j = 1 ∨ j = 2 := by omega
    · exact h1
    · exact h2
  | false =>
  cases h4 : (l == (Val.nameT 4).toList) with
  | true =>
    refine ⟨by simp, by simp, fun _ => h4, fun j a b => ?_⟩
    simp only [cond_true, cond_false] at b
    obtain rfl | rfl | rfl : j = 1 ∨ j = 2 ∨ j = 3 := by omega
    · exact h1
    · exact h2
    · exact h3
  | false =>
  cases h5 : (l == (Val.nameT 5).toList) with
  | true =>
    refine ⟨by simp, by simp, fun _ => h5, fun j a b => ?_⟩
    simp only [cond_true, cond_false] at b
    obtain rfl | rfl | rfl | rfl : j = 1 ∨ j = 2 ∨ j = 3 ∨ j = 4 := by omega
    · exact h1
    · exact h2
    · exact h3
    · exact h4
  | false =>
  cases h6 : (l == (Val.nameT 6).toList) with
  | true =>
    refine ⟨by simp, by simp, fun _ => h6, fun j a b => ?_⟩
    simp only [cond_true, cond_false] at b
    obtain rfl | rfl | rfl | rfl | rfl : j = 1 ∨ j = 2 ∨ j = 3 ∨ j = 4 ∨ j = 5 := by omega
    · exact h1
    · exact h2
    · exact h3
    · exact h4
    · exact h5
  | false =>
    refine ⟨by simp, by simp, fun h => absurd h (by simp), fun j a b => ?_⟩
    simp only [cond_false] at b
    obtain rfl | rfl | rfl | rfl | rfl | rfl : j = 1 ∨ j = 2 ∨ j = 3 ∨ j = 4 ∨ j = 5 ∨ j = 6 := by omega
    · exact h1
    · exact h2
    · exact h3
    · exact h4
    · exact h5
    · exact h6
theorem Val.tl_extract (t : ByteArray) : t.extract 1 t.size = Val.tl t := by
  unfold Val.tl
  apply ByteArray.ext
  apply Array.ext'
  rw [ByteArray.data_extract]
  simp only [Array.toList_extract, List.extract_eq_take_drop]
  rw [List.take_of_length_le (by rw [List.length_drop, Lib.size_eq]; exact Nat.le_refl _)]
theorem Val.trim_tl (t : ByteArray) (h : t.data.toList.head? = some 39) : (⟨(Lib.trimPrefix t.data.toList [39]).toArray⟩ : ByteArray) = Val.tl t := by
  unfold Val.tl Lib.trimPrefix Lib.hasPrefix
  cases hl : t.data.toList with
  | nil => rw [hl] at h; cases h
  | cons c r =>
    rw [hl] at h
    simp only [List.head?_cons, Option.some.injEq] at h
    subst h
    simp
theorem Val.trim_not (t : ByteArray) (h : ¬ t.data.toList.head? = some 39) : (⟨(Lib.trimPrefix t.data.toList [39]).toArray⟩ : ByteArray) = t := by
  unfold Lib.trimPrefix Lib.hasPrefix
  cases hl : t.data.toList with
  | nil =>
    apply ByteArray.ext
    apply Array.ext'
    simp [hl]
  | cons c r =>
    rw [hl] at h
    simp only [List.head?_cons, Option.some.injEq] at h
    have : ([39] : List UInt8).isPrefixOf (c :: r) = false := by
      simp [List.isPrefixOf]
      exact fun e => h e.symm
    rw [this]
    apply ByteArray.ext
    apply Array.ext'
    simp [hl]
theorem Val.head_byte (t : ByteArray) (hz : 0 < t.size) (b : UInt8) : (((t[0]'hz).toNat : Int) == (b.toNat : Int)) = (t.data.toList.head? == some b) := by
  cases hl : t.data.toList with
  | nil =>
    have h0 : t.size = 0 := by rw [Lib.size_eq, hl]; rfl
    omega
  | cons c r =>
    have hc : t[0]'hz = c := by
      show t.data[0] = c
      have := Array.getElem_toList (xs := t.data) (i := 0) (by simpa using hz)
      rw [← this]
      simp [hl]
    rw [hc]
    simp only [List.head?_cons]
    by_cases e : c = b
    · subst e; simp
    · have e2 : ¬ c.toNat = b.toNat := fun h => e (Dec.toNat_inj h)
      rw [beq_eq_false_iff_ne.2 (by omega)]
      symm
      simpa using e
theorem lit_any (t : ByteArray) (w : World) (hs : t.size ≤ 140737488351232) (hN : NumW w) : Calls Tryd.prog 11 #[.string t] w fun e w' => e = .returned (.tuple #[vv (Val.lit t).1, .bool (Val.lit t).2]) ∧ Below w.heap.size w w' := by
  unfold Val.lit Val.isE Val.isT Val.isF
  by_cases e1 : t.toList = []
  · have e2 : t.toList.isEmpty = true := by rw [e1]; rfl
    rw [e2]
    exact lit_0 t w e1 e2
  have e2 : t.toList.isEmpty = false := by simpa using e1
  have hz : 0 < t.size := by
    rw [Lib.toList_data] at e1
    rcases hl : t.data.toList with _ | ⟨c, r⟩
    · exact absurd hl e1
    · rw [Lib.size_eq, hl]; exact Nat.succ_pos _
  rw [e2]
  simp only [cond_false]
  have b61 := Val.head_byte t hz 61
  have b39 := Val.head_byte t hz 39
  rw [show ((61 : UInt8).toNat : Int) = 61 from rfl] at b61
  rw [show ((39 : UInt8).toNat : Int) = 39 from rfl] at b39
  cases c61 : (t.data.toList.head? == some 61) with
  | true =>
    exact lit_1 t w e1 e2 hz (b61.trans c61)
  | false =>
    have h61 := b61.trans c61
    simp only [cond_false]
    cases c39 : (t.data.toList.head? == some 39) with
    | true =>
      have h39 := b39.trans c39
      have n39 : (((t[0]'hz).toNat : Int) != 39) = false := by rw [bne, h39]; rfl
      simp only [cond_true]
      have HT : ∀ w, Calls Tryd.prog 32 #[.string t, .string ⟨#[39]⟩] w fun e w' => e = .returned (.string (Val.tl t)) ∧ w' = w := fun w => by
        have := Tryd.strings_TrimPrefix t ⟨#[39]⟩ w
        rw [show (⟨#[39]⟩ : ByteArray).data.toList = [39] from rfl, Val.trim_tl t (by simpa using c39)] at this
        exact this
      have HG := fun w => vgood_any ⟨3, 0, Val.tl t⟩ w
      generalize Val.good ⟨3, 0, Val.tl t⟩ = g at HG ⊢
      obtain ⟨gk, gn, gt⟩ := g
      exact lit_2 t w e1 e2 hz h61 h39 n39 gk gn gt (Val.tl t) HT HG
    | false =>
    have h39 := b39.trans c39
    have n39 : (((t[0]'hz).toNat : Int) != 39) = true := by rw [bne, h39]; rfl
    simp only [cond_false]
    rcases hxy : Dec.readS t.data.toList with ⟨x, y⟩
    simp only
    have HR : ∀ w', Below w.heap.size w w' → Calls Tryd.prog 31 #[.string t] w' fun e w'' => e = .returned (.tuple #[.int .i64 x, .int .i64 y]) ∧ Below w'.heap.size w' w'' := fun w' hb => read_any t x y w' hs (hN.below hb) hxy
    cases hy2 : (y == 0) with
    | true => exact lit_3 t w e1 e2 hz h61 h39 n39 x y HR hy2
    | false =>
    simp only [cond_false]
    cases tt : (t.toList == [84, 82, 85, 69]) with
    | true => exact lit_4 t w e1 e2 hz h61 h39 n39 x y HR hy2 tt
    | false =>
    simp only [cond_false]
    cases tf : (t.toList == [70, 65, 76, 83, 69]) with
    | true => exact lit_5 t w e1 e2 hz h61 h39 n39 x y HR hy2 tt tf
    | false =>
    simp only [cond_false]
    obtain ⟨hc1, hc2, hc3, hc4⟩ := Val.code_spec t
    generalize Val.codeOf t = i at hc1 hc2 hc3 hc4 ⊢
    by_cases h7 : i = 7
    · subst h7
      simp only [beq_self_eq_true, cond_true]
      have HT : ∀ w, Calls Tryd.prog 32 #[.string t, .string ⟨#[39]⟩] w fun e w' => e = .returned (.string t) ∧ w' = w := fun w => by
        have := Tryd.strings_TrimPrefix t ⟨#[39]⟩ w
        rw [show (⟨#[39]⟩ : ByteArray).data.toList = [39] from rfl, Val.trim_not t (by simpa using c39)] at this
        exact this
      have HG := fun w => vgood_any ⟨3, 0, t⟩ w
      generalize Val.good ⟨3, 0, t⟩ = g at HG ⊢
      obtain ⟨gk, gn, gt⟩ := g
      exact lit_n t w e1 e2 hz h61 h39 n39 x y HR hy2 tt tf 7 hc1 hc4 rfl gk gn gt HT HG
    · rw [show (i == 7) = false by simpa using h7]
      simp only [cond_false]
      exact lit_c t w e1 e2 hz h61 h39 n39 x y HR hy2 tt tf i hc1 hc4 (by omega) (hc3 (by omega))
theorem rlit_any (t : ByteArray) (w : World) (hs : t.size ≤ 140737488351232) : Calls Tryd.prog 25 #[.string t] w fun e w' => e = .returned (.tuple #[vv (Val.lit t).1, .bool (Val.lit t).2]) ∧ Below w.heap.size w w' := by
  unfold Val.lit Val.isE Val.isT Val.isF
  by_cases e1 : t.toList = []
  · have e2 : t.toList.isEmpty = true := by rw [e1]; rfl
    rw [e2]
    exact rlit_0 t w e1 e2
  have e2 : t.toList.isEmpty = false := by simpa using e1
  have hz : 0 < t.size := by
    rw [Lib.toList_data] at e1
    rcases hl : t.data.toList with _ | ⟨c, r⟩
    · exact absurd hl e1
    · rw [Lib.size_eq, hl]; exact Nat.succ_pos _
  rw [e2]
  simp only [cond_false]
  have b61 := Val.head_byte t hz 61
  have b39 := Val.head_byte t hz 39
  rw [show ((61 : UInt8).toNat : Int) = 61 from rfl] at b61
  rw [show ((39 : UInt8).toNat : Int) = 39 from rfl] at b39
  cases c61 : (t.data.toList.head? == some 61) with
  | true =>
    exact rlit_1 t w e1 e2 hz (b61.trans c61)
  | false =>
    have h61 := b61.trans c61
    simp only [cond_false]
    cases c39 : (t.data.toList.head? == some 39) with
    | true =>
      have h39 := b39.trans c39
      have n39 : (((t[0]'hz).toNat : Int) != 39) = false := by rw [bne, h39]; rfl
      simp only [cond_true]
      have HT := fun w => rtextv_any (Val.tl t) w
      generalize Val.good ⟨3, 0, Val.tl t⟩ = g at HT ⊢
      obtain ⟨gk, gn, gt⟩ := g
      exact rlit_2 t w e1 e2 hz h61 h39 n39 gk gn gt (Val.tl t) (Val.tl_extract t) HT
    | false =>
    have h39 := b39.trans c39
    have n39 : (((t[0]'hz).toNat : Int) != 39) = true := by rw [bne, h39]; rfl
    simp only [cond_false]
    rcases hxy : Dec.readS t.data.toList with ⟨x, y⟩
    simp only
    have HR : ∀ w', Below w.heap.size w w' → Calls Tryd.prog 54 #[.string t] w' fun e w'' => e = .returned (.tuple #[.int .i64 x, .int .i64 y]) ∧ Below w'.heap.size w' w'' := fun w' hb => rread_any t x y w' hs hxy
    cases hy2 : (y == 0) with
    | true => exact rlit_3 t w e1 e2 hz h61 h39 n39 x y HR hy2
    | false =>
    simp only [cond_false]
    cases tt : (t.toList == [84, 82, 85, 69]) with
    | true => exact rlit_4 t w e1 e2 hz h61 h39 n39 x y HR hy2 tt
    | false =>
    simp only [cond_false]
    cases tf : (t.toList == [70, 65, 76, 83, 69]) with
    | true => exact rlit_5 t w e1 e2 hz h61 h39 n39 x y HR hy2 tt tf
    | false =>
    simp only [cond_false]
    obtain ⟨hc1, hc2, hc3, hc4⟩ := Val.code_spec t
    generalize Val.codeOf t = i at hc1 hc2 hc3 hc4 ⊢
    by_cases h7 : i = 7
    · subst h7
      simp only [beq_self_eq_true, cond_true]
      have HT := fun w => rtextv_any t w
      generalize Val.good ⟨3, 0, t⟩ = g at HT ⊢
      obtain ⟨gk, gn, gt⟩ := g
      exact rlit_n t w e1 e2 hz h61 h39 n39 x y HR hy2 tt tf 7 hc1 hc4 rfl gk gn gt HT
    · rw [show (i == 7) = false by simpa using h7]
      simp only [cond_false]
      exact rlit_c t w e1 e2 hz h61 h39 n39 x y HR hy2 tt tf i hc1 hc4 (by omega) (hc3 (by omega))
end Go.Proofs.YtdbjmjeiaajdiaaDoor
