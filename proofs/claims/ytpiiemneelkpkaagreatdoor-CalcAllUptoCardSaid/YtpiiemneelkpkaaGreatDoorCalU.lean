import Derived.Test.YtpiiemneelkpkaaGreatDoorCalR
set_option maxRecDepth 100000
namespace Go.Proofs.YtpiiemneelkpkaaGreatDoor
open Go.RowKit
set_option linter.unusedVariables false
theorem call_err1 (f e0 c mn mx : Int) (n : Nat) (nm : ByteArray) (a : Option Addr) (cap : Nat) (w : World) (hI : infoV f = ((nm, c, mn, mx), e0)) (t0 : (e0 != 0) = true) : Ret 18 #[.int .i64 f, .slice a n cap] w (.tuple #[.agg #[.int .i64 0, .int .i64 0, .string ⟨#[]⟩], .int .i64 1]) := by
 have HI := Lib.hid (fun w => info_any f w)
 rw [hI] at HI
 clear hI
 go_enter Tryz.func18, Tryz.ntmps18
 go_wp2_with (fail)
 refine (HI.out _).mono ?_
 rintro e w1 ⟨rfl, hb1⟩
 have hz := (hb1.block w.heap.size (by simp)).trans (heap_alloc_new _ _)
 have hb : Below w.heap.size w w1 := alloc_below hb1
 have hl1 : L1 w (w1.alloc (.cells #[.string nm, .int .i64 c, .int .i64 mn, .int .i64 mx] 41 (0, 0))) w1.heap.size nm c mn mx :=
  ⟨hb.alloc hb.size _, (heap_alloc_old _ _ (Array.getElem?_eq_some_iff.1 hz).1).trans hz, heap_alloc_new _ _⟩
 clear hb1 hz hb
 have HL := Lib.hid hl1
 clear hl1
 have h0 := HL.out.x
 have x0 := ch h0 0
 have x1 := ch h0 1
 have x2 := ch h0 2
 have x3 := ch h0 3
 have hz := HL.out.z
 obtain ⟨z0, z1, z2⟩ := val_cells hz
 obtain ⟨f0, f1, f2⟩ := val_frozen hz
 simp at x0 x1 x2 x3
 clear h0 hz
 go_wp2_with (fail)
 exact bodyPost_ret (v := .tuple #[.agg #[.int .i64 0, .int .i64 0, .string ⟨#[]⟩], .int .i64 1]) (by simp [results, Tryz.results18, go_sem, z0, z1, z2]) rfl ⟨rfl, set3 HL.out.b (by simp)⟩
theorem call_err2 (f e0 c mn mx : Int) (n : Nat) (nm : ByteArray) (a : Option Addr) (cap : Nat) (w : World) (hI : infoV f = ((nm, c, mn, mx), e0)) (t0 : (e0 != 0) = false) (t1 : (c != 1) = true) (t2 : (c != 2) = true) : Ret 18 #[.int .i64 f, .slice a n cap] w (.tuple #[.agg #[.int .i64 0, .int .i64 0, .string ⟨#[]⟩], .int .i64 1]) := by
 have HI := Lib.hid (fun w => info_any f w)
 rw [hI] at HI
 clear hI
 go_enter Tryz.func18, Tryz.ntmps18
 go_wp2_with (fail)
 refine (HI.out _).mono ?_
 rintro e w1 ⟨rfl, hb1⟩
 have hz := (hb1.block w.heap.size (by simp)).trans (heap_alloc_new _ _)
 have hb : Below w.heap.size w w1 := alloc_below hb1
 have hl1 : L1 w (w1.alloc (.cells #[.string nm, .int .i64 c, .int .i64 mn, .int .i64 mx] 41 (0, 0))) w1.heap.size nm c mn mx :=
  ⟨hb.alloc hb.size _, (heap_alloc_old _ _ (Array.getElem?_eq_some_iff.1 hz).1).trans hz, heap_alloc_new _ _⟩
 clear hb1 hz hb
 have HL := Lib.hid hl1
 clear hl1
 have h0 := HL.out.x
 have x0 := ch h0 0
 have x1 := ch h0 1
 have x2 := ch h0 2
 have x3 := ch h0 3
 have hz := HL.out.z
 obtain ⟨z0, z1, z2⟩ := val_cells hz
 obtain ⟨f0, f1, f2⟩ := val_frozen hz
 simp at x0 x1 x2 x3
 clear h0 hz
 go_wp2_with (fail)
 exact bodyPost_ret (v := .tuple #[.agg #[.int .i64 0, .int .i64 0, .string ⟨#[]⟩], .int .i64 1]) (by simp [results, Tryz.results18, go_sem, z0, z1, z2]) rfl ⟨rfl, set3 HL.out.b (by simp)⟩
theorem call_err3a (f e0 c mn mx : Int) (n : Nat) (nm : ByteArray) (a : Option Addr) (cap : Nat) (w : World) (hI : infoV f = ((nm, c, mn, mx), e0)) (t0 : (e0 != 0) = false) (t1 : (c != 1) = false) (t2 : (c != 2) = true) (t3 : decide ((n : Int) < mn) = true) : Ret 18 #[.int .i64 f, .slice a n cap] w (.tuple #[.agg #[.int .i64 0, .int .i64 0, .string ⟨#[]⟩], .int .i64 1]) := by
 have HI := Lib.hid (fun w => info_any f w)
 rw [hI] at HI
 clear hI
 go_enter Tryz.func18, Tryz.ntmps18
 go_wp2_with (fail)
 refine (HI.out _).mono ?_
 rintro e w1 ⟨rfl, hb1⟩
 have hz := (hb1.block w.heap.size (by simp)).trans (heap_alloc_new _ _)
 have hb : Below w.heap.size w w1 := alloc_below hb1
 have hl1 : L1 w (w1.alloc (.cells #[.string nm, .int .i64 c, .int .i64 mn, .int .i64 mx] 41 (0, 0))) w1.heap.size nm c mn mx :=
  ⟨hb.alloc hb.size _, (heap_alloc_old _ _ (Array.getElem?_eq_some_iff.1 hz).1).trans hz, heap_alloc_new _ _⟩
 clear hb1 hz hb
 have HL := Lib.hid hl1
 clear hl1
 have h0 := HL.out.x
 have x0 := ch h0 0
 have x1 := ch h0 1
 have x2 := ch h0 2
 have x3 := ch h0 3
 have hz := HL.out.z
 obtain ⟨z0, z1, z2⟩ := val_cells hz
 obtain ⟨f0, f1, f2⟩ := val_frozen hz
 simp at x0 x1 x2 x3
 clear h0 hz
 go_wp2_with (fail)
 exact bodyPost_ret (v := .tuple #[.agg #[.int .i64 0, .int .i64 0, .string ⟨#[]⟩], .int .i64 1]) (by simp [results, Tryz.results18, go_sem, z0, z1, z2]) rfl ⟨rfl, set3 HL.out.b (by simp)⟩
theorem call_err4a (f e0 c mn mx : Int) (n : Nat) (nm : ByteArray) (a : Option Addr) (cap : Nat) (w : World) (hI : infoV f = ((nm, c, mn, mx), e0)) (t0 : (e0 != 0) = false) (t1 : (c != 1) = false) (t2 : (c != 2) = true) (t3 : decide ((n : Int) < mn) = false) (t4 : decide (mx < (n : Int)) = true) : Ret 18 #[.int .i64 f, .slice a n cap] w (.tuple #[.agg #[.int .i64 0, .int .i64 0, .string ⟨#[]⟩], .int .i64 1]) := by
 have HI := Lib.hid (fun w => info_any f w)
 rw [hI] at HI
 clear hI
 go_enter Tryz.func18, Tryz.ntmps18
 go_wp2_with (fail)
 refine (HI.out _).mono ?_
 rintro e w1 ⟨rfl, hb1⟩
 have hz := (hb1.block w.heap.size (by simp)).trans (heap_alloc_new _ _)
 have hb : Below w.heap.size w w1 := alloc_below hb1
 have hl1 : L1 w (w1.alloc (.cells #[.string nm, .int .i64 c, .int .i64 mn, .int .i64 mx] 41 (0, 0))) w1.heap.size nm c mn mx :=
  ⟨hb.alloc hb.size _, (heap_alloc_old _ _ (Array.getElem?_eq_some_iff.1 hz).1).trans hz, heap_alloc_new _ _⟩
 clear hb1 hz hb
 have HL := Lib.hid hl1
 clear hl1
 have h0 := HL.out.x
 have x0 := ch h0 0
 have x1 := ch h0 1
 have x2 := ch h0 2
 have x3 := ch h0 3
 have hz := HL.out.z
 obtain ⟨z0, z1, z2⟩ := val_cells hz
 obtain ⟨f0, f1, f2⟩ := val_frozen hz
 simp at x0 x1 x2 x3
 clear h0 hz
 go_wp2_with (fail)
 exact bodyPost_ret (v := .tuple #[.agg #[.int .i64 0, .int .i64 0, .string ⟨#[]⟩], .int .i64 1]) (by simp [results, Tryz.results18, go_sem, z0, z1, z2]) rfl ⟨rfl, set3 HL.out.b (by simp)⟩
theorem call_err3b (f e0 c mn mx : Int) (n : Nat) (nm : ByteArray) (a : Option Addr) (cap : Nat) (w : World) (hI : infoV f = ((nm, c, mn, mx), e0)) (t0 : (e0 != 0) = false) (t1 : (c != 1) = true) (t2 : (c != 2) = false) (t3 : decide ((n : Int) < mn) = true) : Ret 18 #[.int .i64 f, .slice a n cap] w (.tuple #[.agg #[.int .i64 0, .int .i64 0, .string ⟨#[]⟩], .int .i64 1]) := by
 have HI := Lib.hid (fun w => info_any f w)
 rw [hI] at HI
 clear hI
 go_enter Tryz.func18, Tryz.ntmps18
 go_wp2_with (fail)
 refine (HI.out _).mono ?_
 rintro e w1 ⟨rfl, hb1⟩
 have hz := (hb1.block w.heap.size (by simp)).trans (heap_alloc_new _ _)
 have hb : Below w.heap.size w w1 := alloc_below hb1
 have hl1 : L1 w (w1.alloc (.cells #[.string nm, .int .i64 c, .int .i64 mn, .int .i64 mx] 41 (0, 0))) w1.heap.size nm c mn mx :=
  ⟨hb.alloc hb.size _, (heap_alloc_old _ _ (Array.getElem?_eq_some_iff.1 hz).1).trans hz, heap_alloc_new _ _⟩
 clear hb1 hz hb
 have HL := Lib.hid hl1
 clear hl1
 have h0 := HL.out.x
 have x0 := ch h0 0
 have x1 := ch h0 1
 have x2 := ch h0 2
 have x3 := ch h0 3
 have hz := HL.out.z
 obtain ⟨z0, z1, z2⟩ := val_cells hz
 obtain ⟨f0, f1, f2⟩ := val_frozen hz
 simp at x0 x1 x2 x3
 clear h0 hz
 go_wp2_with (fail)
 exact bodyPost_ret (v := .tuple #[.agg #[.int .i64 0, .int .i64 0, .string ⟨#[]⟩], .int .i64 1]) (by simp [results, Tryz.results18, go_sem, z0, z1, z2]) rfl ⟨rfl, set3 HL.out.b (by simp)⟩
theorem call_err4b (f e0 c mn mx : Int) (n : Nat) (nm : ByteArray) (a : Option Addr) (cap : Nat) (w : World) (hI : infoV f = ((nm, c, mn, mx), e0)) (t0 : (e0 != 0) = false) (t1 : (c != 1) = true) (t2 : (c != 2) = false) (t3 : decide ((n : Int) < mn) = false) (t4 : decide (mx < (n : Int)) = true) : Ret 18 #[.int .i64 f, .slice a n cap] w (.tuple #[.agg #[.int .i64 0, .int .i64 0, .string ⟨#[]⟩], .int .i64 1]) := by
 have HI := Lib.hid (fun w => info_any f w)
 rw [hI] at HI
 clear hI
 go_enter Tryz.func18, Tryz.ntmps18
 go_wp2_with (fail)
 refine (HI.out _).mono ?_
 rintro e w1 ⟨rfl, hb1⟩
 have hz := (hb1.block w.heap.size (by simp)).trans (heap_alloc_new _ _)
 have hb : Below w.heap.size w w1 := alloc_below hb1
 have hl1 : L1 w (w1.alloc (.cells #[.string nm, .int .i64 c, .int .i64 mn, .int .i64 mx] 41 (0, 0))) w1.heap.size nm c mn mx :=
  ⟨hb.alloc hb.size _, (heap_alloc_old _ _ (Array.getElem?_eq_some_iff.1 hz).1).trans hz, heap_alloc_new _ _⟩
 clear hb1 hz hb
 have HL := Lib.hid hl1
 clear hl1
 have h0 := HL.out.x
 have x0 := ch h0 0
 have x1 := ch h0 1
 have x2 := ch h0 2
 have x3 := ch h0 3
 have hz := HL.out.z
 obtain ⟨z0, z1, z2⟩ := val_cells hz
 obtain ⟨f0, f1, f2⟩ := val_frozen hz
 simp at x0 x1 x2 x3
 clear h0 hz
 go_wp2_with (fail)
 exact bodyPost_ret (v := .tuple #[.agg #[.int .i64 0, .int .i64 0, .string ⟨#[]⟩], .int .i64 1]) (by simp [results, Tryz.results18, go_sem, z0, z1, z2]) rfl ⟨rfl, set3 HL.out.b (by simp)⟩
theorem ask_36 (k n : Int) (t : ByteArray) (w : World) : Ret 44 #[.int .i64 36, .agg #[.int .i64 k, .int .i64 n, .string t]] w (.bool (k == 0)) := by
 generalize hb : (k == 0) = b
 go_enter Tryz.func44, Tryz.ntmps44
 go_wp2
 go_ret
 exact ⟨rfl, (Below.refl _ _).alloc (Nat.le_refl _) _⟩
theorem ask_37 (k n : Int) (t : ByteArray) (w : World) : Ret 44 #[.int .i64 37, .agg #[.int .i64 k, .int .i64 n, .string t]] w (.bool (k == 1)) := by
 generalize hb : (k == 1) = b
 go_enter Tryz.func44, Tryz.ntmps44
 go_wp2
 go_ret
 exact ⟨rfl, (Below.refl _ _).alloc (Nat.le_refl _) _⟩
theorem ask_38 (k n : Int) (t : ByteArray) (w : World) : Ret 44 #[.int .i64 38, .agg #[.int .i64 k, .int .i64 n, .string t]] w (.bool (k == 3)) := by
 generalize hb : (k == 3) = b
 go_enter Tryz.func44, Tryz.ntmps44
 go_wp2
 go_ret
 exact ⟨rfl, (Below.refl _ _).alloc (Nat.le_refl _) _⟩
theorem ask_39 (k n : Int) (t : ByteArray) (w : World) : Ret 44 #[.int .i64 39, .agg #[.int .i64 k, .int .i64 n, .string t]] w (.bool (k == 2)) := by
 generalize hb : (k == 2) = b
 go_enter Tryz.func44, Tryz.ntmps44
 go_wp2
 go_ret
 exact ⟨rfl, (Below.refl _ _).alloc (Nat.le_refl _) _⟩
theorem ask_40 (k n : Int) (t : ByteArray) (w : World) : Ret 44 #[.int .i64 40, .agg #[.int .i64 k, .int .i64 n, .string t]] w (.bool (k == 4)) := by
 generalize hb : (k == 4) = b
 go_enter Tryz.func44, Tryz.ntmps44
 go_wp2
 go_ret
 exact ⟨rfl, (Below.refl _ _).alloc (Nat.le_refl _) _⟩
theorem ask_41a (k n : Int) (t : ByteArray) (h0 : (k == 4) = false) (w : World) : Ret 44 #[.int .i64 41, .agg #[.int .i64 k, .int .i64 n, .string t]] w (.bool false) := by
 have HE := Lib.hid (fun w => cfault_any 6 w)
 have hx : (w.alloc (.cells #[.int .i64 k, .int .i64 n, .string t] 26)).heap[w.heap.size]? = some (.cells #[.int .i64 k, .int .i64 n, .string t] 26 (0, 0)) := heap_alloc_new _ _
 have hb : Below w.heap.size w (w.alloc (.cells #[.int .i64 k, .int .i64 n, .string t] 26)) := (Below.refl _ _).alloc (Nat.le_refl _) _
 have hl : w.heap.size < (w.alloc (.cells #[.int .i64 k, .int .i64 n, .string t] 26)).heap.size := by simp
 go_enter Tryz.func44, Tryz.ntmps44
 go_wp2_with (fail)
 generalize (w.alloc (.cells #[.int .i64 k, .int .i64 n, .string t] 26)) = W1 at *
 have hS : W1.cell? ⟨w.heap.size, 0, none⟩ = some (.int .i64 k) ∧ W1.cell? ⟨w.heap.size, 1, none⟩ = some (.int .i64 n) ∧ W1.cell? ⟨w.heap.size, 2, none⟩ = some (.string t) := val_cells hx
 clear hx
 go_region_held3 (fun w' => w'.cell? ⟨w.heap.size, 0, none⟩ = some (.int .i64 k) ∧ w'.cell? ⟨w.heap.size, 1, none⟩ = some (.int .i64 n) ∧ w'.cell? ⟨w.heap.size, 2, none⟩ = some (.string t))
  (first | go_keep | exact ⟨(hb4.cell (p := ⟨w.heap.size, 0, none⟩) hl).trans hS.1, (hb4.cell (p := ⟨w.heap.size, 1, none⟩) hl).trans hS.2.1, (hb4.cell (p := ⟨w.heap.size, 2, none⟩) hl).trans hS.2.2⟩)
  ((go_at_call 28; refine (HE.out _).mono ?_; rintro e w4 ⟨rfl, hb4⟩))
 go_wp2
 go_ret
 exact ⟨rfl, hb.drew.trans (hb4.mono hb.size)⟩
theorem ask_41b (n : Int) (t : ByteArray) (h0 : (n == 6) = false) (w : World) : Ret 44 #[.int .i64 41, .agg #[.int .i64 4, .int .i64 n, .string t]] w (.bool false) := by
 have HE := Lib.hid (fun w => cfault_any 6 w)
 have hx : (w.alloc (.cells #[.int .i64 4, .int .i64 n, .string t] 26)).heap[w.heap.size]? = some (.cells #[.int .i64 4, .int .i64 n, .string t] 26 (0, 0)) := heap_alloc_new _ _
 have hb : Below w.heap.size w (w.alloc (.cells #[.int .i64 4, .int .i64 n, .string t] 26)) := (Below.refl _ _).alloc (Nat.le_refl _) _
 have hl : w.heap.size < (w.alloc (.cells #[.int .i64 4, .int .i64 n, .string t] 26)).heap.size := by simp
 go_enter Tryz.func44, Tryz.ntmps44
 go_wp2_with (fail)
 generalize (w.alloc (.cells #[.int .i64 4, .int .i64 n, .string t] 26)) = W1 at *
 have hS : W1.cell? ⟨w.heap.size, 0, none⟩ = some (.int .i64 4) ∧ W1.cell? ⟨w.heap.size, 1, none⟩ = some (.int .i64 n) ∧ W1.cell? ⟨w.heap.size, 2, none⟩ = some (.string t) := val_cells hx
 clear hx
 go_region_held3 (fun w' => w'.cell? ⟨w.heap.size, 0, none⟩ = some (.int .i64 4) ∧ w'.cell? ⟨w.heap.size, 1, none⟩ = some (.int .i64 n) ∧ w'.cell? ⟨w.heap.size, 2, none⟩ = some (.string t))
  (first | go_keep | exact ⟨(hb4.cell (p := ⟨w.heap.size, 0, none⟩) hl).trans hS.1, (hb4.cell (p := ⟨w.heap.size, 1, none⟩) hl).trans hS.2.1, (hb4.cell (p := ⟨w.heap.size, 2, none⟩) hl).trans hS.2.2⟩)
  ((go_at_call 28; refine (HE.out _).mono ?_; rintro e w4 ⟨rfl, hb4⟩))
 go_wp2
 go_ret
 exact ⟨rfl, hb.drew.trans (hb4.mono hb.size)⟩
theorem ask_41c (t : ByteArray) (h0 : t.toList = []) (h1 : t.toList.isEmpty = true) (w : World) : Ret 44 #[.int .i64 41, .agg #[.int .i64 4, .int .i64 6, .string t]] w (.bool true) := by
 have HE := Lib.hid (fun w => cfault_any 6 w)
 have hx : (w.alloc (.cells #[.int .i64 4, .int .i64 6, .string t] 26)).heap[w.heap.size]? = some (.cells #[.int .i64 4, .int .i64 6, .string t] 26 (0, 0)) := heap_alloc_new _ _
 have hb : Below w.heap.size w (w.alloc (.cells #[.int .i64 4, .int .i64 6, .string t] 26)) := (Below.refl _ _).alloc (Nat.le_refl _) _
 have hl : w.heap.size < (w.alloc (.cells #[.int .i64 4, .int .i64 6, .string t] 26)).heap.size := by simp
 go_enter Tryz.func44, Tryz.ntmps44
 go_wp2_with (fail)
 generalize (w.alloc (.cells #[.int .i64 4, .int .i64 6, .string t] 26)) = W1 at *
 have hS : W1.cell? ⟨w.heap.size, 0, none⟩ = some (.int .i64 4) ∧ W1.cell? ⟨w.heap.size, 1, none⟩ = some (.int .i64 6) ∧ W1.cell? ⟨w.heap.size, 2, none⟩ = some (.string t) := val_cells hx
 clear hx
 go_region_held3 (fun w' => w'.cell? ⟨w.heap.size, 0, none⟩ = some (.int .i64 4) ∧ w'.cell? ⟨w.heap.size, 1, none⟩ = some (.int .i64 6) ∧ w'.cell? ⟨w.heap.size, 2, none⟩ = some (.string t))
  (first | go_keep | exact ⟨(hb4.cell (p := ⟨w.heap.size, 0, none⟩) hl).trans hS.1, (hb4.cell (p := ⟨w.heap.size, 1, none⟩) hl).trans hS.2.1, (hb4.cell (p := ⟨w.heap.size, 2, none⟩) hl).trans hS.2.2⟩)
  ((go_at_call 28; refine (HE.out _).mono ?_; rintro e w4 ⟨rfl, hb4⟩))
 go_wp2
 go_ret
 exact ⟨rfl, hb.drew.trans (hb4.mono hb.size)⟩
theorem ask_41d (t : ByteArray) (h0 : ¬ t.toList = []) (h1 : t.toList.isEmpty = false) (w : World) : Ret 44 #[.int .i64 41, .agg #[.int .i64 4, .int .i64 6, .string t]] w (.bool false) := by
 have HE := Lib.hid (fun w => cfault_any 6 w)
 have hx : (w.alloc (.cells #[.int .i64 4, .int .i64 6, .string t] 26)).heap[w.heap.size]? = some (.cells #[.int .i64 4, .int .i64 6, .string t] 26 (0, 0)) := heap_alloc_new _ _
 have hb : Below w.heap.size w (w.alloc (.cells #[.int .i64 4, .int .i64 6, .string t] 26)) := (Below.refl _ _).alloc (Nat.le_refl _) _
 have hl : w.heap.size < (w.alloc (.cells #[.int .i64 4, .int .i64 6, .string t] 26)).heap.size := by simp
 go_enter Tryz.func44, Tryz.ntmps44
 go_wp2_with (fail)
 generalize (w.alloc (.cells #[.int .i64 4, .int .i64 6, .string t] 26)) = W1 at *
 have hS : W1.cell? ⟨w.heap.size, 0, none⟩ = some (.int .i64 4) ∧ W1.cell? ⟨w.heap.size, 1, none⟩ = some (.int .i64 6) ∧ W1.cell? ⟨w.heap.size, 2, none⟩ = some (.string t) := val_cells hx
 clear hx
 go_region_held3 (fun w' => w'.cell? ⟨w.heap.size, 0, none⟩ = some (.int .i64 4) ∧ w'.cell? ⟨w.heap.size, 1, none⟩ = some (.int .i64 6) ∧ w'.cell? ⟨w.heap.size, 2, none⟩ = some (.string t))
  (first | go_keep | exact ⟨(hb4.cell (p := ⟨w.heap.size, 0, none⟩) hl).trans hS.1, (hb4.cell (p := ⟨w.heap.size, 1, none⟩) hl).trans hS.2.1, (hb4.cell (p := ⟨w.heap.size, 2, none⟩) hl).trans hS.2.2⟩)
  ((go_at_call 28; refine (HE.out _).mono ?_; rintro e w4 ⟨rfl, hb4⟩))
 go_wp2
 go_ret
 exact ⟨rfl, hb.drew.trans (hb4.mono hb.size)⟩
theorem ask_41 (k n : Int) (t : ByteArray) (w : World) : Ret 44 #[.int .i64 41, .agg #[.int .i64 k, .int .i64 n, .string t]] w (.bool (k == 4 && (n == 6 && t.toList.isEmpty))) := by
 cases h0 : (k == 4) with
 | false => exact ask_41a k n t h0 w
 | true =>
  obtain rfl : k = 4 := by simpa using h0
  cases h1 : (n == 6) with
  | false => exact ask_41b n t h1 w
  | true =>
   obtain rfl : n = 6 := by simpa using h1
   cases h2 : t.toList.isEmpty with
   | true => exact ask_41c t (by simpa using h2) h2 w
   | false => exact ask_41d t (by simpa using h2) h2 w
theorem call_ask (f kk kn rk rn z : Int) (kt nm rt : ByteArray) (b : Bool) (bb o cap : Nat) (w : World) (hI : infoV f = ((nm, 2, 1, 1), 0)) (hbl : bb < w.heap.size)
  (c0 : w.cell? ⟨bb, o, none⟩ = some (.int .i64 kk)) (c1 : w.cell? ⟨bb, o + 1, none⟩ = some (.int .i64 kn)) (c2 : w.cell? ⟨bb, o + 2, none⟩ = some (.string kt))
  (HA : Hid (∀ w, Ret 44 #[.int .i64 f, .agg #[.int .i64 kk, .int .i64 kn, .string kt]] w (.bool b)))
  (HM : Hid (Val.mayB ⟨kk, kn, kt⟩ = false → 0 = rk ∧ 0 = rn ∧ (⟨#[]⟩ : ByteArray) = rt ∧ 24 = z)) (HV : Hid (Val.mayB ⟨kk, kn, kt⟩ = true → Cal.tru b = ⟨rk, rn, rt⟩ ∧ 0 = z)) :
  Ret 18 #[.int .i64 f, .slice (some ⟨bb, o, none⟩) 1 cap] w (.tuple #[.agg #[.int .i64 rk, .int .i64 rn, .string rt], .int .i64 z]) := by
 have HI := Lib.hid (fun w => info_any f w)
 rw [hI] at HI
 clear hI
 go_enter Tryz.func18, Tryz.ntmps18
 go_wp2_with (fail)
 refine (HI.out _).mono ?_
 rintro e w1 ⟨rfl, hb1⟩
 have hz := (hb1.block w.heap.size (by simp)).trans (heap_alloc_new _ _)
 have hb : Below w.heap.size w w1 := alloc_below hb1
 have hl1 : L1 w (w1.alloc (.cells #[.string nm, .int .i64 2, .int .i64 1, .int .i64 1] 41 (0, 0))) w1.heap.size nm 2 1 1 :=
  ⟨hb.alloc hb.size _, (heap_alloc_old _ _ (Array.getElem?_eq_some_iff.1 hz).1).trans hz, heap_alloc_new _ _⟩
 clear hb1 hz hb
 go_wp2_with (fail)
 generalize w1.heap.size = B6 at *
 generalize (w1.alloc (.cells #[.string nm, .int .i64 2, .int .i64 1, .int .i64 1] 41 (0, 0))) = W1 at *
 have HC := Lib.hid (⟨c0, c1, c2⟩ : w.cell? ⟨bb, o, none⟩ = some (.int .i64 kk) ∧ w.cell? ⟨bb, o + 1, none⟩ = some (.int .i64 kn) ∧ w.cell? ⟨bb, o + 2, none⟩ = some (.string kt))
 clear c0 c1 c2
 have HT := Lib.hid (fun w => ctruth_any b w)
 go_loopw [53] (fun i wr => ∃ k : Nat, k ≤ 1 ∧ i = .int .i64 (k : Int) ∧ L1 w wr B6 nm 2 1 1 ∧ (k = 1 → Val.mayB ⟨kk, kn, kt⟩ = true)) (fun i _ => 1 - (intOf i).toNat)
 case atStart => exact ⟨0, Nat.zero_le _, rfl, hl1, fun h => by omega⟩
 case round =>
 obtain ⟨k, hk, rfl, hL, hmay⟩ := hrel
 have c0 := (hL.b.cell (p := ⟨bb, o, none⟩) hbl).trans HC.out.1
 have c1 := (hL.b.cell (p := ⟨bb, o + 1, none⟩) hbl).trans HC.out.2.1
 have c2 := (hL.b.cell (p := ⟨bb, o + 2, none⟩) hbl).trans HC.out.2.2
 by_cases hlt : k < 1
 ·obtain rfl : k = 0 := by omega
  have HP := Lib.hid (fun w => vmay_any ⟨kk, kn, kt⟩ w)
  clear hmay
  go_wp2_with (fail)
  refine (HP.out _).mono ?_
  rintro e w2 ⟨rfl, hb2⟩
  replace hL := (hL.alloc _).call hb2
  clear hb2 c0 c1 c2
  cases hm : Val.mayB (⟨kk, kn, kt⟩ : Val.V) with
  | true =>
   go_wp2_with (fail)
   go_roundw
   case rel => exact ⟨1, by omega, by first | rfl | go_num, hL, fun _ => hm⟩
   case measure => simp [intOf]
  | false =>
   obtain ⟨rfl, rfl, rfl, rfl⟩ := HM.out hm
   obtain ⟨z0, z1, z2⟩ := val_cells hL.z
   obtain ⟨f0, f1, f2⟩ := val_frozen hL.z
   go_wp2_with (fail)
   exact bodyPost_ret (v := .tuple #[.agg #[.int .i64 0, .int .i64 0, .string ⟨#[]⟩], .int .i64 24]) (by simp [results, Tryz.results18, go_sem, z0, z1, z2]) rfl ⟨rfl, set3 hL.b (by simp)⟩
 ·obtain rfl : k = 1 := by omega
  obtain ⟨hv, rfl⟩ := HV.out (hmay rfl)
  rw [hv] at HT
  clear hmay HM HV hv hlt
  have x1 := ch hL.x 1
  simp at x1
  go_wp2_with (fail)
  refine (HA.out _).mono ?_
  rintro e w2 ⟨rfl, hb2⟩
  replace hL := hL.call hb2
  clear hb2 c0 c1 c2 x1
  go_wp2_with (fail)
  refine (HT.out _).mono ?_
  rintro e w3 ⟨rfl, hb3⟩
  replace hL := hL.call hb3
  clear hb3
  obtain ⟨z0, z1, z2⟩ := val_cells hL.z
  obtain ⟨f0, f1, f2⟩ := val_frozen hL.z
  go_wp2_with (fail)
  exact bodyPost_ret (v := .tuple #[.agg #[.int .i64 rk, .int .i64 rn, .string rt], .int .i64 0]) (by simp [results, Tryz.results18, go_sem, z0, z1, z2]) rfl ⟨rfl, set3 hL.b (by simp)⟩
end Go.Proofs.YtpiiemneelkpkaaGreatDoor
