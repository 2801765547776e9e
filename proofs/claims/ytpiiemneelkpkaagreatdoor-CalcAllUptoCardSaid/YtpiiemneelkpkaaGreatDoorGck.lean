import Derived.Test.YtpiiemneelkpkaaGreatDoorGci
import Derived.Test.YtpiiemneelkpkaaGreatDoorValD
import Derived.Test.YtpiiemneelkpkaaGreatDoorGcm
namespace Go.Proofs.YtpiiemneelkpkaaGreatDoor
open Go.RowKit
set_option linter.unusedVariables false
set_option maxHeartbeats 400000 in
theorem cgood_any (v : Val.V) (w : World) : Ret 29 #[vv v] w (vv (Val.good v)) := by
 have HM := Lib.hid (fun w => vmay_any v w)
 unfold Val.good
 cases hm : Val.mayB v with
 | true =>
  rw [hm] at HM
  clear hm
  obtain ⟨k, n, t⟩ := v
  show Ret 29 #[.agg #[.int .i64 k, .int .i64 n, .string t]] w (.agg #[.int .i64 k, .int .i64 n, .string t])
  replace HM : Hid (∀ w, Ret 19 #[.agg #[.int .i64 k, .int .i64 n, .string t]] w (.bool true)) := HM
  go_enter Tryz.func29, Tryz.ntmps29
  go_wp2_with (fail)
  refine (HM.out _).mono ?_
  rintro e w1 ⟨rfl, hb1⟩
  have hx := (hb1.block w.heap.size (by simp; omega)).trans ((Below.heap_alloc _ _ w.heap.size (by simp)).trans (heap_alloc_new _ _))
  have hy : w1.heap[w.heap.size + 1]? = some (.cells #[.int .i64 0, .int .i64 0, .string ⟨#[]⟩] 26 (0, 0)) := (hb1.block (w.heap.size + 1) (by simp)).trans (by
   rw [show w.heap.size + 1 = (w.alloc (Obj.cells #[.int .i64 k, .int .i64 n, .string t] 26)).heap.size by simp]; exact heap_alloc_new _ _)
  have hs : Below w.heap.size w w1 := (((Below.refl _ _).alloc (Nat.le_refl w.heap.size) _).alloc (by simp) _).trans (hb1.mono (by simp; omega))
  obtain ⟨x0, x1, x2⟩ := val_cells hx
  obtain ⟨y0, y1, y2⟩ := val_cells hy
  obtain ⟨f0, f1, f2⟩ := val_frozen hy
  clear hx hy hb1
  go_wp2
  refine bodyPost_ret (v := (.agg #[.int .i64 k, .int .i64 n, .string t])) ?_ rfl ⟨rfl, set3 hs (by simp)⟩
  simp [results, Tryz.results29, go_sem, y0, y1, y2]
 | false =>
  rw [hm] at HM
  clear hm
  obtain ⟨k, n, t⟩ := v
  show Ret 29 #[.agg #[.int .i64 k, .int .i64 n, .string t]] w (.agg #[.int .i64 4, .int .i64 4, .string ⟨#[]⟩])
  replace HM : Hid (∀ w, Ret 19 #[.agg #[.int .i64 k, .int .i64 n, .string t]] w (.bool false)) := HM
  go_enter Tryz.func29, Tryz.ntmps29
  go_wp2_with (fail)
  refine (HM.out _).mono ?_
  rintro e w1 ⟨rfl, hb1⟩
  have hx := (hb1.block w.heap.size (by simp; omega)).trans ((Below.heap_alloc _ _ w.heap.size (by simp)).trans (heap_alloc_new _ _))
  have hy : w1.heap[w.heap.size + 1]? = some (.cells #[.int .i64 0, .int .i64 0, .string ⟨#[]⟩] 26 (0, 0)) := (hb1.block (w.heap.size + 1) (by simp)).trans (by
   rw [show w.heap.size + 1 = (w.alloc (Obj.cells #[.int .i64 k, .int .i64 n, .string t] 26)).heap.size by simp]; exact heap_alloc_new _ _)
  have hs : Below w.heap.size w w1 := (((Below.refl _ _).alloc (Nat.le_refl w.heap.size) _).alloc (by simp) _).trans (hb1.mono (by simp; omega))
  clear hx
  have hl1 : w.heap.size + 1 < w1.heap.size := Nat.lt_of_lt_of_le (by simp) hb1.size
  clear hb1
  go_wp2_with (fail)
  refine (cfault_any 4 _).mono ?_
  rintro e w2 ⟨rfl, hb2⟩
  have hy2 := (hb2.block (w.heap.size + 1) hl1).trans hy
  obtain ⟨y0, y1, y2⟩ := val_cells hy2
  obtain ⟨f0, f1, f2⟩ := val_frozen hy2
  replace hs := hs.trans (hb2.mono hs.size)
  clear hy hb2 hy2
  go_wp2
  refine bodyPost_ret (v := (.agg #[.int .i64 4, .int .i64 4, .string ⟨#[]⟩])) ?_ rfl ⟨rfl, set3 hs (by simp)⟩
  simp [results, Tryz.results29, go_sem, y0, y1, y2]
namespace Cal
def un (op : Int) (v : Val.V) : Val.V :=
 if op < 1 ∨ 3 < op then bad 4 else
 cond ((Val.number v).2 != 0) (bad (Val.number v).2) <| cond (op == 1) (fits (Ref.fitV (0 - (Val.number v).1)) (Ref.fitB (0 - (Val.number v).1))) <|
 cond (op == 3) (told (quoV (Val.number v).1 100).1 (quoV (Val.number v).1 100).2) (num (Val.number v).1)
def arith (op a b : Int) : Val.V :=
 cond (op == 1) (told (powV a b).1 (powV a b).2) <| cond (op == 2) (fits (Ref.fitV (a * b)) (Ref.fitB (a * b))) <| cond (op == 3) (told (quoV a b).1 (quoV a b).2) <|
 cond (op == 4) (fits (Ref.fitV (a + b)) (Ref.fitB (a + b))) (fits (Ref.fitV (a - b)) (Ref.fitB (a - b)))
def two (op : Int) (x y : Val.V) : Val.V :=
 cond (op == 6) (spelt ((Val.asText x).1 ++ (Val.asText y).1) 0) <| cond (decide (7 ≤ op)) (tru (related op (Val.cmpG (Val.good x) (Val.good y)))) <|
 cond ((Val.number x).2 != 0) (bad (Val.number x).2) <| cond ((Val.number y).2 != 0) (bad (Val.number y).2) (arith op (Val.number x).1 (Val.number y).1)
def bin (op : Int) (x y : Val.V) : Val.V :=
 if op < 1 ∨ 12 < op then bad 4 else cond ((Val.good x).k == 4) (Val.good x) <| cond ((Val.good y).k == 4) (Val.good y) (two op (Val.good x) (Val.good y))
end Cal
theorem good_good (v : Val.V) : Val.good (Val.good v) = Val.good v := by
 have h := Val.good_may v
 generalize Val.good v = g at *
 unfold Val.good
 rw [h]
 rfl
theorem number_good (v : Val.V) : Val.number (Val.good v) = Val.number v := by unfold Val.number; rw [good_good]
theorem read_in (l : List UInt8) : I64 (Dec.readS l).1 := by
 by_cases h : Dec.isForm l = true
 ·rw [Ref.read_near h]; exact Cal.fitV_in _
 ·rw [Ref.read_not (by simpa using h)]; exact ⟨by decide, by decide⟩
theorem number_in {v : Val.V} (h : VB v) : I64 (Val.number v).1 := by
 have hg := h.good
 unfold Val.number
 generalize Val.good v = g at *
 unfold Val.numG
 have z : I64 0 := ⟨by decide, by decide⟩
 cases g.k == 3 with
 | true =>
  cases (Dec.readS g.t.data.toList).2 == 0 with
  | true => exact read_in _
  | false => exact z
 | false =>
  cases g.k == 4 with
  | true => exact z
  | false => exact ⟨hg.n0, hg.n1⟩
theorem two_boxes {w w1 : World} {k n : Int} {t : ByteArray} {T : TypeId} (hb : Below ((w.alloc (.cells #[.int .i64 k, .int .i64 n, .string t] T)).alloc (.cells #[.int .i64 0, .int .i64 0, .string ⟨#[]⟩] T)).heap.size ((w.alloc (.cells #[.int .i64 k, .int .i64 n, .string t] T)).alloc (.cells #[.int .i64 0, .int .i64 0, .string ⟨#[]⟩] T)) w1) :
  Below w.heap.size w w1 ∧ w1.heap[w.heap.size]? = some (.cells #[.int .i64 k, .int .i64 n, .string t] T (0, 0)) ∧ w1.heap[w.heap.size + 1]? = some (.cells #[.int .i64 0, .int .i64 0, .string ⟨#[]⟩] T (0, 0)) ∧ w.heap.size + 1 < w1.heap.size := by
 refine ⟨(((Below.refl _ _).alloc (Nat.le_refl w.heap.size) _).alloc (by simp) _).trans (hb.mono (by simp; omega)), ?_, ?_, ?_⟩
 ·exact (hb.block _ (by simp; omega)).trans ((heap_alloc_old _ _ (by simp)).trans (heap_alloc_new _ _))
 ·refine (hb.block _ (by simp)).trans ?_
  rw [show w.heap.size + 1 = (w.alloc (Obj.cells #[.int .i64 k, .int .i64 n, .string t] T)).heap.size by simp]
  exact heap_alloc_new _ _
 ·have := hb.size
  simp at this
  omega
theorem un_out (op k n : Int) (t : ByteArray) (w : World) (h : (decide (op < 1) = true) ∨ (decide (op < 1) = false ∧ decide (3 < op) = true)) : Ret 22 #[.int .i64 op, .agg #[.int .i64 k, .int .i64 n, .string t]] w (.agg #[.int .i64 4, .int .i64 4, .string ⟨#[]⟩]) := by
 have HE := Lib.hid (fun w => cfault_any 4 w)
 rcases h with h1 | ⟨h1, h2⟩
 all_goals
  go_enter Tryz.func22, Tryz.ntmps22
  go_wp2_with (fail)
  refine (HE.out _).mono ?_
  rintro e w3 ⟨rfl, hb3⟩
  obtain ⟨hs, hx, hy, hl⟩ := two_boxes hb3
  obtain ⟨y0, y1, y2⟩ := val_cells hy
  obtain ⟨g0, g1, g2⟩ := val_frozen hy
  clear hy hx hl hb3
  go_wp2
  exact bodyPost_ret (v := .agg #[.int .i64 4, .int .i64 4, .string ⟨#[]⟩]) (by simp [results, Tryz.results22, go_sem, y0, y1, y2]) rfl ⟨rfl, set3 hs (by simp)⟩
theorem un_err (op k n gk gn : Int) (t gt : ByteArray) (a c : Int) (w : World) (HG0 : ∀ w, Ret 29 #[.agg #[.int .i64 k, .int .i64 n, .string t]] w (.agg #[.int .i64 gk, .int .i64 gn, .string gt]))
  (HN0 : ∀ w', Below w.heap.size w w' → Calls Tryz.prog 35 #[.agg #[.int .i64 gk, .int .i64 gn, .string gt]] w' fun e w'' => e = .returned (.tuple #[.int .i64 a, .int .i64 c]) ∧ Below w'.heap.size w' w'') (t1 : decide (op < 1) = false) (t2 : decide (3 < op) = false) (tc : (c != 0) = true) : Ret 22 #[.int .i64 op, .agg #[.int .i64 k, .int .i64 n, .string t]] w (.agg #[.int .i64 4, .int .i64 c, .string ⟨#[]⟩]) := by
 have HG := Lib.hid HG0
 have HN := Lib.hid HN0
 have HE := Lib.hid (fun w => cfault_any c w)
 clear HG0 HN0
 go_enter Tryz.func22, Tryz.ntmps22
 go_wp2_with (fail)
 refine (HG.out _).mono ?_
 rintro e w1 ⟨rfl, hb1⟩
 obtain ⟨hb, hx, hy, hl⟩ := two_boxes hb1
 clear hb1
 go_wp2_with (fail)
 refine (HN.out _ hb).mono ?_
 rintro e w2 ⟨rfl, hb2⟩
 replace hb := hb.trans (hb2.mono hb.size)
 replace hx := (hb2.block _ (by omega)).trans hx
 replace hy := (hb2.block _ hl).trans hy
 replace hl := Nat.lt_of_lt_of_le hl hb2.size
 clear hb2
 go_wp2_with (fail)
 refine (HE.out _).mono ?_
 rintro e w3 ⟨rfl, hb3⟩
 have hs : Below w.heap.size w w3 := hb.trans (hb3.mono hb.size)
 have hz := (hb3.block _ hl).trans hy
 obtain ⟨y0, y1, y2⟩ := val_cells hz
 obtain ⟨g0, g1, g2⟩ := val_frozen hz
 clear hz
 go_wp2
 exact bodyPost_ret (v := .agg #[.int .i64 4, .int .i64 c, .string ⟨#[]⟩]) (by simp [results, Tryz.results22, go_sem, y0, y1, y2]) rfl ⟨rfl, set3 hs (by simp)⟩
theorem un_1 (k n gk gn : Int) (t gt : ByteArray) (a u : Int) (b : Bool) (ck cn : Int) (ct : ByteArray) (w : World) (HG0 : ∀ w, Ret 29 #[.agg #[.int .i64 k, .int .i64 n, .string t]] w (.agg #[.int .i64 gk, .int .i64 gn, .string gt]))
  (HN0 : ∀ w', Below w.heap.size w w' → Calls Tryz.prog 35 #[.agg #[.int .i64 gk, .int .i64 gn, .string gt]] w' fun e w'' => e = .returned (.tuple #[.int .i64 a, .int .i64 0]) ∧ Below w'.heap.size w' w'') (HS0 : ∀ w, Ret 42 #[.int .i64 0, .int .i64 a] w (.tuple #[.int .i64 u, .bool b])) (HF : ∀ w, Ret 38 #[.int .i64 u, .bool b] w (.agg #[.int .i64 ck, .int .i64 cn, .string ct])) : Ret 22 #[.int .i64 1, .agg #[.int .i64 k, .int .i64 n, .string t]] w (.agg #[.int .i64 ck, .int .i64 cn, .string ct]) := by
 have HG := Lib.hid HG0
 have HN := Lib.hid HN0
 have HE := Lib.hid (fun w => HF w)
 have HS := Lib.hid HS0
 clear HG0 HN0 HS0 HF
 go_enter Tryz.func22, Tryz.ntmps22
 go_wp2_with (fail)
 refine (HG.out _).mono ?_
 rintro e w1 ⟨rfl, hb1⟩
 obtain ⟨hb, hx, hy, hl⟩ := two_boxes hb1
 clear hb1
 go_wp2_with (fail)
 refine (HN.out _ hb).mono ?_
 rintro e w2 ⟨rfl, hb2⟩
 replace hb := hb.trans (hb2.mono hb.size)
 replace hx := (hb2.block _ (by omega)).trans hx
 replace hy := (hb2.block _ hl).trans hy
 replace hl := Nat.lt_of_lt_of_le hl hb2.size
 clear hb2
 go_wp2_with (fail)
 refine (HS.out _).mono ?_
 rintro e w4 ⟨rfl, hb4⟩
 replace hb := hb.trans (hb4.mono hb.size)
 replace hx := (hb4.block _ (by omega)).trans hx
 replace hy := (hb4.block _ hl).trans hy
 replace hl := Nat.lt_of_lt_of_le hl hb4.size
 clear hb4
 go_wp2_with (fail)
 refine (HE.out _).mono ?_
 rintro e w3 ⟨rfl, hb3⟩
 have hs : Below w.heap.size w w3 := hb.trans (hb3.mono hb.size)
 have hz := (hb3.block _ hl).trans hy
 obtain ⟨y0, y1, y2⟩ := val_cells hz
 obtain ⟨g0, g1, g2⟩ := val_frozen hz
 clear hz
 go_wp2
 exact bodyPost_ret (v := .agg #[.int .i64 ck, .int .i64 cn, .string ct]) (by simp [results, Tryz.results22, go_sem, y0, y1, y2]) rfl ⟨rfl, set3 hs (by simp)⟩
theorem un_3 (k n gk gn : Int) (t gt : ByteArray) (a u z : Int) (ck cn : Int) (ct : ByteArray) (w : World) (HG0 : ∀ w, Ret 29 #[.agg #[.int .i64 k, .int .i64 n, .string t]] w (.agg #[.int .i64 gk, .int .i64 gn, .string gt]))
  (HN0 : ∀ w', Below w.heap.size w w' → Calls Tryz.prog 35 #[.agg #[.int .i64 gk, .int .i64 gn, .string gt]] w' fun e w'' => e = .returned (.tuple #[.int .i64 a, .int .i64 0]) ∧ Below w'.heap.size w' w'') (HS0 : ∀ w, Ret 40 #[.int .i64 a, .int .i64 100] w (.tuple #[.int .i64 u, .int .i64 z])) (HF : ∀ w, Ret 36 #[.int .i64 u, .int .i64 z] w (.agg #[.int .i64 ck, .int .i64 cn, .string ct])) : Ret 22 #[.int .i64 3, .agg #[.int .i64 k, .int .i64 n, .string t]] w (.agg #[.int .i64 ck, .int .i64 cn, .string ct]) := by
 have HG := Lib.hid HG0
 have HN := Lib.hid HN0
 have HE := Lib.hid (fun w => HF w)
 have HS := Lib.hid HS0
 clear HG0 HN0 HS0 HF
 go_enter Tryz.func22, Tryz.ntmps22
 go_wp2_with (fail)
 refine (HG.out _).mono ?_
 rintro e w1 ⟨rfl, hb1⟩
 obtain ⟨hb, hx, hy, hl⟩ := two_boxes hb1
 clear hb1
 go_wp2_with (fail)
 refine (HN.out _ hb).mono ?_
 rintro e w2 ⟨rfl, hb2⟩
 replace hb := hb.trans (hb2.mono hb.size)
 replace hx := (hb2.block _ (by omega)).trans hx
 replace hy := (hb2.block _ hl).trans hy
 replace hl := Nat.lt_of_lt_of_le hl hb2.size
 clear hb2
 go_wp2_with (fail)
 refine (HS.out _).mono ?_
 rintro e w4 ⟨rfl, hb4⟩
 replace hb := hb.trans (hb4.mono hb.size)
 replace hx := (hb4.block _ (by omega)).trans hx
 replace hy := (hb4.block _ hl).trans hy
 replace hl := Nat.lt_of_lt_of_le hl hb4.size
 clear hb4
 go_wp2_with (fail)
 refine (HE.out _).mono ?_
 rintro e w3 ⟨rfl, hb3⟩
 have hs : Below w.heap.size w w3 := hb.trans (hb3.mono hb.size)
 have hz := (hb3.block _ hl).trans hy
 obtain ⟨y0, y1, y2⟩ := val_cells hz
 obtain ⟨g0, g1, g2⟩ := val_frozen hz
 clear hz
 go_wp2
 exact bodyPost_ret (v := .agg #[.int .i64 ck, .int .i64 cn, .string ct]) (by simp [results, Tryz.results22, go_sem, y0, y1, y2]) rfl ⟨rfl, set3 hs (by simp)⟩
theorem un_2 (k n gk gn : Int) (t gt : ByteArray) (a : Int) (w : World) (HG0 : ∀ w, Ret 29 #[.agg #[.int .i64 k, .int .i64 n, .string t]] w (.agg #[.int .i64 gk, .int .i64 gn, .string gt]))
  (HN0 : ∀ w', Below w.heap.size w w' → Calls Tryz.prog 35 #[.agg #[.int .i64 gk, .int .i64 gn, .string gt]] w' fun e w'' => e = .returned (.tuple #[.int .i64 a, .int .i64 0]) ∧ Below w'.heap.size w' w'') : Ret 22 #[.int .i64 2, .agg #[.int .i64 k, .int .i64 n, .string t]] w (.agg #[.int .i64 1, .int .i64 a, .string ⟨#[]⟩]) := by
 have HG := Lib.hid HG0
 have HN := Lib.hid HN0
 have HE := Lib.hid (fun w => cnumber_any a w)
 clear HG0 HN0
 go_enter Tryz.func22, Tryz.ntmps22
 go_wp2_with (fail)
 refine (HG.out _).mono ?_
 rintro e w1 ⟨rfl, hb1⟩
 obtain ⟨hb, hx, hy, hl⟩ := two_boxes hb1
 clear hb1
 go_wp2_with (fail)
 refine (HN.out _ hb).mono ?_
 rintro e w2 ⟨rfl, hb2⟩
 replace hb := hb.trans (hb2.mono hb.size)
 replace hx := (hb2.block _ (by omega)).trans hx
 replace hy := (hb2.block _ hl).trans hy
 replace hl := Nat.lt_of_lt_of_le hl hb2.size
 clear hb2
 go_wp2_with (fail)
 refine (HE.out _).mono ?_
 rintro e w3 ⟨rfl, hb3⟩
 have hs : Below w.heap.size w w3 := hb.trans (hb3.mono hb.size)
 have hz := (hb3.block _ hl).trans hy
 obtain ⟨y0, y1, y2⟩ := val_cells hz
 obtain ⟨g0, g1, g2⟩ := val_frozen hz
 clear hz
 go_wp2
 exact bodyPost_ret (v := .agg #[.int .i64 1, .int .i64 a, .string ⟨#[]⟩]) (by simp [results, Tryz.results22, go_sem, y0, y1, y2]) rfl ⟨rfl, set3 hs (by simp)⟩
theorem un_any (op : Int) (v : Val.V) (w : World) (hv : VB v) (hN : NumW w) : Ret 22 #[.int .i64 op, vv v] w (vv (Cal.un op v)) := by
 have HG := fun w => cgood_any v w
 have HN := fun (w' : World) (h : Below w.heap.size w w') => number_any (Val.good v) w' hv.good (hN.below h)
 rw [number_good] at HN
 have hi := number_in hv
 unfold Cal.un
 by_cases h : op < 1 ∨ 3 < op
 ·rw [if_pos h]
  refine un_out op _ _ _ w ?_
  by_cases h1 : op < 1
  ·exact .inl (decide_eq_true h1)
  ·exact .inr ⟨decide_eq_false h1, decide_eq_true (by omega)⟩
 ·rw [if_neg h]
  cases he : ((Val.number v).2 != 0) with
  | true => exact un_err op _ _ _ _ _ _ _ _ w HG HN (decide_eq_false (by omega)) (decide_eq_false (by omega)) he
  | false =>
   have he0 : (Val.number v).2 = 0 := by simpa using he
   rw [he0] at HN
   generalize (Val.number v).1 = a at *
   obtain rfl | rfl | rfl : op = 1 ∨ op = 2 ∨ op = 3 := by omega
   ·exact un_1 _ _ _ _ _ _ a _ _ _ _ _ w HG HN (csub 0 a ⟨by decide, by decide⟩ hi) (fun w => cfits_any _ _ w)
   ·exact un_2 _ _ _ _ _ _ a w HG HN
   ·exact un_3 _ _ _ _ _ _ a _ _ _ _ _ w HG HN (cquo a 100 hi ⟨by decide, by decide⟩) (fun w => ctold_any _ _ w)
end Go.Proofs.YtpiiemneelkpkaaGreatDoor
namespace Go.Proofs.YtpiiemneelkpkaaGreatDoor
open Go.RowKit
set_option linter.unusedVariables false
namespace Cal
structure In where
 ns : List Int
 ts : List ByteArray
 b : Bool
 v : Val.V
def in0 : In := ⟨[], [], false, ⟨0, 0, ⟨#[]⟩⟩⟩
def look1 (c : UInt8) (v : Val.V) (I : In) : Int × In :=
 cond (c.toNat == 110) ((Val.number v).2, ⟨I.ns ++ [(Val.number v).1], I.ts, I.b, I.v⟩) <| cond (c.toNat == 116) ((Val.asText v).2, ⟨I.ns, I.ts ++ [(Val.asText v).1], I.b, I.v⟩) <|
 cond (c.toNat == 98) ((Val.truth v).2, ⟨I.ns, I.ts, (Val.truth v).1, I.v⟩) (0, ⟨I.ns, I.ts, I.b, v⟩)
def inAt (s : ByteArray) (v : Nat → Val.V) : Nat → In
 | 0 => in0
 | k + 1 => (look1 (s.data.toList.getD k 0) (v k) (inAt s v k)).2
def codeAt (s : ByteArray) (v : Nat → Val.V) (k : Nat) : Int := (look1 (s.data.toList.getD k 0) (v k) (inAt s v k)).1
theorem inAt_len (s : ByteArray) (v : Nat → Val.V) : ∀ k, (inAt s v k).ns.length ≤ k ∧ (inAt s v k).ts.length ≤ k
 | 0 => ⟨Nat.le_refl _, Nat.le_refl _⟩
 | k + 1 => by
  have ih := inAt_len s v k
  show (look1 (s.data.toList.getD k 0) (v k) (inAt s v k)).2.ns.length ≤ k + 1 ∧ (look1 (s.data.toList.getD k 0) (v k) (inAt s v k)).2.ts.length ≤ k + 1
  unfold look1
  generalize inAt s v k = I at *
  cases (s.data.toList.getD k 0).toNat == 110 <;> cases (s.data.toList.getD k 0).toNat == 116 <;> cases (s.data.toList.getD k 0).toNat == 98 <;> simp <;> omega
end Cal
theorem box_types {k : Int} {s : ByteArray} {f g T : Nat} (h : (k, s, f, g, T) ∈ boxTab) : T = 68 ∨ T = 123 ∨ T = 129 := by
 simp [boxTab] at h
 omega
theorem isRow.same {w w' : World} {k : Int} {x : Value} (h : isRow w k x) (hs : ∀ (b : Nat) (c : Array Value) (T : Nat), (T = 68 ∨ T = 123 ∨ T = 129) → w.heap[b]? = some (.cells c T (0, 0)) → w'.heap[b]? = w.heap[b]?) : isRow w' k x := by
 rcases h with ⟨s, f, h, rfl⟩ | ⟨s, f, g, T, b, h, hb, rfl⟩
 ·exact .p k s f h
 ·exact .b k s f g T b h ((hs b _ T (box_types h) hb).trans hb)
structure L3 (w wr : World) (f : Int) (s : ByteArray) (fn : Value) (B12 B13 : Nat) (nsv tsv : Value) (I : Cal.In) : Prop where
 b : Below w.heap.size w wr
 z : wr.heap[w.heap.size]? = some (.cells #[.int .i64 0, .int .i64 0, .string ⟨#[]⟩] 26 (0, 0))
 x : wr.heap[B12]? = some (.cells #[.string s, fn] 78 (0, 0))
 a : wr.heap[B13]? = some (.cells #[nsv, tsv, .bool I.b, .int .i64 I.v.k, .int .i64 I.v.n, .string I.v.t] 84 (0, 0))
 r : isRow wr f (.agg #[.string s, fn])
 n : wr.ownsRow w.heap.size 2 1 nsv I.ns.length (I.ns.map (.int .i64))
 t : wr.ownsRow w.heap.size 9 1 tsv I.ts.length (I.ts.map .string)
 l2 : w.heap.size < B12
 l3 : w.heap.size < B13
section
variable {w wr w' : World} {f : Int} {s : ByteArray} {fn : Value} {B12 B13 : Nat} {nsv tsv : Value} {I : Cal.In}
theorem ownsRow_below {base : Nat} {e : TypeId} {size : Nat} {v : Value} {n : Nat} {xs : List Value} (h : wr.ownsRow base e size v n xs) (hb : Below wr.heap.size wr w') : w'.ownsRow base e size v n xs := by
 obtain ⟨h1, h2⟩ := h
 refine ⟨h1, ?_⟩
 rcases h2 with h2 | ⟨g, cap, cur, h3, h4, h5, h6⟩
 ·exact .inl h2
 ·exact .inr ⟨g, cap, cur, h3, h4, (hb.block _ (Array.getElem?_eq_some_iff.1 h5).1).trans h5, h6⟩
theorem ownsRow_same {base : Nat} {e : TypeId} {size : Nat} {v : Value} {n : Nat} {xs : List Value} (h : wr.ownsRow base e size v n xs) (hs : ∀ (b : Nat) (c : Array Value), wr.heap[b]? = some (.cells c e (0, 0)) → w'.heap[b]? = wr.heap[b]?) : w'.ownsRow base e size v n xs := by
 obtain ⟨h1, h2⟩ := h
 refine ⟨h1, ?_⟩
 rcases h2 with h2 | ⟨g, cap, cur, h3, h4, h5, h6⟩
 ·exact .inl h2
 ·exact .inr ⟨g, cap, cur, h3, h4, (hs _ _ h5).trans h5, h6⟩
theorem L3.call (h : L3 w wr f s fn B12 B13 nsv tsv I) (hb : Below wr.heap.size wr w') : L3 w w' f s fn B12 B13 nsv tsv I := by
 have lt : ∀ {i : Nat} {o : Obj}, wr.heap[i]? = some o → w'.heap[i]? = some o := fun h => (hb.block _ (Array.getElem?_eq_some_iff.1 h).1).trans h
 exact ⟨h.b.trans (hb.mono h.b.size), lt h.z, lt h.x, lt h.a, h.r.same fun b c T _ h2 => hb.block _ (Array.getElem?_eq_some_iff.1 h2).1, ownsRow_below h.n hb, ownsRow_below h.t hb, h.l2, h.l3⟩
theorem L3.alloc (h : L3 w wr f s fn B12 B13 nsv tsv I) (o : Obj) : L3 w (wr.alloc o) f s fn B12 B13 nsv tsv I := h.call ((Below.refl _ _).alloc (Nat.le_refl _) o)
theorem L3.set (h : L3 w wr f s fn B12 B13 nsv tsv I) {nsv' tsv' : Value} {I' : Cal.In} (hb : Below w.heap.size w w') (ho : ∀ (b : Nat), b ≠ B13 → (∀ (e : Nat) (c : Array Value), (e = 26 ∨ e = 78 ∨ e = 68 ∨ e = 123 ∨ e = 129) → wr.heap[b]? = some (.cells c e (0, 0)) → w'.heap[b]? = wr.heap[b]?))
  (ha : w'.heap[B13]? = some (.cells #[nsv', tsv', .bool I'.b, .int .i64 I'.v.k, .int .i64 I'.v.n, .string I'.v.t] 84 (0, 0))) (hn : w'.ownsRow w.heap.size 2 1 nsv' I'.ns.length (I'.ns.map (.int .i64))) (ht : w'.ownsRow w.heap.size 9 1 tsv' I'.ts.length (I'.ts.map .string)) :
  L3 w w' f s fn B12 B13 nsv' tsv' I' := by
 have e12 : B12 ≠ B13 := fun e => by have := h.x; rw [e, h.a] at this; simp at this
 have e0 : w.heap.size ≠ B13 := by have := h.l3; omega
 refine ⟨hb, (ho _ e0 _ _ (.inl rfl) h.z).trans h.z, (ho _ e12 _ _ (.inr (.inl rfl)) h.x).trans h.x, ha, h.r.same fun b c T hT h2 => ho b (fun e => ?_) T c (.inr (.inr hT)) h2, hn, ht, h.l2, h.l3⟩
 rw [e, h.a] at h2
 simp only [Option.some.injEq, Obj.cells.injEq] at h2
 obtain ⟨_, rfl, _⟩ := h2
 omega
theorem own_ne {base : Nat} {e T : TypeId} {size : Nat} {v : Value} {n : Nat} {xs : List Value} {B : Nat} {c : Array Value} (h : wr.ownsRow base e size v n xs) (hB : wr.heap[B]? = some (.cells c T (0, 0))) (hT : T ≠ e) : some B ≠ v.ownBlock := by
 rcases h.2 with ⟨rfl, _⟩ | ⟨g, cap, cur, rfl, _, h5, _⟩
 ·simp [Value.ownBlock]
 ·intro e'
  simp only [Value.ownBlock, Option.some.injEq] at e'
  subst e'
  rw [hB] at h5
  simp only [Option.some.injEq, Obj.cells.injEq] at h5
  exact hT h5.2.1
theorem row_shape {base : Nat} {e : TypeId} {size : Nat} {v : Value} {n : Nat} {xs : List Value} (h : wr.ownsRow base e size v (n + 1) xs) : ∃ g cap, v = .slice (some ⟨g, 0, none⟩) (n + 1) cap := by
 rcases h.2 with ⟨_, h0⟩ | ⟨g, cap, cur, rfl, _⟩
 ·omega
 ·exact ⟨g, cap, rfl⟩
theorem set_other {W : World} {B b j : Nat} (x : Value) (h : b ≠ B) : (W.setCell ⟨B, j, none⟩ x).heap[b]? = W.heap[b]? := heap_setCell_other _ _ _ _ (by simpa using h)
theorem L3.ne13 (h : L3 w wr f s fn B12 B13 nsv tsv I) {b : Nat} {e : Nat} {c : Array Value} (hb : wr.heap[b]? = some (.cells c e (0, 0))) (he : e ≠ 84) : b ≠ B13 := by
 intro eb
 rw [eb, h.a] at hb
 simp only [Option.some.injEq, Obj.cells.injEq] at hb
 exact he hb.2.1.symm
theorem L3.push_n (h : L3 w wr f s fn B12 B13 nsv tsv I) {w5 : World} {v' : Value} {o : Obj} (x : Int) (hgrow : (wr.alloc o).grownBy w5 nsv.ownBlock) (hown : w5.ownsRow w.heap.size 2 1 v' (I.ns.length + 1) (I.ns.map (.int .i64) ++ [.int .i64 x])) :
  w5.heap[B13]? = wr.heap[B13]? ∧ L3 w (w5.setCell ⟨B13, 0, none⟩ v') f s fn B12 B13 v' tsv ⟨I.ns ++ [x], I.ts, I.b, I.v⟩ := by
 have kept : ∀ {b : Nat} {c : Array Value} {e : Nat}, wr.heap[b]? = some (.cells c e (0, 0)) → e ≠ 2 → w5.heap[b]? = wr.heap[b]? := fun {b c e} hb he => by
  have hl := (Array.getElem?_eq_some_iff.1 hb).1
  exact (hgrow.block b (by simp; omega) (own_ne h.n hb he)).trans (heap_alloc_old _ _ hl)
 have h13 := kept h.a (by decide)
 have ne5 : ∀ {b : Nat} {c : Array Value} {e : Nat}, w5.heap[b]? = some (.cells c e (0, 0)) → e ≠ 84 → b ≠ B13 := fun {b c e} hb he eb => by
  rw [eb, h13, h.a] at hb
  simp only [Option.some.injEq, Obj.cells.injEq] at hb
  exact he hb.2.1.symm
 have hb5 : Below w.heap.size w w5 := (h.b.alloc h.b.size o).grown hgrow (by have := h.b.size; simp; omega) (fun j hj => ((h.n.alloc o).lt j hj).1)
 refine ⟨h13, h.set (hb5.setCell (p := ⟨B13, 0, none⟩) (by have := h.l3; show w.heap.size ≤ B13; omega) _) (fun b hb13 e c he hb => (set_other _ hb13).trans (kept hb (by rcases he with rfl | rfl | rfl | rfl | rfl <;> decide))) ?_ ?_ ?_⟩
 ·exact heap_setCell_same w5 B13 0 _ 84 v' (h13.trans h.a)
 ·have := (ownsRow_same hown fun b c hb => set_other v' (ne5 hb (by decide)) : (w5.setCell ⟨B13, 0, none⟩ v').ownsRow _ _ _ _ _ _); simpa using this
 ·exact ownsRow_same h.t fun b c hb => (set_other _ (h.ne13 hb (by decide))).trans (kept hb (by decide))
theorem L3.push_t (h : L3 w wr f s fn B12 B13 nsv tsv I) {w5 : World} {v' : Value} {o : Obj} (x : ByteArray) (hgrow : (wr.alloc o).grownBy w5 tsv.ownBlock) (hown : w5.ownsRow w.heap.size 9 1 v' (I.ts.length + 1) (I.ts.map .string ++ [.string x])) :
  w5.heap[B13]? = wr.heap[B13]? ∧ L3 w (w5.setCell ⟨B13, 1, none⟩ v') f s fn B12 B13 nsv v' ⟨I.ns, I.ts ++ [x], I.b, I.v⟩ := by
 have kept : ∀ {b : Nat} {c : Array Value} {e : Nat}, wr.heap[b]? = some (.cells c e (0, 0)) → e ≠ 9 → w5.heap[b]? = wr.heap[b]? := fun {b c e} hb he => by
  have hl := (Array.getElem?_eq_some_iff.1 hb).1
  exact (hgrow.block b (by simp; omega) (own_ne h.t hb he)).trans (heap_alloc_old _ _ hl)
 have h13 := kept h.a (by decide)
 have ne5 : ∀ {b : Nat} {c : Array Value} {e : Nat}, w5.heap[b]? = some (.cells c e (0, 0)) → e ≠ 84 → b ≠ B13 := fun {b c e} hb he eb => by
  rw [eb, h13, h.a] at hb
  simp only [Option.some.injEq, Obj.cells.injEq] at hb
  exact he hb.2.1.symm
 have hb5 : Below w.heap.size w w5 := (h.b.alloc h.b.size o).grown hgrow (by have := h.b.size; simp; omega) (fun j hj => ((h.t.alloc o).lt j hj).1)
 refine ⟨h13, h.set (hb5.setCell (p := ⟨B13, 1, none⟩) (by have := h.l3; show w.heap.size ≤ B13; omega) _) (fun b hb13 e c he hb => (set_other _ hb13).trans (kept hb (by rcases he with rfl | rfl | rfl | rfl | rfl <;> decide))) ?_ ?_ ?_⟩
 ·exact heap_setCell_same w5 B13 1 _ 84 v' (h13.trans h.a)
 ·exact ownsRow_same h.n fun b c hb => (set_other _ (h.ne13 hb (by decide))).trans (kept hb (by decide))
 ·have := (ownsRow_same hown fun b c hb => set_other v' (ne5 hb (by decide)) : (w5.setCell ⟨B13, 1, none⟩ v').ownsRow _ _ _ _ _ _); simpa using this
theorem L3.boo (h : L3 w wr f s fn B12 B13 nsv tsv I) (x : Bool) : L3 w (wr.setCell ⟨B13, 2, none⟩ (.bool x)) f s fn B12 B13 nsv tsv ⟨I.ns, I.ts, x, I.v⟩ :=
 h.set (h.b.setCell (p := ⟨B13, 2, none⟩) (by have := h.l3; show w.heap.size ≤ B13; omega) _) (fun b hb _ _ _ _ => set_other _ hb) (heap_setCell_same wr B13 2 _ 84 _ h.a) (ownsRow_same h.n fun b c hb => set_other _ (h.ne13 hb (by decide))) (ownsRow_same h.t fun b c hb => set_other _ (h.ne13 hb (by decide)))
theorem L3.val (h : L3 w wr f s fn B12 B13 nsv tsv I) (x : Val.V) : L3 w (((wr.setCell ⟨B13, 3, none⟩ (.int .i64 x.k)).setCell ⟨B13, 4, none⟩ (.int .i64 x.n)).setCell ⟨B13, 5, none⟩ (.string x.t)) f s fn B12 B13 nsv tsv ⟨I.ns, I.ts, I.b, x⟩ := by
 have hl := h.l3
 have so : ∀ b, b ≠ B13 → (((wr.setCell ⟨B13, 3, none⟩ (.int .i64 x.k)).setCell ⟨B13, 4, none⟩ (.int .i64 x.n)).setCell ⟨B13, 5, none⟩ (.string x.t)).heap[b]? = wr.heap[b]? := fun b hb => (set_other _ hb).trans ((set_other _ hb).trans (set_other _ hb))
 have a1 := heap_setCell_same wr B13 3 _ 84 (.int .i64 x.k) h.a
 have a2 := heap_setCell_same _ B13 4 _ 84 (.int .i64 x.n) a1
 have a3 := heap_setCell_same _ B13 5 _ 84 (.string x.t) a2
 exact h.set (((h.b.setCell (p := ⟨B13, 3, none⟩) (by show w.heap.size ≤ B13; omega) _).setCell (p := ⟨B13, 4, none⟩) (by show w.heap.size ≤ B13; omega) _).setCell (p := ⟨B13, 5, none⟩) (by show w.heap.size ≤ B13; omega) _) (fun b hb _ _ _ _ => so b hb) a3 (ownsRow_same h.n fun b c hb => so b (h.ne13 hb (by decide))) (ownsRow_same h.t fun b c hb => so b (h.ne13 hb (by decide)))
end
end Go.Proofs.YtpiiemneelkpkaaGreatDoor
