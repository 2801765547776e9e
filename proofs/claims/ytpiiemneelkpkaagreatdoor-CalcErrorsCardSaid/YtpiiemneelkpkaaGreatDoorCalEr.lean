/- The walk of quadrillelaw14.CalcErrors. -/
import Derived.Test.YtpiiemneelkpkaaGreatDoorGcb
import Derived.Test.YtpiiemneelkpkaaGreatDoorCalU
import Derived.Test.YtpiiemneelkpkaaGreatDoorRegV
import Derived.OwnWalk
import Derived.LoopTactic
import Derived.BigQuiet
import Derived.Deep.QuietTactic
import Derived.Deep.DeepCutAuto
namespace Go.Proofs.YtpiiemneelkpkaaGreatDoor
open Go.RowKit
set_option linter.unusedVariables false
set_option linter.unusedSimpArgs false
theorem argC_len : ∀ l : List Val.V, (Cal.argC l).length = l.length * 3
  | [] => rfl
  | v :: l => by
    show (Cal.argC l).length + 3 = _
    rw [argC_len l, List.length_cons]
    omega
theorem argC_one (l : List Val.V) : ∀ u ∈ Cal.argC l, u.oneCell' = true := by
  intro u hu
  obtain ⟨x, _, hx⟩ := List.mem_flatMap.1 hu
  simp at hx
  rcases hx with rfl | rfl | rfl <;> rfl
def rowC (v : Nat → Val.V) (m : Nat) : List Value := Cal.argC ((List.range m).map v)
theorem rowC_len (v : Nat → Val.V) (m : Nat) : (rowC v m).length = m * 3 := by unfold rowC; rw [argC_len]; simp
theorem rowC_get (v : Nat → Val.V) (m k : Nat) (h : k < m) : (rowC v m)[k * 3]? = some (.int .i64 (v k).k) ∧ (rowC v m)[k * 3 + 1]? = some (.int .i64 (v k).n) ∧ (rowC v m)[k * 3 + 2]? = some (.string (v k).t) := by
  have := argC_get ((List.range m).map v) k (by simpa using h)
  have e : Cal.arg ((List.range m).map v) k = v k := by unfold Cal.arg; simp [List.getD_eq_getElem?_getD, h]
  rw [e] at this
  exact this
theorem cellP_news {w : World} {b o m : Nat} {v : Nat → Val.V} (h : HCellP w (some ⟨b, o, none⟩) m v) : ∀ (j : Nat) (u : Value), (rowC v m)[j]? = some u → w.cell? ((⟨b, o, none⟩ : Addr).add j) = some u := by
  intro j u hj
  have hadd : (⟨b, o, none⟩ : Addr).add j = ⟨b, o + j, none⟩ := by unfold Addr.add; split <;> simp_all
  rw [hadd]
  have hl : j < m * 3 := by have := (List.getElem?_eq_some_iff.1 hj).1; rw [rowC_len] at this; exact this
  obtain ⟨g0, g1, g2⟩ := rowC_get v m (j / 3) (by omega)
  obtain ⟨b', o', he, _, c0, c1, c2⟩ := h (j / 3) (by omega)
  cases he
  have hj3 : j = j / 3 * 3 ∨ j = j / 3 * 3 + 1 ∨ j = j / 3 * 3 + 2 := by omega
  generalize j / 3 = k at *
  rcases hj3 with rfl | rfl | rfl
  · rw [g0] at hj; cases hj; exact c0
  · rw [g1] at hj; cases hj; rw [show o + (k * 3 + 1) = o + k * 3 + 1 by omega]; exact c1
  · rw [g2] at hj; cases hj; rw [show o + (k * 3 + 2) = o + k * 3 + 2 by omega]; exact c2
abbrev set3W (w : World) (g K : Nat) (e' : Int) : World := ((w.setCell ⟨g, K * 3, none⟩ (.int .i64 4)).setCell ⟨g, K * 3 + 1, none⟩ (.int .i64 e')).setCell ⟨g, K * 3 + 2, none⟩ (.string ⟨#[]⟩)
theorem upd_cells {w : World} {g m K : Nat} {cur : Array Value} {v : Nat → Val.V} (e' : Int) (hg : w.heap[g]? = some (.cells cur 26 (0, 0))) (hs : m * 3 ≤ cur.size) (ht : cur.toList.take (m * 3) = rowC v m) (hK : K < m) :
    HCellP (set3W w g K e') (some ⟨g, 0, none⟩) m (fun j => if j = K then Cal.bad e' else v j) := by
  have h3 := heap_setCell_same _ g (K * 3 + 2) _ 26 (.string ⟨#[]⟩) (heap_setCell_same _ g (K * 3 + 1) _ 26 (.int .i64 e') (heap_setCell_same w g (K * 3) cur 26 (.int .i64 4) hg))
  have hc : ∀ j, j < m * 3 → cur[j]? = (rowC v m)[j]? := fun j hj => by rw [← ht, List.getElem?_take, if_pos hj, Array.getElem?_toList]
  intro j hj
  refine ⟨g, 0, rfl, (Array.getElem?_eq_some_iff.1 h3).1, ?_, ?_, ?_⟩
  all_goals
    rw [Lib.cell_of_heap h3, Array.getElem?_setIfInBounds, Array.getElem?_setIfInBounds, Array.getElem?_setIfInBounds]
    obtain ⟨g0, g1, g2⟩ := rowC_get v m j hj
    by_cases e : j = K
    · subst e
      simp [show Cal.bad e' = ⟨4, e', ⟨#[]⟩⟩ from rfl]
      omega
    · rw [if_neg (by omega), if_neg (by omega), if_neg (by omega), hc _ (by omega)]
      simp only [e, if_false, Nat.zero_add]
      assumption
/-- Which is the first error of k values? -/
def FirstE (v : Nat → Val.V) (k : Nat) (g : Int) : Prop := (g = -1 ∧ ∀ j, j < k → ((v j).k == 4) = false) ∨ ∃ j : Nat, g = (j : Int) ∧ j < k ∧ ((v j).k == 4) = true ∧ ∀ i, i < j → ((v i).k == 4) = false
structure ER (w wr : World) (B9 B11 : Nat) (nm : ByteArray) (c mn mx : Int) (r : Val.V) : Prop where
  b : Below w.heap.size w wr
  x : wr.heap[B9]? = some (.cells #[.string nm, .int .i64 c, .int .i64 mn, .int .i64 mx] 41 (0, 0))
  v : wr.heap[B11]? = some (.cells #[.int .i64 r.k, .int .i64 r.n, .string r.t] 26 (0, 0))
theorem ER.call {w wr w' : World} {B9 B11 : Nat} {nm : ByteArray} {c mn mx : Int} {r : Val.V} (h : ER w wr B9 B11 nm c mn mx r) (hb : Below wr.heap.size wr w') : ER w w' B9 B11 nm c mn mx r :=
  ⟨h.b.trans (hb.mono h.b.size), (hb.block _ (Array.getElem?_eq_some_iff.1 h.x).1).trans h.x, (hb.block _ (Array.getElem?_eq_some_iff.1 h.v).1).trans h.v⟩
theorem ER.alloc {w wr : World} {B9 B11 : Nat} {nm : ByteArray} {c mn mx : Int} {r : Val.V} (h : ER w wr B9 B11 nm c mn mx r) (o : Obj) : ER w (wr.alloc o) B9 B11 nm c mn mx r := h.call ((Below.refl _ _).alloc (Nat.le_refl _) o)
theorem ER.grown {w wr w' : World} {B9 B11 : Nat} {nm : ByteArray} {c mn mx : Int} {r : Val.V} (h : ER w wr B9 B11 nm c mn mx r) (hg : wr.grownBy w' none) : ER w w' B9 B11 nm c mn mx r :=
  ⟨h.b.grown hg h.b.size (fun k e => by cases e), (hg.block _ (Array.getElem?_eq_some_iff.1 h.x).1 (fun e => by cases e)).trans h.x, (hg.block _ (Array.getElem?_eq_some_iff.1 h.v).1 (fun e => by cases e)).trans h.v⟩
theorem infoVE : (Tryz.prog.info? 26).map (fun i => (i.zero, i.size, i.bytes)) = some (some (.agg #[.int .i64 0, .int .i64 0, .string ⟨#[]⟩]), 3, 32) := by kernel_rfl
theorem row_cells {w : World} {B T : Nat} {nm : ByteArray} {c mn mx : Int} (h : w.heap[B]? = some (.cells #[.string nm, .int .i64 c, .int .i64 mn, .int .i64 mx] T (0, 0))) :
    w.cell? ⟨B, 0, none⟩ = some (.string nm) ∧ w.cell? ⟨B, 1, none⟩ = some (.int .i64 c) ∧ w.cell? ⟨B, 2, none⟩ = some (.int .i64 mn) ∧ w.cell? ⟨B, 3, none⟩ = some (.int .i64 mx) :=
  ⟨Lib.cell_of_heap h 0, Lib.cell_of_heap h 1, Lib.cell_of_heap h 2, Lib.cell_of_heap h 3⟩
set_option maxRecDepth 100000 in
set_option maxHeartbeats 4000000 in
theorem er_ref (f e0 c mn mx z at' e' : Int) (n m cap : Nat) (a : Option Addr) (v : Nat → Val.V) (nm rt : ByteArray) (rk rn : Int) (w : World)
    (hcap : n ≤ cap) (hm : m ≤ 10) (HCUT : Hid ((10 < n ∧ m = 10) ∨ (¬ 10 < n ∧ m = n)))
    (HBEG : Hid (∀ v, Below w.heap.size w v → Calls Tryz.prog 8 #[] v fun e w' => e = .returned (.bool true) ∧ Below v.heap.size v w'))
    (HI : Hid (∀ v, Calls Tryz.prog 17 #[.int .i64 f] v fun e w' => e = .returned (.tuple #[.agg #[.string nm, .int .i64 c, .int .i64 mn, .int .i64 mx], .int .i64 e0]) ∧ Below v.heap.size v w'))
    (HC : Hid (∀ v, Below w.heap.size w v → Calls Tryz.prog 18 #[.int .i64 f, .slice a m cap] v fun e w' => e = .returned (.tuple #[.agg #[.int .i64 rk, .int .i64 rn, .string rt], .int .i64 z]) ∧ Below v.heap.size v w'))
    (HT : Hid ((e0 != 0) = true ∨ ((e0 != 0) = false ∧ (c != 1) = true ∧ (c != 2) = true) ∨ ((e0 != 0) = false ∧ ((c != 1) = false ∨ ((c != 1) = true ∧ (c != 2) = false)) ∧ (decide ((m : Int) < mn) = true ∨ (decide ((m : Int) < mn) = false ∧ decide (mx < (m : Int)) = true)))))
    (hr : rk = 0 ∧ rn = 0 ∧ rt = ⟨#[]⟩ ∧ z = 1) : Calls Tryz.prog 5 #[.int .i64 f, .slice a n cap, .int .i64 at', .int .i64 e'] w fun e w' => e = .returned (.bool true) ∧ Below w.heap.size w w' := by
  have HR := Lib.hid hr
  clear hr
  have hb : Below w.heap.size w w := Below.refl _ _
  go_enter Tryz.func5, Tryz.ntmps5
  go_wp2_with (fail)
  refine (HBEG.out _ hb).mono ?_
  rintro e w1 ⟨rfl, hb1⟩
  replace hb := hb1
  clear hb1
  go_wp2_with (fail)
  refine (HI.out _).mono ?_
  rintro e w2 ⟨rfl, hb2⟩
  replace hb := hb.trans (hb2.mono hb.size)
  clear hb2
  go_upto_region 4 with (fail)
  have kx : (w2.alloc (Obj.cells #[.string nm, .int .i64 c, .int .i64 mn, .int .i64 mx] 41)).heap[w2.heap.size]? = some (.cells #[.string nm, .int .i64 c, .int .i64 mn, .int .i64 mx] 41 (0, 0)) := heap_alloc_new _ _
  replace hb := hb.alloc hb.size (Obj.cells #[.string nm, .int .i64 c, .int .i64 mn, .int .i64 mx] 41)
  generalize (w2.alloc (Obj.cells #[.string nm, .int .i64 c, .int .i64 mn, .int .i64 mx] 41)) = W2 at *
  generalize w2.heap.size = B9 at *
  go_upto_if 28 with (fail)
  go_cut [1] (fun s wx => s = .slice a m cap ∧ W2 = wx)
  case first =>
    rcases HCUT.out with ⟨h1, rfl⟩ | ⟨h1, rfl⟩
    · have h2 : 10 ≤ cap := by omega
      go_wp2_with (fail)
      all_goals
        go_meet
        exact ⟨rfl, rfl⟩
    · go_wp2_with (fail)
      all_goals
        go_meet
        exact ⟨rfl, rfl⟩
  case rest =>
  obtain ⟨rfl, rfl⟩ := hcut
  go_wp2_with (fail)
  refine (HC.out _ hb).mono ?_
  rintro e w3 ⟨rfl, hb3⟩
  replace kx := (hb3.block _ (Array.getElem?_eq_some_iff.1 kx).1).trans kx
  replace hb := hb.trans (hb3.mono hb.size)
  clear hb3
  go_upto_region 7 with (fail)
  have kv : (w3.alloc (Obj.cells #[.int .i64 rk, .int .i64 rn, .string rt] 26)).heap[w3.heap.size]? = some (.cells #[.int .i64 rk, .int .i64 rn, .string rt] 26 (0, 0)) := heap_alloc_new _ _
  replace kx := (heap_alloc_old _ (Obj.cells #[.int .i64 rk, .int .i64 rn, .string rt] 26) (Array.getElem?_eq_some_iff.1 kx).1).trans kx
  have hE : ER w (w3.alloc (Obj.cells #[.int .i64 rk, .int .i64 rn, .string rt] 26)) B9 w3.heap.size nm c mn mx ⟨rk, rn, rt⟩ := ⟨hb.alloc hb.size _, kx, kv⟩
  clear kx kv hb
  generalize (w3.alloc (Obj.cells #[.int .i64 rk, .int .i64 rn, .string rt] 26)) = W3 at *
  generalize w3.heap.size = B11 at *
  obtain ⟨x0, x1, x2, x3⟩ := row_cells hE.x
  clear w1 w2 w3 HBEG HI HC HCUT
  obtain ⟨v0, v1, v2⟩ := val_cells hE.v
  go_cut [62] (fun s wx => s = .bool true ∧ W3 = wx)
  case first =>
    rcases HT.out with t0 | ⟨t0, t1, t2⟩ | ⟨t0, t1 | ⟨t1, t2⟩, t3 | ⟨t3, t4⟩⟩
    all_goals
      go_wp2_with (fail)
      go_meet
      exact ⟨rfl, rfl⟩
  case rest =>
  obtain ⟨rfl, rfl⟩ := hcut
  obtain ⟨rfl, rfl, rfl, rfl⟩ := HR.out
  clear HR
  go_wp2
  go_ret
  exact ⟨rfl, hE.b⟩
set_option maxRecDepth 100000 in
set_option maxHeartbeats 8000000 in
theorem er_loop (f e0 c mn mx z at' e' : Int) (n m cap : Nat) (a : Option Addr) (v : Nat → Val.V) (nm rt : ByteArray) (rk rn : Int) (w : World)
    (hcap : n ≤ cap) (hm : m ≤ 10) (HCUT : Hid ((10 < n ∧ m = 10) ∨ (¬ 10 < n ∧ m = n)))
    (HBEG : Hid (∀ v, Below w.heap.size w v → Calls Tryz.prog 8 #[] v fun e w' => e = .returned (.bool true) ∧ Below v.heap.size v w'))
    (HI : Hid (∀ v, Calls Tryz.prog 17 #[.int .i64 f] v fun e w' => e = .returned (.tuple #[.agg #[.string nm, .int .i64 c, .int .i64 mn, .int .i64 mx], .int .i64 e0]) ∧ Below v.heap.size v w'))
    (HC : Hid (∀ v, Below w.heap.size w v → Calls Tryz.prog 18 #[.int .i64 f, .slice a m cap] v fun e w' => e = .returned (.tuple #[.agg #[.int .i64 rk, .int .i64 rn, .string rt], .int .i64 z]) ∧ Below v.heap.size v w'))
    (t0 : (e0 != 0) = false) (HT : Hid ((c != 1) = false ∨ ((c != 1) = true ∧ (c != 2) = false))) (t3 : decide ((m : Int) < mn) = false) (t4 : decide (mx < (m : Int)) = false)
    (HCell : Hid (HCellP w a n v)) (hmn : m ≤ n) (HVB : Hid (∀ k, k < m → VB (v k))) (hN : NumW w) (hT : TxtW w)
    (HM : Hid (∀ k, k < m → Val.mayB (v k) = false → 0 = rk ∧ 0 = rn ∧ ⟨#[]⟩ = rt ∧ 24 = z))
    (HV : Hid ((∀ k, k < m → Val.mayB (v k) = true) → z = 0 ∧ Val.mayB ⟨rk, rn, rt⟩ = true ∧ (rk == 0) = false ∧
      ((c == 2) = true ∧ rk = 2 ∨ ((c == 2) = false ∧ (∀ k, k < m → ((v k).k == 4) = true → (∀ j, j < k → ((v j).k == 4) = false) → (v k).k = rk ∧ (v k).n = rn ∧ (v k).t = rt) ∧
        ((∀ k, k < m → ((v k).k == 4) = false) → 1 ≤ e' → e' ≤ 6 → ∀ k, k < m → Cal.callM f m (fun j => if j = k then Cal.bad e' else v j) = (Cal.bad e', 0)))))) : Calls Tryz.prog 5 #[.int .i64 f, .slice a n cap, .int .i64 at', .int .i64 e'] w fun e w' => e = .returned (.bool true) ∧ Below w.heap.size w w' := by
  have hb : Below w.heap.size w w := Below.refl _ _
  go_enter Tryz.func5, Tryz.ntmps5
  go_wp2_with (fail)
  refine (HBEG.out _ hb).mono ?_
  rintro e w1 ⟨rfl, hb1⟩
  replace hb := hb1
  clear hb1
  go_wp2_with (fail)
  refine (HI.out _).mono ?_
  rintro e w2 ⟨rfl, hb2⟩
  replace hb := hb.trans (hb2.mono hb.size)
  clear hb2
  go_upto_region 4 with (fail)
  have kx : (w2.alloc (Obj.cells #[.string nm, .int .i64 c, .int .i64 mn, .int .i64 mx] 41)).heap[w2.heap.size]? = some (.cells #[.string nm, .int .i64 c, .int .i64 mn, .int .i64 mx] 41 (0, 0)) := heap_alloc_new _ _
  replace hb := hb.alloc hb.size (Obj.cells #[.string nm, .int .i64 c, .int .i64 mn, .int .i64 mx] 41)
  generalize (w2.alloc (Obj.cells #[.string nm, .int .i64 c, .int .i64 mn, .int .i64 mx] 41)) = W2 at *
  generalize w2.heap.size = B9 at *
  go_upto_if 28 with (fail)
  go_cut [1] (fun s wx => s = .slice a m cap ∧ W2 = wx)
  case first =>
    rcases HCUT.out with ⟨h1, rfl⟩ | ⟨h1, rfl⟩
    · have h2 : 10 ≤ cap := by omega
      go_wp2_with (fail)
      all_goals
        go_meet
        exact ⟨rfl, rfl⟩
    · go_wp2_with (fail)
      all_goals
        go_meet
        exact ⟨rfl, rfl⟩
  case rest =>
  obtain ⟨rfl, rfl⟩ := hcut
  go_wp2_with (fail)
  refine (HC.out _ hb).mono ?_
  rintro e w3 ⟨rfl, hb3⟩
  replace kx := (hb3.block _ (Array.getElem?_eq_some_iff.1 kx).1).trans kx
  replace hb := hb.trans (hb3.mono hb.size)
  clear hb3
  go_upto_region 7 with (fail)
  have kv : (w3.alloc (Obj.cells #[.int .i64 rk, .int .i64 rn, .string rt] 26)).heap[w3.heap.size]? = some (.cells #[.int .i64 rk, .int .i64 rn, .string rt] 26 (0, 0)) := heap_alloc_new _ _
  replace kx := (heap_alloc_old _ (Obj.cells #[.int .i64 rk, .int .i64 rn, .string rt] 26) (Array.getElem?_eq_some_iff.1 kx).1).trans kx
  have hE : ER w (w3.alloc (Obj.cells #[.int .i64 rk, .int .i64 rn, .string rt] 26)) B9 w3.heap.size nm c mn mx ⟨rk, rn, rt⟩ := ⟨hb.alloc hb.size _, kx, kv⟩
  clear kx kv hb
  generalize (w3.alloc (Obj.cells #[.int .i64 rk, .int .i64 rn, .string rt] 26)) = W3 at *
  generalize w3.heap.size = B11 at *
  obtain ⟨x0, x1, x2, x3⟩ := row_cells hE.x
  clear w1 w2 w3 HBEG HI HC HCUT
  go_cut [62] (fun s wx => s = .bool false ∧ W3 = wx)
  case first =>
    rcases HT.out with t1 | ⟨t1, t2⟩
    all_goals
      go_wp2_with (fail)
      go_meet
      exact ⟨rfl, rfl⟩
  case rest =>
  obtain ⟨rfl, rfl⟩ := hcut
  clear x0 x1 x2 x3 t3 t4 HT
  go_wp2_with (fail)
  have hE0 := hE
  generalize hW9 : W3 = W9 at hE0
  clear hW9 hE
  go_loopw [13, 14] (fun fi i wr => ∃ (k : Nat) (g : Int), k ≤ m ∧ fi = .int .i64 g ∧ i = .int .i64 (k : Int) ∧ ER w wr B9 B11 nm c mn mx ⟨rk, rn, rt⟩ ∧ Hid (∀ j, j < k → Val.mayB (v j) = true) ∧ Hid (FirstE v k g)) (fun _ i _ => m - (intOf i).toNat)
  case atStart => exact ⟨0, -1, Nat.zero_le _, rfl, rfl, hE0, Lib.hid (fun j hj => by omega), Lib.hid (.inl ⟨rfl, fun j hj => by omega⟩)⟩
  case round =>
  obtain ⟨k, g, hk, rfl, rfl, hE, HMay, HG⟩ := hrel
  clear hE0
  by_cases hlt : k < m
  · clear HV
    obtain ⟨b, o, rfl, hbl, q0, q1, q2⟩ := HCell.out k (by omega)
    have c0 := (hE.b.cell (p := ⟨b, o + k * 3, none⟩) hbl).trans q0
    have c1 := (hE.b.cell (p := ⟨b, o + k * 3 + 1, none⟩) hbl).trans q1
    have c2 := (hE.b.cell (p := ⟨b, o + k * 3 + 2, none⟩) hbl).trans q2
    have HQ := Lib.hid q0
    clear q0 q1 q2
    have HP := Lib.hid (fun w => vmay_any (v k) w)
    have hM := Lib.hid (HM.out k hlt)
    have HNext : Hid (Val.mayB (v k) = true → ∀ j, j < k + 1 → Val.mayB (v j) = true) := Lib.hid (fun e j hj => by
      by_cases h : j = k
      · subst h; exact e
      · exact HMay.out j (by omega))
    have HF0 : Hid ((∃ j : Nat, g = (j : Int) ∧ FirstE v (k + 1) (j : Int)) ∨ (g = -1 ∧ (((v k).k == 4) = true ∧ FirstE v (k + 1) (k : Int) ∨ ((v k).k == 4) = false ∧ FirstE v (k + 1) (-1)))) := Lib.hid (by
      rcases HG.out with ⟨h1, h2⟩ | ⟨j, h1, h2, h3, h4⟩
      · refine .inr ⟨h1, ?_⟩
        cases h : ((v k).k == 4) with
        | true => exact .inl ⟨rfl, .inr ⟨k, rfl, by omega, h, h2⟩⟩
        | false =>
          refine .inr ⟨rfl, .inl ⟨rfl, fun j hj => ?_⟩⟩
          by_cases e : j = k
          · subst e; exact h
          · exact h2 j (by omega)
      · exact .inl ⟨j, h1, .inr ⟨j, rfl, by omega, h3, h4⟩⟩)
    clear HM HG
    generalize hvk : v k = vk at HP hM HNext HF0 c0 c1 c2 HQ
    clear hvk
    obtain ⟨kk, kn, kt⟩ := vk
    go_wp2_with (fail)
    refine (HP.out _).mono ?_
    rintro e w2 ⟨rfl, hb2⟩
    replace hE := hE.call hb2
    clear hb2 c0 c1 c2
    have c0 := (hE.b.cell (p := ⟨b, o + k * 3, none⟩) hbl).trans HQ.out
    cases hmv : Val.mayB (⟨kk, kn, kt⟩ : Val.V) with
    | false =>
      obtain ⟨rfl, rfl, rfl, rfl⟩ := hM.out hmv
      obtain ⟨v0, v1, v2⟩ := val_cells hE.v
      go_wp2
      go_ret
      exact ⟨rfl, hE.b⟩
    | true =>
      have HN2 := Lib.hid (HNext.out hmv)
      clear HNext hM
      rcases HF0.out with ⟨j, rfl, hF⟩ | ⟨rfl, ⟨hk4, hF⟩ | ⟨hk4, hF⟩⟩
      · have t5 : decide ((j : Int) < 0) = false := decide_eq_false (by omega)
        have HF := Lib.hid hF
        clear hF HF0
        go_wp2_with (fail)
        go_roundw
        case rel => exact ⟨k + 1, j, by omega, rfl, by go_num, hE, HN2, HF⟩
        case measure => simp [intOf]; omega
      · have HF := Lib.hid hF
        clear hF HF0
        go_wp2_with (fail)
        go_roundw
        case rel => exact ⟨k + 1, k, by omega, rfl, by go_num, hE, HN2, HF⟩
        case measure => simp [intOf]; omega
      · have HF := Lib.hid hF
        clear hF HF0
        go_wp2_with (fail)
        go_roundw
        case rel => exact ⟨k + 1, -1, by omega, rfl, by go_num, hE, HN2, HF⟩
        case measure => simp [intOf]; omega
  · obtain rfl : k = m := by omega
    clear hlt HM
    obtain ⟨rfl, hmay, hk0, hcls⟩ := HV.out HMay.out
    clear HV
    have HCL := Lib.hid hcls
    have HP := Lib.hid (fun w => vmay_any ⟨rk, rn, rt⟩ w)
    rw [hmay] at HP
    clear hcls hmay HMay
    obtain ⟨v0, v1, v2⟩ := val_cells hE.v
    go_wp2_with (fail)
    refine (HP.out _).mono ?_
    rintro e w2 ⟨rfl, hb2⟩
    replace hE := hE.call hb2
    clear hb2 v0 v1 v2 HP
    obtain ⟨v0, v1, v2⟩ := val_cells hE.v
    obtain ⟨x0, x1, x2, x3⟩ := row_cells hE.x
    rcases HCL.out with ⟨hc2, rfl⟩ | ⟨hc2, hA, hB⟩
    · go_wp2
      go_ret
      exact ⟨rfl, hE.b⟩
    have HB := Lib.hid hB
    have HA := Lib.hid hA
    clear hA hB HCL
    rcases HG.out with ⟨rfl, hnone⟩ | ⟨j, rfl, hj, hj4, hpre⟩
    rotate_left
    · obtain ⟨q0, q1, q2⟩ := HA.out j hj hj4 hpre
      obtain ⟨b, o, rfl, hbl, c0, c1, c2⟩ := HCell.out j (by omega)
      rw [q0] at c0
      rw [q1] at c1
      rw [q2] at c2
      replace c0 := (hE.b.cell (p := ⟨b, o + j * 3, none⟩) hbl).trans c0
      replace c1 := (hE.b.cell (p := ⟨b, o + j * 3 + 1, none⟩) hbl).trans c1
      replace c2 := (hE.b.cell (p := ⟨b, o + j * 3 + 2, none⟩) hbl).trans c2
      have t5 : decide (0 ≤ (j : Int)) = true := decide_eq_true (by omega)
      clear HA HB HG hj4 hpre q0 q1 q2
      go_wp2_with (fail)
      go_quiet (fail)
      go_wp2
      go_ret
      exact ⟨rfl, hE.b.trans ⟨rfl, rfl, rfl, Nat.le_refl _, fun _ _ => rfl⟩⟩
    clear HA HG x0 x2 x3 v1 v2
    have HNone := Lib.hid hnone
    clear hnone
    by_cases hk9 : k = 0
    · subst hk9
      go_wp2
      go_ret
      exact ⟨rfl, hE.b⟩
    have u0 : ((k : Int) == 0) = false := by rw [beq_eq_false_iff_ne]; omega
    by_cases he1 : e' < 1
    · have u1 : decide (e' < 1) = true := decide_eq_true he1
      go_wp2
      go_ret
      exact ⟨rfl, hE.b⟩
    have u1 : decide (e' < 1) = false := decide_eq_false he1
    by_cases he2 : 6 < e'
    · have u2 : decide (6 < e') = true := decide_eq_true he2
      go_wp2
      go_ret
      exact ⟨rfl, hE.b⟩
    have u2 : decide (6 < e') = false := decide_eq_false he2
    have u3 : ¬ (k : Int) = 0 := by omega
    obtain ⟨q, hq⟩ : ∃ q, at'.tmod (k : Int) = q := ⟨_, rfl⟩
    have hq1 : q.natAbs < k := by
      rw [← hq, Int.natAbs_tmod]
      exact Nat.mod_lt _ (by omega)
    obtain ⟨K, hK⟩ : ∃ K, K = q.natAbs := ⟨_, rfl⟩
    have hKk : K < k := by omega
    have hneg : q < 0 → IntKind.i64.wrap (-q) = (K : Int) := fun h => by rw [IntKind.wrap_i64]; omega
    have hpos : ¬ q < 0 → q = (K : Int) := fun h => by omega
    have HNG := Lib.hid hneg
    have HPS := Lib.hid hpos
    clear hneg hpos hK hq1
    go_upto_if 142 with (fail)
    go_cut [15] (fun s wx => s = .int .i64 (K : Int) ∧ w2 = wx)
    case first =>
      by_cases hn : q < 0
      · have hw := HNG.out hn
        go_wp2_with (fail)
        all_goals
          go_meet
          exact ⟨by first | rfl | (rw [hw]), rfl⟩
      · obtain rfl := HPS.out (by omega)
        go_wp2_with (fail)
        all_goals
          go_meet
          exact ⟨rfl, rfl⟩
    case rest =>
    obtain ⟨rfl, rfl⟩ := hcut
    obtain ⟨b, o, rfl, -⟩ := HCell.out 0 (by omega)
    have hcp : HCellP w2 (some ⟨b, o, none⟩) k v := fun j hj => HCellP.below HCell.out rfl hE.b j (by omega)
    have hnews := cellP_news hcp
    obtain ⟨i0, hi, hz0, hz1, hz2⟩ := info_parts infoVE
    clear hq u0 u1 u2 u3 hk0 hc2 t0
    go_wp2_with (first | (at_builtin; refine wpList_append_own _ rfl _ _ 24 rfl w.heap.size 26 i0 (.agg #[.int .i64 0, .int .i64 0, .string ⟨#[]⟩]) 3 32 Tryz.underlying24 hi hz0 hz1 hz2 rfl (by decide) _ _ _ rfl (World.ownsRow_nil _ _ _ _) ⟨b, o, none⟩ k cap (rowC v k) rfl (rowC_len v k) hnews (argC_one _) ?c3n ?c4n ?c5n ?_) | fail)
    case c3n => unfold maxLen; omega
    case c4n => omega
    case c5n => exact hE.b.size
    intro v' w5 hown hgrow _
    rcases hown.2 with ⟨_, h0⟩ | ⟨g, cap', cur, rfl, hge, hgg, hle, _, hsz, htake⟩
    · omega
    replace hE := hE.grown hgrow
    clear hgrow hown hnews hcp hi hz0 hz1 hz2
    have HBAD := Lib.hid lbad_any
    have HT2 := Lib.hid htake
    clear htake
    go_wp2_with (fail)
    refine (HBAD.out _ _).mono ?_
    rintro e w6 ⟨rfl, hb6⟩
    replace hE := hE.call hb6
    replace hgg := (hb6.block _ (Array.getElem?_eq_some_iff.1 hgg).1).trans hgg
    clear hb6
    have p0 := (Lib.cell_of_heap hgg (K * 3)).trans (Array.getElem?_eq_getElem (show K * 3 < cur.size by omega))
    have p1 := (Lib.cell_of_heap hgg (K * 3 + 1)).trans (Array.getElem?_eq_getElem (show K * 3 + 1 < cur.size by omega))
    have p2 := (Lib.cell_of_heap hgg (K * 3 + 2)).trans (Array.getElem?_eq_getElem (show K * 3 + 2 < cur.size by omega))
    have g0 := Lib.frozen_of_heap hgg (K * 3)
    have g1 := Lib.frozen_of_heap hgg (K * 3 + 1)
    have g2 := Lib.frozen_of_heap hgg (K * 3 + 2)
    have hcp2 := upd_cells (v := v) e' hgg (by omega) HT2.out hKk
    have hbW : Below w.heap.size w (set3W w6 g K e') := ((hE.b.setCell (p := ⟨g, K * 3, none⟩) hge _).setCell (p := ⟨g, K * 3 + 1, none⟩) hge _).setCell (p := ⟨g, K * 3 + 2, none⟩) hge _
    have hcall := call_any f k (fun j => if j = K then Cal.bad e' else v j) (some ⟨g, 0, none⟩) cap' (set3W w6 g K e') hcp2 (fun j hj => by
      show VB (if j = K then Cal.bad e' else v j)
      split
      · exact ⟨by show -9223372036854775808 ≤ e'; omega, by show e' ≤ 9223372036854775807; omega, (by decide : (⟨#[]⟩ : ByteArray).size ≤ 140737488351232)⟩
      · exact HVB.out j hj) (hN.below hbW) (hT.below rfl hbW)
    rw [HB.out HNone.out (by omega) (by omega) K hKk] at hcall
    have HCALL : Hid (Calls Tryz.prog 18 #[.int .i64 f, .slice (some ⟨g, 0, none⟩) k cap'] (set3W w6 g K e') fun e w'' => e = .returned (.tuple #[.agg #[.int .i64 4, .int .i64 e', .string ⟨#[]⟩], .int .i64 0]) ∧ Below (set3W w6 g K e').heap.size (set3W w6 g K e') w'') := Lib.hid hcall
    clear hcall hcp2 HB HNone HT2
    go_wp2_with (fail)
    refine HCALL.out.mono ?_
    rintro e w7 ⟨rfl, hb7⟩
    replace hb7 : Below w.heap.size w w7 := hbW.trans (hb7.mono hbW.size)
    clear hbW p0 p1 p2 g0 g1 g2 hgg hE HCALL
    go_upto_region 31 with (fail)
    have kz : (w7.alloc (Obj.cells #[.int .i64 4, .int .i64 e', .string ⟨#[]⟩] 26)).heap[w7.heap.size]? = some (.cells #[.int .i64 4, .int .i64 e', .string ⟨#[]⟩] 26 (0, 0)) := heap_alloc_new _ _
    replace hb7 := hb7.alloc hb7.size (Obj.cells #[.int .i64 4, .int .i64 e', .string ⟨#[]⟩] 26)
    generalize (w7.alloc (Obj.cells #[.int .i64 4, .int .i64 e', .string ⟨#[]⟩] 26)) = W17 at *
    generalize w7.heap.size = B17 at *
    refine Drw.region_values_all 9 ?A31 (fun w' => w'.heap[B17]? = some (.cells #[.int .i64 4, .int .i64 e', .string ⟨#[]⟩] 26 (0, 0)) ∧ Below w.heap.size w w') (fun i => match i with | 0 => fun v _ => v = .int .i64 0 | 1 => fun v _ => v = .bool true | 2 => fun v _ => v = .bool true | 3 => fun v _ => v = .agg #[.int .i64 4, .int .i64 e', .string ⟨#[]⟩] | 4 => fun v _ => v = .int .i64 e' | 5 => fun v _ => v = .agg #[.int .i64 4, .int .i64 e', .string ⟨#[]⟩] | 6 => fun v _ => v = .bool true | 7 => fun v _ => v = .bool true | 8 => fun v _ => v = .bool true | _ => fun _ _ => True) (fun i => false) ?hA31 (by kernel_rfl) (by kernel_rfl) rfl ⟨kz, hb7.drew⟩ (fun w1 w2 h hS => ⟨(h.block _ (Array.getElem?_eq_some_iff.1 hS.1).1).trans hS.1, hS.2.trans (h.mono hS.2.size)⟩) (Drw.lt_succ (Drw.lt_succ (Drw.lt_succ (Drw.lt_succ (Drw.lt_succ (Drw.lt_succ (Drw.lt_succ (Drw.lt_succ (Drw.lt_succ Drw.lt_nil Drw.st) Drw.st) Drw.st) Drw.st) Drw.st) Drw.st) Drw.st) Drw.st) Drw.st) ?_ ?_
    case hA31 =>
      intro f
      symm
      simp only [Drw.putAll, Drw.dst, List.range, List.range.loop, List.getElem?_toArray, List.getElem?_cons_zero, List.getElem?_cons_succ, Option.bind_some, Act.put, List.setIfInBounds_toArray, List.set_cons_zero, List.set_cons_succ]
      exact rfl
    refine Drw.Obs.cons ?_ ?_
    · intro f w _ hV K hK; unfold Drw.Give; go_simp; exact hK.out _ _ rfl (Below.refl _ _) (Drw.no rfl)
    refine Drw.Obs.cons ?_ ?_
    · intro f w _ hV K hK; have v0 := Drw.val (hV 0 rfl); clear hV; unfold Drw.Give; go_simp; exact hK.out _ _ rfl (Below.refl _ _) (Drw.no rfl)
    refine Drw.Obs.cons ?_ ?_
    · intro f w _ hV K hK; have v1 := Drw.val (hV 1 rfl); clear hV; unfold Drw.Give; go_simp; exact hK.out _ _ rfl (Below.refl _ _) (Drw.no rfl)
    refine Drw.Obs.cons ?_ ?_
    · intro f w hS hV K hK; obtain ⟨s0, -⟩ := hS; obtain ⟨s0c0, s0c1, s0c2⟩ := val_cells s0; have v2 := Drw.val (hV 2 rfl); clear hV; unfold Drw.Give; go_simp; exact hK.out _ _ rfl (Below.refl _ _) (Drw.no rfl)
    refine Drw.Obs.cons ?_ ?_
    · intro f w _ hV K hK; have v2 := Drw.val (hV 2 rfl); clear hV; unfold Drw.Give; go_simp; exact hK.out _ _ rfl (Below.refl _ _) (Drw.no rfl)
    refine Drw.Obs.cons ?_ ?_
    · intro f w hS hV K hK; obtain ⟨-, hsb⟩ := hS; have v4 := Drw.val (hV 4 rfl); have v2 := Drw.val (hV 2 rfl); clear hV; unfold Drw.Give; go_simp; unfold Drw.giveUpon; with_reducible refine (HBAD.out _ _).mono ?_; rintro e w2 ⟨rfl, hb2⟩; exact ⟨_, rfl, hK.out _ _ rfl hb2 (Drw.no rfl)⟩
    refine Drw.Obs.cons ?_ ?_
    · intro f w _ hV K hK; have v3 := Drw.val (hV 3 rfl); have v5 := Drw.val (hV 5 rfl); have v2 := Drw.val (hV 2 rfl); clear hV; unfold Drw.Give; go_simp; exact hK.out _ _ rfl (Below.refl _ _) (Drw.no rfl)
    refine Drw.Obs.cons ?_ ?_
    · intro f w _ hV K hK; have v2 := Drw.val (hV 2 rfl); have v6 := Drw.val (hV 6 rfl); clear hV; unfold Drw.Give; go_simp; exact hK.out _ _ rfl (Below.refl _ _) (Drw.no rfl)
    refine Drw.Obs.cons ?_ ?_
    · intro f w _ hV K hK; have v7 := Drw.val (hV 7 rfl); clear hV; unfold Drw.Give; go_simp; exact hK.out _ _ rfl (Below.refl _ _) (Drw.no rfl)
    exact Drw.Obs.nil
    intro f' w8 hS hV hD hZ
    have v8 : f' 8 = .bool true := hV 8 (by decide)
    clear hV hD hZ hb7
    obtain ⟨-, hb⟩ := hS
    simp only [v8]
    go_wp2
    go_ret
    exact ⟨rfl, hb⟩
end Go.Proofs.YtpiiemneelkpkaaGreatDoor
