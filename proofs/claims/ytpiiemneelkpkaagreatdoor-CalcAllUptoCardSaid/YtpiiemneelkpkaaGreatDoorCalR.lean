import Derived.Test.YtpiiemneelkpkaaGreatDoorGck
import Derived.OwnWalk
import Derived.LoopTactic
set_option maxRecDepth 100000
namespace Go.Proofs.YtpiiemneelkpkaaGreatDoor
open Go.RowKit
set_option linter.unusedVariables false
theorem ix_at (s : ByteArray) (m : Nat) (b : Int) (h : m < s.size) (e : ((s.data.toList.getD m 0).toNat : Int) = b) (w : World) : (Instr.index 9 (.string s) (.int .i64 (m : Int))).run Tryz.prog w = .ok (.int .u8 b) w := by
 have h1 : 0 ≤ (m : Int) ∧ (m : Int) < (s.size : Int) := by omega
 have e2 : s.data.toList.getD m 0 = s[m] := by
  rw [List.getD_eq_getElem?_getD, List.getElem?_eq_getElem (by rw [← Lib.size_eq]; exact h)]
  rfl
 rw [e2] at e
 simp [go_sem, h, e]
theorem infoI64 : (Tryz.prog.info? 2).map (fun i => (i.zero, i.size, i.bytes)) = some (some (.int .i64 0), 1, 8) := by kernel_rfl
theorem infoStr : (Tryz.prog.info? 9).map (fun i => (i.zero, i.size, i.bytes)) = some (some (.string ⟨#[]⟩), 1, 16) := by kernel_rfl
def WorkOK (W : World) (fn nsv tsv : Value) (I : Cal.In) (rk rn : Int) (rt : ByteArray) : Prop :=
 (∃ id : FuncId, fn = .func (.func id) #[] #[] ∧ (∀ args w, (callFunc id args).run Tryz.prog w = .ok (.enter id args) w) ∧ Ret id #[.agg #[nsv, tsv, .bool I.b, .int .i64 I.v.k, .int .i64 I.v.n, .string I.v.t]] W (.agg #[.int .i64 rk, .int .i64 rn, .string rt])) ∨
 (∃ (id : FuncId) (p : Value), fn = .func (.func id) #[] #[p] ∧ (∀ args w, (callFunc id args).run Tryz.prog w = .ok (.enter id args) w) ∧ Ret id #[.agg #[nsv, tsv, .bool I.b, .int .i64 I.v.k, .int .i64 I.v.n, .string I.v.t], p] W (.agg #[.int .i64 rk, .int .i64 rn, .string rt]))
def rowS (f : Int) (s : ByteArray) : Prop := (∃ g, (f, s, g) ∈ plainTab) ∨ (∃ g h T, (f, s, g, h, T) ∈ boxTab)
structure L1 (w wr : World) (B6 : Nat) (nm : ByteArray) (c mn mx : Int) : Prop where
 b : Below w.heap.size w wr
 z : wr.heap[w.heap.size]? = some (.cells #[.int .i64 0, .int .i64 0, .string ⟨#[]⟩] 26 (0, 0))
 x : wr.heap[B6]? = some (.cells #[.string nm, .int .i64 c, .int .i64 mn, .int .i64 mx] 41 (0, 0))
theorem L1.call {w wr w' : World} {B6 : Nat} {nm : ByteArray} {c mn mx : Int} (h : L1 w wr B6 nm c mn mx) (hb : Below wr.heap.size wr w') : L1 w w' B6 nm c mn mx :=
 ⟨h.b.trans (hb.mono h.b.size), (hb.block _ (Array.getElem?_eq_some_iff.1 h.z).1).trans h.z, (hb.block _ (Array.getElem?_eq_some_iff.1 h.x).1).trans h.x⟩
theorem L1.alloc {w wr : World} {B6 : Nat} {nm : ByteArray} {c mn mx : Int} (h : L1 w wr B6 nm c mn mx) (o : Obj) : L1 w (wr.alloc o) B6 nm c mn mx := h.call ((Below.refl _ _).alloc (Nat.le_refl _) o)
set_option maxHeartbeats 6400000 in
theorem call_scalar (f : Int) (n : Nat) (mn mx : Int) (nm s : ByteArray) (v : Nat → Val.V) (a : Option Addr) (cap : Nat) (rk rn : Int) (rt : ByteArray) (z : Int) (w : World)
  (hI : infoV f = ((nm, 1, mn, mx), 0)) (t1 : decide ((n : Int) < mn) = false) (t2 : decide (mx < (n : Int)) = false)
  (hin : f ∈ ([1, 2, 3, 4, 5, 6, 7, 8, 9, 10, 11, 12, 13, 14, 15, 31, 33, 35, 16, 17, 18, 19, 20, 21, 22, 23, 24, 25, 26, 27, 28, 29, 30, 32, 34] : List Int)) (hs : ∀ s', rowS f s' → s' = s) (hsz : n ≤ s.size) (h10 : s.size ≤ 10)
  (hch : ∀ k, k < n → (s.data.toList.getD k 0).toNat = 110 ∨ (s.data.toList.getD k 0).toNat = 116 ∨ (s.data.toList.getD k 0).toNat = 98 ∨ (s.data.toList.getD k 0).toNat = 118)
  (HCell : Hid (∀ k, k < n → ∃ b o, a = some ⟨b, o, none⟩ ∧ b < w.heap.size ∧ w.cell? ⟨b, o + k * 3, none⟩ = some (.int .i64 (v k).k) ∧ w.cell? ⟨b, o + k * 3 + 1, none⟩ = some (.int .i64 (v k).n) ∧ w.cell? ⟨b, o + k * 3 + 2, none⟩ = some (.string (v k).t)))
  (HVB : Hid (∀ k, k < n → VB (v k))) (hN : NumW w)
  (HM : Hid (∀ k, k < n → Val.mayB (v k) = false → 0 = rk ∧ 0 = rn ∧ (⟨#[]⟩ : ByteArray) = rt ∧ 24 = z))
  (HV : Hid ((∀ k, k < n → Val.mayB (v k) = true) → ∀ k, k < n → (∀ j, j < k → ((v j).k == 4) = false) → ((v k).k == 4) = true → (v k).k = rk ∧ (v k).n = rn ∧ (v k).t = rt ∧ 0 = z))
  (HE : Hid ((∀ k, k < n → Val.mayB (v k) = true) → (∀ k, k < n → ((v k).k == 4) = false) → ∀ k, k < n → (∀ j, j < k → Cal.codeAt s v j = 0) → (Cal.codeAt s v k != 0) = true → 4 = rk ∧ Cal.codeAt s v k = rn ∧ (⟨#[]⟩ : ByteArray) = rt ∧ 0 = z))
  (HW : Hid ((∀ k, k < n → Val.mayB (v k) = true) → (∀ k, k < n → ((v k).k == 4) = false) → (∀ j, j < n → Cal.codeAt s v j = 0) → 0 = z ∧ ∀ W nsv tsv fn, isRow W f (.agg #[.string s, fn]) → Below w.heap.size w W →
   W.ownsRow w.heap.size 2 1 nsv (Cal.inAt s v n).ns.length ((Cal.inAt s v n).ns.map (.int .i64)) → W.ownsRow w.heap.size 9 1 tsv (Cal.inAt s v n).ts.length ((Cal.inAt s v n).ts.map .string) → WorkOK W fn nsv tsv (Cal.inAt s v n) rk rn rt)) :
  Ret 18 #[.int .i64 f, .slice a n cap] w (.tuple #[.agg #[.int .i64 rk, .int .i64 rn, .string rt], .int .i64 z]) := by
 have HI := Lib.hid (fun w => info_any f w)
 rw [hI] at HI
 have Hs := Lib.hid hs
 have Hin := Lib.hid hin
 have Hch := Lib.hid hch
 clear hI hs hin hch
 go_enter Tryz.func18, Tryz.ntmps18
 go_wp2_with (fail)
 refine (HI.out _).mono ?_
 rintro e w1 ⟨rfl, hb1⟩
 have hz := (hb1.block w.heap.size (by simp)).trans (heap_alloc_new _ _)
 have hb : Below w.heap.size w w1 := alloc_below hb1
 have hl1 : L1 w (w1.alloc (.cells #[.string nm, .int .i64 1, .int .i64 mn, .int .i64 mx] 41 (0, 0))) w1.heap.size nm 1 mn mx :=
  ⟨hb.alloc hb.size _, (heap_alloc_old _ _ (Array.getElem?_eq_some_iff.1 hz).1).trans hz, heap_alloc_new _ _⟩
 clear hb1 hz hb
 go_wp2_with (fail)
 generalize w1.heap.size = B6 at *
 generalize (w1.alloc (.cells #[.string nm, .int .i64 1, .int .i64 mn, .int .i64 mx] 41 (0, 0))) = W1 at *
 go_loopw [53] (fun i wr => ∃ k : Nat, k ≤ n ∧ i = .int .i64 (k : Int) ∧ L1 w wr B6 nm 1 mn mx ∧ Hid (∀ j, j < k → Val.mayB (v j) = true)) (fun i _ => n - (intOf i).toNat)
 case atStart => exact ⟨0, Nat.zero_le _, rfl, hl1, Lib.hid (fun j hj => by omega)⟩
 case round =>
 obtain ⟨k, hk, rfl, hL, HMay⟩ := hrel
 by_cases hlt : k < n
 ·obtain ⟨b, o, rfl, hbl, c0, c1, c2⟩ := HCell.out k hlt
  replace c0 := (hL.b.cell (p := ⟨b, o + k * 3, none⟩) hbl).trans c0
  replace c1 := (hL.b.cell (p := ⟨b, o + k * 3 + 1, none⟩) hbl).trans c1
  replace c2 := (hL.b.cell (p := ⟨b, o + k * 3 + 2, none⟩) hbl).trans c2
  have HP := Lib.hid (fun w => vmay_any (v k) w)
  have hM := Lib.hid (HM.out k hlt)
  have HNext : Hid (Val.mayB (v k) = true → ∀ j, j < k + 1 → Val.mayB (v j) = true) := Lib.hid (fun e j hj => by
   by_cases h : j = k
   ·subst h; exact e
   ·exact HMay.out j (by omega))
  generalize v k = vk at *
  obtain ⟨kk, kn, kt⟩ := vk
  go_wp2_with (fail)
  refine (HP.out _).mono ?_
  rintro e w2 ⟨rfl, hb2⟩
  replace hL := (hL.alloc _).call hb2
  clear hb2 c0 c1 c2
  cases hm : Val.mayB (⟨kk, kn, kt⟩ : Val.V) with
  | true =>
   go_wp2_with (fail)
   go_roundw
   case rel => exact ⟨k + 1, by omega, by go_num, hL, Lib.hid (HNext.out hm)⟩
   case measure => simp [intOf]; omega
  | false =>
   obtain ⟨rfl, rfl, rfl, rfl⟩ := hM.out hm
   obtain ⟨z0, z1, z2⟩ := val_cells hL.z
   obtain ⟨f0, f1, f2⟩ := val_frozen hL.z
   go_wp2_with (fail)
   exact bodyPost_ret (v := .tuple #[.agg #[.int .i64 0, .int .i64 0, .string ⟨#[]⟩], .int .i64 24]) (by simp [results, Tryz.results18, go_sem, z0, z1, z2]) rfl ⟨rfl, set3 hL.b (by simp)⟩
 ·obtain rfl : k = n := by omega
  clear HM hlt
  have x0 := ch hL.x 0
  have x1 := ch hL.x 1
  have x2 := ch hL.x 2
  have x3 := ch hL.x 3
  simp at x0 x1 x2 x3
  go_wp2_with (fail)
  clear x0 x1 x2 x3 hl1
  generalize hW2 : wr = W2 at hL
  clear hW2
  have hl1 := hL
  clear hL
  go_loopw [73] (fun i wr => ∃ j : Nat, j ≤ k ∧ i = .int .i64 (j : Int) ∧ L1 w wr B6 nm 1 mn mx ∧ Hid (∀ q, q < j → ((v q).k == 4) = false)) (fun i _ => k - (intOf i).toNat)
  case atStart => exact ⟨0, Nat.zero_le _, rfl, hl1, Lib.hid (fun j hj => by omega)⟩
  case round =>
  obtain ⟨j, hj, rfl, hL, HErr⟩ := hrel
  by_cases hlt : j < k
  ·obtain ⟨b, o, rfl, hbl, c0, c1, c2⟩ := HCell.out j hlt
   replace c0 := (hL.b.cell (p := ⟨b, o + j * 3, none⟩) hbl).trans c0
   replace c1 := (hL.b.cell (p := ⟨b, o + j * 3 + 1, none⟩) hbl).trans c1
   replace c2 := (hL.b.cell (p := ⟨b, o + j * 3 + 2, none⟩) hbl).trans c2
   have hV := Lib.hid (HV.out HMay.out j hlt HErr.out)
   have HNext : Hid (((v j).k == 4) = false → ∀ q, q < j + 1 → ((v q).k == 4) = false) := Lib.hid (fun e q hq => by
    by_cases h : q = j
    ·subst h; exact e
    ·exact HErr.out q (by omega))
   generalize v j = vj at *
   obtain ⟨kk, kn, kt⟩ := vj
   replace hL := hL.alloc (.cells #[.int .i64 kk, .int .i64 kn, .string kt] 26 (0, 0))
   cases hm : (kk == 4) with
   | false =>
    go_wp2_with (fail)
    go_roundw
    case rel => exact ⟨j + 1, by omega, by go_num, hL, Lib.hid (HNext.out hm)⟩
    case measure => simp [intOf]; omega
   | true =>
    obtain ⟨rfl, rfl, rfl, rfl⟩ := hV.out hm
    obtain ⟨z0, z1, z2⟩ := val_cells hL.z
    obtain ⟨f0, f1, f2⟩ := val_frozen hL.z
    go_wp2_with (fail)
    exact bodyPost_ret (v := .tuple #[.agg #[.int .i64 kk, .int .i64 kn, .string kt], .int .i64 0]) (by simp [results, Tryz.results18, go_sem, z0, z1, z2]) rfl ⟨rfl, set3 hL.b (by simp)⟩
  ·obtain rfl : j = k := by omega
   clear HV hlt
   go_wp2_with (fail)
   refine (rows_any _).mono ?_
   rintro e w3 ⟨rfl, hT, hG⟩
   have hb3 : Below wr.heap.size wr w3 := ⟨hG.os, hG.tape, hG.output, hG.size, fun q hq => hG.block q hq (by simp)⟩
   replace hL := hL.call hb3
   clear hG hb3
   generalize wr.heap.size = rb at *
   obtain ⟨L, h1, h2, h3⟩ := hT
   obtain ⟨x, hx, hrun⟩ := tab_lookup (P := Tryz.prog) h1 Tryz.underlying79 Tryz.underlying3 f (by rw [h2]; exact Hin.out)
   have hrow := h3 _ hx
   clear h1 h2 h3 hx
   obtain ⟨id, cp, rfl⟩ : ∃ (id : FuncId) (cp : Array Value), x = .agg #[.string s, .func (.func id) #[] cp] := by
    rcases hrow with ⟨s', g, h, e⟩ | ⟨s', g, q, T, b, h, hb, e⟩
    ·obtain rfl := Hs.out s' (.inl ⟨_, h⟩); exact ⟨_, _, e⟩
    ·obtain rfl := Hs.out s' (.inr ⟨_, _, _, h⟩); exact ⟨_, _, e⟩
   have hL3 : L3 w ((w3.alloc (.cells #[.string s, .func (.func id) #[] cp] 78 (0, 0))).alloc (.cells #[.slice none 0 0, .slice none 0 0, .bool false, .int .i64 0, .int .i64 0, .string ⟨#[]⟩] 84 (0, 0))) f s (.func (.func id) #[] cp) w3.heap.size (w3.heap.size + 1) (.slice none 0 0) (.slice none 0 0) Cal.in0 := by
    have b1 := (Below.refl w3.heap.size w3).alloc (Nat.le_refl _) (.cells #[.string s, .func (.func id) #[] cp] 78 (0, 0))
    have b2 := (b1.alloc b1.size (.cells #[.slice none 0 0, .slice none 0 0, .bool false, .int .i64 0, .int .i64 0, .string ⟨#[]⟩] 84 (0, 0)))
    have hl := (Array.getElem?_eq_some_iff.1 hL.z).1
    refine ⟨hL.b.trans (b2.mono hL.b.size), (b2.block _ hl).trans hL.z, ?_, ?_, ?_, ⟨rfl, .inl ⟨rfl, rfl⟩⟩, ⟨rfl, .inl ⟨rfl, rfl⟩⟩, hl, by omega⟩
    ·exact (heap_alloc_old _ _ (by simp)).trans (heap_alloc_new _ _)
    ·rw [show w3.heap.size + 1 = (w3.alloc (Obj.cells #[.string s, .func (.func id) #[] cp] 78 (0, 0))).heap.size by simp]
     exact heap_alloc_new _ _
    ·exact isRow.same hrow fun b c T _ h => b2.block b (Array.getElem?_eq_some_iff.1 h).1
   clear hL hrow hl1
   go_wp2_with (fail)
   generalize ((w3.alloc (.cells #[.string s, .func (.func id) #[] cp] 78 (0, 0))).alloc (.cells #[.slice none 0 0, .slice none 0 0, .bool false, .int .i64 0, .int .i64 0, .string ⟨#[]⟩] 84 (0, 0))) = W3 at *
   generalize w3.heap.size = B12 at *
   generalize B12 + 1 = B13 at *
   go_loopw [87] (fun i wr => ∃ m : Nat, m ≤ j ∧ i = .int .i64 (m : Int) ∧ (∃ nsv tsv, L3 w wr f s (.func (.func id) #[] cp) B12 B13 nsv tsv (Cal.inAt s v m)) ∧ Hid (∀ q, q < m → Cal.codeAt s v q = 0)) (fun i _ => j - (intOf i).toNat)
   case atStart => exact ⟨0, Nat.zero_le _, rfl, ⟨_, _, hL3⟩, Lib.hid (fun q hq => by omega)⟩
   case round =>
   obtain ⟨m, hm, rfl, ⟨nsv, tsv, hL⟩, HCode⟩ := hrel
   by_cases hlt : m < j
   ·obtain ⟨b, o, rfl, hbl, c0, c1, c2⟩ := HCell.out m hlt
    replace c0 := (hL.b.cell (p := ⟨b, o + m * 3, none⟩) hbl).trans c0
    replace c1 := (hL.b.cell (p := ⟨b, o + m * 3 + 1, none⟩) hbl).trans c1
    replace c2 := (hL.b.cell (p := ⟨b, o + m * 3 + 2, none⟩) hbl).trans c2
    have hvb := HVB.out m hlt
    have hE := Lib.hid (HE.out HMay.out HErr.out m hlt HCode.out)
    have HNext : Hid (Cal.codeAt s v m = 0 → ∀ q, q < m + 1 → Cal.codeAt s v q = 0) := Lib.hid (fun e q hq => by
     by_cases h : q = m
     ·subst h; exact e
     ·exact HCode.out q (by omega))
    have hms : m < s.size := by omega
    have x0 := fun o => Lib.cell_of_heap (hL.alloc o).x 0
    simp at x0
    rcases Hch.out m hlt with hc | hc | hc | hc
    ·obtain ⟨i0, hi, hz0, hz1, hz2⟩ := info_parts infoI64
     have hix := ix_at s m 110 hms (by rw [hc]; rfl)
     have hcode : Cal.codeAt s v m = (Val.number (v m)).2 := by unfold Cal.codeAt Cal.look1; rw [hc]; rfl
     have hin : Cal.inAt s v (m + 1) = ⟨(Cal.inAt s v m).ns ++ [(Val.number (v m)).1], (Cal.inAt s v m).ts, (Cal.inAt s v m).b, (Cal.inAt s v m).v⟩ := by
      show (Cal.look1 (s.data.toList.getD m 0) (v m) (Cal.inAt s v m)).2 = _
      unfold Cal.look1; rw [hc]; rfl
     rw [hcode] at hE HNext
     clear hc hcode
     have HC := Lib.hid (fun (w' : World) (hb : Below w.heap.size w w') => number_any (v m) w' hvb (hN.below hb))
     generalize (Val.number (v m)).1 = x at *
     generalize (Val.number (v m)).2 = ec at *
     generalize v m = vm at *
     obtain ⟨kk, kn, kt⟩ := vm
     have hln := Cal.inAt_len s v m
     have HIn := Lib.hid hin
     clear hin
     generalize Cal.inAt s v m = I at *
     go_wp2_with (fail)
     refine (HC.out _ (hL.alloc _).b).mono ?_
     rintro e w4 ⟨rfl, hb4⟩
     replace hL := (hL.alloc _).call hb4
     clear hb4 c0 c1 c2 x0
     have a0 := ch hL.a 0
     simp at a0
     go_wp2_with (first | (at_builtin; refine wpList_append_own _ rfl _ _ 81 rfl w.heap.size 2 i0 (.int .i64 0) 1 8 Tryz.underlying81 hi hz0 hz1 hz2 rfl (by decide) _ _ _ rfl ((hL.alloc _).n) ⟨w4.heap.size, 0, none⟩ 1 1 [.int .i64 x] rfl rfl ?c1n ?c2n ?c3n ?c4n ?c5n ?_) | fail)
     case c1n =>
      intro q u hq
      match q, hq with
      | 0, hq => simp at hq; subst hq; simp [Addr.add]
     case c2n => intro u hu; simp at hu; subst hu; rfl
     case c3n => unfold maxLen; omega
     case c4n => omega
     case c5n => have := hL.b.size; simp; omega
     intro v' w5 hown hgrow _
     obtain ⟨h13, hL5⟩ := hL.push_n x hgrow hown
     obtain ⟨g, cp', rfl⟩ := row_shape hown
     have d0 := ch (h13.trans hL.a) 0
     have e0 := Lib.frozen_of_heap (h13.trans hL.a) 0
     simp at d0
     clear hL hown hgrow h13 a0
     have hL := hL5
     clear hL5
     cases he : (ec != 0) with
     | true =>
      obtain ⟨rfl, rfl, rfl, rfl⟩ := hE.out he
      go_wp2_with (fail)
      refine (cfault_any _ _).mono ?_
      rintro e w9 ⟨rfl, hb9⟩
      replace hL := hL.call hb9
      obtain ⟨z0, z1, z2⟩ := val_cells hL.z
      obtain ⟨f0, f1, f2⟩ := val_frozen hL.z
      go_wp2_with (fail)
      exact bodyPost_ret (v := .tuple #[.agg #[.int .i64 4, .int .i64 ec, .string ⟨#[]⟩], .int .i64 0]) (by simp [results, Tryz.results18, go_sem, z0, z1, z2]) rfl ⟨rfl, set3 hL.b (by simp)⟩
     | false =>
      go_wp2_with (fail)
      go_roundw
      case rel => exact ⟨m + 1, by omega, by go_num, ⟨_, _, by rw [HIn.out]; exact hL⟩, Lib.hid (HNext.out (by simpa using he))⟩
      case measure => simp [intOf]; omega
    ·obtain ⟨i0, hi, hz0, hz1, hz2⟩ := info_parts infoStr
     have hix := ix_at s m 116 hms (by rw [hc]; rfl)
     have hcode : Cal.codeAt s v m = (Val.asText (v m)).2 := by unfold Cal.codeAt Cal.look1; rw [hc]; rfl
     have hin : Cal.inAt s v (m + 1) = ⟨(Cal.inAt s v m).ns, (Cal.inAt s v m).ts ++ [(Val.asText (v m)).1], (Cal.inAt s v m).b, (Cal.inAt s v m).v⟩ := by
      show (Cal.look1 (s.data.toList.getD m 0) (v m) (Cal.inAt s v m)).2 = _
      unfold Cal.look1; rw [hc]; rfl
     rw [hcode] at hE HNext
     clear hc hcode
     have HC := Lib.hid (fun (w' : World) (hb : Below w.heap.size w w') => astext_any (v m) w' hvb (hN.below hb))
     generalize (Val.asText (v m)).1 = x at *
     generalize (Val.asText (v m)).2 = ec at *
     generalize v m = vm at *
     obtain ⟨kk, kn, kt⟩ := vm
     have hln := Cal.inAt_len s v m
     have HIn := Lib.hid hin
     clear hin
     generalize Cal.inAt s v m = I at *
     go_wp2_with (fail)
     refine (HC.out _ (hL.alloc _).b).mono ?_
     rintro e w4 ⟨rfl, hb4⟩
     replace hL := (hL.alloc _).call hb4
     clear hb4 c0 c1 c2 x0
     have a1 := ch hL.a 1
     simp at a1
     go_wp2_with (first | (at_builtin; refine wpList_append_own _ rfl _ _ 82 rfl w.heap.size 9 i0 (.string ⟨#[]⟩) 1 16 Tryz.underlying82 hi hz0 hz1 hz2 rfl (by decide) _ _ _ rfl ((hL.alloc _).t) ⟨w4.heap.size, 0, none⟩ 1 1 [.string x] rfl rfl ?c1t ?c2t ?c3t ?c4t ?c5t ?_) | fail)
     case c1t =>
      intro q u hq
      match q, hq with
      | 0, hq => simp at hq; subst hq; simp [Addr.add]
     case c2t => intro u hu; simp at hu; subst hu; rfl
     case c3t => unfold maxLen; omega
     case c4t => omega
     case c5t => have := hL.b.size; simp; omega
     intro v' w5 hown hgrow _
     obtain ⟨h13, hL5⟩ := hL.push_t x hgrow hown
     obtain ⟨g, cp', rfl⟩ := row_shape hown
     have d1 := ch (h13.trans hL.a) 1
     have e1 := Lib.frozen_of_heap (h13.trans hL.a) 1
     simp at d1
     clear hL hown hgrow h13 a1
     have hL := hL5
     clear hL5
     cases he : (ec != 0) with
     | true =>
      obtain ⟨rfl, rfl, rfl, rfl⟩ := hE.out he
      go_wp2_with (fail)
      refine (cfault_any _ _).mono ?_
      rintro e w9 ⟨rfl, hb9⟩
      replace hL := hL.call hb9
      obtain ⟨z0, z1, z2⟩ := val_cells hL.z
      obtain ⟨f0, f1, f2⟩ := val_frozen hL.z
      go_wp2_with (fail)
      exact bodyPost_ret (v := .tuple #[.agg #[.int .i64 4, .int .i64 ec, .string ⟨#[]⟩], .int .i64 0]) (by simp [results, Tryz.results18, go_sem, z0, z1, z2]) rfl ⟨rfl, set3 hL.b (by simp)⟩
     | false =>
      go_wp2_with (fail)
      go_roundw
      case rel => exact ⟨m + 1, by omega, by go_num, ⟨_, _, by rw [HIn.out]; exact hL⟩, Lib.hid (HNext.out (by simpa using he))⟩
      case measure => simp [intOf]; omega
    ·have hix := ix_at s m 98 hms (by rw [hc]; rfl)
     have hcode : Cal.codeAt s v m = (Val.truth (v m)).2 := by unfold Cal.codeAt Cal.look1; rw [hc]; rfl
     have hin : Cal.inAt s v (m + 1) = ⟨(Cal.inAt s v m).ns, (Cal.inAt s v m).ts, (Val.truth (v m)).1, (Cal.inAt s v m).v⟩ := by
      show (Cal.look1 (s.data.toList.getD m 0) (v m) (Cal.inAt s v m)).2 = _
      unfold Cal.look1; rw [hc]; rfl
     rw [hcode] at hE HNext
     clear hc hcode
     have HC := Lib.hid (fun (w' : World) => truth_any (v m) w')
     generalize (Val.truth (v m)).1 = x at *
     generalize (Val.truth (v m)).2 = ec at *
     generalize v m = vm at *
     obtain ⟨kk, kn, kt⟩ := vm
     have HIn := Lib.hid hin
     clear hin
     generalize Cal.inAt s v m = I at *
     go_wp2_with (fail)
     refine (HC.out _).mono ?_
     rintro e w4 ⟨rfl, hb4⟩
     replace hL := (hL.alloc _).call hb4
     clear hb4 c0 c1 c2 x0
     have d2 := ch hL.a 2
     have e2 := Lib.frozen_of_heap hL.a 2
     simp at d2
     replace hL := hL.boo x
     cases he : (ec != 0) with
     | true =>
      obtain ⟨rfl, rfl, rfl, rfl⟩ := hE.out he
      go_wp2_with (fail)
      refine (cfault_any _ _).mono ?_
      rintro e w9 ⟨rfl, hb9⟩
      replace hL := hL.call hb9
      obtain ⟨z0, z1, z2⟩ := val_cells hL.z
      obtain ⟨f0, f1, f2⟩ := val_frozen hL.z
      go_wp2_with (fail)
      exact bodyPost_ret (v := .tuple #[.agg #[.int .i64 4, .int .i64 ec, .string ⟨#[]⟩], .int .i64 0]) (by simp [results, Tryz.results18, go_sem, z0, z1, z2]) rfl ⟨rfl, set3 hL.b (by simp)⟩
     | false =>
      go_wp2_with (fail)
      go_roundw
      case rel => exact ⟨m + 1, by omega, by go_num, ⟨_, _, by rw [HIn.out]; exact hL⟩, Lib.hid (HNext.out (by simpa using he))⟩
      case measure => simp [intOf]; omega
    ·have hix := ix_at s m 118 hms (by rw [hc]; rfl)
     have hcode : Cal.codeAt s v m = 0 := by unfold Cal.codeAt Cal.look1; rw [hc]; rfl
     have hin : Cal.inAt s v (m + 1) = ⟨(Cal.inAt s v m).ns, (Cal.inAt s v m).ts, (Cal.inAt s v m).b, v m⟩ := by
      show (Cal.look1 (s.data.toList.getD m 0) (v m) (Cal.inAt s v m)).2 = _
      unfold Cal.look1; rw [hc]; rfl
     rw [hcode] at hE HNext
     clear hc hcode
     generalize v m = vm at *
     obtain ⟨kk, kn, kt⟩ := vm
     have HIn := Lib.hid hin
     clear hin
     generalize Cal.inAt s v m = I at *
     replace hL := hL.alloc (.cells #[.int .i64 kk, .int .i64 kn, .string kt] 26 (0, 0))
     have d3 := ch hL.a 3
     have d4 := ch hL.a 4
     have d5 := ch hL.a 5
     have e3 := Lib.frozen_of_heap hL.a 3
     have e4 := Lib.frozen_of_heap hL.a 4
     have e5 := Lib.frozen_of_heap hL.a 5
     simp at d3 d4 d5
     replace hL := hL.val ⟨kk, kn, kt⟩
     go_wp2_with (fail)
     go_roundw
     case rel => exact ⟨m + 1, by omega, by go_num, ⟨_, _, by rw [HIn.out]; exact hL⟩, Lib.hid (HNext.out rfl)⟩
     case measure => simp [intOf]; omega
   ·obtain rfl : m = j := by omega
    clear HE hlt
    obtain ⟨rfl, HWork⟩ := HW.out HMay.out HErr.out HCode.out
    have HO := HWork wr nsv tsv _ hL.r hL.b hL.n hL.t
    clear HWork HW
    have x1 := ch hL.x 1
    have a0 := ch hL.a 0
    have a1 := ch hL.a 1
    have a2 := ch hL.a 2
    have a3 := ch hL.a 3
    have a4 := ch hL.a 4
    have a5 := ch hL.a 5
    simp at x1 a0 a1 a2 a3 a4 a5
    generalize Cal.inAt s v m = I at *
    rcases HO with ⟨id', e, hcf, H⟩ | ⟨id', p, e, hcf, H⟩
    all_goals
     simp only [Value.func.injEq, Fn.func.injEq] at e
     obtain ⟨rfl, _, rfl⟩ := e
     have HF := Lib.hid H
     clear H
     go_wp2_with (fail)
     refine HF.out.mono ?_
     rintro e w5 ⟨rfl, hb5⟩
     have hz := (hb5.block _ (Array.getElem?_eq_some_iff.1 hL.z).1).trans hL.z
     have hb := hL.b.trans (hb5.mono hL.b.size)
     obtain ⟨z0, z1, z2⟩ := val_cells hz
     obtain ⟨f0, f1, f2⟩ := val_frozen hz
     clear hz x1 a0 a1 a2 a3 a4 a5 hb5
     go_wp2_with (fail)
     exact bodyPost_ret (v := .tuple #[.agg #[.int .i64 rk, .int .i64 rn, .string rt], .int .i64 0]) (by simp [results, Tryz.results18, go_sem, z0, z1, z2]) rfl ⟨rfl, set3 hb (by simp)⟩
end Go.Proofs.YtpiiemneelkpkaaGreatDoor
