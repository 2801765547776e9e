import Derived.Test.YtpiiemneelkpkaaGreatDoorGcp
set_option maxRecDepth 100000
namespace Go.Proofs.YtpiiemneelkpkaaGreatDoor
open Go.RowKit
set_option linter.unusedVariables false
theorem lnum_any (n : Int) (w : World) : Ret 12 #[.int .i64 n] w (.agg #[.int .i64 1, .int .i64 n, .string ⟨#[]⟩]) := by
 go_enter Tryz.func12, Tryz.ntmps12
 go_wp2
 exact bodyPost_ret (v := .agg #[.int .i64 1, .int .i64 n, .string ⟨#[]⟩]) (by simp [results, Tryz.results12, go_sem]) rfl ⟨rfl, (Below.refl _ _).alloc (Nat.le_refl _) _⟩
theorem lbad_any (n : Int) (w : World) : Ret 14 #[.int .i64 n] w (.agg #[.int .i64 4, .int .i64 n, .string ⟨#[]⟩]) := by
 go_enter Tryz.func14, Tryz.ntmps14
 go_wp2
 exact bodyPost_ret (v := .agg #[.int .i64 4, .int .i64 n, .string ⟨#[]⟩]) (by simp [results, Tryz.results14, go_sem]) rfl ⟨rfl, (Below.refl _ _).alloc (Nat.le_refl _) _⟩
theorem ltext_any (s : ByteArray) (w : World) : Ret 20 #[.string s] w (.agg #[.int .i64 3, .int .i64 0, .string s]) := by
 go_enter Tryz.func20, Tryz.ntmps20
 go_wp2
 exact bodyPost_ret (v := .agg #[.int .i64 3, .int .i64 0, .string s]) (by simp [results, Tryz.results20, go_sem]) rfl ⟨rfl, (Below.refl _ _).alloc (Nat.le_refl _) _⟩
def Cal.arg (l : List Val.V) : Nat → Val.V := fun k => l.getD k Cal.zero
def Cal.argC (l : List Val.V) : List Value := l.flatMap fun v => [.int .i64 v.k, .int .i64 v.n, .string v.t]
theorem argC_get : ∀ (l : List Val.V) (k : Nat), k < l.length → (Cal.argC l)[k * 3]? = some (.int .i64 (Cal.arg l k).k) ∧ (Cal.argC l)[k * 3 + 1]? = some (.int .i64 (Cal.arg l k).n) ∧ (Cal.argC l)[k * 3 + 2]? = some (.string (Cal.arg l k).t)
 | [], k, h => by simp at h
 | v :: l, 0, _ => ⟨rfl, rfl, rfl⟩
 | v :: l, k + 1, h => by
  have ih := argC_get l k (by simpa using h)
  have e : ∀ j, (Cal.argC (v :: l))[j + 3]? = (Cal.argC l)[j]? := fun j => rfl
  have a : Cal.arg (v :: l) (k + 1) = Cal.arg l k := rfl
  rw [show (k + 1) * 3 = k * 3 + 3 by omega, a]
  refine ⟨(e _).trans ih.1, ?_, ?_⟩
  ·rw [show k * 3 + 3 + 1 = k * 3 + 1 + 3 by omega]; exact (e _).trans ih.2.1
  ·rw [show k * 3 + 3 + 2 = k * 3 + 2 + 3 by omega]; exact (e _).trans ih.2.2
theorem arg_cells (w : World) (l : List Val.V) (T : TypeId) : HCellP (w.alloc (.cells (Cal.argC l).toArray T (0, 0))) (some ⟨w.heap.size, 0, none⟩) l.length (Cal.arg l) := by
 intro k hk
 obtain ⟨h0, h1, h2⟩ := argC_get l k hk
 have hx := heap_alloc_new w (.cells (Cal.argC l).toArray T (0, 0))
 refine ⟨w.heap.size, 0, rfl, by simp, ?_, ?_, ?_⟩ <;> (rw [Nat.zero_add])
 ·rw [Lib.cell_of_heap hx]; simpa using h0
 ·rw [Lib.cell_of_heap hx]; simpa using h1
 ·rw [Lib.cell_of_heap hx]; simpa using h2
theorem call_lit (f : Int) (l : List Val.V) (r : Val.V × Int) (hr : Cal.callM f l.length (Cal.arg l) = r) (hvb : ∀ k, k < l.length → VB (Cal.arg l k)) (w0 w : World) (hb : Below w0.heap.size w0 w) (hN : NumW w0) (hT : TxtW w0) :
  Calls Tryz.prog 18 #[.int .i64 f, .slice (some ⟨w.heap.size, 0, none⟩) l.length l.length] (w.alloc (.cells (Cal.argC l).toArray 26 (0, 0))) fun e w' => e = .returned (.tuple #[vv r.1, .int .i64 r.2]) ∧ Below w.heap.size w w' := by
 rw [← hr]
 have hb2 := hb.alloc hb.size (.cells (Cal.argC l).toArray 26 (0, 0))
 refine (call_any f l.length (Cal.arg l) _ _ _ (arg_cells w l _) hvb (hN.below hb2) (hT.below rfl hb2)).mono fun e w' ⟨he, h⟩ => ⟨he, ?_⟩
 exact ((Below.refl _ _).alloc (Nat.le_refl _) _).trans (h.mono (by simp))
set_option maxHeartbeats 4000000 in
theorem begun14 (w : World) (hN : NumW w) (hT : TxtW w) :
  Ret 8 #[] w (.bool true) := by
 have HNUM := Lib.hid lnum_any
 have HTXT := Lib.hid ltext_any
 have HBAD := Lib.hid lbad_any
 have HUN : Hid (∀ v, NumW v → Ret 22 #[.int .i64 3, .agg #[.int .i64 1, .int .i64 250, .string ⟨#[]⟩]] v (.agg #[.int .i64 1, .int .i64 2, .string ⟨#[]⟩])) := Lib.hid (fun v hv => by
  have := un_any 3 ⟨1, 250, ⟨#[]⟩⟩ v ⟨by decide, by decide, by decide⟩ hv
  rw [show Cal.un 3 ⟨1, 250, ⟨#[]⟩⟩ = ⟨1, 2, ⟨#[]⟩⟩ by kernel_rfl] at this
  exact this)
 have HB1 : Hid (∀ v, NumW v → Ret 13 #[.int .i64 1, .agg #[.int .i64 1, .int .i64 (-2), .string ⟨#[]⟩], .agg #[.int .i64 1, .int .i64 63, .string ⟨#[]⟩]] v (.agg #[.int .i64 1, .int .i64 (-9223372036854775808), .string ⟨#[]⟩])) := Lib.hid (fun v hv => by
  have := bin_any 1 ⟨1, (-2), ⟨#[]⟩⟩ ⟨1, 63, ⟨#[]⟩⟩ v ⟨by decide, by decide, by decide⟩ ⟨by decide, by decide, by decide⟩ hv
  rw [show Cal.bin 1 ⟨1, (-2), ⟨#[]⟩⟩ ⟨1, 63, ⟨#[]⟩⟩ = ⟨1, (-9223372036854775808), ⟨#[]⟩⟩ by kernel_rfl] at this
  exact this)
 have HB2 : Hid (∀ v, NumW v → Ret 13 #[.int .i64 4, .agg #[.int .i64 4, .int .i64 6, .string ⟨#[]⟩], .agg #[.int .i64 4, .int .i64 3, .string ⟨#[]⟩]] v (.agg #[.int .i64 4, .int .i64 6, .string ⟨#[]⟩])) := Lib.hid (fun v hv => by
  have := bin_any 4 ⟨4, 6, ⟨#[]⟩⟩ ⟨4, 3, ⟨#[]⟩⟩ v ⟨by decide, by decide, by decide⟩ ⟨by decide, by decide, by decide⟩ hv
  rw [show Cal.bin 4 ⟨4, 6, ⟨#[]⟩⟩ ⟨4, 3, ⟨#[]⟩⟩ = ⟨4, 6, ⟨#[]⟩⟩ by kernel_rfl] at this
  exact this)
 have C0 : Hid (∀ v, Below w.heap.size w v → Calls Tryz.prog 18 #[.int .i64 3, .slice (some ⟨v.heap.size, 0, none⟩) 2 2] (v.alloc (Obj.cells #[.int .i64 1, .int .i64 (-7), .string ⟨#[]⟩, .int .i64 1, .int .i64 2, .string ⟨#[]⟩] 26)) fun e w' => e = .returned (.tuple #[.agg #[.int .i64 1, .int .i64 1, .string ⟨#[]⟩], .int .i64 0]) ∧ Below v.heap.size v w') :=
  Lib.hid (fun v hb => call_lit 3 [⟨1, (-7), ⟨#[]⟩⟩, ⟨1, 2, ⟨#[]⟩⟩] (⟨1, 1, ⟨#[]⟩⟩, 0) (by kernel_rfl) (by intro k hk; match k, hk with | 0, _ => exact ⟨by decide, by decide, by decide⟩ | 1, _ => exact ⟨by decide, by decide, by decide⟩ | k + 2, h => exact absurd h (by simp)) w v hb hN hT)
 have C1 : Hid (∀ v, Below w.heap.size w v → Calls Tryz.prog 18 #[.int .i64 26, .slice (some ⟨v.heap.size, 0, none⟩) 4 4] (v.alloc (Obj.cells #[.int .i64 3, .int .i64 0, .string ⟨#[97, 98, 99, 100]⟩, .int .i64 1, .int .i64 2, .string ⟨#[]⟩, .int .i64 1, .int .i64 2, .string ⟨#[]⟩, .int .i64 3, .int .i64 0, .string ⟨#[88]⟩] 26)) fun e w' => e = .returned (.tuple #[.agg #[.int .i64 3, .int .i64 0, .string ⟨#[97, 88, 100]⟩], .int .i64 0]) ∧ Below v.heap.size v w') :=
  Lib.hid (fun v hb => call_lit 26 [⟨3, 0, ⟨#[97, 98, 99, 100]⟩⟩, ⟨1, 2, ⟨#[]⟩⟩, ⟨1, 2, ⟨#[]⟩⟩, ⟨3, 0, ⟨#[88]⟩⟩] (⟨3, 0, ⟨#[97, 88, 100]⟩⟩, 0) (by kernel_rfl) (by intro k hk; match k, hk with | 0, _ => exact ⟨by decide, by decide, by decide⟩ | 1, _ => exact ⟨by decide, by decide, by decide⟩ | 2, _ => exact ⟨by decide, by decide, by decide⟩ | 3, _ => exact ⟨by decide, by decide, by decide⟩ | k + 4, h => exact absurd h (by simp)) w v hb hN hT)
 have C2 : Hid (∀ v, Below w.heap.size w v → Calls Tryz.prog 18 #[.int .i64 3, .slice (some ⟨v.heap.size, 0, none⟩) 2 2] (v.alloc (Obj.cells #[.int .i64 3, .int .i64 0, .string ⟨#[120]⟩, .int .i64 4, .int .i64 3, .string ⟨#[]⟩] 26)) fun e w' => e = .returned (.tuple #[.agg #[.int .i64 4, .int .i64 3, .string ⟨#[]⟩], .int .i64 0]) ∧ Below v.heap.size v w') :=
  Lib.hid (fun v hb => call_lit 3 [⟨3, 0, ⟨#[120]⟩⟩, ⟨4, 3, ⟨#[]⟩⟩] (⟨4, 3, ⟨#[]⟩⟩, 0) (by kernel_rfl) (by intro k hk; match k, hk with | 0, _ => exact ⟨by decide, by decide, by decide⟩ | 1, _ => exact ⟨by decide, by decide, by decide⟩ | k + 2, h => exact absurd h (by simp)) w v hb hN hT)
 have C3 : Hid (∀ v, Below w.heap.size w v → Calls Tryz.prog 18 #[.int .i64 54, .slice (some ⟨v.heap.size, 0, none⟩) 1 1] (v.alloc (Obj.cells #[.int .i64 1, .int .i64 1, .string ⟨#[]⟩] 26)) fun e w' => e = .returned (.tuple #[.agg #[.int .i64 0, .int .i64 0, .string ⟨#[]⟩], .int .i64 1]) ∧ Below v.heap.size v w') :=
  Lib.hid (fun v hb => call_lit 54 [⟨1, 1, ⟨#[]⟩⟩] (⟨0, 0, ⟨#[]⟩⟩, 1) (by kernel_rfl) (by intro k hk; match k, hk with | 0, _ => exact ⟨by decide, by decide, by decide⟩ | k + 1, h => exact absurd h (by simp)) w v hb hN hT)
 have C4 : Hid (∀ v, Below w.heap.size w v → Calls Tryz.prog 18 #[.int .i64 1, .slice (some ⟨v.heap.size, 0, none⟩) 1 1] (v.alloc (Obj.cells #[.int .i64 9, .int .i64 0, .string ⟨#[]⟩] 26)) fun e w' => e = .returned (.tuple #[.agg #[.int .i64 0, .int .i64 0, .string ⟨#[]⟩], .int .i64 24]) ∧ Below v.heap.size v w') :=
  Lib.hid (fun v hb => call_lit 1 [⟨9, 0, ⟨#[]⟩⟩] (⟨0, 0, ⟨#[]⟩⟩, 24) (by kernel_rfl) (by intro k hk; match k, hk with | 0, _ => exact ⟨by decide, by decide, by decide⟩ | k + 1, h => exact absurd h (by simp)) w v hb hN hT)
 have hb : Below w.heap.size w w := Below.refl _ _
 go_enter Tryz.func8, Tryz.ntmps8
 go_wp2_with (fail)
 refine (HNUM.out _ _).mono ?_
 rintro e w1 ⟨rfl, hb1⟩
 replace hb := hb.trans (hb1.mono hb.size)
 clear hb1
 go_wp2_with (fail)
 refine (HNUM.out _ _).mono ?_
 rintro e w2 ⟨rfl, hb2⟩
 replace hb := hb.trans (hb2.mono hb.size)
 clear hb2
 go_wp2_with (fail)
 refine (C0.out _ hb).mono ?_
 rintro e w3 ⟨rfl, hb3⟩
 replace hb := hb.trans (hb3.mono hb.size)
 clear hb3
 go_upto_region 2 with (fail)
 have k0 : (w3.alloc (Obj.cells #[.int .i64 1, .int .i64 1, .string ⟨#[]⟩] 26)).heap[w3.heap.size]? = some (.cells #[.int .i64 1, .int .i64 1, .string ⟨#[]⟩] 26 (0, 0)) := heap_alloc_new _ _
 replace hb := hb.alloc hb.size (Obj.cells #[.int .i64 1, .int .i64 1, .string ⟨#[]⟩] 26)
 generalize (w3.alloc (Obj.cells #[.int .i64 1, .int .i64 1, .string ⟨#[]⟩] 26)) = W0 at *
 generalize w3.heap.size = B0 at *
 go_wp2_with (fail)
 refine (HTXT.out _ _).mono ?_
 rintro e w4 ⟨rfl, hb4⟩
 replace k0 := blk hb4 k0
 replace hb := hb.trans (hb4.mono hb.size)
 clear hb4
 go_wp2_with (fail)
 refine (HNUM.out _ _).mono ?_
 rintro e w5 ⟨rfl, hb5⟩
 replace k0 := blk hb5 k0
 replace hb := hb.trans (hb5.mono hb.size)
 clear hb5
 go_wp2_with (fail)
 refine (HNUM.out _ _).mono ?_
 rintro e w6 ⟨rfl, hb6⟩
 replace k0 := blk hb6 k0
 replace hb := hb.trans (hb6.mono hb.size)
 clear hb6
 go_wp2_with (fail)
 refine (HTXT.out _ _).mono ?_
 rintro e w7 ⟨rfl, hb7⟩
 replace k0 := blk hb7 k0
 replace hb := hb.trans (hb7.mono hb.size)
 clear hb7
 go_wp2_with (fail)
 refine (C1.out _ hb).mono ?_
 rintro e w8 ⟨rfl, hb8⟩
 replace k0 := blk hb8 k0
 replace hb := hb.trans (hb8.mono hb.size)
 clear hb8
 go_upto_region 3 with (fail)
 have k1 : (w8.alloc (Obj.cells #[.int .i64 3, .int .i64 0, .string ⟨#[97, 88, 100]⟩] 26)).heap[w8.heap.size]? = some (.cells #[.int .i64 3, .int .i64 0, .string ⟨#[97, 88, 100]⟩] 26 (0, 0)) := heap_alloc_new _ _
 replace k0 := (heap_alloc_old _ (Obj.cells #[.int .i64 3, .int .i64 0, .string ⟨#[97, 88, 100]⟩] 26) (Array.getElem?_eq_some_iff.1 k0).1).trans k0
 replace hb := hb.alloc hb.size (Obj.cells #[.int .i64 3, .int .i64 0, .string ⟨#[97, 88, 100]⟩] 26)
 generalize (w8.alloc (Obj.cells #[.int .i64 3, .int .i64 0, .string ⟨#[97, 88, 100]⟩] 26)) = W1 at *
 generalize w8.heap.size = B1 at *
 go_wp2_with (fail)
 refine (HTXT.out _ _).mono ?_
 rintro e w9 ⟨rfl, hb9⟩
 replace k0 := blk hb9 k0
 replace k1 := blk hb9 k1
 replace hb := hb.trans (hb9.mono hb.size)
 clear hb9
 go_wp2_with (fail)
 refine (HBAD.out _ _).mono ?_
 rintro e w10 ⟨rfl, hb10⟩
 replace k0 := blk hb10 k0
 replace k1 := blk hb10 k1
 replace hb := hb.trans (hb10.mono hb.size)
 clear hb10
 go_wp2_with (fail)
 refine (C2.out _ hb).mono ?_
 rintro e w11 ⟨rfl, hb11⟩
 replace k0 := blk hb11 k0
 replace k1 := blk hb11 k1
 replace hb := hb.trans (hb11.mono hb.size)
 clear hb11
 go_upto_region 4 with (fail)
 have k2 : (w11.alloc (Obj.cells #[.int .i64 4, .int .i64 3, .string ⟨#[]⟩] 26)).heap[w11.heap.size]? = some (.cells #[.int .i64 4, .int .i64 3, .string ⟨#[]⟩] 26 (0, 0)) := heap_alloc_new _ _
 replace k0 := (heap_alloc_old _ (Obj.cells #[.int .i64 4, .int .i64 3, .string ⟨#[]⟩] 26) (Array.getElem?_eq_some_iff.1 k0).1).trans k0
 replace k1 := (heap_alloc_old _ (Obj.cells #[.int .i64 4, .int .i64 3, .string ⟨#[]⟩] 26) (Array.getElem?_eq_some_iff.1 k1).1).trans k1
 replace hb := hb.alloc hb.size (Obj.cells #[.int .i64 4, .int .i64 3, .string ⟨#[]⟩] 26)
 generalize (w11.alloc (Obj.cells #[.int .i64 4, .int .i64 3, .string ⟨#[]⟩] 26)) = W2 at *
 generalize w11.heap.size = B2 at *
 go_wp2_with (fail)
 refine (HNUM.out _ _).mono ?_
 rintro e w12 ⟨rfl, hb12⟩
 replace k0 := blk hb12 k0
 replace k1 := blk hb12 k1
 replace k2 := blk hb12 k2
 replace hb := hb.trans (hb12.mono hb.size)
 clear hb12
 go_wp2_with (fail)
 refine (C3.out _ hb).mono ?_
 rintro e w13 ⟨rfl, hb13⟩
 replace k0 := blk hb13 k0
 replace k1 := blk hb13 k1
 replace k2 := blk hb13 k2
 replace hb := hb.trans (hb13.mono hb.size)
 clear hb13
 go_upto_region 5 with (fail)
 have k3 : (w13.alloc (Obj.cells #[.int .i64 0, .int .i64 0, .string ⟨#[]⟩] 26)).heap[w13.heap.size]? = some (.cells #[.int .i64 0, .int .i64 0, .string ⟨#[]⟩] 26 (0, 0)) := heap_alloc_new _ _
 replace k0 := (heap_alloc_old _ (Obj.cells #[.int .i64 0, .int .i64 0, .string ⟨#[]⟩] 26) (Array.getElem?_eq_some_iff.1 k0).1).trans k0
 replace k1 := (heap_alloc_old _ (Obj.cells #[.int .i64 0, .int .i64 0, .string ⟨#[]⟩] 26) (Array.getElem?_eq_some_iff.1 k1).1).trans k1
 replace k2 := (heap_alloc_old _ (Obj.cells #[.int .i64 0, .int .i64 0, .string ⟨#[]⟩] 26) (Array.getElem?_eq_some_iff.1 k2).1).trans k2
 replace hb := hb.alloc hb.size (Obj.cells #[.int .i64 0, .int .i64 0, .string ⟨#[]⟩] 26)
 generalize (w13.alloc (Obj.cells #[.int .i64 0, .int .i64 0, .string ⟨#[]⟩] 26)) = W3 at *
 generalize w13.heap.size = B3 at *
 go_wp2_with (fail)
 refine (C4.out _ hb).mono ?_
 rintro e w14 ⟨rfl, hb14⟩
 replace k0 := blk hb14 k0
 replace k1 := blk hb14 k1
 replace k2 := blk hb14 k2
 replace hb := hb.trans (hb14.mono hb.size)
 clear hb14
 go_upto_region 6 with (fail)
 have k4 : (w14.alloc (Obj.cells #[.int .i64 0, .int .i64 0, .string ⟨#[]⟩] 26)).heap[w14.heap.size]? = some (.cells #[.int .i64 0, .int .i64 0, .string ⟨#[]⟩] 26 (0, 0)) := heap_alloc_new _ _
 replace k0 := (heap_alloc_old _ (Obj.cells #[.int .i64 0, .int .i64 0, .string ⟨#[]⟩] 26) (Array.getElem?_eq_some_iff.1 k0).1).trans k0
 replace k1 := (heap_alloc_old _ (Obj.cells #[.int .i64 0, .int .i64 0, .string ⟨#[]⟩] 26) (Array.getElem?_eq_some_iff.1 k1).1).trans k1
 replace k2 := (heap_alloc_old _ (Obj.cells #[.int .i64 0, .int .i64 0, .string ⟨#[]⟩] 26) (Array.getElem?_eq_some_iff.1 k2).1).trans k2
 replace hb := hb.alloc hb.size (Obj.cells #[.int .i64 0, .int .i64 0, .string ⟨#[]⟩] 26)
 generalize (w14.alloc (Obj.cells #[.int .i64 0, .int .i64 0, .string ⟨#[]⟩] 26)) = W4 at *
 generalize w14.heap.size = B4 at *
 obtain ⟨a0, b0, c0⟩ := val_cells k0
 obtain ⟨a1, b1, c1⟩ := val_cells k1
 obtain ⟨a2, b2, c2⟩ := val_cells k2
 have hS : W4.cell? ⟨B0, 0, none⟩ = some (.int .i64 1) ∧ W4.cell? ⟨B0, 1, none⟩ = some (.int .i64 1) ∧ W4.cell? ⟨B0, 2, none⟩ = some (.string ⟨#[]⟩) ∧ W4.cell? ⟨B1, 0, none⟩ = some (.int .i64 3) ∧ W4.cell? ⟨B1, 1, none⟩ = some (.int .i64 0) ∧ W4.cell? ⟨B1, 2, none⟩ = some (.string ⟨#[97, 88, 100]⟩) ∧ W4.cell? ⟨B2, 0, none⟩ = some (.int .i64 4) ∧ W4.cell? ⟨B2, 1, none⟩ = some (.int .i64 3) ∧ W4.cell? ⟨B2, 2, none⟩ = some (.string ⟨#[]⟩) := ⟨a0, b0, c0, a1, b1, c1, a2, b2, c2⟩
 clear a0 b0 c0 a1 b1 c1 a2 b2 c2
 have hB : Below W4.heap.size W4 W4.drew := (Below.refl _ _).drew
 go_region_held3 (fun w' => w'.cell? ⟨B0, 0, none⟩ = some (.int .i64 1) ∧ w'.cell? ⟨B0, 1, none⟩ = some (.int .i64 1) ∧ w'.cell? ⟨B0, 2, none⟩ = some (.string ⟨#[]⟩) ∧ w'.cell? ⟨B1, 0, none⟩ = some (.int .i64 3) ∧ w'.cell? ⟨B1, 1, none⟩ = some (.int .i64 0) ∧ w'.cell? ⟨B1, 2, none⟩ = some (.string ⟨#[97, 88, 100]⟩) ∧ w'.cell? ⟨B2, 0, none⟩ = some (.int .i64 4) ∧ w'.cell? ⟨B2, 1, none⟩ = some (.int .i64 3) ∧ w'.cell? ⟨B2, 2, none⟩ = some (.string ⟨#[]⟩))
  (first | go_keep | exact ⟨(hB.cell (p := ⟨B0, 0, none⟩) (Array.getElem?_eq_some_iff.1 k0).1).trans hS.1, (hB.cell (p := ⟨B0, 1, none⟩) (Array.getElem?_eq_some_iff.1 k0).1).trans hS.2.1, (hB.cell (p := ⟨B0, 2, none⟩) (Array.getElem?_eq_some_iff.1 k0).1).trans hS.2.2.1, (hB.cell (p := ⟨B1, 0, none⟩) (Array.getElem?_eq_some_iff.1 k1).1).trans hS.2.2.2.1, (hB.cell (p := ⟨B1, 1, none⟩) (Array.getElem?_eq_some_iff.1 k1).1).trans hS.2.2.2.2.1, (hB.cell (p := ⟨B1, 2, none⟩) (Array.getElem?_eq_some_iff.1 k1).1).trans hS.2.2.2.2.2.1, (hB.cell (p := ⟨B2, 0, none⟩) (Array.getElem?_eq_some_iff.1 k2).1).trans hS.2.2.2.2.2.2.1, (hB.cell (p := ⟨B2, 1, none⟩) (Array.getElem?_eq_some_iff.1 k2).1).trans hS.2.2.2.2.2.2.2.1, (hB.cell (p := ⟨B2, 2, none⟩) (Array.getElem?_eq_some_iff.1 k2).1).trans hS.2.2.2.2.2.2.2.2⟩)
  (first | (go_at_call 12; with_reducible refine (HNUM.out _ _).mono ?_; rintro e v ⟨rfl, hbn⟩; replace hB := hB.trans (hbn.mono hB.size); clear hbn) | (go_at_call 20; with_reducible refine (HTXT.out _ _).mono ?_; rintro e v ⟨rfl, hbn⟩; replace hB := hB.trans (hbn.mono hB.size); clear hbn) | (go_at_call 14; with_reducible refine (HBAD.out _ _).mono ?_; rintro e v ⟨rfl, hbn⟩; replace hB := hB.trans (hbn.mono hB.size); clear hbn) | (go_at_call 22; with_reducible refine (HUN.out _ (hN.below (hb.trans (hB.mono hb.size)))).mono ?_; rintro e v ⟨rfl, hbn⟩; replace hB := hB.trans (hbn.mono hB.size); clear hbn) | (go_at_call 13; with_reducible refine (HB1.out _ (hN.below (hb.trans (hB.mono hb.size)))).mono ?_; rintro e v ⟨rfl, hbn⟩; replace hB := hB.trans (hbn.mono hB.size); clear hbn) | (go_at_call 13; with_reducible refine (HB2.out _ (hN.below (hb.trans (hB.mono hb.size)))).mono ?_; rintro e v ⟨rfl, hbn⟩; replace hB := hB.trans (hbn.mono hB.size); clear hbn))
 go_wp2
 go_ret
 exact ⟨rfl, hb.trans (hB.mono hb.size)⟩
end Go.Proofs.YtpiiemneelkpkaaGreatDoor
namespace Go.Proofs.YtpiiemneelkpkaaGreatDoor
open Go.RowKit
set_option linter.unusedVariables false
theorem HCellP.below {w w' : World} {a : Option Addr} {n : Nat} {v : Nat → Val.V} (h : HCellP w a n v) {k : Nat} (hk : k = w.heap.size) (hb : Below k w w') : HCellP w' a n v := by
 subst hk
 intro j hj
 obtain ⟨b, o, rfl, hl, c0, c1, c2⟩ := h j hj
 exact ⟨b, o, rfl, Nat.lt_of_lt_of_le hl hb.size, (hb.cell (p := ⟨b, o + j * 3, none⟩) hl).trans c0, (hb.cell (p := ⟨b, o + j * 3 + 1, none⟩) hl).trans c1, (hb.cell (p := ⟨b, o + j * 3 + 2, none⟩) hl).trans c2⟩
end Go.Proofs.YtpiiemneelkpkaaGreatDoor
