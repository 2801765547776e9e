import Derived.Maps.OwnOps
import Derived.Test.YtpiiemneelkpkaaGreatDoorProg
import Derived.Laws.EntriesVeiled
import Derived.WalkKit
import Derived.OwnWalkIn
import Derived.Carry
set_option maxRecDepth 100000
namespace Go.Proofs.YtpiiemneelkpkaaGreatDoor
open Go.RowKit Go.MapKept
open Go.ChangeMaps (setBlock)
set_option linter.unusedVariables false
def mkE : List (Int × Value) → Nat → List MapEntry
 | [], _ => []
 | p :: r, i => { key := .int .i64 p.1, val := p.2, born := i } :: mkE r (i + 1)
theorem mkE_length : ∀ (L : List (Int × Value)) (i : Nat), (mkE L i).length = L.length
 | [], _ => rfl
 | p :: r, i => by simp [mkE, mkE_length r]
theorem mkE_snoc (k : Int) (v : Value) : ∀ (L : List (Int × Value)) (i : Nat), mkE (L ++ [(k, v)]) i = mkE L i ++ [{ key := .int .i64 k, val := v, born := i + L.length }]
 | [], i => by simp [mkE]
 | p :: r, i => by simp [mkE, mkE_snoc k v r (i + 1)]; omega
theorem mkE_find : ∀ (L : List (Int × Value)) (i j : Nat) (k : Int), (∀ p ∈ L, p.1 ≠ k) → Instr.findNow (.int .i64) (.int .i64 k) (mkE L i) j = some none
 | [], _, _, _, _ => rfl
 | p :: r, i, j, k, h => by
  have h1 : ¬ k = p.1 := fun e => h p (.head _) e.symm
  have h2 := mkE_find r (i + 1) (j + 1) k (fun q hq => h q (.tail _ hq))
  obtain ⟨b, hb, hiff⟩ := sameNow_of_keys (d := .int .i64) (a := .int .i64 k) (b := .int .i64 p.1) rfl rfl
  cases b with
  | true => exact absurd (by have := hiff.1 rfl; simpa using this) h1
  | false => simp [mkE, Instr.findNow, hb, h2]
theorem mkE_hit : ∀ (L : List (Int × Value)) (i j : Nat) (k : Int) (x : Value), (∃ L1 L2, L = L1 ++ (k, x) :: L2 ∧ ∀ p ∈ L1, p.1 ≠ k) → ∃ n, Instr.findNow (.int .i64) (.int .i64 k) (mkE L i) j = some (some (n, x))
 | L, i, j, k, x, ⟨[], L2, e, h⟩ => by
  subst e
  obtain ⟨b, hb, hiff⟩ := sameNow_of_keys (d := .int .i64) (a := .int .i64 k) (b := .int .i64 k) rfl rfl
  cases b with
  | true => exact ⟨j, by simp [mkE, Instr.findNow, hb]⟩
  | false => exact absurd (hiff.2 rfl) (by simp)
 | L, i, j, k, x, ⟨p :: L1, L2, e, h⟩ => by
  subst e
  have h1 : ¬ k = p.1 := fun e => h p (.head _) e.symm
  obtain ⟨n, hn⟩ := mkE_hit (L1 ++ (k, x) :: L2) (i + 1) (j + 1) k x ⟨L1, L2, rfl, fun q hq => h q (.tail _ hq)⟩
  obtain ⟨b, hb, hiff⟩ := sameNow_of_keys (d := .int .i64) (a := .int .i64 k) (b := .int .i64 p.1) rfl rfl
  cases b with
  | true => exact absurd (by have := hiff.1 rfl; simpa using this) h1
  | false => exact ⟨n, by simp [mkE, Instr.findNow, hb, hn]⟩
theorem split_at : ∀ (L : List (Int × Value)) (k : Int), k ∈ L.map (·.1) → ∃ x L1 L2, L = L1 ++ (k, x) :: L2 ∧ ∀ p ∈ L1, p.1 ≠ k
 | [], _, h => by simp at h
 | p :: r, k, h => by
  by_cases e : p.1 = k
  ·exact ⟨p.2, [], r, by subst e; rfl, by simp⟩
  ·have h2 : k ∈ r.map (·.1) := by
    rcases List.mem_cons.1 h with h | h
    ·exact absurd h.symm e
    ·exact h
   obtain ⟨x, L1, L2, e1, e2⟩ := split_at r k h2
   refine ⟨x, p :: L1, L2, by rw [e1]; rfl, ?_⟩
   intro q hq
   rcases List.mem_cons.1 hq with rfl | hq
   ·exact e
   ·exact e2 q hq
def tab (w : World) (r : Nat) (L : List (Int × Value)) : Prop := w.heap[r]? = some (.map (mkE L 0).toArray L.length)
section
variable {P : Program} {w : World} {r : Nat} {L : List (Int × Value)} {t kt et : TypeId}
theorem tab_update (h : tab w r L) (ht : P.underlying t = some (.map kt et)) (hk : P.underlying kt = some (.int .i64)) (k : Int) (v : Value) (hne : ∀ p ∈ L, p.1 ≠ k) :
  ∃ w', (Instr.mapUpdate t (.map (some r)) (.int .i64 k) v).run P w = .ok () w' ∧ tab w' r (L ++ [(k, v)]) ∧ w.grownBy w' (some r) := by
 have h0 := h
 unfold tab at h
 have hf := mkE_find L 0 0 k hne
 refine ⟨setBlock w r (.map (mkE (L ++ [(k, v)]) 0).toArray (L ++ [(k, v)]).length), ?_, ?_, ⟨rfl, rfl, rfl, by simp [setBlock], fun i _ hi => ?_⟩⟩
 ·simp [Instr.mapUpdate, run_underlying ht, MapKept.run_getObj_map h, run_checkKey hk (k := .int .i64 k) rfl, run_findKey hk hf, run_setObj_map _ h, Result.andThen, mkE_snoc, setBlock]
 ·exact (heap_set h).1
 ·exact (heap_set h).2 i (fun e => hi (by rw [e]))
theorem tab_entry (h : tab w r L) (ht : P.underlying t = some (.map kt et)) (hk : P.underlying kt = some (.int .i64)) (k : Int) (z : Value) (hz : (zeroValue et).run P w = .ok z w) (hne : ∀ p ∈ L, p.1 ≠ k) :
  ∃ w', (Instr.mapEntry t (.map (some r)) (.int .i64 k)).run P w = .ok (.tuple #[z, .int .i64 (L.length : Int)]) w' ∧ tab w' r (L ++ [(k, z)]) ∧ w.grownBy w' (some r) := by
 have h0 := h
 unfold tab at h
 have hf := mkE_find L 0 0 k hne
 refine ⟨setBlock w r (.map (mkE (L ++ [(k, z)]) 0).toArray (L ++ [(k, z)]).length), ?_, ?_, ⟨rfl, rfl, rfl, by simp [setBlock], fun i _ hi => ?_⟩⟩
 ·simp [Instr.mapEntry, run_underlying ht, MapKept.run_getObj_map h, run_checkKey hk (k := .int .i64 k) rfl, run_findKey hk hf, hz, run_setObj_map _ h, Result.andThen, mkE_snoc, setBlock, goInt]
 ·exact (heap_set h).1
 ·exact (heap_set h).2 i (fun e => hi (by rw [e]))
theorem mkE_born : ∀ (L : List (Int × Value)) (i : Nat), ∀ x ∈ mkE L i, x.born < i + L.length
 | [], _, x, h => by simp [mkE] at h
 | p :: r, i, x, h => by
  rcases List.mem_cons.1 h with rfl | h
  ·simp
  ·have := mkE_born r (i + 1) x h
   simp; omega
theorem modify_last {α : Type} : ∀ (l : List α) (a : α) (f : α → α), (l ++ [a]).modify l.length f = l ++ [f a]
 | [], a, f => rfl
 | x :: l, a, f => by simp [List.modify_succ_cons, modify_last l a f]
theorem tab_entryStore (k : Int) (z v : Value) (h : tab w r (L ++ [(k, z)])) :
  ∃ w', (Instr.entryStore t (.map (some r)) (.int .i64 (L.length : Int)) v).run P w = .ok () w' ∧ tab w' r (L ++ [(k, v)]) ∧ w.grownBy w' (some r) := by
 have h0 := h
 unfold tab at h
 have hlen := mkE_length L 0
 have hfi : (mkE (L ++ [(k, z)]) 0).findIdx? (fun e => (e.born : Int) == (L.length : Int)) = some L.length := by
  rw [mkE_snoc, List.findIdx?_append]
  have hn : (mkE L 0).findIdx? (fun e => (e.born : Int) == (L.length : Int)) = none := by
   rw [List.findIdx?_eq_none_iff]
   intro x hx
   have := mkE_born L 0 x hx
   simp; omega
  rw [hn]
  simp [List.findIdx?_cons, hlen]
 have hmod : ((mkE (L ++ [(k, z)]) 0).toArray.modify L.length fun e => { e with val := v }) = (mkE (L ++ [(k, v)]) 0).toArray := by
  apply Array.ext'
  rw [Array.toList_modify]
  simp only [mkE_snoc]
  have := modify_last (mkE L 0) { key := .int .i64 k, val := z, born := 0 + L.length } (fun e : MapEntry => { e with val := v })
  rw [hlen] at this
  exact this
 refine ⟨setBlock w r (.map (mkE (L ++ [(k, v)]) 0).toArray (L ++ [(k, v)]).length), ?_, ?_, ⟨rfl, rfl, rfl, by simp [setBlock], fun i _ hi => ?_⟩⟩
 ·have hfa : (mkE (L ++ [(k, z)]) 0).toArray.findIdx? (fun e => (e.born : Int) == (L.length : Int)) = some L.length := by rw [List.findIdx?_toArray]; exact hfi
  have ha : (asInt (.int .i64 (L.length : Int))).run P w = .ok (L.length : Int) w := by simp [asInt, asIntOf]
  simp only [Instr.entryStore, Sem.run_bind, MapKept.run_getObj_map h, Result.andThen, ha, hfa, hmod, run_setObj_map _ h, setBlock]
  simp
 ·exact (heap_set h).1
 ·exact (heap_set h).2 i (fun e => hi (by rw [e]))
theorem tab_lookup (h : tab w r L) (ht : P.underlying t = some (.map kt et)) (hk : P.underlying kt = some (.int .i64)) (k : Int) (hin : k ∈ L.map (·.1)) :
  ∃ x, (k, x) ∈ L ∧ (Instr.lookup t (.map (some r)) (.int .i64 k) false).run P w = .ok x w := by
 obtain ⟨x, L1, L2, e1, e2⟩ := split_at L k hin
 obtain ⟨n, hn⟩ := mkE_hit L 0 0 k x ⟨L1, L2, e1, e2⟩
 refine ⟨x, by rw [e1]; simp, ?_⟩
 unfold tab at h
 simp [Instr.lookup, run_underlying ht, MapKept.run_getObj_map h, run_checkKey hk (k := .int .i64 k) rfl, run_findKey hk hn, Result.andThen]
end
end Go.Proofs.YtpiiemneelkpkaaGreatDoor
namespace Go.Proofs.YtpiiemneelkpkaaGreatDoor
open Go.RowKit Go.MapKept
set_option linter.unusedVariables false
theorem _root_.Go.World.grownBy.next {a b c : World} {row : Option Nat} (h : a.grownBy b row) (k : b.grownBy c row) : a.grownBy c row :=
 ⟨k.os.trans h.os, k.tape.trans h.tape, k.output.trans h.output, Nat.le_trans h.size k.size, fun i hi hne => (k.block i (Nat.lt_of_lt_of_le hi h.size) hne).trans (h.block i hi hne)⟩
theorem _root_.Go.World.grownBy.any {a c : World} (h : a.grownBy c none) (row : Option Nat) : a.grownBy c row := ⟨h.os, h.tape, h.output, h.size, fun i hi _ => h.block i hi (by simp)⟩
theorem _root_.Go.World.grownBy.fresh {a b c : World} {row : Option Nat} (h : a.grownBy b row) (k : b.grownBy c (some a.heap.size)) : a.grownBy c row :=
 ⟨k.os.trans h.os, k.tape.trans h.tape, k.output.trans h.output, Nat.le_trans h.size k.size, fun i hi hne => (k.block i (Nat.lt_of_lt_of_le hi h.size) (fun e => by cases e; omega)).trans (h.block i hi hne)⟩
def plainTab : List (Int × ByteArray × Nat) := [(1, ⟨#[110]⟩, 104), (2, ⟨#[110]⟩, 105), (8, ⟨#[110]⟩, 110), (9, ⟨#[110]⟩, 111), (10, ⟨#[110]⟩, 112), (14, ⟨#[98]⟩, 117), (15, ⟨#[110, 110, 110]⟩, 118), (31, ⟨#[110]⟩, 119), (33, ⟨#[118]⟩, 120), (35, ⟨#[]⟩, 121), (16, ⟨#[116]⟩, 122), (17, ⟨#[116, 110]⟩, 124), (18, ⟨#[116, 110]⟩, 127), (19, ⟨#[116, 110, 110]⟩, 129), (24, ⟨#[116, 116, 110]⟩, 136), (25, ⟨#[116, 116, 116]⟩, 138), (26, ⟨#[116, 110, 110, 116]⟩, 140), (27, ⟨#[116, 110]⟩, 141), (28, ⟨#[116, 116]⟩, 143), (29, ⟨#[116]⟩, 144), (30, ⟨#[110]⟩, 146), (32, ⟨#[116]⟩, 148), (34, ⟨#[118]⟩, 149)]
def boxTab : List (Int × ByteArray × Nat × Nat × Nat) := [(3, ⟨#[110, 110]⟩, 172, 107, 68), (4, ⟨#[110, 110]⟩, 172, 40, 68), (5, ⟨#[110, 110]⟩, 172, 37, 68), (6, ⟨#[110, 110]⟩, 172, 108, 68), (7, ⟨#[110, 110]⟩, 172, 109, 68), (11, ⟨#[110, 110]⟩, 175, 114, 123), (12, ⟨#[110, 110]⟩, 175, 115, 123), (13, ⟨#[110, 110]⟩, 175, 116, 123), (20, ⟨#[116]⟩, 177, 132, 129), (21, ⟨#[116]⟩, 177, 133, 129), (22, ⟨#[116]⟩, 177, 134, 129), (23, ⟨#[116]⟩, 177, 135, 129)]
def isRow (w : World) (k : Int) (x : Value) : Prop :=
 (∃ (s : ByteArray) (f : Nat), (k, s, f) ∈ plainTab ∧ x = .agg #[.string s, .func (.func f) #[] #[]]) ∨
 (∃ (s : ByteArray) (f g T b : Nat), (k, s, f, g, T) ∈ boxTab ∧ w.heap[b]? = some (.cells #[.func (.func g) #[] #[]] T (0, 0)) ∧ x = .agg #[.string s, .func (.func f) #[] #[.pointer (some ⟨b, 0, none⟩)]])
theorem isRow.p {w : World} (k : Int) (s : ByteArray) (f : Nat) (h : (k, s, f) ∈ plainTab) : isRow w k (.agg #[.string s, .func (.func f) #[] #[]]) := .inl ⟨s, f, h, rfl⟩
theorem isRow.b {w : World} (k : Int) (s : ByteArray) (f g T b : Nat) (h : (k, s, f, g, T) ∈ boxTab) (hb : w.heap[b]? = some (.cells #[.func (.func g) #[] #[]] T (0, 0))) : isRow w k (.agg #[.string s, .func (.func f) #[] #[.pointer (some ⟨b, 0, none⟩)]]) := .inr ⟨s, f, g, T, b, h, hb, rfl⟩
theorem isRow.kept {w w' : World} {row : Option Nat} {k : Int} {x : Value} (h : isRow w k x) (hg : w.grownBy w' row) (hr : ∀ r, row = some r → ∃ es c, w.heap[r]? = some (.map es c)) : isRow w' k x := by
 rcases h with ⟨s, f, h, rfl⟩ | ⟨s, f, g, T, b, h, hb, rfl⟩
 ·exact .p k s f h
 ·refine .b k s f g T b h ((hg.block b (Array.getElem?_eq_some_iff.1 hb).1 ?_).trans hb)
  intro e
  obtain ⟨es, c, hm⟩ := hr b e.symm
  rw [hb] at hm
  cases hm
def Tab (w : World) (r : Nat) (ks : List Int) : Prop := ∃ L, tab w r L ∧ L.map (·.1) = ks ∧ ∀ p ∈ L, isRow w p.1 p.2
def TabE (w : World) (r : Nat) (ks : List Int) (k : Int) : Prop := ∃ L z, tab w r (L ++ [(k, z)]) ∧ L.map (·.1) = ks ∧ ∀ p ∈ L, isRow w p.1 p.2
theorem Tab.kept {w w' : World} {r : Nat} {ks : List Int} (h : Tab w r ks) (hg : w.grownBy w' none) : Tab w' r ks := by
 obtain ⟨L, h1, h2, h3⟩ := h
 refine ⟨L, ?_, h2, fun p hp => (h3 p hp).kept hg (by simp)⟩
 unfold tab at *
 exact (hg.block r (Array.getElem?_eq_some_iff.1 h1).1 (by simp)).trans h1
theorem ne_of_map {L : List (Int × Value)} {ks : List Int} {k : Int} (h : L.map (·.1) = ks) (hk : k ∉ ks) : ∀ p ∈ L, p.1 ≠ k := by
 intro p hp e
 exact hk (by rw [← h, ← e]; exact List.mem_map_of_mem hp)
section
variable {P : Program} {ops : Array Oper} {rest : List Oper} {o : Oper} {a : Act} {Q : Exit → Act → World → Prop} {t kt et : TypeId}
theorem Tab.update (w : World) (t kt et : TypeId) (ht : P.underlying t = some (.map kt et)) (hk : P.underlying kt = some (.int .i64)) (r : Nat) (ks : List Int) (k : Int) (v : Value) (hT : Tab w r ks) (hne : k ∉ ks) (hv : isRow w k v) :
  ∃ w', (Instr.mapUpdate t (.map (some r)) (.int .i64 k) v).run P w = .ok () w' ∧ Tab w' r (ks ++ [k]) ∧ w.grownBy w' (some r) := by
 obtain ⟨L, h1, h2, h3⟩ := hT
 obtain ⟨w', hrun, r1, r2⟩ := tab_update h1 ht hk k v (ne_of_map h2 hne)
 have hr : ∀ r', some r = some r' → ∃ es c, w.heap[r']? = some (.map es c) := fun r' e => by cases e; exact ⟨_, _, h1⟩
 refine ⟨w', hrun, ⟨_, r1, by simp [h2], fun p hp => ?_⟩, r2⟩
 rcases List.mem_append.1 hp with hp | hp
 ·exact (h3 p hp).kept r2 hr
 ·obtain rfl := List.mem_singleton.1 hp
  exact hv.kept r2 hr
theorem Tab.entry (w : World) (t kt et : TypeId) (ht : P.underlying t = some (.map kt et)) (hk : P.underlying kt = some (.int .i64)) (r : Nat) (ks : List Int) (n : Int) (hn : (ks.length : Int) = n) (k : Int) (z : Value) (hT : Tab w r ks) (hne : k ∉ ks) (hz : (zeroValue et).run P w = .ok z w) :
  ∃ w', (Instr.mapEntry t (.map (some r)) (.int .i64 k)).run P w = .ok (.tuple #[z, .int .i64 n]) w' ∧ TabE w' r ks k ∧ w.grownBy w' (some r) := by
 obtain ⟨L, h1, h2, h3⟩ := hT
 obtain ⟨w', hrun, r1, r2⟩ := tab_entry h1 ht hk k z hz (ne_of_map h2 hne)
 have hl : n = (L.length : Int) := by rw [← hn, ← h2]; simp
 have hr : ∀ r', some r = some r' → ∃ es c, w.heap[r']? = some (.map es c) := fun r' e => by cases e; exact ⟨_, _, h1⟩
 rw [hl]
 exact ⟨w', hrun, ⟨_, _, r1, h2, fun p hp => (h3 p hp).kept r2 hr⟩, r2⟩
theorem TabE.store (w : World) (t : TypeId) (r : Nat) (ks : List Int) (n : Int) (hn : (ks.length : Int) = n) (k : Int) (v : Value) (hT : TabE w r ks k) (hv : isRow w k v) :
  ∃ w', (Instr.entryStore t (.map (some r)) (.int .i64 n) v).run P w = .ok () w' ∧ Tab w' r (ks ++ [k]) ∧ w.grownBy w' (some r) := by
 obtain ⟨L, z, h1, h2, h3⟩ := hT
 have hl : n = (L.length : Int) := by rw [← hn, ← h2]; simp
 obtain ⟨w', hrun, r1, r2⟩ := tab_entryStore (P := P) (t := t) k z v h1
 rw [← hl] at hrun
 have hr : ∀ r', some r = some r' → ∃ es c, w.heap[r']? = some (.map es c) := fun r' e => by cases e; exact ⟨_, _, h1⟩
 refine ⟨w', hrun, ⟨_, r1, by simp [h2], fun p hp => ?_⟩, r2⟩
 rcases List.mem_append.1 hp with hp | hp
 ·exact (h3 p hp).kept r2 hr
 ·obtain rfl := List.mem_singleton.1 hp
  exact hv.kept r2 hr
end
theorem two_any (g : Nat) (w : World) : Calls Tryz.prog 106 #[.func (.func g) #[] #[]] w fun e w' => e = .returned (.agg #[.string ⟨#[110, 110]⟩, .func (.func 172) #[] #[.pointer (some ⟨w.heap.size, 0, none⟩)]]) ∧ w'.heap[w.heap.size]? = some (.cells #[.func (.func g) #[] #[]] 68 (0, 0)) ∧ w.grownBy w' none := by
 go_enter Tryz.func106, Tryz.ntmps106
 go_wp2
 exact bodyPost_ret (v := .agg #[.string ⟨#[110, 110]⟩, .func (.func 172) #[] #[.pointer (some ⟨w.heap.size, 0, none⟩)]]) (by simp [results, Tryz.results106, go_sem]) rfl ⟨rfl, ((World.grownBy_alloc _ _ none).block _ (by simp) (by simp)).trans (heap_alloc_new _ _), (World.grownBy_alloc _ _ none).next (World.grownBy_alloc _ _ none)⟩
theorem positive_any (g : Nat) (w : World) : Calls Tryz.prog 113 #[.func (.func g) #[] #[]] w fun e w' => e = .returned (.agg #[.string ⟨#[110, 110]⟩, .func (.func 175) #[] #[.pointer (some ⟨w.heap.size, 0, none⟩)]]) ∧ w'.heap[w.heap.size]? = some (.cells #[.func (.func g) #[] #[]] 123 (0, 0)) ∧ w.grownBy w' none := by
 go_enter Tryz.func113, Tryz.ntmps113
 go_wp2
 exact bodyPost_ret (v := .agg #[.string ⟨#[110, 110]⟩, .func (.func 175) #[] #[.pointer (some ⟨w.heap.size, 0, none⟩)]]) (by simp [results, Tryz.results113, go_sem]) rfl ⟨rfl, ((World.grownBy_alloc _ _ none).block _ (by simp) (by simp)).trans (heap_alloc_new _ _), (World.grownBy_alloc _ _ none).next (World.grownBy_alloc _ _ none)⟩
theorem plain_any (g : Nat) (w : World) : Calls Tryz.prog 131 #[.func (.func g) #[] #[]] w fun e w' => e = .returned (.agg #[.string ⟨#[116]⟩, .func (.func 177) #[] #[.pointer (some ⟨w.heap.size, 0, none⟩)]]) ∧ w'.heap[w.heap.size]? = some (.cells #[.func (.func g) #[] #[]] 129 (0, 0)) ∧ w.grownBy w' none := by
 go_enter Tryz.func131, Tryz.ntmps131
 go_wp2
 exact bodyPost_ret (v := .agg #[.string ⟨#[116]⟩, .func (.func 177) #[] #[.pointer (some ⟨w.heap.size, 0, none⟩)]]) (by simp [results, Tryz.results131, go_sem]) rfl ⟨rfl, ((World.grownBy_alloc _ _ none).block _ (by simp) (by simp)).trans (heap_alloc_new _ _), (World.grownBy_alloc _ _ none).next (World.grownBy_alloc _ _ none)⟩
theorem numbers_any (r : Nat) (w0 : World) (hT0 : Tab w0 r []) : Calls Tryz.prog 78 #[.map (some r)] w0 fun e w' => e = .returned (.tuple #[]) ∧ Tab w' r [1, 2, 3, 4, 5, 6, 7, 8, 9, 10, 11, 12, 13, 14, 15, 31, 33, 35] ∧ w0.grownBy w' (some r) := by
 have hM : Tryz.prog.underlying 79 = some (.map 3 78) := Tryz.underlying79
 have hI : Tryz.prog.underlying 3 = some (.int .i64) := Tryz.underlying3
 have hz : ∀ w, (zeroValue 78).run Tryz.prog w = .ok (.agg #[.string ⟨#[]⟩, .nilFunc]) w := fun w => by kernel_rfl
 have G0 := World.grownBy.refl w0 (some r)
 go_enter Tryz.func78, Tryz.ntmps78
 go_wp2_with (fail)
 obtain ⟨w1, hr, hT1, hg⟩ := Tab.update (P := Tryz.prog) w0 _ _ _ hM hI r [] 1 (.agg #[.string ⟨#[110]⟩, .func (.func 104) #[] #[]]) hT0 (by decide) (.p _ _ _ (by simp [plainTab]))
 have G1 := G0.next hg
 simp only [List.nil_append] at hT1
 clear hg G0 hT0
 rw [hr]
 clear hr
 go_wp2_with (fail)
 obtain ⟨w2, hr, hT2, hg⟩ := Tab.update (P := Tryz.prog) w1 _ _ _ hM hI r [1] 2 (.agg #[.string ⟨#[110]⟩, .func (.func 105) #[] #[]]) hT1 (by decide) (.p _ _ _ (by simp [plainTab]))
 have G2 := G1.next hg
 simp only [List.cons_append, List.nil_append] at hT2
 clear hg G1 hT1
 rw [hr]
 clear hr
 go_wp2_with (fail)
 refine (two_any 107 _).mono ?_
 rintro e w3 ⟨rfl, hb0, hg⟩
 have G3 := G2.next (hg.any _)
 have hT3 := hT2.kept hg
 clear hg G2 hT2
 generalize w2.heap.size = b0 at *
 go_wp2_with (fail)
 refine (two_any 40 _).mono ?_
 rintro e w4 ⟨rfl, hb1, hg⟩
 have G4 := G3.next (hg.any _)
 have hT4 := hT3.kept hg
 replace hb0 := (hg.block _ (Array.getElem?_eq_some_iff.1 hb0).1 (by simp)).trans hb0
 clear hg G3 hT3
 generalize w3.heap.size = b1 at *
 go_wp2_with (fail)
 refine (two_any 37 _).mono ?_
 rintro e w5 ⟨rfl, hb2, hg⟩
 have G5 := G4.next (hg.any _)
 have hT5 := hT4.kept hg
 replace hb0 := (hg.block _ (Array.getElem?_eq_some_iff.1 hb0).1 (by simp)).trans hb0
 replace hb1 := (hg.block _ (Array.getElem?_eq_some_iff.1 hb1).1 (by simp)).trans hb1
 clear hg G4 hT4
 generalize w4.heap.size = b2 at *
 go_wp2_with (fail)
 have hR0 : isRow w5 3 (.agg #[.string ⟨#[110, 110]⟩, .func (.func 172) #[] #[.pointer (some ⟨b0, 0, none⟩)]]) := (.b _ _ _ _ _ _ (by simp [boxTab]) hb0)
 clear hb0
 have hR1 : isRow w5 4 (.agg #[.string ⟨#[110, 110]⟩, .func (.func 172) #[] #[.pointer (some ⟨b1, 0, none⟩)]]) := (.b _ _ _ _ _ _ (by simp [boxTab]) hb1)
 clear hb1
 have hR2 : isRow w5 5 (.agg #[.string ⟨#[110, 110]⟩, .func (.func 172) #[] #[.pointer (some ⟨b2, 0, none⟩)]]) := (.b _ _ _ _ _ _ (by simp [boxTab]) hb2)
 clear hb2
 obtain ⟨w6, hr, hE, hg⟩ := Tab.entry (P := Tryz.prog) w5 _ _ _ hM hI r [1, 2] 2 (by decide) 3 _ hT5 (by decide) (hz _)
 have G6 := G5.next hg
 replace hR0 := hR0.kept hg (fun _ e => by cases e; obtain ⟨_, h, _⟩ := hT5; exact ⟨_, _, h⟩)
 replace hR1 := hR1.kept hg (fun _ e => by cases e; obtain ⟨_, h, _⟩ := hT5; exact ⟨_, _, h⟩)
 replace hR2 := hR2.kept hg (fun _ e => by cases e; obtain ⟨_, h, _⟩ := hT5; exact ⟨_, _, h⟩)
 clear hg G5 hT5
 rw [hr]
 clear hr
 go_wp2_with (fail)
 obtain ⟨w7, hr, hT7, hg⟩ := TabE.store (P := Tryz.prog) w6 79 r [1, 2] 2 (by decide) 3 (.agg #[.string ⟨#[110, 110]⟩, .func (.func 172) #[] #[.pointer (some ⟨b0, 0, none⟩)]]) hE hR0
 have G7 := G6.next hg
 simp only [List.cons_append, List.nil_append] at hT7
 replace hR1 := hR1.kept hg (fun _ e => by cases e; obtain ⟨_, _, h, _⟩ := hE; exact ⟨_, _, h⟩)
 replace hR2 := hR2.kept hg (fun _ e => by cases e; obtain ⟨_, _, h, _⟩ := hE; exact ⟨_, _, h⟩)
 clear hg G6 hE hR0
 rw [hr]
 clear hr
 go_wp2_with (fail)
 obtain ⟨w8, hr, hT8, hg⟩ := Tab.update (P := Tryz.prog) w7 _ _ _ hM hI r [1, 2, 3] 4 (.agg #[.string ⟨#[110, 110]⟩, .func (.func 172) #[] #[.pointer (some ⟨b1, 0, none⟩)]]) hT7 (by decide) hR1
 have G8 := G7.next hg
 simp only [List.cons_append, List.nil_append] at hT8
 replace hR2 := hR2.kept hg (fun _ e => by cases e; obtain ⟨_, h, _⟩ := hT7; exact ⟨_, _, h⟩)
 clear hg G7 hT7 hR1
 rw [hr]
 clear hr
 go_wp2_with (fail)
 obtain ⟨w9, hr, hT9, hg⟩ := Tab.update (P := Tryz.prog) w8 _ _ _ hM hI r [1, 2, 3, 4] 5 (.agg #[.string ⟨#[110, 110]⟩, .func (.func 172) #[] #[.pointer (some ⟨b2, 0, none⟩)]]) hT8 (by decide) hR2
 have G9 := G8.next hg
 simp only [List.cons_append, List.nil_append] at hT9
 clear hg G8 hT8 hR2
 rw [hr]
 clear hr
 go_wp2_with (fail)
 refine (two_any 108 _).mono ?_
 rintro e w10 ⟨rfl, hb0, hg⟩
 have G10 := G9.next (hg.any _)
 have hT10 := hT9.kept hg
 clear hg G9 hT9
 generalize w9.heap.size = b0 at *
 go_wp2_with (fail)
 refine (two_any 109 _).mono ?_
 rintro e w11 ⟨rfl, hb1, hg⟩
 have G11 := G10.next (hg.any _)
 have hT11 := hT10.kept hg
 replace hb0 := (hg.block _ (Array.getElem?_eq_some_iff.1 hb0).1 (by simp)).trans hb0
 clear hg G10 hT10
 generalize w10.heap.size = b1 at *
 go_wp2_with (fail)
 have hR0 : isRow w11 6 (.agg #[.string ⟨#[110, 110]⟩, .func (.func 172) #[] #[.pointer (some ⟨b0, 0, none⟩)]]) := (.b _ _ _ _ _ _ (by simp [boxTab]) hb0)
 clear hb0
 have hR1 : isRow w11 7 (.agg #[.string ⟨#[110, 110]⟩, .func (.func 172) #[] #[.pointer (some ⟨b1, 0, none⟩)]]) := (.b _ _ _ _ _ _ (by simp [boxTab]) hb1)
 clear hb1
 obtain ⟨w12, hr, hE, hg⟩ := Tab.entry (P := Tryz.prog) w11 _ _ _ hM hI r [1, 2, 3, 4, 5] 5 (by decide) 6 _ hT11 (by decide) (hz _)
 have G12 := G11.next hg
 replace hR0 := hR0.kept hg (fun _ e => by cases e; obtain ⟨_, h, _⟩ := hT11; exact ⟨_, _, h⟩)
 replace hR1 := hR1.kept hg (fun _ e => by cases e; obtain ⟨_, h, _⟩ := hT11; exact ⟨_, _, h⟩)
 clear hg G11 hT11
 rw [hr]
 clear hr
 go_wp2_with (fail)
 obtain ⟨w13, hr, hT13, hg⟩ := TabE.store (P := Tryz.prog) w12 79 r [1, 2, 3, 4, 5] 5 (by decide) 6 (.agg #[.string ⟨#[110, 110]⟩, .func (.func 172) #[] #[.pointer (some ⟨b0, 0, none⟩)]]) hE hR0
 have G13 := G12.next hg
 simp only [List.cons_append, List.nil_append] at hT13
 replace hR1 := hR1.kept hg (fun _ e => by cases e; obtain ⟨_, _, h, _⟩ := hE; exact ⟨_, _, h⟩)
 clear hg G12 hE hR0
 rw [hr]
 clear hr
 go_wp2_with (fail)
 obtain ⟨w14, hr, hT14, hg⟩ := Tab.update (P := Tryz.prog) w13 _ _ _ hM hI r [1, 2, 3, 4, 5, 6] 7 (.agg #[.string ⟨#[110, 110]⟩, .func (.func 172) #[] #[.pointer (some ⟨b1, 0, none⟩)]]) hT13 (by decide) hR1
 have G14 := G13.next hg
 simp only [List.cons_append, List.nil_append] at hT14
 clear hg G13 hT13 hR1
 rw [hr]
 clear hr
 go_wp2_with (fail)
 obtain ⟨w15, hr, hT15, hg⟩ := Tab.update (P := Tryz.prog) w14 _ _ _ hM hI r [1, 2, 3, 4, 5, 6, 7] 8 (.agg #[.string ⟨#[110]⟩, .func (.func 110) #[] #[]]) hT14 (by decide) (.p _ _ _ (by simp [plainTab]))
 have G15 := G14.next hg
 simp only [List.cons_append, List.nil_append] at hT15
 clear hg G14 hT14
 rw [hr]
 clear hr
 go_wp2_with (fail)
 obtain ⟨w16, hr, hT16, hg⟩ := Tab.update (P := Tryz.prog) w15 _ _ _ hM hI r [1, 2, 3, 4, 5, 6, 7, 8] 9 (.agg #[.string ⟨#[110]⟩, .func (.func 111) #[] #[]]) hT15 (by decide) (.p _ _ _ (by simp [plainTab]))
 have G16 := G15.next hg
 simp only [List.cons_append, List.nil_append] at hT16
 clear hg G15 hT15
 rw [hr]
 clear hr
 go_wp2_with (fail)
 obtain ⟨w17, hr, hT17, hg⟩ := Tab.update (P := Tryz.prog) w16 _ _ _ hM hI r [1, 2, 3, 4, 5, 6, 7, 8, 9] 10 (.agg #[.string ⟨#[110]⟩, .func (.func 112) #[] #[]]) hT16 (by decide) (.p _ _ _ (by simp [plainTab]))
 have G17 := G16.next hg
 simp only [List.cons_append, List.nil_append] at hT17
 clear hg G16 hT16
 rw [hr]
 clear hr
 go_wp2_with (fail)
 refine (positive_any 114 _).mono ?_
 rintro e w18 ⟨rfl, hb0, hg⟩
 have G18 := G17.next (hg.any _)
 have hT18 := hT17.kept hg
 clear hg G17 hT17
 generalize w17.heap.size = b0 at *
 go_wp2_with (fail)
 have hR0 : isRow w18 11 (.agg #[.string ⟨#[110, 110]⟩, .func (.func 175) #[] #[.pointer (some ⟨b0, 0, none⟩)]]) := (.b _ _ _ _ _ _ (by simp [boxTab]) hb0)
 clear hb0
 obtain ⟨w19, hr, hT19, hg⟩ := Tab.update (P := Tryz.prog) w18 _ _ _ hM hI r [1, 2, 3, 4, 5, 6, 7, 8, 9, 10] 11 (.agg #[.string ⟨#[110, 110]⟩, .func (.func 175) #[] #[.pointer (some ⟨b0, 0, none⟩)]]) hT18 (by decide) hR0
 have G19 := G18.next hg
 simp only [List.cons_append, List.nil_append] at hT19
 clear hg G18 hT18
 clear hR0
 rw [hr]
 clear hr
 go_wp2_with (fail)
 refine (positive_any 115 _).mono ?_
 rintro e w20 ⟨rfl, hb0, hg⟩
 have G20 := G19.next (hg.any _)
 have hT20 := hT19.kept hg
 clear hg G19 hT19
 generalize w19.heap.size = b0 at *
 go_wp2_with (fail)
 have hR0 : isRow w20 12 (.agg #[.string ⟨#[110, 110]⟩, .func (.func 175) #[] #[.pointer (some ⟨b0, 0, none⟩)]]) := (.b _ _ _ _ _ _ (by simp [boxTab]) hb0)
 clear hb0
 obtain ⟨w21, hr, hT21, hg⟩ := Tab.update (P := Tryz.prog) w20 _ _ _ hM hI r [1, 2, 3, 4, 5, 6, 7, 8, 9, 10, 11] 12 (.agg #[.string ⟨#[110, 110]⟩, .func (.func 175) #[] #[.pointer (some ⟨b0, 0, none⟩)]]) hT20 (by decide) hR0
 have G21 := G20.next hg
 simp only [List.cons_append, List.nil_append] at hT21
 clear hg G20 hT20
 clear hR0
 rw [hr]
 clear hr
 go_wp2_with (fail)
 refine (positive_any 116 _).mono ?_
 rintro e w22 ⟨rfl, hb0, hg⟩
 have G22 := G21.next (hg.any _)
 have hT22 := hT21.kept hg
 clear hg G21 hT21
 generalize w21.heap.size = b0 at *
 go_wp2_with (fail)
 have hR0 : isRow w22 13 (.agg #[.string ⟨#[110, 110]⟩, .func (.func 175) #[] #[.pointer (some ⟨b0, 0, none⟩)]]) := (.b _ _ _ _ _ _ (by simp [boxTab]) hb0)
 clear hb0
 obtain ⟨w23, hr, hT23, hg⟩ := Tab.update (P := Tryz.prog) w22 _ _ _ hM hI r [1, 2, 3, 4, 5, 6, 7, 8, 9, 10, 11, 12] 13 (.agg #[.string ⟨#[110, 110]⟩, .func (.func 175) #[] #[.pointer (some ⟨b0, 0, none⟩)]]) hT22 (by decide) hR0
 have G23 := G22.next hg
 simp only [List.cons_append, List.nil_append] at hT23
 clear hg G22 hT22
 clear hR0
 rw [hr]
 clear hr
 go_wp2_with (fail)
 obtain ⟨w24, hr, hT24, hg⟩ := Tab.update (P := Tryz.prog) w23 _ _ _ hM hI r [1, 2, 3, 4, 5, 6, 7, 8, 9, 10, 11, 12, 13] 14 (.agg #[.string ⟨#[98]⟩, .func (.func 117) #[] #[]]) hT23 (by decide) (.p _ _ _ (by simp [plainTab]))
 have G24 := G23.next hg
 simp only [List.cons_append, List.nil_append] at hT24
 clear hg G23 hT23
 rw [hr]
 clear hr
 go_wp2_with (fail)
 obtain ⟨w25, hr, hT25, hg⟩ := Tab.update (P := Tryz.prog) w24 _ _ _ hM hI r [1, 2, 3, 4, 5, 6, 7, 8, 9, 10, 11, 12, 13, 14] 15 (.agg #[.string ⟨#[110, 110, 110]⟩, .func (.func 118) #[] #[]]) hT24 (by decide) (.p _ _ _ (by simp [plainTab]))
 have G25 := G24.next hg
 simp only [List.cons_append, List.nil_append] at hT25
 clear hg G24 hT24
 rw [hr]
 clear hr
 go_wp2_with (fail)
 obtain ⟨w26, hr, hT26, hg⟩ := Tab.update (P := Tryz.prog) w25 _ _ _ hM hI r [1, 2, 3, 4, 5, 6, 7, 8, 9, 10, 11, 12, 13, 14, 15] 31 (.agg #[.string ⟨#[110]⟩, .func (.func 119) #[] #[]]) hT25 (by decide) (.p _ _ _ (by simp [plainTab]))
 have G26 := G25.next hg
 simp only [List.cons_append, List.nil_append] at hT26
 clear hg G25 hT25
 rw [hr]
 clear hr
 go_wp2_with (fail)
 obtain ⟨w27, hr, hT27, hg⟩ := Tab.update (P := Tryz.prog) w26 _ _ _ hM hI r [1, 2, 3, 4, 5, 6, 7, 8, 9, 10, 11, 12, 13, 14, 15, 31] 33 (.agg #[.string ⟨#[118]⟩, .func (.func 120) #[] #[]]) hT26 (by decide) (.p _ _ _ (by simp [plainTab]))
 have G27 := G26.next hg
 simp only [List.cons_append, List.nil_append] at hT27
 clear hg G26 hT26
 rw [hr]
 clear hr
 go_wp2_with (fail)
 obtain ⟨w28, hr, hT28, hg⟩ := Tab.update (P := Tryz.prog) w27 _ _ _ hM hI r [1, 2, 3, 4, 5, 6, 7, 8, 9, 10, 11, 12, 13, 14, 15, 31, 33] 35 (.agg #[.string ⟨#[]⟩, .func (.func 121) #[] #[]]) hT27 (by decide) (.p _ _ _ (by simp [plainTab]))
 have G28 := G27.next hg
 simp only [List.cons_append, List.nil_append] at hT28
 clear hg G27 hT27
 rw [hr]
 clear hr
 go_wp2_with (fail)
 refine bodyPost_end (results_none rfl _ _ _) rfl ?_
 exact ⟨rfl, hT28, G28⟩
theorem texts_any (r : Nat) (w0 : World) (hT0 : Tab w0 r [1, 2, 3, 4, 5, 6, 7, 8, 9, 10, 11, 12, 13, 14, 15, 31, 33, 35]) : Calls Tryz.prog 79 #[.map (some r)] w0 fun e w' => e = .returned (.tuple #[]) ∧ Tab w' r [1, 2, 3, 4, 5, 6, 7, 8, 9, 10, 11, 12, 13, 14, 15, 31, 33, 35, 16, 17, 18, 19, 20, 21, 22, 23, 24, 25, 26, 27, 28, 29, 30, 32, 34] ∧ w0.grownBy w' (some r) := by
 have hM : Tryz.prog.underlying 79 = some (.map 3 78) := Tryz.underlying79
 have hI : Tryz.prog.underlying 3 = some (.int .i64) := Tryz.underlying3
 have hz : ∀ w, (zeroValue 78).run Tryz.prog w = .ok (.agg #[.string ⟨#[]⟩, .nilFunc]) w := fun w => by kernel_rfl
 have G0 := World.grownBy.refl w0 (some r)
 go_enter Tryz.func79, Tryz.ntmps79
 go_wp2_with (fail)
 obtain ⟨w1, hr, hT1, hg⟩ := Tab.update (P := Tryz.prog) w0 _ _ _ hM hI r [1, 2, 3, 4, 5, 6, 7, 8, 9, 10, 11, 12, 13, 14, 15, 31, 33, 35] 16 (.agg #[.string ⟨#[116]⟩, .func (.func 122) #[] #[]]) hT0 (by decide) (.p _ _ _ (by simp [plainTab]))
 have G1 := G0.next hg
 simp only [List.cons_append, List.nil_append] at hT1
 clear hg G0 hT0
 rw [hr]
 clear hr
 go_wp2_with (fail)
 obtain ⟨w2, hr, hT2, hg⟩ := Tab.update (P := Tryz.prog) w1 _ _ _ hM hI r [1, 2, 3, 4, 5, 6, 7, 8, 9, 10, 11, 12, 13, 14, 15, 31, 33, 35, 16] 17 (.agg #[.string ⟨#[116, 110]⟩, .func (.func 124) #[] #[]]) hT1 (by decide) (.p _ _ _ (by simp [plainTab]))
 have G2 := G1.next hg
 simp only [List.cons_append, List.nil_append] at hT2
 clear hg G1 hT1
 rw [hr]
 clear hr
 go_wp2_with (fail)
 obtain ⟨w3, hr, hT3, hg⟩ := Tab.update (P := Tryz.prog) w2 _ _ _ hM hI r [1, 2, 3, 4, 5, 6, 7, 8, 9, 10, 11, 12, 13, 14, 15, 31, 33, 35, 16, 17] 18 (.agg #[.string ⟨#[116, 110]⟩, .func (.func 127) #[] #[]]) hT2 (by decide) (.p _ _ _ (by simp [plainTab]))
 have G3 := G2.next hg
 simp only [List.cons_append, List.nil_append] at hT3
 clear hg G2 hT2
 rw [hr]
 clear hr
 go_wp2_with (fail)
 obtain ⟨w4, hr, hT4, hg⟩ := Tab.update (P := Tryz.prog) w3 _ _ _ hM hI r [1, 2, 3, 4, 5, 6, 7, 8, 9, 10, 11, 12, 13, 14, 15, 31, 33, 35, 16, 17, 18] 19 (.agg #[.string ⟨#[116, 110, 110]⟩, .func (.func 129) #[] #[]]) hT3 (by decide) (.p _ _ _ (by simp [plainTab]))
 have G4 := G3.next hg
 simp only [List.cons_append, List.nil_append] at hT4
 clear hg G3 hT3
 rw [hr]
 clear hr
 go_wp2_with (fail)
 refine (plain_any 132 _).mono ?_
 rintro e w5 ⟨rfl, hb0, hg⟩
 have G5 := G4.next (hg.any _)
 have hT5 := hT4.kept hg
 clear hg G4 hT4
 generalize w4.heap.size = b0 at *
 go_wp2_with (fail)
 refine (plain_any 133 _).mono ?_
 rintro e w6 ⟨rfl, hb1, hg⟩
 have G6 := G5.next (hg.any _)
 have hT6 := hT5.kept hg
 replace hb0 := (hg.block _ (Array.getElem?_eq_some_iff.1 hb0).1 (by simp)).trans hb0
 clear hg G5 hT5
 generalize w5.heap.size = b1 at *
 go_wp2_with (fail)
 have hR0 : isRow w6 20 (.agg #[.string ⟨#[116]⟩, .func (.func 177) #[] #[.pointer (some ⟨b0, 0, none⟩)]]) := (.b _ _ _ _ _ _ (by simp [boxTab]) hb0)
 clear hb0
 have hR1 : isRow w6 21 (.agg #[.string ⟨#[116]⟩, .func (.func 177) #[] #[.pointer (some ⟨b1, 0, none⟩)]]) := (.b _ _ _ _ _ _ (by simp [boxTab]) hb1)
 clear hb1
 obtain ⟨w7, hr, hE, hg⟩ := Tab.entry (P := Tryz.prog) w6 _ _ _ hM hI r [1, 2, 3, 4, 5, 6, 7, 8, 9, 10, 11, 12, 13, 14, 15, 31, 33, 35, 16, 17, 18, 19] 22 (by decide) 20 _ hT6 (by decide) (hz _)
 have G7 := G6.next hg
 replace hR0 := hR0.kept hg (fun _ e => by cases e; obtain ⟨_, h, _⟩ := hT6; exact ⟨_, _, h⟩)
 replace hR1 := hR1.kept hg (fun _ e => by cases e; obtain ⟨_, h, _⟩ := hT6; exact ⟨_, _, h⟩)
 clear hg G6 hT6
 rw [hr]
 clear hr
 go_wp2_with (fail)
 obtain ⟨w8, hr, hT8, hg⟩ := TabE.store (P := Tryz.prog) w7 79 r [1, 2, 3, 4, 5, 6, 7, 8, 9, 10, 11, 12, 13, 14, 15, 31, 33, 35, 16, 17, 18, 19] 22 (by decide) 20 (.agg #[.string ⟨#[116]⟩, .func (.func 177) #[] #[.pointer (some ⟨b0, 0, none⟩)]]) hE hR0
 have G8 := G7.next hg
 simp only [List.cons_append, List.nil_append] at hT8
 replace hR1 := hR1.kept hg (fun _ e => by cases e; obtain ⟨_, _, h, _⟩ := hE; exact ⟨_, _, h⟩)
 clear hg G7 hE hR0
 rw [hr]
 clear hr
 go_wp2_with (fail)
 obtain ⟨w9, hr, hT9, hg⟩ := Tab.update (P := Tryz.prog) w8 _ _ _ hM hI r [1, 2, 3, 4, 5, 6, 7, 8, 9, 10, 11, 12, 13, 14, 15, 31, 33, 35, 16, 17, 18, 19, 20] 21 (.agg #[.string ⟨#[116]⟩, .func (.func 177) #[] #[.pointer (some ⟨b1, 0, none⟩)]]) hT8 (by decide) hR1
 have G9 := G8.next hg
 simp only [List.cons_append, List.nil_append] at hT9
 clear hg G8 hT8 hR1
 rw [hr]
 clear hr
 go_wp2_with (fail)
 refine (plain_any 134 _).mono ?_
 rintro e w10 ⟨rfl, hb0, hg⟩
 have G10 := G9.next (hg.any _)
 have hT10 := hT9.kept hg
 clear hg G9 hT9
 generalize w9.heap.size = b0 at *
 go_wp2_with (fail)
 refine (plain_any 135 _).mono ?_
 rintro e w11 ⟨rfl, hb1, hg⟩
 have G11 := G10.next (hg.any _)
 have hT11 := hT10.kept hg
 replace hb0 := (hg.block _ (Array.getElem?_eq_some_iff.1 hb0).1 (by simp)).trans hb0
 clear hg G10 hT10
 generalize w10.heap.size = b1 at *
 go_wp2_with (fail)
 have hR0 : isRow w11 22 (.agg #[.string ⟨#[116]⟩, .func (.func 177) #[] #[.pointer (some ⟨b0, 0, none⟩)]]) := (.b _ _ _ _ _ _ (by simp [boxTab]) hb0)
 clear hb0
 have hR1 : isRow w11 23 (.agg #[.string ⟨#[116]⟩, .func (.func 177) #[] #[.pointer (some ⟨b1, 0, none⟩)]]) := (.b _ _ _ _ _ _ (by simp [boxTab]) hb1)
 clear hb1
 obtain ⟨w12, hr, hE, hg⟩ := Tab.entry (P := Tryz.prog) w11 _ _ _ hM hI r [1, 2, 3, 4, 5, 6, 7, 8, 9, 10, 11, 12, 13, 14, 15, 31, 33, 35, 16, 17, 18, 19, 20, 21] 24 (by decide) 22 _ hT11 (by decide) (hz _)
 have G12 := G11.next hg
 replace hR0 := hR0.kept hg (fun _ e => by cases e; obtain ⟨_, h, _⟩ := hT11; exact ⟨_, _, h⟩)
 replace hR1 := hR1.kept hg (fun _ e => by cases e; obtain ⟨_, h, _⟩ := hT11; exact ⟨_, _, h⟩)
 clear hg G11 hT11
 rw [hr]
 clear hr
 go_wp2_with (fail)
 obtain ⟨w13, hr, hT13, hg⟩ := TabE.store (P := Tryz.prog) w12 79 r [1, 2, 3, 4, 5, 6, 7, 8, 9, 10, 11, 12, 13, 14, 15, 31, 33, 35, 16, 17, 18, 19, 20, 21] 24 (by decide) 22 (.agg #[.string ⟨#[116]⟩, .func (.func 177) #[] #[.pointer (some ⟨b0, 0, none⟩)]]) hE hR0
 have G13 := G12.next hg
 simp only [List.cons_append, List.nil_append] at hT13
 replace hR1 := hR1.kept hg (fun _ e => by cases e; obtain ⟨_, _, h, _⟩ := hE; exact ⟨_, _, h⟩)
 clear hg G12 hE hR0
 rw [hr]
 clear hr
 go_wp2_with (fail)
 obtain ⟨w14, hr, hT14, hg⟩ := Tab.update (P := Tryz.prog) w13 _ _ _ hM hI r [1, 2, 3, 4, 5, 6, 7, 8, 9, 10, 11, 12, 13, 14, 15, 31, 33, 35, 16, 17, 18, 19, 20, 21, 22] 23 (.agg #[.string ⟨#[116]⟩, .func (.func 177) #[] #[.pointer (some ⟨b1, 0, none⟩)]]) hT13 (by decide) hR1
 have G14 := G13.next hg
 simp only [List.cons_append, List.nil_append] at hT14
 clear hg G13 hT13 hR1
 rw [hr]
 clear hr
 go_wp2_with (fail)
 obtain ⟨w15, hr, hT15, hg⟩ := Tab.update (P := Tryz.prog) w14 _ _ _ hM hI r [1, 2, 3, 4, 5, 6, 7, 8, 9, 10, 11, 12, 13, 14, 15, 31, 33, 35, 16, 17, 18, 19, 20, 21, 22, 23] 24 (.agg #[.string ⟨#[116, 116, 110]⟩, .func (.func 136) #[] #[]]) hT14 (by decide) (.p _ _ _ (by simp [plainTab]))
 have G15 := G14.next hg
 simp only [List.cons_append, List.nil_append] at hT15
 clear hg G14 hT14
 rw [hr]
 clear hr
 go_wp2_with (fail)
 obtain ⟨w16, hr, hT16, hg⟩ := Tab.update (P := Tryz.prog) w15 _ _ _ hM hI r [1, 2, 3, 4, 5, 6, 7, 8, 9, 10, 11, 12, 13, 14, 15, 31, 33, 35, 16, 17, 18, 19, 20, 21, 22, 23, 24] 25 (.agg #[.string ⟨#[116, 116, 116]⟩, .func (.func 138) #[] #[]]) hT15 (by decide) (.p _ _ _ (by simp [plainTab]))
 have G16 := G15.next hg
 simp only [List.cons_append, List.nil_append] at hT16
 clear hg G15 hT15
 rw [hr]
 clear hr
 go_wp2_with (fail)
 obtain ⟨w17, hr, hT17, hg⟩ := Tab.update (P := Tryz.prog) w16 _ _ _ hM hI r [1, 2, 3, 4, 5, 6, 7, 8, 9, 10, 11, 12, 13, 14, 15, 31, 33, 35, 16, 17, 18, 19, 20, 21, 22, 23, 24, 25] 26 (.agg #[.string ⟨#[116, 110, 110, 116]⟩, .func (.func 140) #[] #[]]) hT16 (by decide) (.p _ _ _ (by simp [plainTab]))
 have G17 := G16.next hg
 simp only [List.cons_append, List.nil_append] at hT17
 clear hg G16 hT16
 rw [hr]
 clear hr
 go_wp2_with (fail)
 obtain ⟨w18, hr, hT18, hg⟩ := Tab.update (P := Tryz.prog) w17 _ _ _ hM hI r [1, 2, 3, 4, 5, 6, 7, 8, 9, 10, 11, 12, 13, 14, 15, 31, 33, 35, 16, 17, 18, 19, 20, 21, 22, 23, 24, 25, 26] 27 (.agg #[.string ⟨#[116, 110]⟩, .func (.func 141) #[] #[]]) hT17 (by decide) (.p _ _ _ (by simp [plainTab]))
 have G18 := G17.next hg
 simp only [List.cons_append, List.nil_append] at hT18
 clear hg G17 hT17
 rw [hr]
 clear hr
 go_wp2_with (fail)
 obtain ⟨w19, hr, hT19, hg⟩ := Tab.update (P := Tryz.prog) w18 _ _ _ hM hI r [1, 2, 3, 4, 5, 6, 7, 8, 9, 10, 11, 12, 13, 14, 15, 31, 33, 35, 16, 17, 18, 19, 20, 21, 22, 23, 24, 25, 26, 27] 28 (.agg #[.string ⟨#[116, 116]⟩, .func (.func 143) #[] #[]]) hT18 (by decide) (.p _ _ _ (by simp [plainTab]))
 have G19 := G18.next hg
 simp only [List.cons_append, List.nil_append] at hT19
 clear hg G18 hT18
 rw [hr]
 clear hr
 go_wp2_with (fail)
 obtain ⟨w20, hr, hT20, hg⟩ := Tab.update (P := Tryz.prog) w19 _ _ _ hM hI r [1, 2, 3, 4, 5, 6, 7, 8, 9, 10, 11, 12, 13, 14, 15, 31, 33, 35, 16, 17, 18, 19, 20, 21, 22, 23, 24, 25, 26, 27, 28] 29 (.agg #[.string ⟨#[116]⟩, .func (.func 144) #[] #[]]) hT19 (by decide) (.p _ _ _ (by simp [plainTab]))
 have G20 := G19.next hg
 simp only [List.cons_append, List.nil_append] at hT20
 clear hg G19 hT19
 rw [hr]
 clear hr
 go_wp2_with (fail)
 obtain ⟨w21, hr, hT21, hg⟩ := Tab.update (P := Tryz.prog) w20 _ _ _ hM hI r [1, 2, 3, 4, 5, 6, 7, 8, 9, 10, 11, 12, 13, 14, 15, 31, 33, 35, 16, 17, 18, 19, 20, 21, 22, 23, 24, 25, 26, 27, 28, 29] 30 (.agg #[.string ⟨#[110]⟩, .func (.func 146) #[] #[]]) hT20 (by decide) (.p _ _ _ (by simp [plainTab]))
 have G21 := G20.next hg
 simp only [List.cons_append, List.nil_append] at hT21
 clear hg G20 hT20
 rw [hr]
 clear hr
 go_wp2_with (fail)
 obtain ⟨w22, hr, hT22, hg⟩ := Tab.update (P := Tryz.prog) w21 _ _ _ hM hI r [1, 2, 3, 4, 5, 6, 7, 8, 9, 10, 11, 12, 13, 14, 15, 31, 33, 35, 16, 17, 18, 19, 20, 21, 22, 23, 24, 25, 26, 27, 28, 29, 30] 32 (.agg #[.string ⟨#[116]⟩, .func (.func 148) #[] #[]]) hT21 (by decide) (.p _ _ _ (by simp [plainTab]))
 have G22 := G21.next hg
 simp only [List.cons_append, List.nil_append] at hT22
 clear hg G21 hT21
 rw [hr]
 clear hr
 go_wp2_with (fail)
 obtain ⟨w23, hr, hT23, hg⟩ := Tab.update (P := Tryz.prog) w22 _ _ _ hM hI r [1, 2, 3, 4, 5, 6, 7, 8, 9, 10, 11, 12, 13, 14, 15, 31, 33, 35, 16, 17, 18, 19, 20, 21, 22, 23, 24, 25, 26, 27, 28, 29, 30, 32] 34 (.agg #[.string ⟨#[118]⟩, .func (.func 149) #[] #[]]) hT22 (by decide) (.p _ _ _ (by simp [plainTab]))
 have G23 := G22.next hg
 simp only [List.cons_append, List.nil_append] at hT23
 clear hg G22 hT22
 rw [hr]
 clear hr
 go_wp2_with (fail)
 refine bodyPost_end (results_none rfl _ _ _) rfl ?_
 exact ⟨rfl, hT23, G23⟩
theorem rows_any (w : World) : Calls Tryz.prog 45 #[] w fun e w' => e = .returned (.map (some w.heap.size)) ∧ Tab w' w.heap.size [1, 2, 3, 4, 5, 6, 7, 8, 9, 10, 11, 12, 13, 14, 15, 31, 33, 35, 16, 17, 18, 19, 20, 21, 22, 23, 24, 25, 26, 27, 28, 29, 30, 32, 34] ∧ w.grownBy w' none := by
 have hT0 : Tab (w.alloc (.map #[] 0)) w.heap.size [] := ⟨[], (MapKept.heap_alloc w _).1, rfl, by simp⟩
 have G0 : w.grownBy (w.alloc (.map #[] 0)) none := World.grownBy_alloc _ _ none
 go_enter Tryz.func45, Tryz.ntmps45
 go_wp2_with (fail)
 rw [run_makeMap]
 go_wp2_with (fail)
 refine (numbers_any _ _ hT0).mono ?_
 rintro e w1 ⟨rfl, hT1, G1⟩
 go_wp2_with (fail)
 refine (texts_any _ _ hT1).mono ?_
 rintro e w2 ⟨rfl, hT2, G2⟩
 go_wp2
 go_ret
 exact ⟨rfl, hT2, G0.fresh (G1.next G2)⟩
end Go.Proofs.YtpiiemneelkpkaaGreatDoor
