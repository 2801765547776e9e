/- The contract of runes.All, and of the function that it answers. -/
import Derived.RangeFuncNested
import Derived.RangeFuncBound
import Derived.RangeFuncCalls
import Derived.RangeFuncLeaves
import Derived.Shelf.Abstract
import Derived.Shelf.RegionOpen
import Derived.WalkKit
import Derived.OwnWalkIn
import Derived.TacticsInMore
import Derived.LoopNIn
import Derived.LoopIn
import Derived.Test.YtdbjmjeiaajdiaaDoorRunE
namespace Go.Proofs.YtdbjmjeiaajdiaaDoor
open Go.RowKit Go.Shelf
attribute [local go_sem] Oper.semAt_some
/-- The runes with their places: of the first k. -/
def its (s : ByteArray) : Nat → List (Nat × Nat)
  | 0 => []
  | k + 1 => its s k ++ [(Run.adv s k 0, (Utf8.decode s (Run.adv s k 0)).1)]
theorem its_length (s : ByteArray) : ∀ k, (its s k).length = k
  | 0 => rfl
  | k + 1 => by rw [its, List.length_append, its_length s k]; rfl
abbrev encR (p : Nat × Nat) : Array Value := #[.int .i64 (p.1 : Int), .int .i32 (p.2 : Int)]

theorem all_in (F : Fence) (n : Nat) (h51 : F.fn 37) (hro : F.round = none) (s : ByteArray) (w : World) :
    CallsIn F n Tryd.prog 37 #[.string s] w fun e w' => e = .returned (.func (.func 68) #[] #[.pointer (some ⟨w.heap.size, 0, none⟩)]) ∧ w' = w.alloc (Obj.cells #[Value.string s] 9) := by
  refine callsIn_of_wp Tryd.func37 rfl h51 ?_ hro
  simp only [Tryd.ntmps37, List.size_toArray, List.length_cons, List.length_nil, Nat.reduceAdd, Nat.reduceSub, Array.replicate_succ, Array.replicate_zero, List.push_toArray, List.append_toArray, List.nil_append, List.cons_append]
  gi_wp2
  go_ret
  exact ⟨rfl, rfl⟩

set_option maxHeartbeats 1000000 in
set_option maxRecDepth 100000 in
theorem all1_in (F : Fence) (n : Nat) (h75 : F.fn 68) (hro : F.round = none) (hn : 1 ≤ n) (l Bn : Nat) (s : ByteArray) (J Jx : List (Nat × Nat) → World → Prop) (hs : s.size ≤ 140737488351232)
    (hY : ∀ pre x W, J pre W → pre.length < Run.cnt s 0 → YieldAt F (n - 1) Tryd.prog l (encR x) W fun e W' =>
      (e = .returned (.bool true) ∧ J (pre ++ [x]) W' ∧ KeepsWalks W W') ∨ (e = .returned (.bool false) ∧ Jx (pre ++ [x]) W'))
    (W : World) (hJ : AbidesFrom W.heap.size J) (hBn : W.cell? ⟨Bn, 0, none⟩ = some (.string s)) (h0 : J [] W) :
    CallsIn F n Tryd.prog 68 #[.func (.yield l) #[] #[], .pointer (some ⟨Bn, 0, none⟩)] W fun e W' => (∃ v, e = .returned v) ∧
      ((∃ k, k = Run.cnt s 0 ∧ J (its s k) W') ∨ (∃ k, k < Run.cnt s 0 ∧ Jx (its s (k + 1)) W')) := by
  have HC0 := Lib.hid (show Run.cnt s 0 = Run.cnt s 0 from rfl)
  refine callsIn_of_wp Tryd.func68 rfl h75 ?_ hro
  simp only [Tryd.ntmps68, List.size_toArray, List.length_cons, List.length_nil, Nat.reduceAdd, Nat.reduceSub, Array.replicate_succ, Array.replicate_zero, List.push_toArray, List.append_toArray, List.nil_append, List.cons_append]
  gi_wp2
  have hit0 : (W.iter s 0).heap[W.heap.size]? = some (.stringIter s 0) := by simpa using World.iter_heap W s 0
  have hJ0 : J [] (W.iter s 0) := hJ [] W _ none h0 (World.grownBy_alloc W _ none) (fun r e => by cases e)
  generalize W.iter s 0 = W0 at *
  gi_loopw [3] (fun p wr => ∃ (pos k : Nat), pos ≤ s.size ∧ Hid (pos = Run.adv s k 0) ∧ Hid (k + Run.cnt s pos = Run.cnt s 0) ∧ wr.heap[W.heap.size]? = some (.stringIter s pos) ∧ J (its s k) wr) (fun _ wr => s.size - wr.iterPos W.heap.size)
  case atStart =>
    exact ⟨0, 0, by omega, Lib.hid rfl, Lib.hid (by omega), hit0, hJ0⟩
  case round =>
    obtain ⟨pos, k, hpos, HP, HK, hit, hJr⟩ := hrel
    by_cases hp : pos < s.size
    · have hnx : ∀ ty, (Instr.next (.pointer (some ⟨W.heap.size, 0, none⟩)) true ty).run Tryd.prog wr = _ := fun ty => Lib.run_next_any_at wr W.heap.size s pos ty hit hp
      have hwd := Run.wd_pos s pos
      have hwl := Run.wd_le s pos hp
      have hit2 := Lib.iterAt_heap wr W.heap.size s pos (pos + (Utf8.decode s pos).2) hit
      have hJ2 : J (its s k) (wr.iterAt W.heap.size s (pos + (Utf8.decode s pos).2)) := hJ (its s k) wr _ (some W.heap.size) hJr (grownBy_putObj' wr W.heap.size (.stringIter s (pos + (Utf8.decode s pos).2))) (fun r e => by cases e; exact ⟨Nat.le_refl _, _, hit, rfl⟩)
      rw [← Run.wd_eq] at hit2 hnx hJ2
      have hkc : k < Run.cnt s 0 := by have := HK.out; rw [Run.cnt_step s pos hp] at this; omega
      have HK2 : Hid (k + 1 + Run.cnt s (pos + Run.wd s pos) = Run.cnt s 0) := by have := HK.out; rw [Run.cnt_step s pos hp] at this; exact Lib.hid (by omega)
      have HP2 : Hid (pos + Run.wd s pos = Run.adv s (k + 1) 0) := by
        have := HP.out
        have h2 := Run.adv_next s k 0 (by omega)
        rw [← this] at h2
        exact Lib.hid h2.symm
      have hits : its s (k + 1) = its s k ++ [(pos, (Utf8.decode s pos).1)] := by rw [its, ← HP.out]
      obtain ⟨fn, tmps, assign, body, hy, hR⟩ := hY (its s k) (pos, (Utf8.decode s pos).1) _ hJ2 (by rw [its_length]; exact hkc)
      rw [← hits] at hR
      dsimp only [encR] at hy
      have HKC := Lib.hid hkc
      clear hkc hits
      generalize Run.wd s pos = d at *
      generalize (Utf8.decode s pos).1 = r at *
      generalize wr.iterAt W.heap.size s (pos + d) = W1 at *
      gi_wp2
      refine hR.mono ?_
      rintro e W3 (⟨rfl, hJ3, hk3⟩ | ⟨rfl, hJx3⟩)
      · have hit3 := hk3.same _ _ hit2 rfl
        gi_wp2
        go_roundw
        case rel => exact ⟨pos + d, k + 1, hwl, HP2, HK2, hit3, hJ3⟩
        case measure =>
          simp only [World.iterPos, hit3, hit]
          omega
      · gi_wp2
        refine bodyPost_ret (results_none rfl _ _ _) rfl ?_
        exact ⟨⟨_, rfl⟩, .inr ⟨k, HKC.out, hJx3⟩⟩
    · have hnx : ∀ ty, (Instr.next (.pointer (some ⟨W.heap.size, 0, none⟩)) true ty).run Tryd.prog wr = _ := fun ty => Lib.run_next_end_at wr W.heap.size s pos ty hit hp
      have hk : k = Run.cnt s 0 := by have := HK.out; rw [Run.cnt_end s pos hp] at this; omega
      gi_wp2
      go_end0
      exact ⟨⟨_, rfl⟩, .inl ⟨k, hk, hJr⟩⟩

theorem all_stops (F : Fence) (n : Nat) (h75 : F.fn 68) (hro : F.round = none) (hn : 1 ≤ n) (Bn : Nat) (s : ByteArray) (w : World) (hs : s.size ≤ 140737488351232) (hlt : Bn < w.heap.size) (hBn : w.cell? ⟨Bn, 0, none⟩ = some (.string s)) :
    SeqStopsK F n Tryd.prog 68 #[.pointer (some ⟨Bn, 0, none⟩)] encR KeepsWalks (fun xs => xs = its s (Run.cnt s 0)) (fun pre => ∃ k, k < Run.cnt s 0 ∧ pre = its s (k + 1)) (Run.cnt s 0) w := fun l J Jx W hW hJ hJx hY h0 => by
  refine (all1_in F n h75 hro hn l Bn s J Jx hs hY W hJ ((hW.cell (p := ⟨Bn, 0, none⟩) hlt).trans hBn) h0).mono ?_
  rintro e W' ⟨hv, h⟩
  refine ⟨hv, h.imp ?_ ?_⟩
  · rintro ⟨k, rfl, h⟩; exact ⟨_, rfl, h⟩
  · rintro ⟨k, hk, h⟩; exact ⟨_, ⟨k, hk, rfl⟩, h⟩
end Go.Proofs.YtdbjmjeiaajdiaaDoor
