import Derived.Test.YtpiiemneelkpkaaGreatDoorCalRn
import Derived.Laws.AppendOwnNone
set_option maxRecDepth 100000
namespace Go.Proofs.YtpiiemneelkpkaaGreatDoor
open Go.RowKit
set_option linter.unusedVariables false
set_option linter.unusedSimpArgs false
def HandedPost (w : World) (n : Nat) (v : Nat → Val.V) (e : Ending) (w' : World) : Prop :=
 ∃ (g cap : Nat) (cur : Array Value), e = .returned (.slice (some ⟨g, 0, none⟩) n cap) ∧ w.heap.size ≤ g ∧ w'.heap[g]? = some (.cells cur 26 (0, 0)) ∧ n + 1 ≤ cap ∧ (n + 1) * 3 ≤ cur.size ∧
  cur.toList.take ((n + 1) * 3) = rowC v n ++ [.int .i64 (-7), .int .i64 0, .string ⟨#[]⟩] ∧ Below w.heap.size w w'
theorem nil_below {w w5 : World} (h : w.grownBy w5 none) : Below w.heap.size w w5 := (Below.refl _ _).grown h (Nat.le_refl _) (fun k e => by cases e)
theorem handed_nil (w : World) (v : Nat → Val.V) : Calls Tryz.prog 23 #[.slice none 0 0] w (HandedPost w 0 v) := by
 obtain ⟨i0, hi, hz0, hz1, hz2⟩ := info_parts infoVE
 go_enter Tryz.func23, Tryz.ntmps23
 go_upto_region 2 with (first | (at_builtin; refine wpList_append_own_none rfl _ _ 24 rfl w.heap.size 26 i0 3 Tryz.underlying24 hi _ _ _ rfl (World.ownsRow_nil _ _ _ _) rfl ?_) | fail)
 have hb : Below w.heap.size w w := Below.refl _ _
 have hown : w.ownsRow w.heap.size 26 3 (.slice none 0 0) 0 (rowC v 0) := World.ownsRow_nil _ _ _ _
 have hB : Below w.heap.size w (w.alloc (Obj.cells #[.int .i64 (-7), .int .i64 0, .string ⟨#[]⟩] 26)) := hb.alloc hb.size _
 have hm : (w.alloc (Obj.cells #[.int .i64 (-7), .int .i64 0, .string ⟨#[]⟩] 26)).heap[w.heap.size]? = some (.cells #[.int .i64 (-7), .int .i64 0, .string ⟨#[]⟩] 26 (0, 0)) := heap_alloc_new _ _
 have hown2 := ownsRow_below hown ((Below.refl w.heap.size w).alloc (Nat.le_refl _) (Obj.cells #[.int .i64 (-7), .int .i64 0, .string ⟨#[]⟩] 26))
 have hnews2 : ∀ (j : Nat) (u : Value), ([.int .i64 (-7), .int .i64 0, .string ⟨#[]⟩] : List Value)[j]? = some u → (w.alloc (Obj.cells #[.int .i64 (-7), .int .i64 0, .string ⟨#[]⟩] 26)).cell? ((⟨w.heap.size, 0, none⟩ : Addr).add j) = some u := by
  intro j u hj
  have hadd : (⟨w.heap.size, 0, none⟩ : Addr).add j = ⟨w.heap.size, j, none⟩ := by unfold Addr.add; split <;> simp_all
  rw [hadd, Lib.cell_of_heap hm, ← hj]
  simp
 go_wp2_with (first | (at_builtin; refine wpList_append_own _ rfl _ _ 24 rfl w.heap.size 26 i0 (.agg #[.int .i64 0, .int .i64 0, .string ⟨#[]⟩]) 3 32 Tryz.underlying24 hi hz0 hz1 hz2 rfl (by decide) _ _ _ rfl hown2 ⟨w.heap.size, 0, none⟩ 1 1 [.int .i64 (-7), .int .i64 0, .string ⟨#[]⟩] rfl rfl hnews2 (by intro u hu; simp at hu; rcases hu with rfl | rfl | rfl <;> rfl) ?d3n ?d4n ?d5n ?_) | fail)
 case d3n => unfold maxLen; omega
 case d4n => omega
 case d5n => exact hB.size
 intro v2 w6 hown3 hgrow2 _
 have hb6 : Below w.heap.size w w6 := hB.grown hgrow2 hB.size (fun j hj => (hown2.lt j hj).1)
 rcases hown3.2 with ⟨_, h0⟩ | ⟨g, cap', cur, rfl, hge, hgg, hle, _, hsz, htake⟩
 ·omega
 go_wp2_with (fail)
 go_ret
 exact ⟨g, cap', cur, rfl, hge, hgg, by omega, by omega, htake, hb6⟩
theorem handed_some (ad : Addr) (n cap : Nat) (v : Nat → Val.V) (w : World) (hc : HCellP w (some ad) n v) (hn : n ≤ 4398046510976) : Calls Tryz.prog 23 #[.slice (some ad) n cap] w (HandedPost w n v) := by
 obtain ⟨i0, hi, hz0, hz1, hz2⟩ := info_parts infoVE
 have hnews : ∀ (j : Nat) (u : Value), (rowC v n)[j]? = some u → w.cell? (ad.add j) = some u := by
  by_cases h0 : n = 0
  ·subst h0
   intro j u hj
   have := (List.getElem?_eq_some_iff.1 hj).1
   rw [rowC_len] at this
   omega
  ·obtain ⟨b, o, he, -⟩ := hc 0 (by omega)
   cases he
   exact cellP_news hc
 clear hc
 go_enter Tryz.func23, Tryz.ntmps23
 go_wp2_with (first | (at_builtin; refine wpList_append_own _ rfl _ _ 24 rfl w.heap.size 26 i0 (.agg #[.int .i64 0, .int .i64 0, .string ⟨#[]⟩]) 3 32 Tryz.underlying24 hi hz0 hz1 hz2 rfl (by decide) _ _ _ rfl (World.ownsRow_nil _ _ _ _) ad n cap (rowC v n) rfl (rowC_len v n) hnews (argC_one _) ?c3n ?c4n ?c5n ?_) | fail)
 case c3n => unfold maxLen; omega
 case c4n => omega
 case c5n => exact Nat.le_refl _
 intro v' w5 hown hgrow _
 have hb : Below w.heap.size w w5 := nil_below hgrow
 try rw [Nat.zero_add, List.nil_append] at hown
 clear hgrow hnews
 have hB : Below w.heap.size w (w5.alloc (Obj.cells #[.int .i64 (-7), .int .i64 0, .string ⟨#[]⟩] 26)) := hb.alloc hb.size _
 have hm : (w5.alloc (Obj.cells #[.int .i64 (-7), .int .i64 0, .string ⟨#[]⟩] 26)).heap[w5.heap.size]? = some (.cells #[.int .i64 (-7), .int .i64 0, .string ⟨#[]⟩] 26 (0, 0)) := heap_alloc_new _ _
 have hown2 := ownsRow_below hown ((Below.refl w5.heap.size w5).alloc (Nat.le_refl _) (Obj.cells #[.int .i64 (-7), .int .i64 0, .string ⟨#[]⟩] 26))
 have hnews2 : ∀ (j : Nat) (u : Value), ([.int .i64 (-7), .int .i64 0, .string ⟨#[]⟩] : List Value)[j]? = some u → (w5.alloc (Obj.cells #[.int .i64 (-7), .int .i64 0, .string ⟨#[]⟩] 26)).cell? ((⟨w5.heap.size, 0, none⟩ : Addr).add j) = some u := by
  intro j u hj
  have hadd : (⟨w5.heap.size, 0, none⟩ : Addr).add j = ⟨w5.heap.size, j, none⟩ := by unfold Addr.add; split <;> simp_all
  rw [hadd, Lib.cell_of_heap hm, ← hj]
  simp
 obtain ⟨aa, cc, rfl⟩ := own_any hown
 go_wp2_with (first | (at_builtin; refine wpList_append_own _ rfl _ _ 24 rfl w.heap.size 26 i0 (.agg #[.int .i64 0, .int .i64 0, .string ⟨#[]⟩]) 3 32 Tryz.underlying24 hi hz0 hz1 hz2 rfl (by decide) _ _ _ rfl hown2 ⟨w5.heap.size, 0, none⟩ 1 1 [.int .i64 (-7), .int .i64 0, .string ⟨#[]⟩] rfl rfl hnews2 (by intro u hu; simp at hu; rcases hu with rfl | rfl | rfl <;> rfl) ?d3n ?d4n ?d5n ?_) | fail)
 case d3n => unfold maxLen; omega
 case d4n => omega
 case d5n => exact hB.size
 intro v2 w6 hown3 hgrow2 _
 have hb6 : Below w.heap.size w w6 := hB.grown hgrow2 hB.size (fun j hj => (hown2.lt j hj).1)
 rcases hown3.2 with ⟨_, h0⟩ | ⟨g, cap', cur, rfl, hge, hgg, hle, _, hsz, htake⟩
 ·omega
 go_wp2_with (fail)
 go_ret
 exact ⟨g, cap', cur, rfl, hge, hgg, by omega, by omega, htake, hb6⟩
end Go.Proofs.YtpiiemneelkpkaaGreatDoor
