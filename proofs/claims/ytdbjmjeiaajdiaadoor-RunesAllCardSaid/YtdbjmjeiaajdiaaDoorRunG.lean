/- The walk of quadrillelaw5.begun. -/
import Derived.Test.YtdbjmjeiaajdiaaDoorRunF
namespace Go.Proofs.YtdbjmjeiaajdiaaDoor
open Go.RowKit Go.Shelf
attribute [local go_sem] Oper.semAt_some
def sB : ByteArray := ⟨#[195, 169, 98]⟩
theorem sB_cnt : Run.cnt sB 0 = 2 := by decide +kernel
theorem sB_its : its sB 2 = [(0, 233), (2, 98)] := by decide +kernel
theorem sB_ne1 (x : Nat × Nat) (h : ¬ x = (0, 233)) : ¬ ([] ++ [x]) = its sB ([] ++ [x]).length := by
  show ¬ [x] = its sB 1
  rw [show its sB 1 = [(0, 233)] by decide +kernel]
  simpa using h
theorem sB_ne2 (x : Nat × Nat) (h : ¬ x = (2, 98)) : ¬ ([(0, 233)] ++ [x]) = its sB ([(0, 233)] ++ [x]).length := by
  show ¬ [(0, 233), x] = its sB 2
  rw [sB_its]
  simpa using h
theorem cell_of_box5 {W : World} {B : Nat} {v : Value} {t : TypeId} (h : W.heap[B]? = some (.cells #[v] t (0, 0))) : W.cell? ⟨B, 0, none⟩ = some v ∧ W.frozen? ⟨B, 0, none⟩ = false := by
  constructor <;> simp [World.cell?, World.frozen?, h]
theorem cell_new5 (W : World) (v : Value) (t : TypeId) : (W.alloc (.cells #[v] t)).cell? ⟨W.heap.size, 0, none⟩ = some v ∧ (W.alloc (.cells #[v] t)).frozen? ⟨W.heap.size, 0, none⟩ = false :=
  cell_of_box5 (World.alloc_heap_new W _)

set_option maxRecDepth 100000 in
set_option maxHeartbeats 2000000 in
theorem begun5 (w : World) (hT : Lib.Utf8Tabs 4 5 w) : Calls Tryd.prog 12 #[] w fun e w' => e = .returned (.bool true) ∧ Below w.heap.size w w' := by
  have HLeft := Lib.hid (fun w => left_any ⟨#[97, 195, 169, 98]⟩ 2 3 w (by decide) (by decide) (by decide +kernel))
  have HFind := Lib.hid (fun w => find_walk ⟨#[98]⟩ sB 1 2 0 w (by decide) (by decide) (by decide +kernel) (by rw [sB_cnt]; intro k hk _ h _; match k, hk, h with | 0, _, h => exact absurd h (by decide +kernel) | 1, _, _ => exact ⟨rfl, rfl⟩) (by intro h; exact absurd (h 1 (by rw [sB_cnt]; decide) (by decide)) (by decide +kernel)))
  have HCode := Lib.hid (fun w => code_any ⟨#[255]⟩ 65533 w (by decide) (by decide) (by decide +kernel))
  have HChar := Lib.hid (fun w => char_bad 55296 w (by decide) (by decide) (by decide +kernel))
  have HLen := Lib.hid (fun w => len_any ⟨#[226, 130]⟩ w (by decide))
  rw [show Run.cnt ⟨#[226, 130]⟩ 0 = 2 by decide +kernel] at HLen
  have HTurn := Lib.hid (fun w hT => turn_any ⟨#[97, 98]⟩ w (by decide) hT)
  rw [show turned ⟨#[97, 98]⟩ = ⟨#[98, 97]⟩ by decide +kernel] at HTurn
  rw [show (⟨#[97, 195, 169, 98]⟩ : ByteArray).extract 0 3 = ⟨#[97, 195, 169]⟩ by decide +kernel] at HLeft
  unfold sB at HFind
  refine (callsIn_wide (n := 3)).1 ?_
  refine callsIn_of_wp_marks Tryd.func12 rfl trivial ?_ rfl
  simp only [Tryd.ntmps12, List.size_toArray, List.length_nil, Nat.reduceSub, Array.replicate_succ, Array.replicate_zero, List.push_toArray, List.append_toArray, List.nil_append, List.cons_append]
  obtain ⟨hc0, hf0⟩ := cell_new5 w (.bool false) 4
  have hb0 : Below w.heap.size w (w.alloc (.cells #[.bool false] 4)) := (Below.refl _ w).alloc (Nat.le_refl _) _
  have hz0 : (w.alloc (.cells #[.bool false] 4)).heap.size = w.heap.size + 1 := by simp
  gi_wp2_with (refine ⟨trivial, ?_⟩; gi_at_call 33; refine (callsIn_wide.2 (HLeft.out _)).mono ?_; rintro e w1 ⟨rfl, hb1⟩)
  gi_wp2_with (refine ⟨trivial, ?_⟩; gi_at_call 34; refine (callsIn_wide.2 (HFind.out _)).mono ?_; rintro e w2 ⟨rfl, hb2⟩)
  gi_wp2_with (refine ⟨trivial, ?_⟩; gi_at_call 35; refine (callsIn_wide.2 (HCode.out _)).mono ?_; rintro e w3 ⟨rfl, hb3⟩)
  gi_wp2_with (refine ⟨trivial, ?_⟩; gi_at_call 36; refine (callsIn_wide.2 (HChar.out _)).mono ?_; rintro e w4 ⟨rfl, rfl⟩)
  have hB3 : Below (w.heap.size + 1) (w.alloc (.cells #[.bool false] 4)) w3 := by
    have z1 := hb1.size
    have z2 := hb2.size
    exact ((hb1.mono (by omega)).trans (hb2.mono (by omega))).trans (hb3.mono (by omega))
  have hc3 := (hB3.cell (p := ⟨w.heap.size, 0, none⟩) (by simp)).trans hc0
  have hf3 := (hB3.frozen (p := ⟨w.heap.size, 0, none⟩) (by simp)).trans hf0
  have hz3 : w.heap.size + 1 ≤ w3.heap.size := by have := hB3.size; omega
  have hb30 : Below w.heap.size w w3 := hb0.trans (hB3.mono (by omega))
  clear hb1 hb2 hb3 hB3 hc0 hf0 hz0 hb0
  gi_wp2_with (refine ⟨trivial, ?_⟩; gi_at_call 37; refine (all_in Fence.wide _ trivial rfl ⟨#[195, 169, 98]⟩ _).mono ?_; rintro e w5 ⟨rfl, rfl⟩)
  have hnil : ∀ (b : Nat) (w : World), (binOp BinOp.eql 60 (.func (.func 68) #[] #[.pointer (some ⟨b, 0, none⟩)]) .nilFunc).run Tryd.prog w = .ok (.bool false) w := fun _ _ => by kernel_rfl
  obtain ⟨hk5, hkf5⟩ := cell_new5 w3 (.int .i64 0) 3
  obtain ⟨hs5, _⟩ := cell_new5 (w3.alloc (.cells #[.int .i64 0] 3)) (.string ⟨#[195, 169, 98]⟩) 9
  rw [World.size_alloc] at hs5
  have hbA : Below (w3.heap.size + 1) (w3.alloc (.cells #[.int .i64 0] 3)) ((w3.alloc (.cells #[.int .i64 0] 3)).alloc (.cells #[.string ⟨#[195, 169, 98]⟩] 9)) := (Below.refl _ _).alloc (by simp) _
  have hbB : Below w3.heap.size w3 ((w3.alloc (.cells #[.int .i64 0] 3)).alloc (.cells #[.string ⟨#[195, 169, 98]⟩] 9)) := ((Below.refl _ w3).alloc (Nat.le_refl _) _).alloc (by simp) _
  replace hk5 := (hbA.cell (p := ⟨w3.heap.size, 0, none⟩) (by simp)).trans hk5
  replace hkf5 := (hbA.frozen (p := ⟨w3.heap.size, 0, none⟩) (by simp)).trans hkf5
  have hr5 := (hbB.cell (p := ⟨w.heap.size, 0, none⟩) (by simp; omega)).trans hc3
  have hrf5 := (hbB.frozen (p := ⟨w.heap.size, 0, none⟩) (by simp; omega)).trans hf3
  have hb5 : Below w.heap.size w ((w3.alloc (.cells #[.int .i64 0] 3)).alloc (.cells #[.string ⟨#[195, 169, 98]⟩] 9)) := hb30.trans (hbB.mono (by omega))
  have hz5 : ((w3.alloc (.cells #[.int .i64 0] 3)).alloc (.cells #[.string ⟨#[195, 169, 98]⟩] 9)).heap.size = w3.heap.size + 2 := by simp
  clear hbA hbB hc3 hf3 hb30
  generalize (w3.alloc (.cells #[.int .i64 0] 3)).alloc (.cells #[.string ⟨#[195, 169, 98]⟩] 9) = w5 at *
  rw [hnil]
  gi_wp2
  refine wpIn_rangeFunc_ownF rfl (by omega) (gf := 68) (lb := #[.pointer (some ⟨w3.heap.size + 1, 0, none⟩)]) rfl trivial (enters_of Tryd.func68 (by kernel_rfl) rfl)
    (all_stops Fence.wide _ trivial rfl (by omega) (w3.heap.size + 1) ⟨#[195, 169, 98]⟩ w5 (by decide) (by omega) hs5) walksK_t walksK_b (Below.refl _ _) (fun _ => rfl)
    (fun pre W => ((W.cell? ⟨w3.heap.size, 0, none⟩ = some (.int .i64 (pre.length : Int)) ∧ W.frozen? ⟨w3.heap.size, 0, none⟩ = false) ∧ (W.cell? ⟨w.heap.size, 0, none⟩ = some (.bool false) ∧ W.frozen? ⟨w.heap.size, 0, none⟩ = false) ∧ pre = its sB pre.length) ∧ Below w.heap.size w W)
    (fun c pre _ => c = .ret ∧ ¬ pre = its sB pre.length)
    (OwnFrom.and (Own.from (fun s A B row hs hg hr => ⟨⟨cell_kept hs.1.1 hg hr, (frozen_kept hs.1.1 hg hr).trans hs.1.2⟩, ⟨cell_kept hs.2.1.1 hg hr, (frozen_kept hs.2.1.1 hg hr).trans hs.2.1.2⟩, hs.2.2⟩) _) (ownFrom_below (Nat.le_refl _) (by omega)))
    (fun _ _ _ _ _ hs _ _ => hs)
    ⟨⟨⟨hk5, hkf5⟩, ⟨hr5, hrf5⟩, rfl⟩, hb5⟩
    (fun x => { tmps := #[.pointer (some ⟨w.heap.size, 0, none⟩), .string ⟨#[97, 195, 169]⟩, .int .i64 0, .int .i64 2, .int .i64 0, .int .i64 65533, .int .i64 0, .string ⟨#[]⟩, .int .i64 1, .pointer (some ⟨w3.heap.size, 0, none⟩), .func (.func 68) #[] #[.pointer (some ⟨w3.heap.size + 1, 0, none⟩)], .int .i64 (x.1 : Int), .int .i32 (x.2 : Int), .tuple #[.string ⟨#[97, 195, 169]⟩, .int .i64 0], .tuple #[.string ⟨#[97, 195, 169]⟩, .int .i64 0], .string ⟨#[97, 195, 169]⟩, .int .i64 0, .tuple #[.int .i64 2, .int .i64 0], .tuple #[.int .i64 2, .int .i64 0], .int .i64 2, .int .i64 0, .tuple #[.int .i64 65533, .int .i64 0], .tuple #[.int .i64 65533, .int .i64 0], .int .i64 65533, .int .i64 0, .tuple #[.string ⟨#[]⟩, .int .i64 1], .tuple #[.string ⟨#[]⟩, .int .i64 1], .string ⟨#[]⟩, .int .i64 1, .func (.func 68) #[] #[.pointer (some ⟨w3.heap.size + 1, 0, none⟩)], .func (.func 68) #[] #[.pointer (some ⟨w3.heap.size + 1, 0, none⟩)], .bool false, .func (.func 68) #[] #[.pointer (some ⟨w3.heap.size + 1, 0, none⟩)], .int .i64 (x.1 : Int), .int .i32 (x.2 : Int), undef, undef, undef, undef, undef, undef, undef, undef, undef, undef, undef, undef, undef, undef, undef, undef, undef, undef, undef, undef, undef, undef, undef, undef, undef, undef, undef, undef, undef, undef, undef, undef, undef, undef, undef, undef, undef, undef, undef, undef, undef, undef, undef, undef, undef, undef, undef, undef, undef, undef, undef, undef, undef, undef, undef, undef, undef, undef, undef, undef, undef, undef], defers := [] }) ?assign ?body ?done ?stop
  case assign =>
    intro l x W K hK
    gi_wp2
    exact hK
  case body =>
    rintro l pre x W ⟨⟨⟨hk, hkf⟩, ⟨hr, hrf⟩, hpre⟩, hB⟩ hlen
    have hlen2 : pre.length < 2 := by rw [← sB_cnt]; exact hlen
    have hz : w.heap.size < w3.heap.size := by omega
    clear hlen hk5 hkf5 hr5 hrf5 hb5 hs5 hnil HLen HTurn HLeft HFind HCode HChar hT
    have hp2 : pre = [] ∨ pre = [(0, 233)] := by
      rcases Nat.lt_or_ge pre.length 1 with h | h
      · exact .inl (List.eq_nil_of_length_eq_zero (by omega))
      · right
        rw [hpre, show pre.length = 1 by omega]; decide +kernel
    rcases hp2 with rfl | rfl
    · simp only [List.length_nil, Int.natCast_zero] at hk
      by_cases hx : x.1 = 0
      · by_cases hy : x.2 = 233
        · obtain ⟨x1, x2⟩ := x
          obtain rfl : x1 = 0 := hx
          obtain rfl : x2 = 233 := hy
          gi_wp2
          exact ⟨KeepsOthers.setCell _ _ _, KeepsWalks.setCell _ _ _, ⟨⟨World.cell?_setCell_same' _ _ _ (by rw [hk]; rfl), by rw [World.frozen?_setCell]; exact hkf⟩, ⟨(World.cell?_setCell_other _ _ _ _ (by intro e; have := congrArg Addr.block e; simp at this; omega)).trans hr, by rw [World.frozen?_setCell]; exact hrf⟩, by decide +kernel⟩, hB.setCell (p := ⟨w3.heap.size, 0, none⟩) (by simp; omega) _⟩
        · have t1 : ((x.1 : Int) != 0) = false := by simp [hx]
          have t2 : ((x.2 : Int) != 233) = true := by rw [bne_iff_ne]; omega
          have hne := sB_ne1 x (fun e => hy (by rw [e]))
          gi_wp2
          exact ⟨KeepsOthers.setCell _ _ _, rfl, hne⟩
      · have t1 : ((x.1 : Int) != 0) = true := by rw [bne_iff_ne]; omega
        have hne := sB_ne1 x (fun e => hx (by rw [e]))
        gi_wp2
        exact ⟨KeepsOthers.setCell _ _ _, rfl, hne⟩
    · simp only [List.length_cons, List.length_nil, Nat.zero_add, Int.natCast_one] at hk
      by_cases hx : x.1 = 2
      · by_cases hy : x.2 = 98
        · obtain ⟨x1, x2⟩ := x
          obtain rfl : x1 = 2 := hx
          obtain rfl : x2 = 98 := hy
          gi_wp2
          exact ⟨KeepsOthers.setCell _ _ _, KeepsWalks.setCell _ _ _, ⟨⟨World.cell?_setCell_same' _ _ _ (by rw [hk]; rfl), by rw [World.frozen?_setCell]; exact hkf⟩, ⟨(World.cell?_setCell_other _ _ _ _ (by intro e; have := congrArg Addr.block e; simp at this; omega)).trans hr, by rw [World.frozen?_setCell]; exact hrf⟩, by decide +kernel⟩, hB.setCell (p := ⟨w3.heap.size, 0, none⟩) (by simp; omega) _⟩
        · have t1 : ((x.1 : Int) != 2) = false := by simp [hx]
          have t2 : ((x.2 : Int) != 98) = true := by rw [bne_iff_ne]; omega
          have hne := sB_ne2 x (fun e => hy (by rw [e]))
          gi_wp2
          exact ⟨KeepsOthers.setCell _ _ _, rfl, hne⟩
      · have t1 : ((x.1 : Int) != 2) = true := by rw [bne_iff_ne]; omega
        have hne := sB_ne2 x (fun e => hx (by rw [e]))
        gi_wp2
        exact ⟨KeepsOthers.setCell _ _ _, rfl, hne⟩
  case done =>
    rintro D ys W hD rfl ⟨⟨⟨hk, hkf⟩, ⟨hr, hrf⟩, _⟩, hB⟩ hK
    rw [its_length, show Run.cnt ⟨#[195, 169, 98]⟩ 0 = 2 from sB_cnt] at hk
    have hBw := hB.size
    have hTW := Utf8Tabs_below hT hB
    have hlt := (Array.getElem?_eq_some_iff.1 hK).1
    gi_wp2_with (fail)
    refine ⟨trivial, ?_⟩
    refine (callsIn_wide.2 (HLen.out _)).mono ?_
    rintro e w6 ⟨rfl, hb6⟩
    have hT6 := Utf8Tabs_below hTW hb6
    gi_wp2_with (fail)
    refine ⟨trivial, ?_⟩
    refine (callsIn_wide.2 (HTurn.out _ hT6)).mono ?_
    rintro e w7 ⟨rfl, hb7⟩
    have hs6 := hb6.size
    have hs7 := hb7.size
    have hr7 := (hb7.cell (p := ⟨w.heap.size, 0, none⟩) (by simp; omega)).trans ((hb6.cell (p := ⟨w.heap.size, 0, none⟩) (by simp; omega)).trans hr)
    have hrf7 := (hb7.frozen (p := ⟨w.heap.size, 0, none⟩) (by simp; omega)).trans ((hb6.frozen (p := ⟨w.heap.size, 0, none⟩) (by simp; omega)).trans hrf)
    have hK7 := (hb7.block D (by omega)).trans ((hb6.block D (by omega)).trans hK)
    have hB7 := (hB.trans (hb6.mono (by omega))).trans (hb7.mono (by omega))
    clear hb6 hb7 hK hk hkf hr hrf
    gi_wp2
    have hK8 := (KeepsOthers.setCell w7 ⟨w.heap.size, 0, none⟩ (.bool true)).same D _ hK7 rfl
    refine ⟨by simp, .inl ⟨_, _, rfl, run_takeDeferred hK8, ?_⟩⟩
    have hc8 := cell_kept (World.cell?_setCell_same' w7 ⟨w.heap.size, 0, none⟩ (.bool true) (by rw [hr7]; rfl)) (grownBy_putObj' _ D (.deferred none)) (fun r e => by cases e; exact ⟨_, hK8, rfl⟩)
    refine ⟨.bool true, ?_, rfl, ?_⟩
    · simp [results, Tryd.f12, go_sem, hc8]
    · exact (hB7.setCell (p := ⟨w.heap.size, 0, none⟩) (Nat.le_refl _) _).trans (belowK_b (w := w) (Nat.le_refl _) _ D _ _ (by omega) hK8 rfl rfl)
  case stop =>
    rintro D c pre W _ ⟨k, _, rfl⟩ ⟨_, h⟩ _
    rw [its_length] at h
    exact (h rfl).elim
end Go.Proofs.YtdbjmjeiaajdiaaDoor
