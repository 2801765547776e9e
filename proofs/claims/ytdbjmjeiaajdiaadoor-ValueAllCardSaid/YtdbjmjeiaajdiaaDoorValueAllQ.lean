/- quadrillelaw4.plays at every call of any values and texts: true; the walk of ValueAll. -/
import Derived.Test.YtdbjmjeiaajdiaaDoorValueAllP
import Derived.Test.YtdbjmjeiaajdiaaDoorValQ
namespace Go.Proofs.YtdbjmjeiaajdiaaDoor
open Go.RowKit
set_option linter.unusedVariables false
theorem vplays_any (K : Int) (v u : Val.V) (s : ByteArray) (w : World) (hv : VB v) (hu : VB u) (hs : s.size ≤ 140737488351232) (hN : NumW w) :
    Calls Tryd.prog 7 #[.agg #[.int .i64 K, .int .i64 v.k, .int .i64 v.n, .string v.t, .int .i64 u.k, .int .i64 u.n, .string u.t, .string s]] w fun e w' => e = .returned (.bool true) ∧ Below w.heap.size w w' := by
  obtain ⟨vk, vn, vt⟩ := v
  obtain ⟨uk, un, ut⟩ := u
  by_cases h1 : K = 1
  · subst h1
    exact vplays_1 vk vn uk un vt ut s _ w (fun w' _ => vmay_any ⟨vk, vn, vt⟩ w') (fun w' _ => rmay_any ⟨vk, vn, vt⟩ w')
  by_cases h2 : K = 2
  · subst h2
    exact vplays_2 vk vn uk un vt ut s _ w (fun w' _ => same_any ⟨vk, vn, vt⟩ ⟨uk, un, ut⟩ w') (fun w' _ => rsame_any ⟨vk, vn, vt⟩ ⟨uk, un, ut⟩ w')
  by_cases h3 : K = 3
  · subst h3
    exact vplays_3 vk vn uk un vt ut s _ _ w (fun w' hb => number_any ⟨vk, vn, vt⟩ w' hv (hN.below hb)) (fun w' _ => rnumber_any ⟨vk, vn, vt⟩ w' hv)
  by_cases h4 : K = 4
  · subst h4
    exact vplays_4 vk vn uk un vt ut s _ _ w (fun w' hb => astext_any ⟨vk, vn, vt⟩ w' hv (hN.below hb)) (fun w' _ => rastext_any ⟨vk, vn, vt⟩ w' hv)
  by_cases h5 : K = 5
  · subst h5
    exact vplays_5 vk vn uk un vt ut s _ _ w (fun w' _ => truth_any ⟨vk, vn, vt⟩ w') (fun w' _ => rtruth_any ⟨vk, vn, vt⟩ w')
  by_cases h6 : K = 6
  · subst h6
    exact vplays_6 vk vn uk un vt ut s _ w (fun w' _ => vcompare_any ⟨vk, vn, vt⟩ ⟨uk, un, ut⟩ w') (fun w' _ => by
      have h := rcompare_any ⟨vk, vn, vt⟩ ⟨uk, un, ut⟩ w'
      rw [Val.rcmp_same] at h
      exact h)
  by_cases h7 : K = 7
  · subst h7
    exact vplays_7 vk vn uk un vt ut s _ w (fun w' hb => show_any ⟨vk, vn, vt⟩ w' hv (hN.below hb)) (fun w' _ => rshow_any ⟨vk, vn, vt⟩ w' hv)
  by_cases h8 : K = 8
  · subst h8
    exact vplays_8 vk vn uk un vt ut s _ _ _ _ w (fun w' hb => lit_any s w' hs (hN.below hb)) (fun w' _ => rlit_any s w' hs)
  exact vplays_other K vk vn uk un vt ut s w (by simpa using h1) (by simpa using h2) (by simpa using h3) (by simpa using h4) (by simpa using h5) (by simpa using h6) (by simpa using h7) (by simpa using h8)

/-- A call that stands in a script, at a place. -/
def VOpAt (w : World) (b o : Nat) : Prop := ∃ (K : Int) (v u : Val.V) (s : ByteArray), (w.cell? ⟨b, o, none⟩ = some (.int .i64 K) ∧ w.cell? ⟨b, o + 1, none⟩ = some (.int .i64 v.k) ∧ w.cell? ⟨b, o + 2, none⟩ = some (.int .i64 v.n) ∧ w.cell? ⟨b, o + 3, none⟩ = some (.string v.t) ∧
  w.cell? ⟨b, o + 4, none⟩ = some (.int .i64 u.k) ∧ w.cell? ⟨b, o + 5, none⟩ = some (.int .i64 u.n) ∧ w.cell? ⟨b, o + 6, none⟩ = some (.string u.t) ∧ w.cell? ⟨b, o + 7, none⟩ = some (.string s)) ∧ VB v ∧ VB u ∧ s.size ≤ 140737488351232
set_option maxRecDepth 100000 in
set_option maxHeartbeats 1000000 in
theorem valueAll_walk (a : Option Addr) (len cap : Nat) (w : World) (hlen : len ≤ 140737488351232) (hops : ∀ i, i < len → ∃ b o, a = some ⟨b, o, none⟩ ∧ b < w.heap.size ∧ VOpAt w b (o + i * 8)) (hN : NumW w) :
    Calls Tryd.prog 3 #[.slice a len cap] w fun e w' => e = .returned (.bool true) ∧ Below w.heap.size w w' := by
  have HO := Lib.hid hops
  clear hops
  go_enter Tryd.func3, Tryd.ntmps3
  go_wp2_with (fail)
  refine (begun4 w hN).mono ?_
  rintro e w1 ⟨rfl, hb1⟩
  go_wp2
  go_loopw [3] (fun i wr => ∃ k : Nat, k ≤ len ∧ i = .int .i64 (k : Int) ∧ Below w.heap.size w wr) (fun i _ => len - (intOf i).toNat)
  case atStart => exact ⟨0, Nat.zero_le _, rfl, hb1⟩
  case round =>
    obtain ⟨k, hk, rfl, hb⟩ := hrel
    by_cases hlt : k < len
    · obtain ⟨b, o, rfl, hbl, K, ⟨vk, vn, vt⟩, ⟨uk, un, ut⟩, s, ⟨c0, c1, c2, c3, c4, c5, c6, c7⟩, hv, hu, hs⟩ := HO.out k hlt
      have hN2 := hN.below hb
      replace c0 := (hb.cell (p := ⟨b, o + k * 8, none⟩) hbl).trans c0
      replace c1 := (hb.cell (p := ⟨b, o + k * 8 + 1, none⟩) hbl).trans c1
      replace c2 := (hb.cell (p := ⟨b, o + k * 8 + 2, none⟩) hbl).trans c2
      replace c3 := (hb.cell (p := ⟨b, o + k * 8 + 3, none⟩) hbl).trans c3
      replace c4 := (hb.cell (p := ⟨b, o + k * 8 + 4, none⟩) hbl).trans c4
      replace c5 := (hb.cell (p := ⟨b, o + k * 8 + 5, none⟩) hbl).trans c5
      replace c6 := (hb.cell (p := ⟨b, o + k * 8 + 6, none⟩) hbl).trans c6
      replace c7 := (hb.cell (p := ⟨b, o + k * 8 + 7, none⟩) hbl).trans c7
      have HP := Lib.hid (fun w hN => vplays_any K ⟨vk, vn, vt⟩ ⟨uk, un, ut⟩ s w hv hu hs hN)
      clear hv hu hs
      go_wp2_with (fail)
      refine (HP.out _ hN2).mono ?_
      rintro e w2 ⟨rfl, hb2⟩
      replace hb2 := hb.trans (hb2.mono hb.size)
      clear c0 c1 c2 c3 c4 c5 c6 c7
      go_wp2
      go_roundw
      case rel => exact ⟨k + 1, by omega, by go_num, hb2⟩
      case measure => simp [intOf]; omega
    · obtain rfl : k = len := by omega
      go_wp2
      go_ret
      exact ⟨rfl, hb⟩
end Go.Proofs.YtdbjmjeiaajdiaaDoor
