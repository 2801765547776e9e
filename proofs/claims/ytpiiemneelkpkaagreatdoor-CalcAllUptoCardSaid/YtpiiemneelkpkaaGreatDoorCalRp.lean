import Derived.Test.YtpiiemneelkpkaaGreatDoorCalRn
set_option maxRecDepth 100000
namespace Go.Proofs.YtpiiemneelkpkaaGreatDoor
open Go.RowKit
set_option linter.unusedVariables false
set_option linter.unusedSimpArgs false
theorem kept_any (g cap n : Nat) (a : Option Addr) (ca : Nat) (v : Nat → Val.V) (w : World) (hc : HCellP w a n v) (hd : HCellP w (some ⟨g, 0, none⟩) n v) (hg : g < w.heap.size) (hm : w.cell? ⟨g, n * 3, none⟩ = some (.int .i64 (-7))) (hcap : n + 1 ≤ cap) (hn : n ≤ 4398046510976) :
  Ret 25 #[.slice (some ⟨g, 0, none⟩) n cap, .slice a n ca] w (.bool true) := by
 have HCell := Lib.hid hc
 have HCopy := Lib.hid hd
 have HMark := Lib.hid hm
 clear hc hd hm
 go_enter Tryz.func25, Tryz.ntmps25
 go_wp2_with (fail)
 go_loopw [5] (fun i wr => ∃ k : Nat, k ≤ n ∧ i = .int .i64 (k : Int) ∧ Below w.heap.size w wr) (fun i _ => n - (intOf i).toNat)
 case atStart => exact ⟨0, Nat.zero_le _, rfl, Below.refl _ _⟩
 case round =>
 obtain ⟨k, hk, rfl, hL⟩ := hrel
 by_cases hlt : k < n
 ·have e1 : IntKind.i64.wrap ((k : Int) + 1) = (k : Int) + 1 := by rw [IntKind.wrap_i64]; omega
  obtain ⟨b, o, rfl, hbl, c0, c1, c2⟩ := HCell.out k hlt
  obtain ⟨b', o', he, -, d0, d1, d2⟩ := HCopy.out k hlt
  cases he
  simp only [Nat.zero_add] at d0 d1 d2
  replace c0 := (hL.cell (p := ⟨b, o + k * 3, none⟩) hbl).trans c0
  replace c1 := (hL.cell (p := ⟨b, o + k * 3 + 1, none⟩) hbl).trans c1
  replace c2 := (hL.cell (p := ⟨b, o + k * 3 + 2, none⟩) hbl).trans c2
  replace d0 := (hL.cell (p := ⟨g, k * 3, none⟩) hg).trans d0
  replace d1 := (hL.cell (p := ⟨g, k * 3 + 1, none⟩) hg).trans d1
  replace d2 := (hL.cell (p := ⟨g, k * 3 + 2, none⟩) hg).trans d2
  generalize v k = vk at *
  obtain ⟨kk, kn, kt⟩ := vk
  have hi : (k : Int) < (n : Int) := by omega
  go_wp2_with (fail)
  go_quiet (fail)
  go_wp2_with (fail)
  go_roundw
  case rel => exact ⟨k + 1, by omega, by go_num, hL.trans ⟨rfl, rfl, rfl, Nat.le_refl _, fun _ _ => rfl⟩⟩
  case measure => simp [intOf]; omega
 ·obtain rfl : k = n := by omega
  have e1 : IntKind.i64.wrap ((k : Int) + 1) = ((k + 1 : Nat) : Int) := by rw [IntKind.wrap_i64]; omega
  have m0 := (hL.cell (p := ⟨g, k * 3, none⟩) hg).trans HMark.out
  have hi : (k : Int) < ((k + 1 : Nat) : Int) := by omega
  go_wp2
  go_ret
  exact ⟨rfl, hL⟩
end Go.Proofs.YtpiiemneelkpkaaGreatDoor
