import Derived.Test.YtpiiemneelkpkaaGreatDoorCalRm
set_option maxRecDepth 100000
namespace Go.Proofs.YtpiiemneelkpkaaGreatDoor
open Go.RowKit
set_option linter.unusedVariables false
set_option linter.unusedSimpArgs false
abbrev opv (kd f : Int) (a : Option Addr) (n cap : Nat) (x y : Val.V) : Value := .agg #[.int .i64 kd, .int .i64 f, .slice a n cap, .int .i64 x.k, .int .i64 x.n, .string x.t, .int .i64 y.k, .int .i64 y.n, .string y.t]
theorem opsize_any (kd f : Int) (a : Option Addr) (n cap : Nat) (x y : Val.V) (v : Nat → Val.V) (w : World) (hc : HCellP w a n v) (hn : n ≤ 140737488351232) :
  Calls Tryz.prog 9 #[opv kd f a n cap x y] w fun e w' => (∃ z : Int, e = .returned (.int .i64 z)) ∧ Below w.heap.size w w' := by
 obtain ⟨xk, xn, xt⟩ := x
 obtain ⟨yk, yn, yt⟩ := y
 have hb : Below w.heap.size w (w.alloc (Obj.cells #[.int .i64 kd, .int .i64 f, .slice a n cap, .int .i64 xk, .int .i64 xn, .string xt, .int .i64 yk, .int .i64 yn, .string yt] 28)) := (Below.refl _ _).alloc (Nat.le_refl _) _
 have kx : (w.alloc (Obj.cells #[.int .i64 kd, .int .i64 f, .slice a n cap, .int .i64 xk, .int .i64 xn, .string xt, .int .i64 yk, .int .i64 yn, .string yt] 28)).heap[w.heap.size]? = some (.cells #[.int .i64 kd, .int .i64 f, .slice a n cap, .int .i64 xk, .int .i64 xn, .string xt, .int .i64 yk, .int .i64 yn, .string yt] 28 (0, 0)) := heap_alloc_new _ _
 have x2 := ch kx 2
 have x5 := ch kx 5
 have x8 := ch kx 8
 simp only [List.getElem?_toArray] at x2 x5 x8
 have HCell := Lib.hid (fun k hk => hc.below rfl hb k hk)
 clear hc
 go_enter Tryz.func9, Tryz.ntmps9
 go_wp2_with (fail)
 generalize (w.alloc (Obj.cells #[.int .i64 kd, .int .i64 f, .slice a n cap, .int .i64 xk, .int .i64 xn, .string xt, .int .i64 yk, .int .i64 yn, .string yt] 28)) = W1 at *
 go_loopw [3, 4] (fun s i wr => ∃ (k : Nat) (z : Int), k ≤ n ∧ s = .int .i64 z ∧ i = .int .i64 (k : Int) ∧ wr = W1) (fun _ i _ => n - (intOf i).toNat)
 case atStart => exact ⟨0, _, Nat.zero_le _, rfl, rfl, by first | trivial | rfl⟩
 case round =>
 obtain ⟨k, z, hk, rfl, rfl, rfl⟩ := hrel
 have e1 : IntKind.i64.wrap ((k : Int) + 1) = (k : Int) + 1 := by rw [IntKind.wrap_i64]; omega
 by_cases hlt : k < n
 ·obtain ⟨b, o, rfl, hbl, c0, c1, c2⟩ := HCell.out k hlt
  go_wp2_with (fail)
  go_roundw
  case rel => exact ⟨k + 1, _, by omega, rfl, by go_num, by first | trivial | rfl⟩
  case measure => simp [intOf]; omega
 ·obtain rfl : k = n := by omega
  go_wp2_with (fail)
  go_ret
  exact ⟨⟨_, rfl⟩, hb⟩
end Go.Proofs.YtpiiemneelkpkaaGreatDoor
