import Derived.Test.YtpiiemneelkpkaaGreatDoorCalRs
namespace Go.Proofs.YtpiiemneelkpkaaGreatDoor
open Go.RowKit
theorem calcAll14 (a : Option Addr) (l cap : Nat) (d : Nat → OpD) (w : World) (hl : l ≤ 4398046510976) (HC : OCellP w a l d) (hN : NumW w) (hT : TxtW w) :
  Ret 3 #[.slice a l cap] w (.bool true) :=
 calcAll_walk a l cap d w (Lib.hid HC) hl hN hT (Lib.hid fun u hu => begun14 u (hN.below hu) (hT.below rfl hu))
end Go.Proofs.YtpiiemneelkpkaaGreatDoor
