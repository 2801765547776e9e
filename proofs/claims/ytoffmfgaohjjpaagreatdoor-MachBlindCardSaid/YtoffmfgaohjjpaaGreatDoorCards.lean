/-
  DERIVED. GIVEN WITH THE SEED: THE CARDS: each row of YtoffmfgaohjjpaaGreatDoorRows.lean that lists a variable, with what it lists TIED to the program's text (the seventh form; the later family's looks); each row that meets fmt, with fmt's text TOLD by the authors' own Lean function (tested against real Go, not proved from fmt's source: count such statements apart). THE CARD IS WHAT COUNTS. Prove the row's statement (the work); the ties are given (YtoffmfgaohjjpaaGreatDoorTie.lean); close each card by the builder's one call (the guide's Derived/Test/ToyasCard.lean, 'card_holds'). Laid BY PROGRAM, IN A SANDBOX (cutbox-door.mjs). By AI agents, Wed Nov 11 2026. No macro, syntax, notation, axiom, sorry.
-/
import Derived.Test.YtoffmfgaohjjpaaGreatDoorRows
import GoSem.ClaimSeven
namespace Go.Proofs.YtoffmfgaohjjpaaGreatDoor
namespace Rows

/-- THE TIED CARD OF 'quadrillelaw18.MachBlind'. -/
def machBlindCard : Claim7 := { stood := { row := machBlindRow, standIns := [], harness := (true, "4f281bbb7083f1766c1328afbb7703f693ed5ac4d24db963ce639e88468200ea"), looks := true }, kinds := [], alts := [], laidByText := true, laidKinds := [.data, .data, .data, .data, .sentinel, .sentinel, .pinned, .pinned], laidTests := true, laidLooks := .later }
def MachBlindCardSaid : Prop := Claim7.holds Tryz.pinned (.plain (OpenSpec.ofChange machBlindSpec)) machBlindCard

/-- THE SECOND FORM's CARD OF 'quadrillelaw18.MachBlind'. -/
def machBlindUptoCard : Claim7 := { stood := { row := machBlindUptoRow, standIns := [], harness := (true, "4f281bbb7083f1766c1328afbb7703f693ed5ac4d24db963ce639e88468200ea"), looks := true }, kinds := [], alts := [], laidByText := true, laidKinds := [.data, .data, .data, .data, .sentinel, .sentinel, .pinned, .pinned], laidTests := true, laidLooks := .later }
def MachBlindUptoCardSaid : Prop := Claim7.holds Tryz.pinned (.plain (OpenSpec.upto machBlindSpec)) machBlindUptoCard
end Rows
end Go.Proofs.YtoffmfgaohjjpaaGreatDoor
