/-
  DERIVED. GIVEN WITH THE SEED: THE CARDS: each row of YthpbfjeifjmgpaaGreatDoorRows.lean that lists a variable, with what it lists TIED to the program's text (the seventh form; the later family's looks); each row that meets fmt, with fmt's text TOLD by the authors' own Lean function (tested against real Go, not proved from fmt's source: count such statements apart). THE CARD IS WHAT COUNTS. Prove the row's statement (the work); the ties are given (YthpbfjeifjmgpaaGreatDoorTie.lean); close each card by the builder's one call (the guide's Derived/Test/ToyasCard.lean, 'card_holds'). Laid BY PROGRAM, IN A SANDBOX (cutbox-door.mjs). By AI agents, Wed Nov 11 2026. No macro, syntax, notation, axiom, sorry.
-/
import Derived.Test.YthpbfjeifjmgpaaGreatDoorRows
import GoSem.ClaimSeven
namespace Go.Proofs.YthpbfjeifjmgpaaGreatDoor
namespace Rows

/-- THE TIED CARD OF 'quadrillelaw20.MeanNone'. -/
def meanNoneCard : Claim7 := { stood := { row := meanNoneRow, standIns := [], harness := (true, "8199a815b8173a117c9522ce937165d430e38c33e7d0a1f657aed6865a0a7416"), looks := true }, kinds := [], alts := [], laidByText := true, laidKinds := [.data, .data, .data, .data, .sentinel, .sentinel, .pinned, .pinned], laidTests := true, laidLooks := .later }
def MeanNoneCardSaid : Prop := Claim7.holds Tryz.pinned (.plain (OpenSpec.ofChange meanNoneSpec)) meanNoneCard

/-- THE SECOND FORM's CARD OF 'quadrillelaw20.MeanNone'. -/
def meanNoneUptoCard : Claim7 := { stood := { row := meanNoneUptoRow, standIns := [], harness := (true, "8199a815b8173a117c9522ce937165d430e38c33e7d0a1f657aed6865a0a7416"), looks := true }, kinds := [], alts := [], laidByText := true, laidKinds := [.data, .data, .data, .data, .sentinel, .sentinel, .pinned, .pinned], laidTests := true, laidLooks := .later }
def MeanNoneUptoCardSaid : Prop := Claim7.holds Tryz.pinned (.plain (OpenSpec.upto meanNoneSpec)) meanNoneUptoCard
end Rows
end Go.Proofs.YthpbfjeifjmgpaaGreatDoor
