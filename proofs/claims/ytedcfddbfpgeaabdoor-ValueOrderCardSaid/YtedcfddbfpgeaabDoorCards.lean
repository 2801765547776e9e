/-
  DERIVED. GIVEN WITH THE SEED: THE CARDS: each row of YtedcfddbfpgeaabDoorRows.lean that lists a variable, with what it lists TIED to the program's text (the seventh form; the later family's looks); each row that meets fmt, with fmt's text TOLD by the authors' own Lean function (tested against real Go, not proved from fmt's source: count such statements apart). THE CARD IS WHAT COUNTS. Prove the row's statement (the work); the ties are given (YtedcfddbfpgeaabDoorTie.lean); close each card by the builder's one call (the guide's Derived/Test/ToyasCard.lean, 'card_holds'). Laid BY PROGRAM, IN A SANDBOX (cutbox-door.mjs). By AI agents, Wed Nov 11 2026. No macro, syntax, notation, axiom, sorry.
-/
import Derived.Test.YtedcfddbfpgeaabDoorRows
import GoSem.ClaimSeven
namespace Go.Proofs.YtedcfddbfpgeaabDoor
namespace Rows

/-- THE TIED CARD OF 'quadrillelaw4.ValueAll'. -/
def valueAllCard : Claim7 := { stood := { row := valueAllRow, standIns := [], harness := (true, "f7303a0f50e32f0bef16ec80b3cb7eac881cde2755d6f00420e0e52e5b1b64ed"), looks := true }, kinds := [], alts := [], laidByText := true, laidKinds := [.data, .data, .data, .sentinel, .sentinel], laidTests := true, laidLooks := .later }
def ValueAllCardSaid : Prop := Claim7.holds Tryd.pinned (.plain (OpenSpec.ofChange valueAllSpec)) valueAllCard

/-- THE TIED CARD OF 'quadrillelaw4.ValueShown'. -/
def valueShownCard : Claim7 := { stood := { row := valueShownRow, standIns := [], harness := (true, "f7303a0f50e32f0bef16ec80b3cb7eac881cde2755d6f00420e0e52e5b1b64ed"), looks := true }, kinds := [], alts := [], laidByText := true, laidKinds := [.data, .data, .data, .sentinel, .sentinel], laidTests := true, laidLooks := .later }
def ValueShownCardSaid : Prop := Claim7.holds Tryd.pinned (.plain (OpenSpec.ofChange valueShownSpec)) valueShownCard

/-- THE TIED CARD OF 'quadrillelaw4.ValueKinds'. -/
def valueKindsCard : Claim7 := { stood := { row := valueKindsRow, standIns := [], harness := (true, "f7303a0f50e32f0bef16ec80b3cb7eac881cde2755d6f00420e0e52e5b1b64ed"), looks := true }, kinds := [], alts := [], laidByText := true, laidKinds := [.data, .data, .data, .sentinel, .sentinel], laidTests := true, laidLooks := .later }
def ValueKindsCardSaid : Prop := Claim7.holds Tryd.pinned (.plain (OpenSpec.ofChange valueKindsSpec)) valueKindsCard

/-- THE TIED CARD OF 'quadrillelaw4.ValueOrder'. -/
def valueOrderCard : Claim7 := { stood := { row := valueOrderRow, standIns := [], harness := (true, "f7303a0f50e32f0bef16ec80b3cb7eac881cde2755d6f00420e0e52e5b1b64ed"), looks := true }, kinds := [], alts := [], laidByText := true, laidKinds := [.data, .data, .data, .sentinel, .sentinel], laidTests := true, laidLooks := .later }
def ValueOrderCardSaid : Prop := Claim7.holds Tryd.pinned (.plain (OpenSpec.ofChange valueOrderSpec)) valueOrderCard

/-- THE TIED CARD OF 'quadrillelaw5.RunesAll'. -/
def runesAllCard : Claim7 := { stood := { row := runesAllRow, standIns := [], harness := (true, "f7303a0f50e32f0bef16ec80b3cb7eac881cde2755d6f00420e0e52e5b1b64ed"), looks := true }, kinds := [], alts := [], laidByText := true, laidKinds := [.data, .pinned], laidTests := true, laidLooks := .later }
def RunesAllCardSaid : Prop := Claim7.holds Tryd.pinned (.plain (OpenSpec.ofChange runesAllSpec)) runesAllCard

/-- THE SECOND FORM's CARD OF 'quadrillelaw4.ValueAll'. -/
def valueAllUptoCard : Claim7 := { stood := { row := valueAllUptoRow, standIns := [], harness := (true, "f7303a0f50e32f0bef16ec80b3cb7eac881cde2755d6f00420e0e52e5b1b64ed"), looks := true }, kinds := [], alts := [], laidByText := true, laidKinds := [.data, .data, .data, .sentinel, .sentinel], laidTests := true, laidLooks := .later }
def ValueAllUptoCardSaid : Prop := Claim7.holds Tryd.pinned (.plain (OpenSpec.upto valueAllSpec)) valueAllUptoCard

/-- THE SECOND FORM's CARD OF 'quadrillelaw4.ValueShown'. -/
def valueShownUptoCard : Claim7 := { stood := { row := valueShownUptoRow, standIns := [], harness := (true, "f7303a0f50e32f0bef16ec80b3cb7eac881cde2755d6f00420e0e52e5b1b64ed"), looks := true }, kinds := [], alts := [], laidByText := true, laidKinds := [.data, .data, .data, .sentinel, .sentinel], laidTests := true, laidLooks := .later }
def ValueShownUptoCardSaid : Prop := Claim7.holds Tryd.pinned (.plain (OpenSpec.upto valueShownSpec)) valueShownUptoCard

/-- THE SECOND FORM's CARD OF 'quadrillelaw4.ValueKinds'. -/
def valueKindsUptoCard : Claim7 := { stood := { row := valueKindsUptoRow, standIns := [], harness := (true, "f7303a0f50e32f0bef16ec80b3cb7eac881cde2755d6f00420e0e52e5b1b64ed"), looks := true }, kinds := [], alts := [], laidByText := true, laidKinds := [.data, .data, .data, .sentinel, .sentinel], laidTests := true, laidLooks := .later }
def ValueKindsUptoCardSaid : Prop := Claim7.holds Tryd.pinned (.plain (OpenSpec.upto valueKindsSpec)) valueKindsUptoCard

/-- THE SECOND FORM's CARD OF 'quadrillelaw4.ValueOrder'. -/
def valueOrderUptoCard : Claim7 := { stood := { row := valueOrderUptoRow, standIns := [], harness := (true, "f7303a0f50e32f0bef16ec80b3cb7eac881cde2755d6f00420e0e52e5b1b64ed"), looks := true }, kinds := [], alts := [], laidByText := true, laidKinds := [.data, .data, .data, .sentinel, .sentinel], laidTests := true, laidLooks := .later }
def ValueOrderUptoCardSaid : Prop := Claim7.holds Tryd.pinned (.plain (OpenSpec.upto valueOrderSpec)) valueOrderUptoCard

/-- THE SECOND FORM's CARD OF 'quadrillelaw5.RunesAll'. -/
def runesAllUptoCard : Claim7 := { stood := { row := runesAllUptoRow, standIns := [], harness := (true, "f7303a0f50e32f0bef16ec80b3cb7eac881cde2755d6f00420e0e52e5b1b64ed"), looks := true }, kinds := [], alts := [], laidByText := true, laidKinds := [.data, .pinned], laidTests := true, laidLooks := .later }
def RunesAllUptoCardSaid : Prop := Claim7.holds Tryd.pinned (.plain (OpenSpec.upto runesAllSpec)) runesAllUptoCard
end Rows
end Go.Proofs.YtedcfddbfpgeaabDoor
