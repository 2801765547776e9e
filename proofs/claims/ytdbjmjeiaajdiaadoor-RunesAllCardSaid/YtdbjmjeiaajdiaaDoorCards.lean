/-
  DERIVED. GIVEN WITH THE SEED: THE CARDS: each row of YtdbjmjeiaajdiaaDoorRows.lean that lists a variable, with what it lists TIED to the program's text (the seventh form; the later family's looks); each row that meets fmt, with fmt's text TOLD by the authors' own Lean function (tested against real Go, not proved from fmt's source: count such statements apart). THE CARD IS WHAT COUNTS. Prove the row's statement (the work); the ties are given (YtdbjmjeiaajdiaaDoorTie.lean); close each card by the builder's one call (the guide's Derived/Test/ToyasCard.lean, 'card_holds'). Laid BY PROGRAM, IN A SANDBOX (cutbox-door.mjs). By AI agents, Wed Nov 11 2026. No macro, syntax, notation, axiom, sorry.
-/
import Derived.Test.YtdbjmjeiaajdiaaDoorRows
import GoSem.ClaimSeven
namespace Go.Proofs.YtdbjmjeiaajdiaaDoor
namespace Rows

/-- THE TIED CARD OF 'quadrillelaw4.ValueAll'. -/
def valueAllCard : Claim7 := { stood := { row := valueAllRow, standIns := [], harness := (true, "498dc03e52ba1774b99a6a11c3b71c2972dd454628515a6449f6b8da0291e221"), looks := true }, kinds := [], alts := [], laidByText := true, laidKinds := [.data, .data, .data, .sentinel, .sentinel], laidTests := true, laidLooks := .later }
def ValueAllCardSaid : Prop := Claim7.holds Tryd.pinned (.plain (OpenSpec.ofChange valueAllSpec)) valueAllCard

/-- THE TIED CARD OF 'quadrillelaw4.ValueShown'. -/
def valueShownCard : Claim7 := { stood := { row := valueShownRow, standIns := [], harness := (true, "498dc03e52ba1774b99a6a11c3b71c2972dd454628515a6449f6b8da0291e221"), looks := true }, kinds := [], alts := [], laidByText := true, laidKinds := [.data, .data, .data, .sentinel, .sentinel], laidTests := true, laidLooks := .later }
def ValueShownCardSaid : Prop := Claim7.holds Tryd.pinned (.plain (OpenSpec.ofChange valueShownSpec)) valueShownCard

/-- THE TIED CARD OF 'quadrillelaw5.RunesAll'. -/
def runesAllCard : Claim7 := { stood := { row := runesAllRow, standIns := [], harness := (true, "498dc03e52ba1774b99a6a11c3b71c2972dd454628515a6449f6b8da0291e221"), looks := true }, kinds := [], alts := [], laidByText := true, laidKinds := [.data, .pinned], laidTests := true, laidLooks := .later }
def RunesAllCardSaid : Prop := Claim7.holds Tryd.pinned (.plain (OpenSpec.ofChange runesAllSpec)) runesAllCard

/-- THE SECOND FORM's CARD OF 'quadrillelaw4.ValueAll'. -/
def valueAllUptoCard : Claim7 := { stood := { row := valueAllUptoRow, standIns := [], harness := (true, "498dc03e52ba1774b99a6a11c3b71c2972dd454628515a6449f6b8da0291e221"), looks := true }, kinds := [], alts := [], laidByText := true, laidKinds := [.data, .data, .data, .sentinel, .sentinel], laidTests := true, laidLooks := .later }
def ValueAllUptoCardSaid : Prop := Claim7.holds Tryd.pinned (.plain (OpenSpec.upto valueAllSpec)) valueAllUptoCard

/-- THE SECOND FORM's CARD OF 'quadrillelaw4.ValueShown'. -/
def valueShownUptoCard : Claim7 := { stood := { row := valueShownUptoRow, standIns := [], harness := (true, "498dc03e52ba1774b99a6a11c3b71c2972dd454628515a6449f6b8da0291e221"), looks := true }, kinds := [], alts := [], laidByText := true, laidKinds := [.data, .data, .data, .sentinel, .sentinel], laidTests := true, laidLooks := .later }
def ValueShownUptoCardSaid : Prop := Claim7.holds Tryd.pinned (.plain (OpenSpec.upto valueShownSpec)) valueShownUptoCard

/-- THE SECOND FORM's CARD OF 'quadrillelaw5.RunesAll'. -/
def runesAllUptoCard : Claim7 := { stood := { row := runesAllUptoRow, standIns := [], harness := (true, "498dc03e52ba1774b99a6a11c3b71c2972dd454628515a6449f6b8da0291e221"), looks := true }, kinds := [], alts := [], laidByText := true, laidKinds := [.data, .pinned], laidTests := true, laidLooks := .later }
def RunesAllUptoCardSaid : Prop := Claim7.holds Tryd.pinned (.plain (OpenSpec.upto runesAllSpec)) runesAllUptoCard
end Rows
end Go.Proofs.YtdbjmjeiaajdiaaDoor
