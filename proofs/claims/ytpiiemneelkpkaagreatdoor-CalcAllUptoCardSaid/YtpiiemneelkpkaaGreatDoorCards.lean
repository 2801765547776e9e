/-
  DERIVED. GIVEN WITH THE SEED: THE CARDS: each row of YtpiiemneelkpkaaGreatDoorRows.lean that lists a variable, with what it lists TIED to the program's text (the seventh form; the later family's looks); each row that meets fmt, with fmt's text TOLD by the authors' own Lean function (tested against real Go, not proved from fmt's source: count such statements apart). THE CARD IS WHAT COUNTS. Prove the row's statement (the work); the ties are given (YtpiiemneelkpkaaGreatDoorTie.lean); close each card by the builder's one call (the guide's Derived/Test/ToyasCard.lean, 'card_holds'). Laid BY PROGRAM, IN A SANDBOX (cutbox-door.mjs). By AI agents, Wed Nov 11 2026. No macro, syntax, notation, axiom, sorry.
-/
import Derived.Test.YtpiiemneelkpkaaGreatDoorRows
import GoSem.ClaimSeven
namespace Go.Proofs.YtpiiemneelkpkaaGreatDoor
namespace Rows

/-- THE TIED CARD OF 'quadrillelaw14.CalcAll'. -/
def calcAllCard : Claim7 := { stood := { row := calcAllRow, standIns := [], harness := (true, "98e07fe56bc50102d2557760569a32c224d1563a197a9c5127f82be78ddf4497"), looks := true }, kinds := [], alts := [], laidByText := true, laidKinds := [.data, .data, .data, .data, .sentinel, .sentinel, .pinned], laidTests := true, laidLooks := .later }
def CalcAllCardSaid : Prop := Claim7.holds Tryz.pinned (.plain (OpenSpec.ofChange calcAllSpec)) calcAllCard

/-- THE TIED CARD OF 'quadrillelaw14.CalcDivides'. -/
def calcDividesCard : Claim7 := { stood := { row := calcDividesRow, standIns := [], harness := (true, "98e07fe56bc50102d2557760569a32c224d1563a197a9c5127f82be78ddf4497"), looks := true }, kinds := [], alts := [], laidByText := true, laidKinds := [.data, .data, .data, .data, .sentinel, .sentinel, .pinned], laidTests := true, laidLooks := .later }
def CalcDividesCardSaid : Prop := Claim7.holds Tryz.pinned (.plain (OpenSpec.ofChange calcDividesSpec)) calcDividesCard

/-- THE TIED CARD OF 'quadrillelaw14.CalcErrors'. -/
def calcErrorsCard : Claim7 := { stood := { row := calcErrorsRow, standIns := [], harness := (true, "98e07fe56bc50102d2557760569a32c224d1563a197a9c5127f82be78ddf4497"), looks := true }, kinds := [], alts := [], laidByText := true, laidKinds := [.data, .data, .data, .data, .sentinel, .sentinel, .pinned], laidTests := true, laidLooks := .later }
def CalcErrorsCardSaid : Prop := Claim7.holds Tryz.pinned (.plain (OpenSpec.ofChange calcErrorsSpec)) calcErrorsCard

/-- THE TIED CARD OF 'quadrillelaw14.CalcTexts'. -/
def calcTextsCard : Claim7 := { stood := { row := calcTextsRow, standIns := [], harness := (true, "98e07fe56bc50102d2557760569a32c224d1563a197a9c5127f82be78ddf4497"), looks := true }, kinds := [], alts := [], laidByText := true, laidKinds := [.data, .data, .data, .data, .sentinel, .sentinel, .pinned], laidTests := true, laidLooks := .later }
def CalcTextsCardSaid : Prop := Claim7.holds Tryz.pinned (.plain (OpenSpec.ofChange calcTextsSpec)) calcTextsCard

/-- THE TIED CARD OF 'quadrillelaw14.CalcOrder'. -/
def calcOrderCard : Claim7 := { stood := { row := calcOrderRow, standIns := [], harness := (true, "98e07fe56bc50102d2557760569a32c224d1563a197a9c5127f82be78ddf4497"), looks := true }, kinds := [], alts := [], laidByText := true, laidKinds := [.data, .data, .data, .data, .sentinel, .sentinel, .pinned], laidTests := true, laidLooks := .later }
def CalcOrderCardSaid : Prop := Claim7.holds Tryz.pinned (.plain (OpenSpec.ofChange calcOrderSpec)) calcOrderCard

/-- THE SECOND FORM's CARD OF 'quadrillelaw14.CalcAll'. -/
def calcAllUptoCard : Claim7 := { stood := { row := calcAllUptoRow, standIns := [], harness := (true, "98e07fe56bc50102d2557760569a32c224d1563a197a9c5127f82be78ddf4497"), looks := true }, kinds := [], alts := [], laidByText := true, laidKinds := [.data, .data, .data, .data, .sentinel, .sentinel, .pinned], laidTests := true, laidLooks := .later }
def CalcAllUptoCardSaid : Prop := Claim7.holds Tryz.pinned (.plain (OpenSpec.upto calcAllSpec)) calcAllUptoCard

/-- THE SECOND FORM's CARD OF 'quadrillelaw14.CalcDivides'. -/
def calcDividesUptoCard : Claim7 := { stood := { row := calcDividesUptoRow, standIns := [], harness := (true, "98e07fe56bc50102d2557760569a32c224d1563a197a9c5127f82be78ddf4497"), looks := true }, kinds := [], alts := [], laidByText := true, laidKinds := [.data, .data, .data, .data, .sentinel, .sentinel, .pinned], laidTests := true, laidLooks := .later }
def CalcDividesUptoCardSaid : Prop := Claim7.holds Tryz.pinned (.plain (OpenSpec.upto calcDividesSpec)) calcDividesUptoCard

/-- THE SECOND FORM's CARD OF 'quadrillelaw14.CalcErrors'. -/
def calcErrorsUptoCard : Claim7 := { stood := { row := calcErrorsUptoRow, standIns := [], harness := (true, "98e07fe56bc50102d2557760569a32c224d1563a197a9c5127f82be78ddf4497"), looks := true }, kinds := [], alts := [], laidByText := true, laidKinds := [.data, .data, .data, .data, .sentinel, .sentinel, .pinned], laidTests := true, laidLooks := .later }
def CalcErrorsUptoCardSaid : Prop := Claim7.holds Tryz.pinned (.plain (OpenSpec.upto calcErrorsSpec)) calcErrorsUptoCard

/-- THE SECOND FORM's CARD OF 'quadrillelaw14.CalcTexts'. -/
def calcTextsUptoCard : Claim7 := { stood := { row := calcTextsUptoRow, standIns := [], harness := (true, "98e07fe56bc50102d2557760569a32c224d1563a197a9c5127f82be78ddf4497"), looks := true }, kinds := [], alts := [], laidByText := true, laidKinds := [.data, .data, .data, .data, .sentinel, .sentinel, .pinned], laidTests := true, laidLooks := .later }
def CalcTextsUptoCardSaid : Prop := Claim7.holds Tryz.pinned (.plain (OpenSpec.upto calcTextsSpec)) calcTextsUptoCard

/-- THE SECOND FORM's CARD OF 'quadrillelaw14.CalcOrder'. -/
def calcOrderUptoCard : Claim7 := { stood := { row := calcOrderUptoRow, standIns := [], harness := (true, "98e07fe56bc50102d2557760569a32c224d1563a197a9c5127f82be78ddf4497"), looks := true }, kinds := [], alts := [], laidByText := true, laidKinds := [.data, .data, .data, .data, .sentinel, .sentinel, .pinned], laidTests := true, laidLooks := .later }
def CalcOrderUptoCardSaid : Prop := Claim7.holds Tryz.pinned (.plain (OpenSpec.upto calcOrderSpec)) calcOrderUptoCard
end Rows
end Go.Proofs.YtpiiemneelkpkaaGreatDoor
