/-
  DERIVED. GIVEN WITH THE SEED: THE CARDS: each row of YtedcfddbfpgeaaaDoorRows.lean that lists a variable, with what it lists TIED to the program's text (the seventh form; the later family's looks); each row that meets fmt, with fmt's text TOLD by the authors' own Lean function (tested against real Go, not proved from fmt's source: count such statements apart). THE CARD IS WHAT COUNTS. Prove the row's statement (the work); the ties are given (YtedcfddbfpgeaaaDoorTie.lean); close each card by the builder's one call (the guide's Derived/Test/ToyasCard.lean, 'card_holds'). Laid BY PROGRAM, IN A SANDBOX (cutbox-door.mjs). By AI agents, Wed Nov 11 2026. No macro, syntax, notation, axiom, sorry.
-/
import Derived.Test.YtedcfddbfpgeaaaDoorRows
import GoSem.ClaimSeven
namespace Go.Proofs.YtedcfddbfpgeaaaDoor
namespace Rows

/-- THE TIED CARD OF 'quadrillelaw5.RunesNumbers'. -/
def runesNumbersCard : Claim7 := { stood := { row := runesNumbersRow, standIns := [], harness := (true, "bf8111d467b59dd16596c330e2f513be6d5e40e941cc4f5a2bb4a627140eb105"), looks := true }, kinds := [], alts := [], laidByText := true, laidKinds := [.data, .pinned], laidTests := true, laidLooks := .later }
def RunesNumbersCardSaid : Prop := Claim7.holds Tryd.pinned (.plain (OpenSpec.ofChange runesNumbersSpec)) runesNumbersCard

/-- THE TIED CARD OF 'quadrillelaw5.RunesFound'. -/
def runesFoundCard : Claim7 := { stood := { row := runesFoundRow, standIns := [], harness := (true, "bf8111d467b59dd16596c330e2f513be6d5e40e941cc4f5a2bb4a627140eb105"), looks := true }, kinds := [], alts := [], laidByText := true, laidKinds := [.data, .pinned], laidTests := true, laidLooks := .later }
def RunesFoundCardSaid : Prop := Claim7.holds Tryd.pinned (.plain (OpenSpec.ofChange runesFoundSpec)) runesFoundCard

/-- THE TIED CARD OF 'quadrillelaw5.RunesHalves'. -/
def runesHalvesCard : Claim7 := { stood := { row := runesHalvesRow, standIns := [], harness := (true, "bf8111d467b59dd16596c330e2f513be6d5e40e941cc4f5a2bb4a627140eb105"), looks := true }, kinds := [], alts := [], laidByText := true, laidKinds := [.data, .pinned], laidTests := true, laidLooks := .later }
def RunesHalvesCardSaid : Prop := Claim7.holds Tryd.pinned (.plain (OpenSpec.ofChange runesHalvesSpec)) runesHalvesCard

/-- THE TIED CARD OF 'quadrillelaw5.RunesTimes'. -/
def runesTimesCard : Claim7 := { stood := { row := runesTimesRow, standIns := [], harness := (true, "bf8111d467b59dd16596c330e2f513be6d5e40e941cc4f5a2bb4a627140eb105"), looks := true }, kinds := [], alts := [], laidByText := true, laidKinds := [.data, .pinned], laidTests := true, laidLooks := .later }
def RunesTimesCardSaid : Prop := Claim7.holds Tryd.pinned (.plain (OpenSpec.ofChange runesTimesSpec)) runesTimesCard

/-- THE TIED CARD OF 'quadrillelaw5.RunesTrimmed'. -/
def runesTrimmedCard : Claim7 := { stood := { row := runesTrimmedRow, standIns := [], harness := (true, "bf8111d467b59dd16596c330e2f513be6d5e40e941cc4f5a2bb4a627140eb105"), looks := true }, kinds := [], alts := [], laidByText := true, laidKinds := [.data, .pinned], laidTests := true, laidLooks := .later }
def RunesTrimmedCardSaid : Prop := Claim7.holds Tryd.pinned (.plain (OpenSpec.ofChange runesTrimmedSpec)) runesTrimmedCard

/-- THE TIED CARD OF 'quadrillelaw1.NumDivides'. -/
def numDividesCard : Claim7 := { stood := { row := numDividesRow, standIns := [], harness := (true, "bf8111d467b59dd16596c330e2f513be6d5e40e941cc4f5a2bb4a627140eb105"), looks := true }, kinds := [], alts := [], laidByText := true, laidKinds := [.data, .data, .data, .sentinel, .sentinel], laidTests := true, laidLooks := .later }
def NumDividesCardSaid : Prop := Claim7.holds Tryd.pinned (.plain (OpenSpec.ofChange numDividesSpec)) numDividesCard

/-- THE TIED CARD OF 'quadrillelaw1.NumText'. -/
def numTextCard : Claim7 := { stood := { row := numTextRow, standIns := [], harness := (true, "bf8111d467b59dd16596c330e2f513be6d5e40e941cc4f5a2bb4a627140eb105"), looks := true }, kinds := [], alts := [], laidByText := true, laidKinds := [.data, .data, .data, .sentinel, .sentinel], laidTests := true, laidLooks := .later }
def NumTextCardSaid : Prop := Claim7.holds Tryd.pinned (.plain (OpenSpec.ofChange numTextSpec)) numTextCard

/-- THE TIED CARD OF 'quadrillelaw1.NumSmall'. -/
def numSmallCard : Claim7 := { stood := { row := numSmallRow, standIns := [], harness := (true, "bf8111d467b59dd16596c330e2f513be6d5e40e941cc4f5a2bb4a627140eb105"), looks := true }, kinds := [], alts := [], laidByText := true, laidKinds := [.data, .data, .data, .sentinel, .sentinel], laidTests := true, laidLooks := .later }
def NumSmallCardSaid : Prop := Claim7.holds Tryd.pinned (.plain (OpenSpec.ofChange numSmallSpec)) numSmallCard

/-- THE TIED CARD OF 'quadrillelaw1.NumNamed'. -/
def numNamedCard : Claim7 := { stood := { row := numNamedRow, standIns := [], harness := (true, "bf8111d467b59dd16596c330e2f513be6d5e40e941cc4f5a2bb4a627140eb105"), looks := true }, kinds := [], alts := [], laidByText := true, laidKinds := [.data, .data, .data, .sentinel, .sentinel], laidTests := true, laidLooks := .later }
def NumNamedCardSaid : Prop := Claim7.holds Tryd.pinned (.plain (OpenSpec.ofChange numNamedSpec)) numNamedCard

/-- THE TIED CARD OF 'quadrillelaw1.NumPowers'. -/
def numPowersCard : Claim7 := { stood := { row := numPowersRow, standIns := [], harness := (true, "bf8111d467b59dd16596c330e2f513be6d5e40e941cc4f5a2bb4a627140eb105"), looks := true }, kinds := [], alts := [], laidByText := true, laidKinds := [.data, .data, .data, .sentinel, .sentinel], laidTests := true, laidLooks := .later }
def NumPowersCardSaid : Prop := Claim7.holds Tryd.pinned (.plain (OpenSpec.ofChange numPowersSpec)) numPowersCard

/-- THE TIED CARD OF 'quadrillelaw1.NumCommon'. -/
def numCommonCard : Claim7 := { stood := { row := numCommonRow, standIns := [], harness := (true, "bf8111d467b59dd16596c330e2f513be6d5e40e941cc4f5a2bb4a627140eb105"), looks := true }, kinds := [], alts := [], laidByText := true, laidKinds := [.data, .data, .data, .sentinel, .sentinel], laidTests := true, laidLooks := .later }
def NumCommonCardSaid : Prop := Claim7.holds Tryd.pinned (.plain (OpenSpec.ofChange numCommonSpec)) numCommonCard

/-- THE TIED CARD OF 'quadrillelaw1.NumAll'. -/
def numAllCard : Claim7 := { stood := { row := numAllRow, standIns := [], harness := (true, "bf8111d467b59dd16596c330e2f513be6d5e40e941cc4f5a2bb4a627140eb105"), looks := true }, kinds := [], alts := [], laidByText := true, laidKinds := [.data, .data, .data, .sentinel, .sentinel], laidTests := true, laidLooks := .later }
def NumAllCardSaid : Prop := Claim7.holds Tryd.pinned (.plain (OpenSpec.ofChange numAllSpec)) numAllCard

/-- THE SECOND FORM's CARD OF 'quadrillelaw5.RunesNumbers'. -/
def runesNumbersUptoCard : Claim7 := { stood := { row := runesNumbersUptoRow, standIns := [], harness := (true, "bf8111d467b59dd16596c330e2f513be6d5e40e941cc4f5a2bb4a627140eb105"), looks := true }, kinds := [], alts := [], laidByText := true, laidKinds := [.data, .pinned], laidTests := true, laidLooks := .later }
def RunesNumbersUptoCardSaid : Prop := Claim7.holds Tryd.pinned (.plain (OpenSpec.upto runesNumbersSpec)) runesNumbersUptoCard

/-- THE SECOND FORM's CARD OF 'quadrillelaw5.RunesFound'. -/
def runesFoundUptoCard : Claim7 := { stood := { row := runesFoundUptoRow, standIns := [], harness := (true, "bf8111d467b59dd16596c330e2f513be6d5e40e941cc4f5a2bb4a627140eb105"), looks := true }, kinds := [], alts := [], laidByText := true, laidKinds := [.data, .pinned], laidTests := true, laidLooks := .later }
def RunesFoundUptoCardSaid : Prop := Claim7.holds Tryd.pinned (.plain (OpenSpec.upto runesFoundSpec)) runesFoundUptoCard

/-- THE SECOND FORM's CARD OF 'quadrillelaw5.RunesHalves'. -/
def runesHalvesUptoCard : Claim7 := { stood := { row := runesHalvesUptoRow, standIns := [], harness := (true, "bf8111d467b59dd16596c330e2f513be6d5e40e941cc4f5a2bb4a627140eb105"), looks := true }, kinds := [], alts := [], laidByText := true, laidKinds := [.data, .pinned], laidTests := true, laidLooks := .later }
def RunesHalvesUptoCardSaid : Prop := Claim7.holds Tryd.pinned (.plain (OpenSpec.upto runesHalvesSpec)) runesHalvesUptoCard

/-- THE SECOND FORM's CARD OF 'quadrillelaw5.RunesTimes'. -/
def runesTimesUptoCard : Claim7 := { stood := { row := runesTimesUptoRow, standIns := [], harness := (true, "bf8111d467b59dd16596c330e2f513be6d5e40e941cc4f5a2bb4a627140eb105"), looks := true }, kinds := [], alts := [], laidByText := true, laidKinds := [.data, .pinned], laidTests := true, laidLooks := .later }
def RunesTimesUptoCardSaid : Prop := Claim7.holds Tryd.pinned (.plain (OpenSpec.upto runesTimesSpec)) runesTimesUptoCard

/-- THE SECOND FORM's CARD OF 'quadrillelaw5.RunesTrimmed'. -/
def runesTrimmedUptoCard : Claim7 := { stood := { row := runesTrimmedUptoRow, standIns := [], harness := (true, "bf8111d467b59dd16596c330e2f513be6d5e40e941cc4f5a2bb4a627140eb105"), looks := true }, kinds := [], alts := [], laidByText := true, laidKinds := [.data, .pinned], laidTests := true, laidLooks := .later }
def RunesTrimmedUptoCardSaid : Prop := Claim7.holds Tryd.pinned (.plain (OpenSpec.upto runesTrimmedSpec)) runesTrimmedUptoCard

/-- THE SECOND FORM's CARD OF 'quadrillelaw1.NumDivides'. -/
def numDividesUptoCard : Claim7 := { stood := { row := numDividesUptoRow, standIns := [], harness := (true, "bf8111d467b59dd16596c330e2f513be6d5e40e941cc4f5a2bb4a627140eb105"), looks := true }, kinds := [], alts := [], laidByText := true, laidKinds := [.data, .data, .data, .sentinel, .sentinel], laidTests := true, laidLooks := .later }
def NumDividesUptoCardSaid : Prop := Claim7.holds Tryd.pinned (.plain (OpenSpec.upto numDividesSpec)) numDividesUptoCard

/-- THE SECOND FORM's CARD OF 'quadrillelaw1.NumText'. -/
def numTextUptoCard : Claim7 := { stood := { row := numTextUptoRow, standIns := [], harness := (true, "bf8111d467b59dd16596c330e2f513be6d5e40e941cc4f5a2bb4a627140eb105"), looks := true }, kinds := [], alts := [], laidByText := true, laidKinds := [.data, .data, .data, .sentinel, .sentinel], laidTests := true, laidLooks := .later }
def NumTextUptoCardSaid : Prop := Claim7.holds Tryd.pinned (.plain (OpenSpec.upto numTextSpec)) numTextUptoCard

/-- THE SECOND FORM's CARD OF 'quadrillelaw1.NumSmall'. -/
def numSmallUptoCard : Claim7 := { stood := { row := numSmallUptoRow, standIns := [], harness := (true, "bf8111d467b59dd16596c330e2f513be6d5e40e941cc4f5a2bb4a627140eb105"), looks := true }, kinds := [], alts := [], laidByText := true, laidKinds := [.data, .data, .data, .sentinel, .sentinel], laidTests := true, laidLooks := .later }
def NumSmallUptoCardSaid : Prop := Claim7.holds Tryd.pinned (.plain (OpenSpec.upto numSmallSpec)) numSmallUptoCard

/-- THE SECOND FORM's CARD OF 'quadrillelaw1.NumNamed'. -/
def numNamedUptoCard : Claim7 := { stood := { row := numNamedUptoRow, standIns := [], harness := (true, "bf8111d467b59dd16596c330e2f513be6d5e40e941cc4f5a2bb4a627140eb105"), looks := true }, kinds := [], alts := [], laidByText := true, laidKinds := [.data, .data, .data, .sentinel, .sentinel], laidTests := true, laidLooks := .later }
def NumNamedUptoCardSaid : Prop := Claim7.holds Tryd.pinned (.plain (OpenSpec.upto numNamedSpec)) numNamedUptoCard

/-- THE SECOND FORM's CARD OF 'quadrillelaw1.NumPowers'. -/
def numPowersUptoCard : Claim7 := { stood := { row := numPowersUptoRow, standIns := [], harness := (true, "bf8111d467b59dd16596c330e2f513be6d5e40e941cc4f5a2bb4a627140eb105"), looks := true }, kinds := [], alts := [], laidByText := true, laidKinds := [.data, .data, .data, .sentinel, .sentinel], laidTests := true, laidLooks := .later }
def NumPowersUptoCardSaid : Prop := Claim7.holds Tryd.pinned (.plain (OpenSpec.upto numPowersSpec)) numPowersUptoCard

/-- THE SECOND FORM's CARD OF 'quadrillelaw1.NumCommon'. -/
def numCommonUptoCard : Claim7 := { stood := { row := numCommonUptoRow, standIns := [], harness := (true, "bf8111d467b59dd16596c330e2f513be6d5e40e941cc4f5a2bb4a627140eb105"), looks := true }, kinds := [], alts := [], laidByText := true, laidKinds := [.data, .data, .data, .sentinel, .sentinel], laidTests := true, laidLooks := .later }
def NumCommonUptoCardSaid : Prop := Claim7.holds Tryd.pinned (.plain (OpenSpec.upto numCommonSpec)) numCommonUptoCard

/-- THE SECOND FORM's CARD OF 'quadrillelaw1.NumAll'. -/
def numAllUptoCard : Claim7 := { stood := { row := numAllUptoRow, standIns := [], harness := (true, "bf8111d467b59dd16596c330e2f513be6d5e40e941cc4f5a2bb4a627140eb105"), looks := true }, kinds := [], alts := [], laidByText := true, laidKinds := [.data, .data, .data, .sentinel, .sentinel], laidTests := true, laidLooks := .later }
def NumAllUptoCardSaid : Prop := Claim7.holds Tryd.pinned (.plain (OpenSpec.upto numAllSpec)) numAllUptoCard
end Rows
end Go.Proofs.YtedcfddbfpgeaaaDoor
