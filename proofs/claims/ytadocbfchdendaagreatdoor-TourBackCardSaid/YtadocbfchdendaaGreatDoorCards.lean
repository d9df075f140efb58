/-
  DERIVED. GIVEN WITH THE SEED: THE CARDS: each row of YtadocbfchdendaaGreatDoorRows.lean that lists a variable, with what it lists TIED to the program's text (the seventh form; the later family's looks); each row that meets fmt, with fmt's text TOLD by the authors' own Lean function (tested against real Go, not proved from fmt's source: count such statements apart). THE CARD IS WHAT COUNTS. Prove the row's statement (the work); the ties are given (YtadocbfchdendaaGreatDoorTie.lean); close each card by the builder's one call (the guide's Derived/Test/ToyasCard.lean, 'card_holds'). Laid BY PROGRAM, IN A SANDBOX (cutbox-door.mjs). By AI agents, Wed Nov 11 2026. No macro, syntax, notation, axiom, sorry.
-/
import Derived.Test.YtadocbfchdendaaGreatDoorRows
import GoSem.ClaimSeven
namespace Go.Proofs.YtadocbfchdendaaGreatDoor
namespace Rows

/-- THE TIED CARD OF 'entrepotlaw13.SheetRows'. -/
def sheetRowsCard : Claim7 := { stood := { row := sheetRowsRow, standIns := [], harness := (true, "50ff171a6ebaa1dc44acd7db4d9128ea4c6fd5289ca809cb7593c385ab16d17b"), looks := true }, kinds := [], alts := [], laidByText := true, laidKinds := [.data, .data, .data, .data, .sentinel, .sentinel, .pinned], laidTests := true, laidLooks := .later }
def SheetRowsCardSaid : Prop := Claim7.holds Tryz.pinned (.plain (OpenSpec.ofChange sheetRowsSpec)) sheetRowsCard

/-- THE TIED CARD OF 'entrepotlaw13.SheetFlat'. -/
def sheetFlatCard : Claim7 := { stood := { row := sheetFlatRow, standIns := [], harness := (true, "50ff171a6ebaa1dc44acd7db4d9128ea4c6fd5289ca809cb7593c385ab16d17b"), looks := true }, kinds := [], alts := [], laidByText := true, laidKinds := [.data, .data, .data, .data, .sentinel, .sentinel, .pinned], laidTests := true, laidLooks := .later }
def SheetFlatCardSaid : Prop := Claim7.holds Tryz.pinned (.plain (OpenSpec.ofChange sheetFlatSpec)) sheetFlatCard

/-- THE TIED CARD OF 'entrepotlaw13.SheetCommon'. -/
def sheetCommonCard : Claim7 := { stood := { row := sheetCommonRow, standIns := [], harness := (true, "50ff171a6ebaa1dc44acd7db4d9128ea4c6fd5289ca809cb7593c385ab16d17b"), looks := true }, kinds := [], alts := [], laidByText := true, laidKinds := [.data, .data, .data, .data, .sentinel, .sentinel, .pinned], laidTests := true, laidLooks := .later }
def SheetCommonCardSaid : Prop := Claim7.holds Tryz.pinned (.plain (OpenSpec.ofChange sheetCommonSpec)) sheetCommonCard

/-- THE TIED CARD OF 'entrepotlaw13.SheetBack'. -/
def sheetBackCard : Claim7 := { stood := { row := sheetBackRow, standIns := [], harness := (true, "50ff171a6ebaa1dc44acd7db4d9128ea4c6fd5289ca809cb7593c385ab16d17b"), looks := true }, kinds := [], alts := [], laidByText := true, laidKinds := [.data, .data, .data, .data, .sentinel, .sentinel, .pinned], laidTests := true, laidLooks := .later }
def SheetBackCardSaid : Prop := Claim7.holds Tryz.pinned (.plain (OpenSpec.ofChange sheetBackSpec)) sheetBackCard

/-- THE TIED CARD OF 'entrepotlaw13.SheetNumbers'. -/
def sheetNumbersCard : Claim7 := { stood := { row := sheetNumbersRow, standIns := [], harness := (true, "50ff171a6ebaa1dc44acd7db4d9128ea4c6fd5289ca809cb7593c385ab16d17b"), looks := true }, kinds := [], alts := [], laidByText := true, laidKinds := [.data, .data, .data, .data, .sentinel, .sentinel, .pinned], laidTests := true, laidLooks := .later }
def SheetNumbersCardSaid : Prop := Claim7.holds Tryz.pinned (.plain (OpenSpec.ofChange sheetNumbersSpec)) sheetNumbersCard

/-- THE TIED CARD OF 'entrepotlaw16.TourParses'. -/
def tourParsesCard : Claim7 := { stood := { row := tourParsesRow, standIns := [], harness := (true, "50ff171a6ebaa1dc44acd7db4d9128ea4c6fd5289ca809cb7593c385ab16d17b"), looks := true }, kinds := [], alts := [], laidByText := true, laidKinds := [.data, .data, .data, .data, .sentinel, .sentinel, .pinned], laidTests := true, laidLooks := .later }
def TourParsesCardSaid : Prop := Claim7.holds Tryz.pinned (.plain (OpenSpec.ofChange tourParsesSpec)) tourParsesCard

/-- THE TIED CARD OF 'entrepotlaw16.TourBack'. -/
def tourBackCard : Claim7 := { stood := { row := tourBackRow, standIns := [], harness := (true, "50ff171a6ebaa1dc44acd7db4d9128ea4c6fd5289ca809cb7593c385ab16d17b"), looks := true }, kinds := [], alts := [], laidByText := true, laidKinds := [.data, .data, .data, .data, .sentinel, .sentinel, .pinned], laidTests := true, laidLooks := .later }
def TourBackCardSaid : Prop := Claim7.holds Tryz.pinned (.plain (OpenSpec.ofChange tourBackSpec)) tourBackCard

/-- THE TIED CARD OF 'entrepotlaw16.TourEither'. -/
def tourEitherCard : Claim7 := { stood := { row := tourEitherRow, standIns := [], harness := (true, "50ff171a6ebaa1dc44acd7db4d9128ea4c6fd5289ca809cb7593c385ab16d17b"), looks := true }, kinds := [], alts := [], laidByText := true, laidKinds := [.data, .data, .data, .data, .sentinel, .sentinel, .pinned], laidTests := true, laidLooks := .later }
def TourEitherCardSaid : Prop := Claim7.holds Tryz.pinned (.plain (OpenSpec.ofChange tourEitherSpec)) tourEitherCard

/-- THE TIED CARD OF 'entrepotlaw16.TourPrints'. -/
def tourPrintsCard : Claim7 := { stood := { row := tourPrintsRow, standIns := [], harness := (true, "50ff171a6ebaa1dc44acd7db4d9128ea4c6fd5289ca809cb7593c385ab16d17b"), looks := true }, kinds := [], alts := [], laidByText := true, laidKinds := [.data, .data, .data, .data, .sentinel, .sentinel, .pinned], laidTests := true, laidLooks := .later }
def TourPrintsCardSaid : Prop := Claim7.holds Tryz.pinned (.plain (OpenSpec.ofChange tourPrintsSpec)) tourPrintsCard

/-- THE TIED CARD OF 'entrepotlaw16.TourOrder'. -/
def tourOrderCard : Claim7 := { stood := { row := tourOrderRow, standIns := [], harness := (true, "50ff171a6ebaa1dc44acd7db4d9128ea4c6fd5289ca809cb7593c385ab16d17b"), looks := true }, kinds := [], alts := [], laidByText := true, laidKinds := [.data, .data, .data, .data, .sentinel, .sentinel, .pinned], laidTests := true, laidLooks := .later }
def TourOrderCardSaid : Prop := Claim7.holds Tryz.pinned (.plain (OpenSpec.ofChange tourOrderSpec)) tourOrderCard

/-- THE TIED CARD OF 'entrepotlaw16.TourRoutes'. -/
def tourRoutesCard : Claim7 := { stood := { row := tourRoutesRow, standIns := [], harness := (true, "50ff171a6ebaa1dc44acd7db4d9128ea4c6fd5289ca809cb7593c385ab16d17b"), looks := true }, kinds := [], alts := [], laidByText := true, laidKinds := [.data, .data, .data, .data, .sentinel, .sentinel, .pinned], laidTests := true, laidLooks := .later }
def TourRoutesCardSaid : Prop := Claim7.holds Tryz.pinned (.plain (OpenSpec.ofChange tourRoutesSpec)) tourRoutesCard

/-- THE SECOND FORM's CARD OF 'entrepotlaw13.SheetRows'. -/
def sheetRowsUptoCard : Claim7 := { stood := { row := sheetRowsUptoRow, standIns := [], harness := (true, "50ff171a6ebaa1dc44acd7db4d9128ea4c6fd5289ca809cb7593c385ab16d17b"), looks := true }, kinds := [], alts := [], laidByText := true, laidKinds := [.data, .data, .data, .data, .sentinel, .sentinel, .pinned], laidTests := true, laidLooks := .later }
def SheetRowsUptoCardSaid : Prop := Claim7.holds Tryz.pinned (.plain (OpenSpec.upto sheetRowsSpec)) sheetRowsUptoCard

/-- THE SECOND FORM's CARD OF 'entrepotlaw13.SheetFlat'. -/
def sheetFlatUptoCard : Claim7 := { stood := { row := sheetFlatUptoRow, standIns := [], harness := (true, "50ff171a6ebaa1dc44acd7db4d9128ea4c6fd5289ca809cb7593c385ab16d17b"), looks := true }, kinds := [], alts := [], laidByText := true, laidKinds := [.data, .data, .data, .data, .sentinel, .sentinel, .pinned], laidTests := true, laidLooks := .later }
def SheetFlatUptoCardSaid : Prop := Claim7.holds Tryz.pinned (.plain (OpenSpec.upto sheetFlatSpec)) sheetFlatUptoCard

/-- THE SECOND FORM's CARD OF 'entrepotlaw13.SheetCommon'. -/
def sheetCommonUptoCard : Claim7 := { stood := { row := sheetCommonUptoRow, standIns := [], harness := (true, "50ff171a6ebaa1dc44acd7db4d9128ea4c6fd5289ca809cb7593c385ab16d17b"), looks := true }, kinds := [], alts := [], laidByText := true, laidKinds := [.data, .data, .data, .data, .sentinel, .sentinel, .pinned], laidTests := true, laidLooks := .later }
def SheetCommonUptoCardSaid : Prop := Claim7.holds Tryz.pinned (.plain (OpenSpec.upto sheetCommonSpec)) sheetCommonUptoCard

/-- THE SECOND FORM's CARD OF 'entrepotlaw13.SheetBack'. -/
def sheetBackUptoCard : Claim7 := { stood := { row := sheetBackUptoRow, standIns := [], harness := (true, "50ff171a6ebaa1dc44acd7db4d9128ea4c6fd5289ca809cb7593c385ab16d17b"), looks := true }, kinds := [], alts := [], laidByText := true, laidKinds := [.data, .data, .data, .data, .sentinel, .sentinel, .pinned], laidTests := true, laidLooks := .later }
def SheetBackUptoCardSaid : Prop := Claim7.holds Tryz.pinned (.plain (OpenSpec.upto sheetBackSpec)) sheetBackUptoCard

/-- THE SECOND FORM's CARD OF 'entrepotlaw13.SheetNumbers'. -/
def sheetNumbersUptoCard : Claim7 := { stood := { row := sheetNumbersUptoRow, standIns := [], harness := (true, "50ff171a6ebaa1dc44acd7db4d9128ea4c6fd5289ca809cb7593c385ab16d17b"), looks := true }, kinds := [], alts := [], laidByText := true, laidKinds := [.data, .data, .data, .data, .sentinel, .sentinel, .pinned], laidTests := true, laidLooks := .later }
def SheetNumbersUptoCardSaid : Prop := Claim7.holds Tryz.pinned (.plain (OpenSpec.upto sheetNumbersSpec)) sheetNumbersUptoCard

/-- THE SECOND FORM's CARD OF 'entrepotlaw16.TourParses'. -/
def tourParsesUptoCard : Claim7 := { stood := { row := tourParsesUptoRow, standIns := [], harness := (true, "50ff171a6ebaa1dc44acd7db4d9128ea4c6fd5289ca809cb7593c385ab16d17b"), looks := true }, kinds := [], alts := [], laidByText := true, laidKinds := [.data, .data, .data, .data, .sentinel, .sentinel, .pinned], laidTests := true, laidLooks := .later }
def TourParsesUptoCardSaid : Prop := Claim7.holds Tryz.pinned (.plain (OpenSpec.upto tourParsesSpec)) tourParsesUptoCard

/-- THE SECOND FORM's CARD OF 'entrepotlaw16.TourBack'. -/
def tourBackUptoCard : Claim7 := { stood := { row := tourBackUptoRow, standIns := [], harness := (true, "50ff171a6ebaa1dc44acd7db4d9128ea4c6fd5289ca809cb7593c385ab16d17b"), looks := true }, kinds := [], alts := [], laidByText := true, laidKinds := [.data, .data, .data, .data, .sentinel, .sentinel, .pinned], laidTests := true, laidLooks := .later }
def TourBackUptoCardSaid : Prop := Claim7.holds Tryz.pinned (.plain (OpenSpec.upto tourBackSpec)) tourBackUptoCard

/-- THE SECOND FORM's CARD OF 'entrepotlaw16.TourEither'. -/
def tourEitherUptoCard : Claim7 := { stood := { row := tourEitherUptoRow, standIns := [], harness := (true, "50ff171a6ebaa1dc44acd7db4d9128ea4c6fd5289ca809cb7593c385ab16d17b"), looks := true }, kinds := [], alts := [], laidByText := true, laidKinds := [.data, .data, .data, .data, .sentinel, .sentinel, .pinned], laidTests := true, laidLooks := .later }
def TourEitherUptoCardSaid : Prop := Claim7.holds Tryz.pinned (.plain (OpenSpec.upto tourEitherSpec)) tourEitherUptoCard

/-- THE SECOND FORM's CARD OF 'entrepotlaw16.TourPrints'. -/
def tourPrintsUptoCard : Claim7 := { stood := { row := tourPrintsUptoRow, standIns := [], harness := (true, "50ff171a6ebaa1dc44acd7db4d9128ea4c6fd5289ca809cb7593c385ab16d17b"), looks := true }, kinds := [], alts := [], laidByText := true, laidKinds := [.data, .data, .data, .data, .sentinel, .sentinel, .pinned], laidTests := true, laidLooks := .later }
def TourPrintsUptoCardSaid : Prop := Claim7.holds Tryz.pinned (.plain (OpenSpec.upto tourPrintsSpec)) tourPrintsUptoCard

/-- THE SECOND FORM's CARD OF 'entrepotlaw16.TourOrder'. -/
def tourOrderUptoCard : Claim7 := { stood := { row := tourOrderUptoRow, standIns := [], harness := (true, "50ff171a6ebaa1dc44acd7db4d9128ea4c6fd5289ca809cb7593c385ab16d17b"), looks := true }, kinds := [], alts := [], laidByText := true, laidKinds := [.data, .data, .data, .data, .sentinel, .sentinel, .pinned], laidTests := true, laidLooks := .later }
def TourOrderUptoCardSaid : Prop := Claim7.holds Tryz.pinned (.plain (OpenSpec.upto tourOrderSpec)) tourOrderUptoCard

/-- THE SECOND FORM's CARD OF 'entrepotlaw16.TourRoutes'. -/
def tourRoutesUptoCard : Claim7 := { stood := { row := tourRoutesUptoRow, standIns := [], harness := (true, "50ff171a6ebaa1dc44acd7db4d9128ea4c6fd5289ca809cb7593c385ab16d17b"), looks := true }, kinds := [], alts := [], laidByText := true, laidKinds := [.data, .data, .data, .data, .sentinel, .sentinel, .pinned], laidTests := true, laidLooks := .later }
def TourRoutesUptoCardSaid : Prop := Claim7.holds Tryz.pinned (.plain (OpenSpec.upto tourRoutesSpec)) tourRoutesUptoCard
end Rows
end Go.Proofs.YtadocbfchdendaaGreatDoor
