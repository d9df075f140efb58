/-
  DERIVED. GIVEN WITH THE SEED: THE CARDS: each row of YtldllfadidepaaaDoorRows.lean that lists a variable, with what it lists TIED to the program's text (the seventh form; the later family's looks); each row that meets fmt, with fmt's text TOLD by the authors' own Lean function (tested against real Go, not proved from fmt's source: count such statements apart). THE CARD IS WHAT COUNTS. Prove the row's statement (the work); the ties are given (YtldllfadidepaaaDoorTie.lean); close each card by the builder's one call (the guide's Derived/Test/ToyasCard.lean, 'card_holds'). Laid BY PROGRAM, IN A SANDBOX (cutbox-door.mjs). By AI agents, Wed Nov 11 2026. No macro, syntax, notation, axiom, sorry.
-/
import Derived.Test.YtldllfadidepaaaDoorRows
import GoSem.ClaimSeven
namespace Go.Proofs.YtldllfadidepaaaDoor
namespace Rows

/-- THE TIED CARD OF 'entrepotlaw02.FixedReads'. -/
def fixedReadsCard : Claim7 := { stood := { row := fixedReadsRow, standIns := [], harness := (true, "28f43b617a5675dde0b849d940f8ff89a871987def84bbb0a76c1180cb10c2cf"), looks := true }, kinds := [], alts := [], laidByText := true, laidKinds := [.data, .data, .data, .sentinel, .sentinel], laidTests := true, laidLooks := .later }
def FixedReadsCardSaid : Prop := Claim7.holds Tryd.pinned (.plain (OpenSpec.ofChange fixedReadsSpec)) fixedReadsCard

/-- THE TIED CARD OF 'entrepotlaw02.FixedWhole'. -/
def fixedWholeCard : Claim7 := { stood := { row := fixedWholeRow, standIns := [], harness := (true, "28f43b617a5675dde0b849d940f8ff89a871987def84bbb0a76c1180cb10c2cf"), looks := true }, kinds := [], alts := [], laidByText := true, laidKinds := [.data, .data, .data, .sentinel, .sentinel], laidTests := true, laidLooks := .later }
def FixedWholeCardSaid : Prop := Claim7.holds Tryd.pinned (.plain (OpenSpec.ofChange fixedWholeSpec)) fixedWholeCard

/-- THE TIED CARD OF 'entrepotlaw02.FixedPrints'. -/
def fixedPrintsCard : Claim7 := { stood := { row := fixedPrintsRow, standIns := [], harness := (true, "28f43b617a5675dde0b849d940f8ff89a871987def84bbb0a76c1180cb10c2cf"), looks := true }, kinds := [], alts := [], laidByText := true, laidKinds := [.data, .data, .data, .sentinel, .sentinel], laidTests := true, laidLooks := .later }
def FixedPrintsCardSaid : Prop := Claim7.holds Tryd.pinned (.plain (OpenSpec.ofChange fixedPrintsSpec)) fixedPrintsCard

/-- THE TIED CARD OF 'entrepotlaw02.FixedTo'. -/
def fixedToCard : Claim7 := { stood := { row := fixedToRow, standIns := [], harness := (true, "28f43b617a5675dde0b849d940f8ff89a871987def84bbb0a76c1180cb10c2cf"), looks := true }, kinds := [], alts := [], laidByText := true, laidKinds := [.data, .data, .data, .sentinel, .sentinel], laidTests := true, laidLooks := .later }
def FixedToCardSaid : Prop := Claim7.holds Tryd.pinned (.plain (OpenSpec.ofChange fixedToSpec)) fixedToCard

/-- THE TIED CARD OF 'entrepotlaw02.FixedBack'. -/
def fixedBackCard : Claim7 := { stood := { row := fixedBackRow, standIns := [], harness := (true, "28f43b617a5675dde0b849d940f8ff89a871987def84bbb0a76c1180cb10c2cf"), looks := true }, kinds := [], alts := [], laidByText := true, laidKinds := [.data, .data, .data, .sentinel, .sentinel], laidTests := true, laidLooks := .later }
def FixedBackCardSaid : Prop := Claim7.holds Tryd.pinned (.plain (OpenSpec.ofChange fixedBackSpec)) fixedBackCard

/-- THE TIED CARD OF 'entrepotlaw02.FixedNoughts'. -/
def fixedNoughtsCard : Claim7 := { stood := { row := fixedNoughtsRow, standIns := [], harness := (true, "28f43b617a5675dde0b849d940f8ff89a871987def84bbb0a76c1180cb10c2cf"), looks := true }, kinds := [], alts := [], laidByText := true, laidKinds := [.data, .data, .data, .sentinel, .sentinel], laidTests := true, laidLooks := .later }
def FixedNoughtsCardSaid : Prop := Claim7.holds Tryd.pinned (.plain (OpenSpec.ofChange fixedNoughtsSpec)) fixedNoughtsCard

/-- THE TIED CARD OF 'entrepotlaw02.FixedOrder'. -/
def fixedOrderCard : Claim7 := { stood := { row := fixedOrderRow, standIns := [], harness := (true, "28f43b617a5675dde0b849d940f8ff89a871987def84bbb0a76c1180cb10c2cf"), looks := true }, kinds := [], alts := [], laidByText := true, laidKinds := [.data, .data, .data, .sentinel, .sentinel], laidTests := true, laidLooks := .later }
def FixedOrderCardSaid : Prop := Claim7.holds Tryd.pinned (.plain (OpenSpec.ofChange fixedOrderSpec)) fixedOrderCard

/-- THE SECOND FORM's CARD OF 'entrepotlaw02.FixedReads'. -/
def fixedReadsUptoCard : Claim7 := { stood := { row := fixedReadsUptoRow, standIns := [], harness := (true, "28f43b617a5675dde0b849d940f8ff89a871987def84bbb0a76c1180cb10c2cf"), looks := true }, kinds := [], alts := [], laidByText := true, laidKinds := [.data, .data, .data, .sentinel, .sentinel], laidTests := true, laidLooks := .later }
def FixedReadsUptoCardSaid : Prop := Claim7.holds Tryd.pinned (.plain (OpenSpec.upto fixedReadsSpec)) fixedReadsUptoCard

/-- THE SECOND FORM's CARD OF 'entrepotlaw02.FixedWhole'. -/
def fixedWholeUptoCard : Claim7 := { stood := { row := fixedWholeUptoRow, standIns := [], harness := (true, "28f43b617a5675dde0b849d940f8ff89a871987def84bbb0a76c1180cb10c2cf"), looks := true }, kinds := [], alts := [], laidByText := true, laidKinds := [.data, .data, .data, .sentinel, .sentinel], laidTests := true, laidLooks := .later }
def FixedWholeUptoCardSaid : Prop := Claim7.holds Tryd.pinned (.plain (OpenSpec.upto fixedWholeSpec)) fixedWholeUptoCard

/-- THE SECOND FORM's CARD OF 'entrepotlaw02.FixedPrints'. -/
def fixedPrintsUptoCard : Claim7 := { stood := { row := fixedPrintsUptoRow, standIns := [], harness := (true, "28f43b617a5675dde0b849d940f8ff89a871987def84bbb0a76c1180cb10c2cf"), looks := true }, kinds := [], alts := [], laidByText := true, laidKinds := [.data, .data, .data, .sentinel, .sentinel], laidTests := true, laidLooks := .later }
def FixedPrintsUptoCardSaid : Prop := Claim7.holds Tryd.pinned (.plain (OpenSpec.upto fixedPrintsSpec)) fixedPrintsUptoCard

/-- THE SECOND FORM's CARD OF 'entrepotlaw02.FixedTo'. -/
def fixedToUptoCard : Claim7 := { stood := { row := fixedToUptoRow, standIns := [], harness := (true, "28f43b617a5675dde0b849d940f8ff89a871987def84bbb0a76c1180cb10c2cf"), looks := true }, kinds := [], alts := [], laidByText := true, laidKinds := [.data, .data, .data, .sentinel, .sentinel], laidTests := true, laidLooks := .later }
def FixedToUptoCardSaid : Prop := Claim7.holds Tryd.pinned (.plain (OpenSpec.upto fixedToSpec)) fixedToUptoCard

/-- THE SECOND FORM's CARD OF 'entrepotlaw02.FixedBack'. -/
def fixedBackUptoCard : Claim7 := { stood := { row := fixedBackUptoRow, standIns := [], harness := (true, "28f43b617a5675dde0b849d940f8ff89a871987def84bbb0a76c1180cb10c2cf"), looks := true }, kinds := [], alts := [], laidByText := true, laidKinds := [.data, .data, .data, .sentinel, .sentinel], laidTests := true, laidLooks := .later }
def FixedBackUptoCardSaid : Prop := Claim7.holds Tryd.pinned (.plain (OpenSpec.upto fixedBackSpec)) fixedBackUptoCard

/-- THE SECOND FORM's CARD OF 'entrepotlaw02.FixedNoughts'. -/
def fixedNoughtsUptoCard : Claim7 := { stood := { row := fixedNoughtsUptoRow, standIns := [], harness := (true, "28f43b617a5675dde0b849d940f8ff89a871987def84bbb0a76c1180cb10c2cf"), looks := true }, kinds := [], alts := [], laidByText := true, laidKinds := [.data, .data, .data, .sentinel, .sentinel], laidTests := true, laidLooks := .later }
def FixedNoughtsUptoCardSaid : Prop := Claim7.holds Tryd.pinned (.plain (OpenSpec.upto fixedNoughtsSpec)) fixedNoughtsUptoCard

/-- THE SECOND FORM's CARD OF 'entrepotlaw02.FixedOrder'. -/
def fixedOrderUptoCard : Claim7 := { stood := { row := fixedOrderUptoRow, standIns := [], harness := (true, "28f43b617a5675dde0b849d940f8ff89a871987def84bbb0a76c1180cb10c2cf"), looks := true }, kinds := [], alts := [], laidByText := true, laidKinds := [.data, .data, .data, .sentinel, .sentinel], laidTests := true, laidLooks := .later }
def FixedOrderUptoCardSaid : Prop := Claim7.holds Tryd.pinned (.plain (OpenSpec.upto fixedOrderSpec)) fixedOrderUptoCard
end Rows
end Go.Proofs.YtldllfadidepaaaDoor
