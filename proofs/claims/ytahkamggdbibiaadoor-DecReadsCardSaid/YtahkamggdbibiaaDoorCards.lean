/-
  DERIVED. GIVEN WITH THE SEED: THE CARDS: each row of YtahkamggdbibiaaDoorRows.lean that lists a variable, with what it lists TIED to the program's text (the seventh form; the later family's looks); each row that meets fmt, with fmt's text TOLD by the authors' own Lean function (tested against real Go, not proved from fmt's source: count such statements apart). THE CARD IS WHAT COUNTS. Prove the row's statement (the work); the ties are given (YtahkamggdbibiaaDoorTie.lean); close each card by the builder's one call (the guide's Derived/Test/ToyasCard.lean, 'card_holds'). Laid BY PROGRAM, IN A SANDBOX (cutbox-door.mjs). By AI agents, Wed Nov 11 2026. No macro, syntax, notation, axiom, sorry.
-/
import Derived.Test.YtahkamggdbibiaaDoorRows
import GoSem.ClaimSeven
namespace Go.Proofs.YtahkamggdbibiaaDoor
namespace Rows

/-- THE TIED CARD OF 'exerguelaw05.DecReads'. -/
def decReadsCard : Claim7 := { stood := { row := decReadsRow, standIns := [], harness := (true, "fa412157624a065f0cbecf93665c5bd2cde5ebde44aeca86cf671fc01c2deaf9"), looks := false }, kinds := [], alts := [], laidByText := true, laidKinds := [.data, .data, .data], laidTests := true, laidLooks := .later }
def DecReadsCardSaid : Prop := Claim7.holds Tryd.pinned (.plain (OpenSpec.ofChange decReadsSpec)) decReadsCard

/-- THE TIED CARD OF 'exerguelaw05.DecBack'. -/
def decBackCard : Claim7 := { stood := { row := decBackRow, standIns := [], harness := (true, "fa412157624a065f0cbecf93665c5bd2cde5ebde44aeca86cf671fc01c2deaf9"), looks := false }, kinds := [], alts := [], laidByText := true, laidKinds := [.data, .data, .data], laidTests := true, laidLooks := .later }
def DecBackCardSaid : Prop := Claim7.holds Tryd.pinned (.plain (OpenSpec.ofChange decBackSpec)) decBackCard

/-- THE TIED CARD OF 'exerguelaw05.DecOrder'. -/
def decOrderCard : Claim7 := { stood := { row := decOrderRow, standIns := [], harness := (true, "fa412157624a065f0cbecf93665c5bd2cde5ebde44aeca86cf671fc01c2deaf9"), looks := false }, kinds := [], alts := [], laidByText := true, laidKinds := [.data, .data, .data], laidTests := true, laidLooks := .later }
def DecOrderCardSaid : Prop := Claim7.holds Tryd.pinned (.plain (OpenSpec.ofChange decOrderSpec)) decOrderCard

/-- THE TIED CARD OF 'exerguelaw05.DecFigures'. -/
def decFiguresCard : Claim7 := { stood := { row := decFiguresRow, standIns := [], harness := (true, "fa412157624a065f0cbecf93665c5bd2cde5ebde44aeca86cf671fc01c2deaf9"), looks := false }, kinds := [], alts := [], laidByText := true, laidKinds := [.data, .data, .data], laidTests := true, laidLooks := .later }
def DecFiguresCardSaid : Prop := Claim7.holds Tryd.pinned (.plain (OpenSpec.ofChange decFiguresSpec)) decFiguresCard

/-- THE TIED CARD OF 'exerguelaw05.DecNought'. -/
def decNoughtCard : Claim7 := { stood := { row := decNoughtRow, standIns := [], harness := (true, "fa412157624a065f0cbecf93665c5bd2cde5ebde44aeca86cf671fc01c2deaf9"), looks := false }, kinds := [], alts := [], laidByText := true, laidKinds := [.data, .data, .data], laidTests := true, laidLooks := .later }
def DecNoughtCardSaid : Prop := Claim7.holds Tryd.pinned (.plain (OpenSpec.ofChange decNoughtSpec)) decNoughtCard

/-- THE TIED CARD OF 'exerguelaw05.DecSides'. -/
def decSidesCard : Claim7 := { stood := { row := decSidesRow, standIns := [], harness := (true, "fa412157624a065f0cbecf93665c5bd2cde5ebde44aeca86cf671fc01c2deaf9"), looks := false }, kinds := [], alts := [], laidByText := true, laidKinds := [.data, .data, .data], laidTests := true, laidLooks := .later }
def DecSidesCardSaid : Prop := Claim7.holds Tryd.pinned (.plain (OpenSpec.ofChange decSidesSpec)) decSidesCard

/-- THE TIED CARD OF 'exerguelaw05.DecShifts'. -/
def decShiftsCard : Claim7 := { stood := { row := decShiftsRow, standIns := [], harness := (true, "fa412157624a065f0cbecf93665c5bd2cde5ebde44aeca86cf671fc01c2deaf9"), looks := false }, kinds := [], alts := [], laidByText := true, laidKinds := [.data, .data, .data], laidTests := true, laidLooks := .later }
def DecShiftsCardSaid : Prop := Claim7.holds Tryd.pinned (.plain (OpenSpec.ofChange decShiftsSpec)) decShiftsCard

/-- THE SECOND FORM's CARD OF 'exerguelaw05.DecReads'. -/
def decReadsUptoCard : Claim7 := { stood := { row := decReadsUptoRow, standIns := [], harness := (true, "fa412157624a065f0cbecf93665c5bd2cde5ebde44aeca86cf671fc01c2deaf9"), looks := false }, kinds := [], alts := [], laidByText := true, laidKinds := [.data, .data, .data], laidTests := true, laidLooks := .later }
def DecReadsUptoCardSaid : Prop := Claim7.holds Tryd.pinned (.plain (OpenSpec.upto decReadsSpec)) decReadsUptoCard

/-- THE SECOND FORM's CARD OF 'exerguelaw05.DecBack'. -/
def decBackUptoCard : Claim7 := { stood := { row := decBackUptoRow, standIns := [], harness := (true, "fa412157624a065f0cbecf93665c5bd2cde5ebde44aeca86cf671fc01c2deaf9"), looks := false }, kinds := [], alts := [], laidByText := true, laidKinds := [.data, .data, .data], laidTests := true, laidLooks := .later }
def DecBackUptoCardSaid : Prop := Claim7.holds Tryd.pinned (.plain (OpenSpec.upto decBackSpec)) decBackUptoCard

/-- THE SECOND FORM's CARD OF 'exerguelaw05.DecOrder'. -/
def decOrderUptoCard : Claim7 := { stood := { row := decOrderUptoRow, standIns := [], harness := (true, "fa412157624a065f0cbecf93665c5bd2cde5ebde44aeca86cf671fc01c2deaf9"), looks := false }, kinds := [], alts := [], laidByText := true, laidKinds := [.data, .data, .data], laidTests := true, laidLooks := .later }
def DecOrderUptoCardSaid : Prop := Claim7.holds Tryd.pinned (.plain (OpenSpec.upto decOrderSpec)) decOrderUptoCard

/-- THE SECOND FORM's CARD OF 'exerguelaw05.DecFigures'. -/
def decFiguresUptoCard : Claim7 := { stood := { row := decFiguresUptoRow, standIns := [], harness := (true, "fa412157624a065f0cbecf93665c5bd2cde5ebde44aeca86cf671fc01c2deaf9"), looks := false }, kinds := [], alts := [], laidByText := true, laidKinds := [.data, .data, .data], laidTests := true, laidLooks := .later }
def DecFiguresUptoCardSaid : Prop := Claim7.holds Tryd.pinned (.plain (OpenSpec.upto decFiguresSpec)) decFiguresUptoCard

/-- THE SECOND FORM's CARD OF 'exerguelaw05.DecNought'. -/
def decNoughtUptoCard : Claim7 := { stood := { row := decNoughtUptoRow, standIns := [], harness := (true, "fa412157624a065f0cbecf93665c5bd2cde5ebde44aeca86cf671fc01c2deaf9"), looks := false }, kinds := [], alts := [], laidByText := true, laidKinds := [.data, .data, .data], laidTests := true, laidLooks := .later }
def DecNoughtUptoCardSaid : Prop := Claim7.holds Tryd.pinned (.plain (OpenSpec.upto decNoughtSpec)) decNoughtUptoCard

/-- THE SECOND FORM's CARD OF 'exerguelaw05.DecSides'. -/
def decSidesUptoCard : Claim7 := { stood := { row := decSidesUptoRow, standIns := [], harness := (true, "fa412157624a065f0cbecf93665c5bd2cde5ebde44aeca86cf671fc01c2deaf9"), looks := false }, kinds := [], alts := [], laidByText := true, laidKinds := [.data, .data, .data], laidTests := true, laidLooks := .later }
def DecSidesUptoCardSaid : Prop := Claim7.holds Tryd.pinned (.plain (OpenSpec.upto decSidesSpec)) decSidesUptoCard

/-- THE SECOND FORM's CARD OF 'exerguelaw05.DecShifts'. -/
def decShiftsUptoCard : Claim7 := { stood := { row := decShiftsUptoRow, standIns := [], harness := (true, "fa412157624a065f0cbecf93665c5bd2cde5ebde44aeca86cf671fc01c2deaf9"), looks := false }, kinds := [], alts := [], laidByText := true, laidKinds := [.data, .data, .data], laidTests := true, laidLooks := .later }
def DecShiftsUptoCardSaid : Prop := Claim7.holds Tryd.pinned (.plain (OpenSpec.upto decShiftsSpec)) decShiftsUptoCard
end Rows
end Go.Proofs.YtahkamggdbibiaaDoor
