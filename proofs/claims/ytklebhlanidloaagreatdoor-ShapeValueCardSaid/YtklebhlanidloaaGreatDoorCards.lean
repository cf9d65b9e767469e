/-
  DERIVED. GIVEN WITH THE SEED: THE CARDS: each row of YtklebhlanidloaaGreatDoorRows.lean that lists a variable, with what it lists TIED to the program's text (the seventh form; the later family's looks); each row that meets fmt, with fmt's text TOLD by the authors' own Lean function (tested against real Go, not proved from fmt's source: count such statements apart). THE CARD IS WHAT COUNTS. Prove the row's statement (the work); the ties are given (YtklebhlanidloaaGreatDoorTie.lean); close each card by the builder's one call (the guide's Derived/Test/ToyasCard.lean, 'card_holds'). Laid BY PROGRAM, IN A SANDBOX (cutbox-door.mjs). By AI agents, Wed Nov 11 2026. No macro, syntax, notation, axiom, sorry.
-/
import Derived.Test.YtklebhlanidloaaGreatDoorRows
import GoSem.ClaimSeven
namespace Go.Proofs.YtklebhlanidloaaGreatDoor
namespace Rows

/-- THE TIED CARD OF 'exerguelaw17.ShapeWrites'. -/
def shapeWritesCard : Claim7 := { stood := { row := shapeWritesRow, standIns := [], harness := (true, "6ee089aa61bb47df88310ddb2fa480b6146c40b8cef401ca6bb71f388c94a843"), looks := false }, kinds := [], alts := [], laidByText := true, laidKinds := [.data, .data, .data], laidTests := true, laidLooks := .later }
def ShapeWritesCardSaid : Prop := Claim7.holds Tryz.pinned (.plain (OpenSpec.ofChange shapeWritesSpec)) shapeWritesCard

/-- THE TIED CARD OF 'exerguelaw17.ShapeReads'. -/
def shapeReadsCard : Claim7 := { stood := { row := shapeReadsRow, standIns := [], harness := (true, "6ee089aa61bb47df88310ddb2fa480b6146c40b8cef401ca6bb71f388c94a843"), looks := false }, kinds := [], alts := [], laidByText := true, laidKinds := [.data, .data, .data], laidTests := true, laidLooks := .later }
def ShapeReadsCardSaid : Prop := Claim7.holds Tryz.pinned (.plain (OpenSpec.ofChange shapeReadsSpec)) shapeReadsCard

/-- THE TIED CARD OF 'exerguelaw17.ShapeBack'. -/
def shapeBackCard : Claim7 := { stood := { row := shapeBackRow, standIns := [], harness := (true, "6ee089aa61bb47df88310ddb2fa480b6146c40b8cef401ca6bb71f388c94a843"), looks := false }, kinds := [], alts := [], laidByText := true, laidKinds := [.data, .data, .data], laidTests := true, laidLooks := .later }
def ShapeBackCardSaid : Prop := Claim7.holds Tryz.pinned (.plain (OpenSpec.ofChange shapeBackSpec)) shapeBackCard

/-- THE TIED CARD OF 'exerguelaw17.ShapeFew'. -/
def shapeFewCard : Claim7 := { stood := { row := shapeFewRow, standIns := [], harness := (true, "6ee089aa61bb47df88310ddb2fa480b6146c40b8cef401ca6bb71f388c94a843"), looks := false }, kinds := [], alts := [], laidByText := true, laidKinds := [.data, .data, .data], laidTests := true, laidLooks := .later }
def ShapeFewCardSaid : Prop := Claim7.holds Tryz.pinned (.plain (OpenSpec.ofChange shapeFewSpec)) shapeFewCard

/-- THE TIED CARD OF 'exerguelaw17.ShapeValue'. -/
def shapeValueCard : Claim7 := { stood := { row := shapeValueRow, standIns := [], harness := (true, "6ee089aa61bb47df88310ddb2fa480b6146c40b8cef401ca6bb71f388c94a843"), looks := false }, kinds := [], alts := [], laidByText := true, laidKinds := [.data, .data, .data], laidTests := true, laidLooks := .later }
def ShapeValueCardSaid : Prop := Claim7.holds Tryz.pinned (.plain (OpenSpec.ofChange shapeValueSpec)) shapeValueCard

/-- THE TIED CARD OF 'exerguelaw17.ShapeSide'. -/
def shapeSideCard : Claim7 := { stood := { row := shapeSideRow, standIns := [], harness := (true, "6ee089aa61bb47df88310ddb2fa480b6146c40b8cef401ca6bb71f388c94a843"), looks := false }, kinds := [], alts := [], laidByText := true, laidKinds := [.data, .data, .data], laidTests := true, laidLooks := .later }
def ShapeSideCardSaid : Prop := Claim7.holds Tryz.pinned (.plain (OpenSpec.ofChange shapeSideSpec)) shapeSideCard

/-- THE TIED CARD OF 'exerguelaw17.ShapeShort'. -/
def shapeShortCard : Claim7 := { stood := { row := shapeShortRow, standIns := [], harness := (true, "6ee089aa61bb47df88310ddb2fa480b6146c40b8cef401ca6bb71f388c94a843"), looks := false }, kinds := [], alts := [], laidByText := true, laidKinds := [.data, .data, .data], laidTests := true, laidLooks := .later }
def ShapeShortCardSaid : Prop := Claim7.holds Tryz.pinned (.plain (OpenSpec.ofChange shapeShortSpec)) shapeShortCard

/-- THE TIED CARD OF 'exerguelaw17.ShapeRead'. -/
def shapeReadCard : Claim7 := { stood := { row := shapeReadRow, standIns := [], harness := (true, "6ee089aa61bb47df88310ddb2fa480b6146c40b8cef401ca6bb71f388c94a843"), looks := false }, kinds := [], alts := [], laidByText := true, laidKinds := [.data, .data, .data], laidTests := true, laidLooks := .later }
def ShapeReadCardSaid : Prop := Claim7.holds Tryz.pinned (.plain (OpenSpec.ofChange shapeReadSpec)) shapeReadCard

/-- THE SECOND FORM's CARD OF 'exerguelaw17.ShapeWrites'. -/
def shapeWritesUptoCard : Claim7 := { stood := { row := shapeWritesUptoRow, standIns := [], harness := (true, "6ee089aa61bb47df88310ddb2fa480b6146c40b8cef401ca6bb71f388c94a843"), looks := false }, kinds := [], alts := [], laidByText := true, laidKinds := [.data, .data, .data], laidTests := true, laidLooks := .later }
def ShapeWritesUptoCardSaid : Prop := Claim7.holds Tryz.pinned (.plain (OpenSpec.upto shapeWritesSpec)) shapeWritesUptoCard

/-- THE SECOND FORM's CARD OF 'exerguelaw17.ShapeReads'. -/
def shapeReadsUptoCard : Claim7 := { stood := { row := shapeReadsUptoRow, standIns := [], harness := (true, "6ee089aa61bb47df88310ddb2fa480b6146c40b8cef401ca6bb71f388c94a843"), looks := false }, kinds := [], alts := [], laidByText := true, laidKinds := [.data, .data, .data], laidTests := true, laidLooks := .later }
def ShapeReadsUptoCardSaid : Prop := Claim7.holds Tryz.pinned (.plain (OpenSpec.upto shapeReadsSpec)) shapeReadsUptoCard

/-- THE SECOND FORM's CARD OF 'exerguelaw17.ShapeBack'. -/
def shapeBackUptoCard : Claim7 := { stood := { row := shapeBackUptoRow, standIns := [], harness := (true, "6ee089aa61bb47df88310ddb2fa480b6146c40b8cef401ca6bb71f388c94a843"), looks := false }, kinds := [], alts := [], laidByText := true, laidKinds := [.data, .data, .data], laidTests := true, laidLooks := .later }
def ShapeBackUptoCardSaid : Prop := Claim7.holds Tryz.pinned (.plain (OpenSpec.upto shapeBackSpec)) shapeBackUptoCard

/-- THE SECOND FORM's CARD OF 'exerguelaw17.ShapeFew'. -/
def shapeFewUptoCard : Claim7 := { stood := { row := shapeFewUptoRow, standIns := [], harness := (true, "6ee089aa61bb47df88310ddb2fa480b6146c40b8cef401ca6bb71f388c94a843"), looks := false }, kinds := [], alts := [], laidByText := true, laidKinds := [.data, .data, .data], laidTests := true, laidLooks := .later }
def ShapeFewUptoCardSaid : Prop := Claim7.holds Tryz.pinned (.plain (OpenSpec.upto shapeFewSpec)) shapeFewUptoCard

/-- THE SECOND FORM's CARD OF 'exerguelaw17.ShapeValue'. -/
def shapeValueUptoCard : Claim7 := { stood := { row := shapeValueUptoRow, standIns := [], harness := (true, "6ee089aa61bb47df88310ddb2fa480b6146c40b8cef401ca6bb71f388c94a843"), looks := false }, kinds := [], alts := [], laidByText := true, laidKinds := [.data, .data, .data], laidTests := true, laidLooks := .later }
def ShapeValueUptoCardSaid : Prop := Claim7.holds Tryz.pinned (.plain (OpenSpec.upto shapeValueSpec)) shapeValueUptoCard

/-- THE SECOND FORM's CARD OF 'exerguelaw17.ShapeSide'. -/
def shapeSideUptoCard : Claim7 := { stood := { row := shapeSideUptoRow, standIns := [], harness := (true, "6ee089aa61bb47df88310ddb2fa480b6146c40b8cef401ca6bb71f388c94a843"), looks := false }, kinds := [], alts := [], laidByText := true, laidKinds := [.data, .data, .data], laidTests := true, laidLooks := .later }
def ShapeSideUptoCardSaid : Prop := Claim7.holds Tryz.pinned (.plain (OpenSpec.upto shapeSideSpec)) shapeSideUptoCard

/-- THE SECOND FORM's CARD OF 'exerguelaw17.ShapeShort'. -/
def shapeShortUptoCard : Claim7 := { stood := { row := shapeShortUptoRow, standIns := [], harness := (true, "6ee089aa61bb47df88310ddb2fa480b6146c40b8cef401ca6bb71f388c94a843"), looks := false }, kinds := [], alts := [], laidByText := true, laidKinds := [.data, .data, .data], laidTests := true, laidLooks := .later }
def ShapeShortUptoCardSaid : Prop := Claim7.holds Tryz.pinned (.plain (OpenSpec.upto shapeShortSpec)) shapeShortUptoCard

/-- THE SECOND FORM's CARD OF 'exerguelaw17.ShapeRead'. -/
def shapeReadUptoCard : Claim7 := { stood := { row := shapeReadUptoRow, standIns := [], harness := (true, "6ee089aa61bb47df88310ddb2fa480b6146c40b8cef401ca6bb71f388c94a843"), looks := false }, kinds := [], alts := [], laidByText := true, laidKinds := [.data, .data, .data], laidTests := true, laidLooks := .later }
def ShapeReadUptoCardSaid : Prop := Claim7.holds Tryz.pinned (.plain (OpenSpec.upto shapeReadSpec)) shapeReadUptoCard
end Rows
end Go.Proofs.YtklebhlanidloaaGreatDoor
