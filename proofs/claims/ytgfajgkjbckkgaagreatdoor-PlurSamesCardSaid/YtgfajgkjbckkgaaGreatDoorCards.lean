/-
  DERIVED. GIVEN WITH THE SEED: THE CARDS: each row of YtgfajgkjbckkgaaGreatDoorRows.lean that lists a variable, with what it lists TIED to the program's text (the seventh form; the later family's looks); each row that meets fmt, with fmt's text TOLD by the authors' own Lean function (tested against real Go, not proved from fmt's source: count such statements apart). THE CARD IS WHAT COUNTS. Prove the row's statement (the work); the ties are given (YtgfajgkjbckkgaaGreatDoorTie.lean); close each card by the builder's one call (the guide's Derived/Test/ToyasCard.lean, 'card_holds'). Laid BY PROGRAM, IN A SANDBOX (cutbox-door.mjs). By AI agents, Wed Nov 11 2026. No macro, syntax, notation, axiom, sorry.
-/
import Derived.Test.YtgfajgkjbckkgaaGreatDoorRows
import GoSem.ClaimSeven
namespace Go.Proofs.YtgfajgkjbckkgaaGreatDoor
namespace Rows

/-- THE TIED CARD OF 'exerguelaw12.PlurNames'. -/
def plurNamesCard : Claim7 := { stood := { row := plurNamesRow, standIns := [], harness := (true, "4194f9b11aa4e30952e175991b751fcfc80ce279dfda3f5c2569b14561fedf99"), looks := true }, kinds := [], alts := [], laidByText := true, laidKinds := [.data, .data, .data, .data, .sentinel, .sentinel, .pinned], laidTests := true, laidLooks := .later }
def PlurNamesCardSaid : Prop := Claim7.holds Tryz.pinned (.plain (OpenSpec.ofChange plurNamesSpec)) plurNamesCard

/-- THE TIED CARD OF 'exerguelaw12.PlurTells'. -/
def plurTellsCard : Claim7 := { stood := { row := plurTellsRow, standIns := [], harness := (true, "4194f9b11aa4e30952e175991b751fcfc80ce279dfda3f5c2569b14561fedf99"), looks := true }, kinds := [], alts := [], laidByText := true, laidKinds := [.data, .data, .data, .data, .sentinel, .sentinel, .pinned], laidTests := true, laidLooks := .later }
def PlurTellsCardSaid : Prop := Claim7.holds Tryz.pinned (.plain (OpenSpec.ofChange plurTellsSpec)) plurTellsCard

/-- THE TIED CARD OF 'exerguelaw11.RuleTells'. -/
def ruleTellsCard : Claim7 := { stood := { row := ruleTellsRow, standIns := [], harness := (true, "4194f9b11aa4e30952e175991b751fcfc80ce279dfda3f5c2569b14561fedf99"), looks := true }, kinds := [], alts := [], laidByText := true, laidKinds := [.data, .data, .data, .data, .sentinel, .sentinel, .pinned], laidTests := true, laidLooks := .later }
def RuleTellsCardSaid : Prop := Claim7.holds Tryz.pinned (.plain (OpenSpec.ofChange ruleTellsSpec)) ruleTellsCard

/-- THE TIED CARD OF 'exerguelaw11.RuleJoins'. -/
def ruleJoinsCard : Claim7 := { stood := { row := ruleJoinsRow, standIns := [], harness := (true, "4194f9b11aa4e30952e175991b751fcfc80ce279dfda3f5c2569b14561fedf99"), looks := true }, kinds := [], alts := [], laidByText := true, laidKinds := [.data, .data, .data, .data, .sentinel, .sentinel, .pinned], laidTests := true, laidLooks := .later }
def RuleJoinsCardSaid : Prop := Claim7.holds Tryz.pinned (.plain (OpenSpec.ofChange ruleJoinsSpec)) ruleJoinsCard

/-- THE TIED CARD OF 'exerguelaw11.RuleBlanks'. -/
def ruleBlanksCard : Claim7 := { stood := { row := ruleBlanksRow, standIns := [], harness := (true, "4194f9b11aa4e30952e175991b751fcfc80ce279dfda3f5c2569b14561fedf99"), looks := true }, kinds := [], alts := [], laidByText := true, laidKinds := [.data, .data, .data, .data, .sentinel, .sentinel, .pinned], laidTests := true, laidLooks := .later }
def RuleBlanksCardSaid : Prop := Claim7.holds Tryz.pinned (.plain (OpenSpec.ofChange ruleBlanksSpec)) ruleBlanksCard

/-- THE TIED CARD OF 'exerguelaw11.RuleWide'. -/
def ruleWideCard : Claim7 := { stood := { row := ruleWideRow, standIns := [], harness := (true, "4194f9b11aa4e30952e175991b751fcfc80ce279dfda3f5c2569b14561fedf99"), looks := true }, kinds := [], alts := [], laidByText := true, laidKinds := [.data, .data, .data, .data, .sentinel, .sentinel, .pinned], laidTests := true, laidLooks := .later }
def RuleWideCardSaid : Prop := Claim7.holds Tryz.pinned (.plain (OpenSpec.ofChange ruleWideSpec)) ruleWideCard

/-- THE TIED CARD OF 'exerguelaw12.PlurTotal'. -/
def plurTotalCard : Claim7 := { stood := { row := plurTotalRow, standIns := [], harness := (true, "4194f9b11aa4e30952e175991b751fcfc80ce279dfda3f5c2569b14561fedf99"), looks := true }, kinds := [], alts := [], laidByText := true, laidKinds := [.data, .data, .data, .data, .sentinel, .sentinel, .pinned], laidTests := true, laidLooks := .later }
def PlurTotalCardSaid : Prop := Claim7.holds Tryz.pinned (.plain (OpenSpec.ofChange plurTotalSpec)) plurTotalCard

/-- THE TIED CARD OF 'exerguelaw12.PlurLess'. -/
def plurLessCard : Claim7 := { stood := { row := plurLessRow, standIns := [], harness := (true, "4194f9b11aa4e30952e175991b751fcfc80ce279dfda3f5c2569b14561fedf99"), looks := true }, kinds := [], alts := [], laidByText := true, laidKinds := [.data, .data, .data, .data, .sentinel, .sentinel, .pinned], laidTests := true, laidLooks := .later }
def PlurLessCardSaid : Prop := Claim7.holds Tryz.pinned (.plain (OpenSpec.ofChange plurLessSpec)) plurLessCard

/-- THE TIED CARD OF 'exerguelaw12.PlurRead'. -/
def plurReadCard : Claim7 := { stood := { row := plurReadRow, standIns := [], harness := (true, "4194f9b11aa4e30952e175991b751fcfc80ce279dfda3f5c2569b14561fedf99"), looks := true }, kinds := [], alts := [], laidByText := true, laidKinds := [.data, .data, .data, .data, .sentinel, .sentinel, .pinned], laidTests := true, laidLooks := .later }
def PlurReadCardSaid : Prop := Claim7.holds Tryz.pinned (.plain (OpenSpec.ofChange plurReadSpec)) plurReadCard

/-- THE TIED CARD OF 'exerguelaw12.PlurReads'. -/
def plurReadsCard : Claim7 := { stood := { row := plurReadsRow, standIns := [], harness := (true, "4194f9b11aa4e30952e175991b751fcfc80ce279dfda3f5c2569b14561fedf99"), looks := true }, kinds := [], alts := [], laidByText := true, laidKinds := [.data, .data, .data, .data, .sentinel, .sentinel, .pinned], laidTests := true, laidLooks := .later }
def PlurReadsCardSaid : Prop := Claim7.holds Tryz.pinned (.plain (OpenSpec.ofChange plurReadsSpec)) plurReadsCard

/-- THE TIED CARD OF 'exerguelaw12.PlurSames'. -/
def plurSamesCard : Claim7 := { stood := { row := plurSamesRow, standIns := [], harness := (true, "4194f9b11aa4e30952e175991b751fcfc80ce279dfda3f5c2569b14561fedf99"), looks := true }, kinds := [], alts := [], laidByText := true, laidKinds := [.data, .data, .data, .data, .sentinel, .sentinel, .pinned], laidTests := true, laidLooks := .later }
def PlurSamesCardSaid : Prop := Claim7.holds Tryz.pinned (.plain (OpenSpec.ofChange plurSamesSpec)) plurSamesCard

/-- THE SECOND FORM's CARD OF 'exerguelaw12.PlurNames'. -/
def plurNamesUptoCard : Claim7 := { stood := { row := plurNamesUptoRow, standIns := [], harness := (true, "4194f9b11aa4e30952e175991b751fcfc80ce279dfda3f5c2569b14561fedf99"), looks := true }, kinds := [], alts := [], laidByText := true, laidKinds := [.data, .data, .data, .data, .sentinel, .sentinel, .pinned], laidTests := true, laidLooks := .later }
def PlurNamesUptoCardSaid : Prop := Claim7.holds Tryz.pinned (.plain (OpenSpec.upto plurNamesSpec)) plurNamesUptoCard

/-- THE SECOND FORM's CARD OF 'exerguelaw12.PlurTells'. -/
def plurTellsUptoCard : Claim7 := { stood := { row := plurTellsUptoRow, standIns := [], harness := (true, "4194f9b11aa4e30952e175991b751fcfc80ce279dfda3f5c2569b14561fedf99"), looks := true }, kinds := [], alts := [], laidByText := true, laidKinds := [.data, .data, .data, .data, .sentinel, .sentinel, .pinned], laidTests := true, laidLooks := .later }
def PlurTellsUptoCardSaid : Prop := Claim7.holds Tryz.pinned (.plain (OpenSpec.upto plurTellsSpec)) plurTellsUptoCard

/-- THE SECOND FORM's CARD OF 'exerguelaw11.RuleTells'. -/
def ruleTellsUptoCard : Claim7 := { stood := { row := ruleTellsUptoRow, standIns := [], harness := (true, "4194f9b11aa4e30952e175991b751fcfc80ce279dfda3f5c2569b14561fedf99"), looks := true }, kinds := [], alts := [], laidByText := true, laidKinds := [.data, .data, .data, .data, .sentinel, .sentinel, .pinned], laidTests := true, laidLooks := .later }
def RuleTellsUptoCardSaid : Prop := Claim7.holds Tryz.pinned (.plain (OpenSpec.upto ruleTellsSpec)) ruleTellsUptoCard

/-- THE SECOND FORM's CARD OF 'exerguelaw11.RuleJoins'. -/
def ruleJoinsUptoCard : Claim7 := { stood := { row := ruleJoinsUptoRow, standIns := [], harness := (true, "4194f9b11aa4e30952e175991b751fcfc80ce279dfda3f5c2569b14561fedf99"), looks := true }, kinds := [], alts := [], laidByText := true, laidKinds := [.data, .data, .data, .data, .sentinel, .sentinel, .pinned], laidTests := true, laidLooks := .later }
def RuleJoinsUptoCardSaid : Prop := Claim7.holds Tryz.pinned (.plain (OpenSpec.upto ruleJoinsSpec)) ruleJoinsUptoCard

/-- THE SECOND FORM's CARD OF 'exerguelaw11.RuleBlanks'. -/
def ruleBlanksUptoCard : Claim7 := { stood := { row := ruleBlanksUptoRow, standIns := [], harness := (true, "4194f9b11aa4e30952e175991b751fcfc80ce279dfda3f5c2569b14561fedf99"), looks := true }, kinds := [], alts := [], laidByText := true, laidKinds := [.data, .data, .data, .data, .sentinel, .sentinel, .pinned], laidTests := true, laidLooks := .later }
def RuleBlanksUptoCardSaid : Prop := Claim7.holds Tryz.pinned (.plain (OpenSpec.upto ruleBlanksSpec)) ruleBlanksUptoCard

/-- THE SECOND FORM's CARD OF 'exerguelaw11.RuleWide'. -/
def ruleWideUptoCard : Claim7 := { stood := { row := ruleWideUptoRow, standIns := [], harness := (true, "4194f9b11aa4e30952e175991b751fcfc80ce279dfda3f5c2569b14561fedf99"), looks := true }, kinds := [], alts := [], laidByText := true, laidKinds := [.data, .data, .data, .data, .sentinel, .sentinel, .pinned], laidTests := true, laidLooks := .later }
def RuleWideUptoCardSaid : Prop := Claim7.holds Tryz.pinned (.plain (OpenSpec.upto ruleWideSpec)) ruleWideUptoCard

/-- THE SECOND FORM's CARD OF 'exerguelaw12.PlurTotal'. -/
def plurTotalUptoCard : Claim7 := { stood := { row := plurTotalUptoRow, standIns := [], harness := (true, "4194f9b11aa4e30952e175991b751fcfc80ce279dfda3f5c2569b14561fedf99"), looks := true }, kinds := [], alts := [], laidByText := true, laidKinds := [.data, .data, .data, .data, .sentinel, .sentinel, .pinned], laidTests := true, laidLooks := .later }
def PlurTotalUptoCardSaid : Prop := Claim7.holds Tryz.pinned (.plain (OpenSpec.upto plurTotalSpec)) plurTotalUptoCard

/-- THE SECOND FORM's CARD OF 'exerguelaw12.PlurLess'. -/
def plurLessUptoCard : Claim7 := { stood := { row := plurLessUptoRow, standIns := [], harness := (true, "4194f9b11aa4e30952e175991b751fcfc80ce279dfda3f5c2569b14561fedf99"), looks := true }, kinds := [], alts := [], laidByText := true, laidKinds := [.data, .data, .data, .data, .sentinel, .sentinel, .pinned], laidTests := true, laidLooks := .later }
def PlurLessUptoCardSaid : Prop := Claim7.holds Tryz.pinned (.plain (OpenSpec.upto plurLessSpec)) plurLessUptoCard

/-- THE SECOND FORM's CARD OF 'exerguelaw12.PlurRead'. -/
def plurReadUptoCard : Claim7 := { stood := { row := plurReadUptoRow, standIns := [], harness := (true, "4194f9b11aa4e30952e175991b751fcfc80ce279dfda3f5c2569b14561fedf99"), looks := true }, kinds := [], alts := [], laidByText := true, laidKinds := [.data, .data, .data, .data, .sentinel, .sentinel, .pinned], laidTests := true, laidLooks := .later }
def PlurReadUptoCardSaid : Prop := Claim7.holds Tryz.pinned (.plain (OpenSpec.upto plurReadSpec)) plurReadUptoCard

/-- THE SECOND FORM's CARD OF 'exerguelaw12.PlurReads'. -/
def plurReadsUptoCard : Claim7 := { stood := { row := plurReadsUptoRow, standIns := [], harness := (true, "4194f9b11aa4e30952e175991b751fcfc80ce279dfda3f5c2569b14561fedf99"), looks := true }, kinds := [], alts := [], laidByText := true, laidKinds := [.data, .data, .data, .data, .sentinel, .sentinel, .pinned], laidTests := true, laidLooks := .later }
def PlurReadsUptoCardSaid : Prop := Claim7.holds Tryz.pinned (.plain (OpenSpec.upto plurReadsSpec)) plurReadsUptoCard

/-- THE SECOND FORM's CARD OF 'exerguelaw12.PlurSames'. -/
def plurSamesUptoCard : Claim7 := { stood := { row := plurSamesUptoRow, standIns := [], harness := (true, "4194f9b11aa4e30952e175991b751fcfc80ce279dfda3f5c2569b14561fedf99"), looks := true }, kinds := [], alts := [], laidByText := true, laidKinds := [.data, .data, .data, .data, .sentinel, .sentinel, .pinned], laidTests := true, laidLooks := .later }
def PlurSamesUptoCardSaid : Prop := Claim7.holds Tryz.pinned (.plain (OpenSpec.upto plurSamesSpec)) plurSamesUptoCard
end Rows
end Go.Proofs.YtgfajgkjbckkgaaGreatDoor
