/-
  DERIVED. GIVEN WITH THE SEED: THE CARDS: each row of YtekinhnempbioaaDoorRows.lean that lists a variable, with what it lists TIED to the program's text (the seventh form; the later family's looks); each row that meets fmt, with fmt's text TOLD by the authors' own Lean function (tested against real Go, not proved from fmt's source: count such statements apart). THE CARD IS WHAT COUNTS. Prove the row's statement (the work); the ties are given (YtekinhnempbioaaDoorTie.lean); close each card by the builder's one call (the guide's Derived/Test/ToyasCard.lean, 'card_holds'). Laid BY PROGRAM, IN A SANDBOX (cutbox-door.mjs). By AI agents, Wed Nov 11 2026. No macro, syntax, notation, axiom, sorry.
-/
import Derived.Test.YtekinhnempbioaaDoorRows
import GoSem.ClaimSeven
namespace Go.Proofs.YtekinhnempbioaaDoor
namespace Rows

/-- THE TIED CARD OF 'exerguelaw07.OperMods'. -/
def operModsCard : Claim7 := { stood := { row := operModsRow, standIns := [], harness := (true, "ab513a59666e6eb712109b42514731a4d262794ec063f29be4c5f2bc483840d8"), looks := false }, kinds := [], alts := [], laidByText := true, laidKinds := [.data, .data, .data, .data, .pinned], laidTests := true, laidLooks := .later }
def OperModsCardSaid : Prop := Claim7.holds Tryd.pinned (.plain (OpenSpec.ofChange operModsSpec)) operModsCard

/-- THE TIED CARD OF 'exerguelaw07.OperNoughts'. -/
def operNoughtsCard : Claim7 := { stood := { row := operNoughtsRow, standIns := [], harness := (true, "ab513a59666e6eb712109b42514731a4d262794ec063f29be4c5f2bc483840d8"), looks := false }, kinds := [], alts := [], laidByText := true, laidKinds := [.data, .data, .data, .data, .pinned], laidTests := true, laidLooks := .later }
def OperNoughtsCardSaid : Prop := Claim7.holds Tryd.pinned (.plain (OpenSpec.ofChange operNoughtsSpec)) operNoughtsCard

/-- THE TIED CARD OF 'exerguelaw07.OperRests'. -/
def operRestsCard : Claim7 := { stood := { row := operRestsRow, standIns := [], harness := (true, "ab513a59666e6eb712109b42514731a4d262794ec063f29be4c5f2bc483840d8"), looks := false }, kinds := [], alts := [], laidByText := true, laidKinds := [.data, .data, .data, .data, .pinned], laidTests := true, laidLooks := .later }
def OperRestsCardSaid : Prop := Claim7.holds Tryd.pinned (.plain (OpenSpec.ofChange operRestsSpec)) operRestsCard

/-- THE TIED CARD OF 'exerguelaw07.OperWhole'. -/
def operWholeCard : Claim7 := { stood := { row := operWholeRow, standIns := [], harness := (true, "ab513a59666e6eb712109b42514731a4d262794ec063f29be4c5f2bc483840d8"), looks := false }, kinds := [], alts := [], laidByText := true, laidKinds := [.data, .data, .data, .data, .pinned], laidTests := true, laidLooks := .later }
def OperWholeCardSaid : Prop := Claim7.holds Tryd.pinned (.plain (OpenSpec.ofChange operWholeSpec)) operWholeCard

/-- THE TIED CARD OF 'exerguelaw07.OperIn'. -/
def operInCard : Claim7 := { stood := { row := operInRow, standIns := [], harness := (true, "ab513a59666e6eb712109b42514731a4d262794ec063f29be4c5f2bc483840d8"), looks := false }, kinds := [], alts := [], laidByText := true, laidKinds := [.data, .data, .data, .data, .pinned], laidTests := true, laidLooks := .later }
def OperInCardSaid : Prop := Claim7.holds Tryd.pinned (.plain (OpenSpec.ofChange operInSpec)) operInCard

/-- THE TIED CARD OF 'exerguelaw07.OperTells'. -/
def operTellsCard : Claim7 := { stood := { row := operTellsRow, standIns := [], harness := (true, "ab513a59666e6eb712109b42514731a4d262794ec063f29be4c5f2bc483840d8"), looks := false }, kinds := [], alts := [], laidByText := true, laidKinds := [.data, .data, .data, .data, .pinned], laidTests := true, laidLooks := .later }
def OperTellsCardSaid : Prop := Claim7.holds Tryd.pinned (.plain (OpenSpec.ofChange operTellsSpec)) operTellsCard

/-- THE TIED CARD OF 'exerguelaw07.OperBack'. -/
def operBackCard : Claim7 := { stood := { row := operBackRow, standIns := [], harness := (true, "ab513a59666e6eb712109b42514731a4d262794ec063f29be4c5f2bc483840d8"), looks := false }, kinds := [], alts := [], laidByText := true, laidKinds := [.data, .data, .data, .data, .pinned], laidTests := true, laidLooks := .later }
def OperBackCardSaid : Prop := Claim7.holds Tryd.pinned (.plain (OpenSpec.ofChange operBackSpec)) operBackCard

/-- THE SECOND FORM's CARD OF 'exerguelaw07.OperMods'. -/
def operModsUptoCard : Claim7 := { stood := { row := operModsUptoRow, standIns := [], harness := (true, "ab513a59666e6eb712109b42514731a4d262794ec063f29be4c5f2bc483840d8"), looks := false }, kinds := [], alts := [], laidByText := true, laidKinds := [.data, .data, .data, .data, .pinned], laidTests := true, laidLooks := .later }
def OperModsUptoCardSaid : Prop := Claim7.holds Tryd.pinned (.plain (OpenSpec.upto operModsSpec)) operModsUptoCard

/-- THE SECOND FORM's CARD OF 'exerguelaw07.OperNoughts'. -/
def operNoughtsUptoCard : Claim7 := { stood := { row := operNoughtsUptoRow, standIns := [], harness := (true, "ab513a59666e6eb712109b42514731a4d262794ec063f29be4c5f2bc483840d8"), looks := false }, kinds := [], alts := [], laidByText := true, laidKinds := [.data, .data, .data, .data, .pinned], laidTests := true, laidLooks := .later }
def OperNoughtsUptoCardSaid : Prop := Claim7.holds Tryd.pinned (.plain (OpenSpec.upto operNoughtsSpec)) operNoughtsUptoCard

/-- THE SECOND FORM's CARD OF 'exerguelaw07.OperRests'. -/
def operRestsUptoCard : Claim7 := { stood := { row := operRestsUptoRow, standIns := [], harness := (true, "ab513a59666e6eb712109b42514731a4d262794ec063f29be4c5f2bc483840d8"), looks := false }, kinds := [], alts := [], laidByText := true, laidKinds := [.data, .data, .data, .data, .pinned], laidTests := true, laidLooks := .later }
def OperRestsUptoCardSaid : Prop := Claim7.holds Tryd.pinned (.plain (OpenSpec.upto operRestsSpec)) operRestsUptoCard

/-- THE SECOND FORM's CARD OF 'exerguelaw07.OperWhole'. -/
def operWholeUptoCard : Claim7 := { stood := { row := operWholeUptoRow, standIns := [], harness := (true, "ab513a59666e6eb712109b42514731a4d262794ec063f29be4c5f2bc483840d8"), looks := false }, kinds := [], alts := [], laidByText := true, laidKinds := [.data, .data, .data, .data, .pinned], laidTests := true, laidLooks := .later }
def OperWholeUptoCardSaid : Prop := Claim7.holds Tryd.pinned (.plain (OpenSpec.upto operWholeSpec)) operWholeUptoCard

/-- THE SECOND FORM's CARD OF 'exerguelaw07.OperIn'. -/
def operInUptoCard : Claim7 := { stood := { row := operInUptoRow, standIns := [], harness := (true, "ab513a59666e6eb712109b42514731a4d262794ec063f29be4c5f2bc483840d8"), looks := false }, kinds := [], alts := [], laidByText := true, laidKinds := [.data, .data, .data, .data, .pinned], laidTests := true, laidLooks := .later }
def OperInUptoCardSaid : Prop := Claim7.holds Tryd.pinned (.plain (OpenSpec.upto operInSpec)) operInUptoCard

/-- THE SECOND FORM's CARD OF 'exerguelaw07.OperTells'. -/
def operTellsUptoCard : Claim7 := { stood := { row := operTellsUptoRow, standIns := [], harness := (true, "ab513a59666e6eb712109b42514731a4d262794ec063f29be4c5f2bc483840d8"), looks := false }, kinds := [], alts := [], laidByText := true, laidKinds := [.data, .data, .data, .data, .pinned], laidTests := true, laidLooks := .later }
def OperTellsUptoCardSaid : Prop := Claim7.holds Tryd.pinned (.plain (OpenSpec.upto operTellsSpec)) operTellsUptoCard

/-- THE SECOND FORM's CARD OF 'exerguelaw07.OperBack'. -/
def operBackUptoCard : Claim7 := { stood := { row := operBackUptoRow, standIns := [], harness := (true, "ab513a59666e6eb712109b42514731a4d262794ec063f29be4c5f2bc483840d8"), looks := false }, kinds := [], alts := [], laidByText := true, laidKinds := [.data, .data, .data, .data, .pinned], laidTests := true, laidLooks := .later }
def OperBackUptoCardSaid : Prop := Claim7.holds Tryd.pinned (.plain (OpenSpec.upto operBackSpec)) operBackUptoCard
end Rows
end Go.Proofs.YtekinhnempbioaaDoor
