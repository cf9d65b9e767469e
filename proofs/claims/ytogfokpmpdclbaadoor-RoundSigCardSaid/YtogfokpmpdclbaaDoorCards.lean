/-
  DERIVED. GIVEN WITH THE SEED: THE CARDS: each row of YtogfokpmpdclbaaDoorRows.lean that lists a variable, with what it lists TIED to the program's text (the seventh form; the later family's looks); each row that meets fmt, with fmt's text TOLD by the authors' own Lean function (tested against real Go, not proved from fmt's source: count such statements apart). THE CARD IS WHAT COUNTS. Prove the row's statement (the work); the ties are given (YtogfokpmpdclbaaDoorTie.lean); close each card by the builder's one call (the guide's Derived/Test/ToyasCard.lean, 'card_holds'). Laid BY PROGRAM, IN A SANDBOX (cutbox-door.mjs). By AI agents, Wed Nov 11 2026. No macro, syntax, notation, axiom, sorry.
-/
import Derived.Test.YtogfokpmpdclbaaDoorRows
import GoSem.ClaimSeven
namespace Go.Proofs.YtogfokpmpdclbaaDoor
namespace Rows

/-- THE TIED CARD OF 'exerguelaw06.RoundStays'. -/
def roundStaysCard : Claim7 := { stood := { row := roundStaysRow, standIns := [], harness := (true, "2cdfbcd84ce072bc38dc7f56d5e55a3ff50e9f30e27d7cffcce99cd1f18f617c"), looks := false }, kinds := [], alts := [], laidByText := true, laidKinds := [.data, .data, .data], laidTests := true, laidLooks := .later }
def RoundStaysCardSaid : Prop := Claim7.holds Tryd.pinned (.plain (OpenSpec.ofChange roundStaysSpec)) roundStaysCard

/-- THE TIED CARD OF 'exerguelaw06.RoundBetween'. -/
def roundBetweenCard : Claim7 := { stood := { row := roundBetweenRow, standIns := [], harness := (true, "2cdfbcd84ce072bc38dc7f56d5e55a3ff50e9f30e27d7cffcce99cd1f18f617c"), looks := false }, kinds := [], alts := [], laidByText := true, laidKinds := [.data, .data, .data], laidTests := true, laidLooks := .later }
def RoundBetweenCardSaid : Prop := Claim7.holds Tryd.pinned (.plain (OpenSpec.ofChange roundBetweenSpec)) roundBetweenCard

/-- THE TIED CARD OF 'exerguelaw06.RoundOrder'. -/
def roundOrderCard : Claim7 := { stood := { row := roundOrderRow, standIns := [], harness := (true, "2cdfbcd84ce072bc38dc7f56d5e55a3ff50e9f30e27d7cffcce99cd1f18f617c"), looks := false }, kinds := [], alts := [], laidByText := true, laidKinds := [.data, .data, .data], laidTests := true, laidLooks := .later }
def RoundOrderCardSaid : Prop := Claim7.holds Tryd.pinned (.plain (OpenSpec.ofChange roundOrderSpec)) roundOrderCard

/-- THE TIED CARD OF 'exerguelaw06.RoundNearer'. -/
def roundNearerCard : Claim7 := { stood := { row := roundNearerRow, standIns := [], harness := (true, "2cdfbcd84ce072bc38dc7f56d5e55a3ff50e9f30e27d7cffcce99cd1f18f617c"), looks := false }, kinds := [], alts := [], laidByText := true, laidKinds := [.data, .data, .data], laidTests := true, laidLooks := .later }
def RoundNearerCardSaid : Prop := Claim7.holds Tryd.pinned (.plain (OpenSpec.ofChange roundNearerSpec)) roundNearerCard

/-- THE TIED CARD OF 'exerguelaw06.RoundSig'. -/
def roundSigCard : Claim7 := { stood := { row := roundSigRow, standIns := [], harness := (true, "2cdfbcd84ce072bc38dc7f56d5e55a3ff50e9f30e27d7cffcce99cd1f18f617c"), looks := false }, kinds := [], alts := [], laidByText := true, laidKinds := [.data, .data, .data], laidTests := true, laidLooks := .later }
def RoundSigCardSaid : Prop := Claim7.holds Tryd.pinned (.plain (OpenSpec.ofChange roundSigSpec)) roundSigCard

/-- THE TIED CARD OF 'exerguelaw06.RoundFits'. -/
def roundFitsCard : Claim7 := { stood := { row := roundFitsRow, standIns := [], harness := (true, "2cdfbcd84ce072bc38dc7f56d5e55a3ff50e9f30e27d7cffcce99cd1f18f617c"), looks := false }, kinds := [], alts := [], laidByText := true, laidKinds := [.data, .data, .data], laidTests := true, laidLooks := .later }
def RoundFitsCardSaid : Prop := Claim7.holds Tryd.pinned (.plain (OpenSpec.ofChange roundFitsSpec)) roundFitsCard

/-- THE SECOND FORM's CARD OF 'exerguelaw06.RoundStays'. -/
def roundStaysUptoCard : Claim7 := { stood := { row := roundStaysUptoRow, standIns := [], harness := (true, "2cdfbcd84ce072bc38dc7f56d5e55a3ff50e9f30e27d7cffcce99cd1f18f617c"), looks := false }, kinds := [], alts := [], laidByText := true, laidKinds := [.data, .data, .data], laidTests := true, laidLooks := .later }
def RoundStaysUptoCardSaid : Prop := Claim7.holds Tryd.pinned (.plain (OpenSpec.upto roundStaysSpec)) roundStaysUptoCard

/-- THE SECOND FORM's CARD OF 'exerguelaw06.RoundBetween'. -/
def roundBetweenUptoCard : Claim7 := { stood := { row := roundBetweenUptoRow, standIns := [], harness := (true, "2cdfbcd84ce072bc38dc7f56d5e55a3ff50e9f30e27d7cffcce99cd1f18f617c"), looks := false }, kinds := [], alts := [], laidByText := true, laidKinds := [.data, .data, .data], laidTests := true, laidLooks := .later }
def RoundBetweenUptoCardSaid : Prop := Claim7.holds Tryd.pinned (.plain (OpenSpec.upto roundBetweenSpec)) roundBetweenUptoCard

/-- THE SECOND FORM's CARD OF 'exerguelaw06.RoundOrder'. -/
def roundOrderUptoCard : Claim7 := { stood := { row := roundOrderUptoRow, standIns := [], harness := (true, "2cdfbcd84ce072bc38dc7f56d5e55a3ff50e9f30e27d7cffcce99cd1f18f617c"), looks := false }, kinds := [], alts := [], laidByText := true, laidKinds := [.data, .data, .data], laidTests := true, laidLooks := .later }
def RoundOrderUptoCardSaid : Prop := Claim7.holds Tryd.pinned (.plain (OpenSpec.upto roundOrderSpec)) roundOrderUptoCard

/-- THE SECOND FORM's CARD OF 'exerguelaw06.RoundNearer'. -/
def roundNearerUptoCard : Claim7 := { stood := { row := roundNearerUptoRow, standIns := [], harness := (true, "2cdfbcd84ce072bc38dc7f56d5e55a3ff50e9f30e27d7cffcce99cd1f18f617c"), looks := false }, kinds := [], alts := [], laidByText := true, laidKinds := [.data, .data, .data], laidTests := true, laidLooks := .later }
def RoundNearerUptoCardSaid : Prop := Claim7.holds Tryd.pinned (.plain (OpenSpec.upto roundNearerSpec)) roundNearerUptoCard

/-- THE SECOND FORM's CARD OF 'exerguelaw06.RoundSig'. -/
def roundSigUptoCard : Claim7 := { stood := { row := roundSigUptoRow, standIns := [], harness := (true, "2cdfbcd84ce072bc38dc7f56d5e55a3ff50e9f30e27d7cffcce99cd1f18f617c"), looks := false }, kinds := [], alts := [], laidByText := true, laidKinds := [.data, .data, .data], laidTests := true, laidLooks := .later }
def RoundSigUptoCardSaid : Prop := Claim7.holds Tryd.pinned (.plain (OpenSpec.upto roundSigSpec)) roundSigUptoCard

/-- THE SECOND FORM's CARD OF 'exerguelaw06.RoundFits'. -/
def roundFitsUptoCard : Claim7 := { stood := { row := roundFitsUptoRow, standIns := [], harness := (true, "2cdfbcd84ce072bc38dc7f56d5e55a3ff50e9f30e27d7cffcce99cd1f18f617c"), looks := false }, kinds := [], alts := [], laidByText := true, laidKinds := [.data, .data, .data], laidTests := true, laidLooks := .later }
def RoundFitsUptoCardSaid : Prop := Claim7.holds Tryd.pinned (.plain (OpenSpec.upto roundFitsSpec)) roundFitsUptoCard
end Rows
end Go.Proofs.YtogfokpmpdclbaaDoor
