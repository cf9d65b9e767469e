/- The law texts' head, the document's example: it is true.
   Conditions: none. -/
import Derived.Test.YtekinhnempbioaaDoorPZx9
import Derived.Test.YtekinhnempbioaaDoorPureOperRef
import Derived.KernelRfl
namespace Go.Proofs.YtekinhnempbioaaDoor.PZ
open Go.RowKit Go.Proofs.YtekinhnempbioaaDoorW.PrintWords Go.Proofs.YtekinhnempbioaaDoorW.PrintLast
theorem shown_true : exerguelaw07_shown.f 12 = some true := by kernel_rfl
theorem shown_ev : Ev (fun k => exerguelaw07_shown.f k) true := Ev.of (k := 12) exerguelaw07_shown.mono shown_true
end Go.Proofs.YtekinhnempbioaaDoor.PZ
