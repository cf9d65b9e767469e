/- The law texts' head, the document's example: it is true.
   Conditions: none. -/
import Derived.Test.YtahkamggdbibiaaDoorPZx10
import Derived.KernelRfl
namespace Go.Proofs.YtahkamggdbibiaaDoor.PZ
open Go.RowKit Go.Proofs.YtahkamggdbibiaaDoorW.PrintWords Go.Proofs.YtahkamggdbibiaaDoorW.PrintLast
theorem shown_true : exerguelaw05_shown.f 12 = some true := by kernel_rfl
theorem shown_ev : Ev (fun k => exerguelaw05_shown.f k) true := Ev.of (k := 12) exerguelaw05_shown.mono shown_true
end Go.Proofs.YtahkamggdbibiaaDoor.PZ
