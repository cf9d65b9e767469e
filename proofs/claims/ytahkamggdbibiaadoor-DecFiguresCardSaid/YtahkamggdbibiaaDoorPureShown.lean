/- The law texts' head, the document's example: it is true.
   Conditions: none. -/
import Derived.Test.YtahkamggdbibiaaDoorPZx16
import Derived.KernelRfl
namespace Go.Proofs.YtahkamggdbibiaaDoor.PZ
open Go.RowKit Go.Proofs.YtahkamggdbibiaaDoorW.PrintWords Go.Proofs.YtahkamggdbibiaaDoorW.PrintLast
theorem shown_true : exerguelaw05_shown.f 12 = some true := by kernel_rfl
end Go.Proofs.YtahkamggdbibiaaDoor.PZ
