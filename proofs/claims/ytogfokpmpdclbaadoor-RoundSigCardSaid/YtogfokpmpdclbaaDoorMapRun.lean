/- A map with whole numbers for keys that the call makes itself: what a store of a new key, and a look, come to.
   Conditions: none. -/
import Derived.Test.YtogfokpmpdclbaaDoorPZx0
import Derived.MapKept
set_option linter.unusedSimpArgs false
set_option linter.unusedVariables false
namespace Go.Proofs.YtogfokpmpdclbaaDoor.PZ
open Go.RowKit Go.Proofs.YtogfokpmpdclbaaDoorW.PrintWords Go.Proofs.YtogfokpmpdclbaaDoorW.PrintLast
theorem map_at (W : World) (es : Array MapEntry) (clk : Nat) : (W.alloc (.map es clk)).heap[W.heap.size]? = some (.map es clk) := by
  have e : (W.alloc (.map es clk)).heap = W.heap.push (.map es clk) := rfl
  rw [e]; simp
end Go.Proofs.YtogfokpmpdclbaaDoor.PZ
