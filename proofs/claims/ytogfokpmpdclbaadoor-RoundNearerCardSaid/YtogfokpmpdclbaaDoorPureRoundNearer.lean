/- RoundNearer, the pure statement: what the law answers is true.
   Conditions: none. -/
import Derived.Test.YtogfokpmpdclbaaDoorRoundNearer
namespace Go.Proofs.YtogfokpmpdclbaaDoor.PZ
open Go.RowKit
theorem Pure.RoundNearer (x0_0 : Bool) (x0_1 : List Int) (x0_2 x1 x2 : Int) (hz : x0_1.length * 1 ≤ 140737488351232) (hw : ∀ b_ ∈ x0_1, (Lit.int .u8 b_).wf = true) (_ : (Lit.int .i64 x0_2).wf = true) (_ : (Lit.int .i64 x1).wf = true) (_ : (Lit.int .i64 x2).wf = true) : ∃ k, exerguelaw06_RoundNearer.f k x0_0 x0_1 x0_2 x1 x2 = some true := by
  refine ⟨0, ?_⟩
  unfold exerguelaw06_RoundNearer.f
  exact if_pos ⟨hz, hw⟩
end Go.Proofs.YtogfokpmpdclbaaDoor.PZ
