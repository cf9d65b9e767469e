/- RoundBetween, the pure statement: what the law answers is true.
   Conditions: none. -/
import Derived.Test.YtogfokpmpdclbaaDoorRoundBetween
namespace Go.Proofs.YtogfokpmpdclbaaDoor.PZ
open Go.RowKit
theorem Pure.RoundBetween (x0_0_0 : Bool) (x0_0_1 : List Int) (x0_0_2 x0_1 x0_2 x0_3 : Int) (hz : x0_0_1.length * 1 ≤ 140737488351232) (hw : ∀ b_ ∈ x0_0_1, (Lit.int .u8 b_).wf = true) (_ : (Lit.int .i64 x0_0_2).wf = true) (_ : (Lit.int .i64 x0_1).wf = true) (_ : (Lit.int .i64 x0_2).wf = true) (_ : (Lit.int .i64 x0_3).wf = true) : ∃ k, exerguelaw06_RoundBetween.f k x0_0_0 x0_0_1 x0_0_2 x0_1 x0_2 x0_3 = some true := by
  refine ⟨0, ?_⟩
  unfold exerguelaw06_RoundBetween.f
  exact if_pos ⟨hz, hw⟩
end Go.Proofs.YtogfokpmpdclbaaDoor.PZ
