/- RoundOrder, the pure statement: what the law answers is true.
   Conditions: none. -/
import Derived.Test.YtogfokpmpdclbaaDoorRoundOrder
namespace Go.Proofs.YtogfokpmpdclbaaDoor.PZ
open Go.RowKit
theorem Pure.RoundOrder (x0_0_0 : Bool) (x0_0_1 : List Int) (x0_0_2 : Int) (x0_1_0 : Bool) (x0_1_1 : List Int) (x0_1_2 x0_2 x0_3 x0_4 : Int) (hz : x0_0_1.length * 1 ≤ 140737488351232) (hw : ∀ b_ ∈ x0_0_1, (Lit.int .u8 b_).wf = true) (_ : (Lit.int .i64 x0_0_2).wf = true) (hz2 : x0_1_1.length * 1 ≤ 140737488351232) (hw2 : ∀ b_ ∈ x0_1_1, (Lit.int .u8 b_).wf = true) (_ : (Lit.int .i64 x0_1_2).wf = true) (_ : (Lit.int .i64 x0_2).wf = true) (_ : (Lit.int .i64 x0_3).wf = true) (_ : (Lit.int .i64 x0_4).wf = true) : ∃ k, exerguelaw06_RoundOrder.f k x0_0_0 x0_0_1 x0_0_2 x0_1_0 x0_1_1 x0_1_2 x0_2 x0_3 x0_4 = some true := by
  refine ⟨0, ?_⟩
  unfold exerguelaw06_RoundOrder.f
  exact if_pos ⟨⟨hz, hw⟩, hz2, hw2⟩
end Go.Proofs.YtogfokpmpdclbaaDoor.PZ
