/- OperIn, the pure statement: what the law answers is true.
   Conditions: none. -/
import Derived.Test.YtekinhnempbioaaDoorOperIn
namespace Go.Proofs.YtekinhnempbioaaDoor
open PZ Go.RowKit Go.Proofs.YtekinhnempbioaaDoorW.PrintWords
theorem Pure.OperIn : ∀ (x0_0 : List Int) (x0_1 : Int) (x0_2 : Int) (x0_3 : Int), x0_0.length * 1 ≤ 140737488351232 → (∀ b_ ∈ x0_0, (Lit.int .u8 b_).wf = true) → (Lit.int .i64 x0_1).wf = true → (Lit.int .i64 x0_2).wf = true → (Lit.int .i64 x0_3).wf = true → ∃ k, exerguelaw07_OperIn.f k x0_0 x0_1 x0_2 x0_3 = some true := by
  intro l a b c hm hw ha hb hc
  refine ⟨0, ?_⟩
  unfold exerguelaw07_OperIn.f
  exact if_pos ⟨⟨hm, hw⟩, ha, hb, hc⟩
end Go.Proofs.YtekinhnempbioaaDoor
