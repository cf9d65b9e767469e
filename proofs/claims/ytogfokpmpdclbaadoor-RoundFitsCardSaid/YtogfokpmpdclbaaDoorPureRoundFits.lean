/- RoundFits, the pure statement: what the law answers is true.
   Conditions: none. -/
import Derived.Test.YtogfokpmpdclbaaDoorRoundFits
namespace Go.Proofs.YtogfokpmpdclbaaDoor.PZ
open Go.RowKit
theorem Pure.RoundFits (x0_0_0 : Bool) (x0_0_1 : List Int) (x0_0_2 x0_1 x0_2 x0_3 x0_4 : Int) (hz : x0_0_1.length * 1 ≤ 140737488351232) (hw : ∀ b_ ∈ x0_0_1, (Lit.int .u8 b_).wf = true) (_ : (Lit.int .i64 x0_0_2).wf = true) (_ : (Lit.int .i64 x0_1).wf = true) (_ : (Lit.int .i64 x0_2).wf = true) (h3 : (Lit.int .u8 x0_3).wf = true) (_ : (Lit.int .i64 x0_4).wf = true) : ∃ k, exerguelaw06_RoundFits.f k x0_0_0 x0_0_1 x0_0_2 x0_1 x0_2 x0_3 x0_4 = some true := by
  refine ⟨0, ?_⟩
  unfold exerguelaw06_RoundFits.f
  refine if_pos ⟨⟨hz, hw⟩, ?_⟩
  simp only [Lit.wf, Bool.and_eq_true, decide_eq_true_eq] at h3
  first | exact h3 | (simp [IntKind.min, IntKind.max, IntKind.fits] at h3; omega)
end Go.Proofs.YtogfokpmpdclbaaDoor.PZ
