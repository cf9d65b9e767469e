/- OperBack, the pure statement: what the law computes is true.
   Conditions: none. -/
import Derived.Test.YtekinhnempbioaaDoorPZx24
import Derived.Test.YtekinhnempbioaaDoorPureOperEqual
import Derived.Test.YtekinhnempbioaaDoorPureShown07
set_option linter.unusedSimpArgs false
set_option linter.unusedVariables false
namespace Go.Proofs.YtekinhnempbioaaDoor.PZ
open Go.RowKit Go.Proofs.YtekinhnempbioaaDoorW.PrintWords Go.Proofs.YtekinhnempbioaaDoorW.PrintLast
theorem opback_off (i f : List Int) (w c : Int) : Ev (fun k => exerguelaw07_OperBack.j0 k true true i f w c) true := by
  refine Ev_shift ?_
  simp only [exerguelaw07_OperBack.j0, if_true]
  exact Ev.now true
theorem opback_j0 {i f : List Int} {w c : Int} (h : RightO i f w c) (hi : Bytes i) (hf : Bytes f) (li : i.length ≤ 1000) (lf : f.length ≤ 1000) : Ev (fun k => exerguelaw07_OperBack.j0 k true false i f w c) true := by
  refine Ev_shift ?_
  simp only [exerguelaw07_OperBack.j0, Bool.false_eq_true, if_false, if_true]
  have e : ofR i f c = (i, f, w, c, 0) := by
    unfold ofR
    rw [if_pos ⟨h.1, h.2.1, h.2.2.2.2.1, h.2.2.2.2.2⟩, bareL_of h.2.2.1, ← h.2.2.2.1]
  have ho := of_ev i f c (by omega) (by omega)
  rw [e] at ho
  refine Ev.bind ho ?_
  simp only [if_true]
  have hs := sameO_ev i f w c i f w c (by omega) (by omega)
  rw [sameO_self] at hs
  refine Ev.bind hs ?_
  simp only [if_true]
  rw [operSame_f w c w c hi hf hi hf, sameO_self, rightO_f, decide_eq_true h]
  simp only [Option.bind_some, if_true]
  exact Ev.now true
end Go.Proofs.YtekinhnempbioaaDoor.PZ
namespace Go.Proofs.YtekinhnempbioaaDoor
open PZ Go.RowKit Go.Proofs.YtekinhnempbioaaDoorW.PrintWords
theorem Pure.OperBack : ∀ (x0_0 : List Int) (x0_1 : List Int) (x0_2 : Int) (x0_3 : Int), x0_0.length * 1 ≤ 140737488351232 → (∀ b_ ∈ x0_0, (Lit.int .u8 b_).wf = true) → x0_1.length * 1 ≤ 140737488351232 → (∀ b_ ∈ x0_1, (Lit.int .u8 b_).wf = true) → (Lit.int .i64 x0_2).wf = true → (Lit.int .i64 x0_3).wf = true → ∃ k, exerguelaw07_OperBack.f k x0_0 x0_1 x0_2 x0_3 = some true := by
  intro i f w c hm hwi hm' hwf _ _
  apply Ev.rounds
  unfold exerguelaw07_OperBack.f
  refine Ev.bind shown_ev ?_
  rw [few_f hm hm']
  by_cases h1 : (i.length : Int) + (f.length : Int) > 1000
  · simp only [if_pos h1]
    exact opback_off i f w c
  · simp only [if_neg h1]
    refine Ev.bind (refRight_ev i f w c (by omega) (by omega)) ?_
    by_cases hr : RightO i f w c
    · simp only [decide_eq_true hr, Bool.not_true]
      exact opback_j0 hr (bytes_of hwi) (bytes_of hwf) (by omega) (by omega)
    · simp only [decide_eq_false hr, Bool.not_false]
      exact opback_off i f w c
end Go.Proofs.YtekinhnempbioaaDoor
