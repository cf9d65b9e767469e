/- DecBack, the pure statement: what the law computes is true.
   Conditions: none. -/
import Derived.Test.YtahkamggdbibiaaDoorPZx18
import Derived.Test.YtahkamggdbibiaaDoorPureRead
import Derived.Test.YtahkamggdbibiaaDoorPureShown
set_option linter.unusedSimpArgs false
set_option linter.unusedVariables false
namespace Go.Proofs.YtahkamggdbibiaaDoor.PZ
open Go.RowKit Go.Proofs.YtahkamggdbibiaaDoorW.PrintWords Go.Proofs.YtahkamggdbibiaaDoorW.PrintLast
theorem back_j0 (g : Bool) {l : List Int} (e : Int) (hm : l.length ≤ maxLen) (hw : ∀ b_ ∈ l, (Lit.int .u8 b_).wf = true) : Ev (fun k => exerguelaw05_DecBack.j0 k true false g l e) true := by
  refine Ev_shift ?_
  simp only [exerguelaw05_DecBack.j0, Bool.false_eq_true, if_false]
  rcases right_cases g (e := e) hm hw with ⟨r, h⟩ | r
  · refine Ev.bind r ?_
    simp only [if_true]
    rw [text_f g h]
    simp only [Option.bind_some]
    rw [read_text g h]
    simp only [Option.bind_some, if_true]
    refine Ev.bind (same_self g l e (by have := h.len; omega)) ?_
    exact Ev.now true
  · refine Ev.bind r ?_
    simp only [Bool.false_eq_true, if_false]
    exact Ev.now true
end Go.Proofs.YtahkamggdbibiaaDoor.PZ
namespace Go.Proofs.YtahkamggdbibiaaDoor
open PZ Go.RowKit Go.Proofs.YtahkamggdbibiaaDoorW.PrintWords
theorem Pure.DecBack : ∀ (x0_0 : Bool) (x0_1 : List Int) (x0_2 : Int) (x1 : ByteArray), x0_1.length ≤ maxLen → (∀ b_ ∈ x0_1, (Lit.int .u8 b_).wf = true) → (Lit.int .i64 x0_2).wf = true → ∃ k, exerguelaw05_DecBack.f k x0_0 x0_1 x0_2 x1 = some true := by
  intro g l e s hm hw _
  apply Ev.rounds
  unfold exerguelaw05_DecBack.f
  refine Ev.bind shown_ev ?_
  by_cases h1 : (s.size : Int) > 2000
  · simp only [h1, if_true]
    exact Ev.now true
  · simp only [h1, if_false]
    rcases read_cases s (by omega) with ⟨g', l', e', hr, hd, hs⟩ | ⟨p, hr, hp⟩
    · rw [hr]
      simp only [Option.bind_some, if_true]
      refine Ev.bind (right_yes g' hd) ?_
      simp only [if_true]
      rw [text_f g' hd, ← hs]
      simp only [Option.bind_some, if_true]
      exact back_j0 g e hm hw
    · rw [hr]
      have h2 : ¬ (p : Int) < 0 := by omega
      have h3 : ¬ (p : Int) > (s.size : Int) := by omega
      have h4 : decide (((([] : List Int).length : Nat) : Int) > 0) = false := by decide
      have h5 : ¬ (2 : Int) = 0 := by decide
      simp only [Option.bind_some, h2, h3, h4, h5, if_false]
      exact back_j0 g e hm hw
end Go.Proofs.YtahkamggdbibiaaDoor
