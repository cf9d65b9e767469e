/- DecReads, the pure statement: what the law computes is true.
   Conditions: none. -/
import Derived.Test.YtahkamggdbibiaaDoorPZx19
import Derived.Test.YtahkamggdbibiaaDoorPureRefPlace
import Derived.Test.YtahkamggdbibiaaDoorPureShown
set_option linter.unusedSimpArgs false
set_option linter.unusedVariables false
namespace Go.Proofs.YtahkamggdbibiaaDoor.PZ
open Go.RowKit Go.Proofs.YtahkamggdbibiaaDoorW.PrintWords Go.Proofs.YtahkamggdbibiaaDoorW.PrintLast
theorem reads_j0 (g : Bool) {l : List Int} (e : Int) (hm : l.length ≤ maxLen) (hw : ∀ b_ ∈ l, (Lit.int .u8 b_).wf = true) : Ev (fun k => exerguelaw05_DecReads.j0 k true false g l e) true := by
  refine Ev_shift ?_
  simp only [exerguelaw05_DecReads.j0, Bool.false_eq_true, if_false, if_true]
  rcases right_cases g (l := l) (e := e) hm hw with ⟨r, h⟩ | r
  · refine Ev.bind r ?_
    simp only [if_true]
    rw [text_f g h]
    simp only [Option.bind_some]
    obtain ⟨t, t1, t2⟩ := reftext_ev g h
    refine Ev.bind t1 ?_
    rw [toList_eq, text_bytes g e h.figs, t2, decide_eq_true rfl]
    exact Ev.now true
  · refine Ev.bind r ?_
    simp only [Bool.false_eq_true, if_false]
    exact Ev.now true
end Go.Proofs.YtahkamggdbibiaaDoor.PZ
namespace Go.Proofs.YtahkamggdbibiaaDoor
open PZ Go.RowKit Go.Proofs.YtahkamggdbibiaaDoorW.PrintWords
theorem Pure.DecReads : ∀ (x0_0 : Bool) (x0_1 : List Int) (x0_2 : Int) (x1 : ByteArray), x0_1.length ≤ maxLen → (∀ b_ ∈ x0_1, (Lit.int .u8 b_).wf = true) → (Lit.int .i64 x0_2).wf = true → ∃ k, exerguelaw05_DecReads.f k x0_0 x0_1 x0_2 x1 = some true := by
  intro g l e s hm hw _
  apply Ev.rounds
  unfold exerguelaw05_DecReads.f
  refine Ev.bind shown_ev ?_
  by_cases h1 : (s.size : Int) > 100
  · simp only [h1, if_true]
    exact Ev.now true
  · simp only [h1, if_false]
    obtain ⟨⟨rg, rl, re, ra, rc⟩, h2, h3, h4⟩ := refread_ev s (by omega)
    rw [h2]
    simp only [Option.bind_some]
    refine Ev.bind h3 ?_
    refine Ev.bind (same_self rg rl re (by have : rl.length ≤ 1000 := h4; omega)) ?_
    simp only [if_true, bne_self_eq_false]
    exact reads_j0 g e hm hw
end Go.Proofs.YtahkamggdbibiaaDoor
