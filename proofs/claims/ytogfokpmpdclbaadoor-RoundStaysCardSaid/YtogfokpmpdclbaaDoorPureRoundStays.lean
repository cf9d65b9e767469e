/- RoundStays, the pure statement: what the law computes is true.
   Conditions: none. -/
import Derived.Test.YtogfokpmpdclbaaDoorPZx18
import Derived.Test.YtogfokpmpdclbaaDoorPureNear
set_option linter.unusedSimpArgs false
set_option linter.unusedVariables false
namespace Go.Proofs.YtogfokpmpdclbaaDoor.PZ
open Go.RowKit Go.Proofs.YtogfokpmpdclbaaDoorW.PrintWords Go.Proofs.YtogfokpmpdclbaaDoorW.PrintLast
theorem stays_off (g : Bool) (l : List Int) (e k place mode other : Int) : Ev (fun n => exerguelaw06_RoundStays.j0 n k place mode other true true g l e) true := by
  refine Ev_shift ?_
  simp only [exerguelaw06_RoundStays.j0, if_true]
  exact Ev.now true
theorem stays_on (g : Bool) {l : List Int} {e k place mode other : Int} (h : NearD l e) (u : NearU k place mode) (ho : 0 ≤ other ∧ other ≤ 7) : Ev (fun n => exerguelaw06_RoundStays.j0 n k place mode other true false g l e) true := by
  obtain ⟨l', e', x1, x2, x3, x4⟩ := inc_of g h u
  have hp := u.p
  have hx : valN l' e' % unitV k place = 0 := by rw [x3]; exact fits_self _ _
  have y1 := inc_keeps g x2 u.k (place := place) (by omega) ho hx
  have hm : l'.length ≤ 9223372036854775807 := by have := x2.len; omega
  refine Ev_shift ?_
  simp only [exerguelaw06_RoundStays.j0, Bool.false_eq_true, if_false]
  refine Ev.bind x1 ?_
  refine Ev.bind y1 ?_
  simp only [if_true]
  refine Ev.bind (right_yes g x2) ?_
  simp only [if_true, fits_f g x2 u.k (place := place) (by omega), hx, decide_true, Option.bind_some, beq_self_eq_true]
  refine Ev.bind (same_self g l' e' hm) ?_
  simp only [if_true, fits_f g h.r u.k (place := place) (by omega), Option.bind_some]
  by_cases h0 : valN l e % unitV k place = 0
  · obtain ⟨rfl, rfl⟩ := x4 h0
    simp only [h0, decide_true, if_true]
    exact Ev.bind (same_self g l' e' hm) (Ev.now _)
  · simp only [decide_eq_false h0, Bool.false_eq_true, if_false]
    exact Ev.now _
end Go.Proofs.YtogfokpmpdclbaaDoor.PZ
namespace Go.Proofs.YtogfokpmpdclbaaDoor
open PZ Go.RowKit Go.Proofs.YtogfokpmpdclbaaDoorW.PrintWords
theorem Pure.RoundStays : ∀ (x0_0_0 : Bool) (x0_0_1 : List Int) (x0_0_2 : Int) (x0_1 : Int) (x0_2 : Int) (x0_3 : Int) (x0_4 : Int), x0_0_1.length * 1 ≤ 140737488351232 → (∀ b_ ∈ x0_0_1, (Lit.int .u8 b_).wf = true) → (Lit.int .i64 x0_0_2).wf = true → (Lit.int .i64 x0_1).wf = true → (Lit.int .i64 x0_2).wf = true → (Lit.int .i64 x0_3).wf = true → (Lit.int .i64 x0_4).wf = true → ∃ k, exerguelaw06_RoundStays.f k x0_0_0 x0_0_1 x0_0_2 x0_1 x0_2 x0_3 x0_4 = some true := by
  intro g l e k place mode other hz hw _ _ _ _ _
  apply Ev.rounds
  unfold exerguelaw06_RoundStays.f
  refine Ev.bind shown_ev ?_
  rcases near_ev g k place mode hz hw (e := e) with ⟨n1, hd, hu⟩ | n1
  · refine Ev.bind n1 ?_
    simp only [if_true, refis_f, Option.bind_some]
    by_cases ho : 0 ≤ other ∧ other ≤ 7
    · simp only [decide_eq_true ho, Bool.not_true]
      exact stays_on g hd hu ho
    · simp only [decide_eq_false ho, Bool.not_false]
      exact stays_off _ _ _ _ _ _ _
  · refine Ev.bind n1 ?_
    simp only [Bool.false_eq_true, if_false]
    exact stays_off _ _ _ _ _ _ _
end Go.Proofs.YtogfokpmpdclbaaDoor
