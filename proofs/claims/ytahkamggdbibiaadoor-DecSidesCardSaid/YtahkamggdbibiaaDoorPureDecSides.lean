/- DecSides, the pure statement: what the law computes is true.
   Conditions: none. -/
import Derived.Test.YtahkamggdbibiaaDoorPZx30
import Derived.Test.YtahkamggdbibiaaDoorPureCmp
import Derived.Test.YtahkamggdbibiaaDoorPureShown
set_option linter.unusedSimpArgs false
set_option linter.unusedVariables false
namespace Go.Proofs.YtahkamggdbibiaaDoor.PZ
open Go.RowKit Go.Proofs.YtahkamggdbibiaaDoorW.PrintWords Go.Proofs.YtahkamggdbibiaaDoorW.PrintLast
theorem sides_off (ga gb : Bool) (a b : List Int) (ea eb : Int) : Ev (fun n => exerguelaw05_DecSides.j0 n true true ga a ea gb b eb) true := by
  refine Ev_shift ?_
  simp only [exerguelaw05_DecSides.j0, if_true]
  exact Ev.now true
theorem sides_j0 {ga gb : Bool} {a b : List Int} {ea eb : Int} (ha : RDec a ea) (hb : RDec b eb) : Ev (fun n => exerguelaw05_DecSides.j0 n true false ga a ea gb b eb) true := by
  refine Ev_shift ?_
  simp only [exerguelaw05_DecSides.j0, Bool.false_eq_true, if_false, if_true]
  refine Ev.bind (cmp_e ga false ha RDec.nil) ?_
  have hr := sg_range (val ga a ea - val gb b eb)
  have h1 : sg (val (!ga) a ea - val (!gb) b eb) = wrap64 (-sg (val ga a ea - val gb b eb)) := by
    rw [w64 _ (by omega) (by omega), ← sg_neg, val_neg, val_neg]
    congr 1
    omega
  have hrow : Ev (fun n => (exergueref01_Row.f n a a).bind fun t => some t) true := by
    refine Ev.bind (row_e a a (by have := ha.len; omega)) ?_
    simp only [decide_true]
    exact Ev.now true
  rw [val_nil, Int.sub_zero]
  by_cases h0 : 0 < a.length
  · have hp := valN_pos ha.figs h0 (ha.first h0) ea
    have h0' : (a.length : Int) > 0 := by omega
    simp only [h0', if_true]
    cases ga with
    | true =>
      have hs : sg (val true a ea) = -1 := sg_of_neg (by rw [val_true]; omega)
      simp only [if_true]
      refine Ev.bind (cmp_e (!true) (!gb) ha hb) ?_
      refine Ev.bind (cmp_e true gb ha hb) ?_
      simp only [h1, hs, if_true]
      exact hrow
    | false =>
      have hs : sg (val false a ea) = 1 := sg_of_pos hp
      simp only [Bool.false_eq_true, if_false]
      refine Ev.bind (cmp_e (!false) (!gb) ha hb) ?_
      refine Ev.bind (cmp_e false gb ha hb) ?_
      simp only [h1, hs, if_true]
      exact hrow
  · have h0' : ¬ (a.length : Int) > 0 := by omega
    have hs : sg (val ga a ea) = 0 := sg_zero.2 ((ha.val_zero ga).2 (nil_of h0))
    simp only [h0', if_false]
    refine Ev.bind (cmp_e (!ga) (!gb) ha hb) ?_
    refine Ev.bind (cmp_e ga gb ha hb) ?_
    simp only [h1, hs, if_true]
    exact hrow
end Go.Proofs.YtahkamggdbibiaaDoor.PZ
namespace Go.Proofs.YtahkamggdbibiaaDoor
open PZ Go.RowKit Go.Proofs.YtahkamggdbibiaaDoorW.PrintWords
theorem Pure.DecSides : ∀ (x0_0 : Bool) (x0_1 : List Int) (x0_2 : Int) (x1_0 : Bool) (x1_1 : List Int) (x1_2 : Int), x0_1.length ≤ maxLen → (∀ b_ ∈ x0_1, (Lit.int .u8 b_).wf = true) → (Lit.int .i64 x0_2).wf = true → x1_1.length ≤ maxLen → (∀ b_ ∈ x1_1, (Lit.int .u8 b_).wf = true) → (Lit.int .i64 x1_2).wf = true → ∃ k, exerguelaw05_DecSides.f k x0_0 x0_1 x0_2 x1_0 x1_1 x1_2 = some true := by
  intro ga a ea gb b eb hma hwa _ hmb hwb _
  apply Ev.rounds
  unfold exerguelaw05_DecSides.f
  refine Ev.bind shown_ev ?_
  rcases right_cases ga (e := ea) hma hwa with ⟨ra, ha⟩ | ra
  · refine Ev.bind ra ?_
    simp only [if_true]
    rcases right_cases gb (e := eb) hmb hwb with ⟨rb, hb⟩ | rb
    · refine Ev.bind rb ?_
      simp only [Bool.not_true]
      exact sides_j0 ha hb
    · refine Ev.bind rb ?_
      simp only [Bool.not_false]
      exact sides_off _ _ _ _ _ _
  · refine Ev.bind ra ?_
    simp only [Bool.false_eq_true, if_false]
    exact sides_off _ _ _ _ _ _
end Go.Proofs.YtahkamggdbibiaaDoor
