/- Are two Opers the same? oper's and the document's.
   Conditions: the rows are short, their bytes are bytes. -/
import Derived.Test.YtekinhnempbioaaDoorPZx13
import Derived.Test.YtekinhnempbioaaDoorPureOperRef
set_option linter.unusedSimpArgs false
set_option linter.unusedVariables false
namespace Go.Proofs.YtekinhnempbioaaDoor.PZ
open Go.RowKit Go.Proofs.YtekinhnempbioaaDoorW.PrintWords Go.Proofs.YtekinhnempbioaaDoorW.PrintLast
/-- Two Opers are the same. -/
def sameO (i f : List Int) (w c : Int) (i' f' : List Int) (w' c' : Int) : Bool := decide (i = i' ∧ f = f' ∧ w = w' ∧ c = c')
theorem sameO_ev (i f : List Int) (w c : Int) (i' f' : List Int) (w' c' : Int) (hi : i.length ≤ 9223372036854775807) (hf : f.length ≤ 9223372036854775807) : Ev (fun k => exergueref07_Same.f k i f w c i' f' w' c') (sameO i f w c i' f' w' c') := by
  unfold exergueref07_Same.f sameO
  refine Ev.bind (row_e i i' hi) ?_
  by_cases h1 : i = i'
  · simp only [decide_eq_true h1, if_true]
    refine Ev.bind (row_e f f' hf) ?_
    by_cases h2 : f = f'
    · simp only [decide_eq_true h2, if_true]
      by_cases h3 : w = w'
      · simp only [if_pos h3]
        refine Ev.congr (fun _ => ?_) (Ev.now _)
        congr 1
        rw [Bool.eq_iff_iff]
        simp [h1, h2, h3]
      · simp only [if_neg h3]
        rw [decide_eq_false (fun z => h3 z.2.2.1)]
        exact Ev.now _
    · simp only [decide_eq_false h2, Bool.false_eq_true, if_false]
      rw [decide_eq_false (fun z => h2 z.2.1)]
      exact Ev.now _
  · simp only [decide_eq_false h1, Bool.false_eq_true, if_false]
    rw [decide_eq_false (fun z => h1 z.1)]
    exact Ev.now _
theorem sameO_self (i f : List Int) (w c : Int) : sameO i f w c i f w c = true := by unfold sameO; simp
theorem few_f {a b : List Int} (ha : a.length * 1 ≤ 140737488351232) (hb : b.length * 1 ≤ 140737488351232) : wrap64 ((a.length : Int) + (b.length : Int)) = (a.length : Int) + (b.length : Int) := w64 _ (by omega) (by omega)
end Go.Proofs.YtekinhnempbioaaDoor.PZ
