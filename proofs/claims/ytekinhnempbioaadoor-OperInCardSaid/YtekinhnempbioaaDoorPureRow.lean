/- exergueref01.Row: are two rows of bytes the same?
   Conditions: none. -/
import Derived.Test.YtekinhnempbioaaDoorPZx16
import Derived.Test.YtekinhnempbioaaDoorNum
set_option linter.unusedSimpArgs false
set_option linter.unusedVariables false
namespace Go.Proofs.YtekinhnempbioaaDoor.PZ
open Go.RowKit Go.Proofs.YtekinhnempbioaaDoorW.PrintWords Go.Proofs.YtekinhnempbioaaDoorW.PrintLast
/-- exergueref01.Row, of rows as long as any. -/
theorem row_l0 (a b : List Int) (hl : a.length = b.length) (hm : a.length ≤ 9223372036854775807) (n : Nat) : ∀ i : Nat, i + n = a.length → exergueref01_Row.l0 (n + 1) a b (i : Int) = some (decide (a.drop i = b.drop i)) := by
  induction n with
  | zero =>
    intro i hi
    have h1 : ¬ ((i : Int) < (a.length : Int)) := by omega
    rw [exergueref01_Row.l0, if_neg h1, List.drop_of_length_le (by omega), List.drop_of_length_le (by omega)]
    rfl
  | succ n ih =>
    intro i hi
    have h1 : (i : Int) < (a.length : Int) := by omega
    have h2 : wrap64 ((i : Int) + 1) = ((i + 1 : Nat) : Int) := by rw [w64 _ (by omega) (by omega)]; omega
    rw [exergueref01_Row.l0, if_pos h1, if_pos (by omega), if_pos (by omega), drop_cons a i (by omega), drop_cons b i (by omega)]
    by_cases he : rd a i = rd b i
    · rw [if_pos he, h2, ih (i + 1) (by omega), he]
      simp
    · rw [if_neg he]
      simp [he]
theorem row_e (a b : List Int) (hm : a.length ≤ 9223372036854775807) : Ev (fun k => exergueref01_Row.f k a b) (decide (a = b)) := by
  unfold exergueref01_Row.f
  by_cases hl : a.length = b.length
  · simp only [if_pos (show (a.length : Int) = (b.length : Int) by omega)]
    refine Ev.of (k := a.length + 1) (fun k => exergueref01_Row.mono_l k _ _ _) ?_
    have := row_l0 a b hl hm a.length 0 (by omega)
    simpa using this
  · simp only [if_neg (show ¬ (a.length : Int) = (b.length : Int) by omega)]
    have : decide (a = b) = false := by
      rw [decide_eq_false_iff_not]
      rintro rfl
      exact hl rfl
    rw [this]
    exact Ev.now _
end Go.Proofs.YtekinhnempbioaaDoor.PZ
