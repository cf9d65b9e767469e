/- The document's functions for oper (exergueref07), plainly.
   Conditions: the rows are short. -/
import Derived.Test.YtekinhnempbioaaDoorPZx10
import Derived.Test.YtekinhnempbioaaDoorPZx12
import Derived.Test.YtekinhnempbioaaDoorPZx20
import Derived.Test.YtekinhnempbioaaDoorRefRight
import Derived.Test.YtekinhnempbioaaDoorPureOper
set_option linter.unusedSimpArgs false
set_option linter.unusedVariables false
namespace Go.Proofs.YtekinhnempbioaaDoor.PZ
open Go.RowKit Go.Proofs.YtekinhnempbioaaDoorW.PrintWords Go.Proofs.YtekinhnempbioaaDoorW.PrintLast
theorem figsB_cons (d : Int) (l : List Int) : figsB (d :: l) = (!decide (d > 9) && figsB l) := by unfold figsB; rw [List.any_cons, Bool.not_or]
theorem refFig_l0 (l : List Int) (hl : l.length ≤ 9223372036854775807) (n : Nat) : ∀ i : Nat, i + n = l.length → exergueref07_Figures.l0 (n + 1) l (i : Int) = some (figsB (l.drop i)) := by
  induction n with
  | zero =>
    intro i hi
    rw [exergueref07_Figures.l0, if_neg (by omega), List.drop_of_length_le (by omega)]
    rfl
  | succ n ih =>
    intro i hi
    rw [exergueref07_Figures.l0, if_pos (by omega), if_pos (by omega), drop_cons l i (by omega), figsB_cons]
    by_cases h : rd l i > 9
    · rw [if_pos h]; simp [h]
    · have h2 : wrap64 ((i : Int) + 1) = ((i + 1 : Nat) : Int) := by rw [w64 _ (by omega) (by omega)]; omega
      rw [if_neg h, h2, ih (i + 1) (by omega)]
      simp [h]
theorem refFig_ev (l : List Int) (hl : l.length ≤ 9223372036854775807) : Ev (fun k => exergueref07_Figures.f k l) (figsB l) := by
  refine Ev.of (k := l.length + 1) (fun k => exergueref07_Figures.mono _ k) ?_
  unfold exergueref07_Figures.f
  have := refFig_l0 l hl l.length 0 (by omega)
  simpa using this
theorem refBare_l0 (l : List Int) (hl : l.length ≤ 9223372036854775807) (n : Nat) : ∀ i : Nat, i + n = l.length → exergueref07_Bare.l0 (n + 1) l (i : Int) = some (bareL (l.drop i)) := by
  induction n with
  | zero =>
    intro i hi
    rw [exergueref07_Bare.l0, if_neg (by omega), if_pos (by omega), if_pos (by omega), Int.toNat_natCast, List.drop_of_length_le (by omega)]
    rfl
  | succ n ih =>
    intro i hi
    rw [exergueref07_Bare.l0, if_pos (by omega), if_pos (by omega)]
    by_cases h : rd l i = 0
    · have h2 : wrap64 ((i : Int) + 1) = ((i + 1 : Nat) : Int) := by rw [w64 _ (by omega) (by omega)]; omega
      rw [if_pos h, h2, ih (i + 1) (by omega), drop_cons l i (by omega), h, bareL_zero]
    · rw [if_neg h, if_pos (by omega), Int.toNat_natCast, drop_cons l i (by omega), bareL_other _ h]
theorem refBare_ev (l : List Int) (hl : l.length ≤ 9223372036854775807) : Ev (fun k => exergueref07_Bare.f k l) (bareL l) := by
  refine Ev.of (k := l.length + 1) (fun k => exergueref07_Bare.mono _ k) ?_
  unfold exergueref07_Bare.f
  have := refBare_l0 l hl l.length 0 (by omega)
  simpa using this
theorem refFull_l0 (l : List Int) (hl : l.length ≤ 1000000000) (n : Nat) : ∀ i : Nat, i + n = l.length → exergueref07_Full.l0 (n + 1) l (fullN (l.take i) : Int) (i : Int) = some (fullN l : Int) := by
  induction n with
  | zero =>
    intro i hi
    rw [exergueref07_Full.l0, if_neg (by omega), List.take_of_length_le (by omega)]
  | succ n ih =>
    intro i hi
    have h2 : wrap64 ((i : Int) + 1) = ((i + 1 : Nat) : Int) := by rw [w64 _ (by omega) (by omega)]; omega
    have ht := take_succ_snoc l i (by omega)
    rw [exergueref07_Full.l0, if_pos (by omega), if_pos (by omega), h2]
    by_cases h : rd l i = 0
    · have e : fullN (l.take i) = fullN (l.take (i + 1)) := by rw [ht, h, fullN_zero]
      rw [if_pos h, e]
      exact ih (i + 1) (by omega)
    · have e : (i + 1 : Nat) = fullN (l.take (i + 1)) := by rw [ht, fullN_other _ h, List.length_take]; omega
      rw [if_neg h]
      have := ih (i + 1) (by omega)
      rwa [← e] at this
theorem refFull_ev (l : List Int) (hl : l.length ≤ 1000000000) : Ev (fun k => exergueref07_Full.f k l) (fullN l : Int) := by
  refine Ev.of (k := l.length + 1) (fun k => exergueref07_Full.mono _ k) ?_
  unfold exergueref07_Full.f
  have := refFull_l0 l hl l.length 0 (by omega)
  simpa [fullN_nil] using this
theorem bare_cons (l : List Int) (h : 0 < l.length) : Bare l ↔ rd l 0 ≠ 0 := by
  unfold Bare
  constructor
  · rintro (rfl | h1)
    · simp at h
    · exact h1
  · exact .inr
theorem refRight_ev (i f : List Int) (w c : Int) (hi : i.length ≤ 9223372036854775807) (hf : f.length ≤ 1000000000) : Ev (fun k => exergueref07_Right.f k i f w c) (decide (RightO i f w c)) := by
  unfold exergueref07_Right.f
  refine Ev.bind (refFig_ev i hi) ?_
  refine Ev.bind (refFig_ev f (by omega)) ?_
  have off : ¬ RightO i f w c → decide (RightO i f w c) = false := fun h => decide_eq_false h
  cases h1 : figsB i with
  | false =>
    rw [off (by unfold RightO; rw [h1]; simp)]
    simp only [Bool.false_eq_true, if_false]
    exact Ev.now _
  | true =>
    cases h2 : figsB f with
    | false =>
      rw [off (by unfold RightO; rw [h2]; simp)]
      simp only [Bool.false_eq_true, if_false, if_true]
      exact Ev.now _
    | true =>
      simp only [if_true]
      have tail : Bare i → Ev (fun n => (exergueref07_Full.f n f).bind fun t => (some (decide (w = t) && (decide (0 ≤ c) && decide (c ≤ 1000))))) (decide (RightO i f w c)) := by
        intro h3
        refine Ev.bind (refFull_ev f hf) ?_
        have : (decide (w = (fullN f : Int)) && (decide (0 ≤ c) && decide (c ≤ 1000))) = decide (RightO i f w c) := by
          rw [Bool.eq_iff_iff]
          simp only [Bool.and_eq_true, decide_eq_true_eq]
          exact ⟨fun h => ⟨h1, h2, h3, h.1, h.2.1, h.2.2⟩, fun h => ⟨h.2.2.2.1, h.2.2.2.2.1, h.2.2.2.2.2⟩⟩
        rw [this]
        exact Ev.now _
      by_cases h0 : (i.length : Int) > 0
      · have h0' : (0 : Int) < (i.length : Int) := h0
        simp only [if_pos h0, if_pos h0']
        by_cases h3 : rd i 0 = 0
        · simp only [if_pos h3]
          rw [off (by rintro ⟨_, _, h, _⟩; exact (bare_cons i (by omega)).1 h h3)]
          exact Ev.now _
        · simp only [if_neg h3]
          exact tail (.inr h3)
      · simp only [if_neg h0]
        exact tail (.inl (List.eq_nil_of_length_eq_zero (by omega)))
end Go.Proofs.YtekinhnempbioaaDoor.PZ
