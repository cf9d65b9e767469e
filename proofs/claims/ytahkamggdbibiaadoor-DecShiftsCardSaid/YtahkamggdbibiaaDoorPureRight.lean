/- What exergueref05.Right tells of a Dec, plainly.
   Conditions: the row is no longer than an int counts. -/
import Derived.Test.YtahkamggdbibiaaDoorPZx9
namespace Go.Proofs.YtahkamggdbibiaaDoor.PZ
open Go.RowKit Go.Proofs.YtahkamggdbibiaaDoorW.PrintWords Go.Proofs.YtahkamggdbibiaaDoorW.PrintLast
theorem w64 (n : Int) (h1 : -9223372036854775808 ≤ n) (h2 : n ≤ 9223372036854775807) : wrap64 n = n := by unfold wrap64; omega
def RightTail (l : List Int) (e : Int) : Prop := (l.length = 0 ∧ e = 0) ∨ (0 < l.length ∧ l.length ≤ 1000 ∧ 0 < rd l 0 ∧ 0 < rd l ((l.length : Int) - 1) ∧ -1000 ≤ e ∧ e ≤ 1000)
/-- A Dec is right. -/
def Right (l : List Int) (e : Int) : Prop := (∀ i : Nat, i < l.length → rd l (i : Int) ≤ 9) ∧ RightTail l e
theorem right_l0 (g : Bool) (l : List Int) (e : Int) (hm : l.length ≤ 9223372036854775807) (n : Nat) : ∀ i : Nat, i + n = l.length →
    ∃ b, exergueref05_Right.l0 (n + 1) (l.length : Int) (i : Int) g l e = some b ∧ (b = true ↔ (∀ j : Nat, i ≤ j → j < l.length → rd l (j : Int) ≤ 9) ∧ RightTail l e) := by
  induction n with
  | zero =>
    intro i hi
    have h1 : ¬ ((i : Int) < (l.length : Int)) := by omega
    have h2 : wrap64 ((l.length : Int) - 1) = (l.length : Int) - 1 := w64 _ (by omega) (by omega)
    simp only [exergueref05_Right.l0, h1, if_false, h2]
    have hall : ∀ j : Nat, i ≤ j → j < l.length → rd l (j : Int) ≤ 9 := fun j hj hk => absurd hk (by omega)
    unfold RightTail
    by_cases h0 : l.length = 0
    · refine ⟨e == 0, by simp [h0], ?_⟩
      simp [h0]
    · by_cases h3 : l.length ≤ 1000
      · have e1 : (0 : Int) < (l.length : Int) := by omega
        have e2 : (0 : Int) ≤ (l.length : Int) - 1 := by omega
        have e3 : (l.length : Int) - 1 < (l.length : Int) := by omega
        have e4 : ((l.length : Int) = 0) = False := eq_false (by omega)
        have e5 : ((l.length : Int) ≤ 1000) = True := eq_true (by omega)
        refine ⟨decide (rd l 0 > 0) && (decide (rd l ((l.length : Int) - 1) > 0) && (decide (e ≥ -1000) && decide (e ≤ 1000))), ?_, ?_⟩
        · simp only [e4, e5, e1, e2, e3, if_true, if_false]
          by_cases a1 : rd l 0 > 0
          · by_cases a2 : rd l ((l.length : Int) - 1) > 0
            · by_cases a3 : e ≥ -1000
              · simp [a1, a2, a3]
              · simp [a1, a2, a3]
            · simp [a1, a2]
          · simp [a1]
        · simp only [Bool.and_eq_true, decide_eq_true_eq]
          constructor
          · rintro ⟨a, b, c, d⟩
            exact ⟨hall, .inr ⟨by omega, h3, a, b, by omega, d⟩⟩
          · rintro ⟨_, ⟨z, _⟩ | ⟨_, _, a, b, c, d⟩⟩
            · omega
            · exact ⟨a, b, by omega, d⟩
      · have e4 : ((l.length : Int) = 0) = False := eq_false (by omega)
        have e5 : ((l.length : Int) ≤ 1000) = False := eq_false (by omega)
        refine ⟨false, by simp only [e4, e5, if_false], ?_⟩
        constructor
        · intro z; cases z
        · rintro ⟨_, ⟨z, _⟩ | ⟨_, z, _⟩⟩ <;> omega
  | succ n ih =>
    intro i hi
    obtain ⟨b, hb, hbi⟩ := ih (i + 1) (by omega)
    have h1 : ((i : Int) < (l.length : Int)) = True := eq_true (by omega)
    have h2 : wrap64 ((i : Int) + 1) = ((i + 1 : Nat) : Int) := by rw [w64 _ (by omega) (by omega)]; omega
    have h3 : ((0 : Int) ≤ (i : Int)) = True := eq_true (by omega)
    by_cases h9 : rd l (i : Int) > 9
    · refine ⟨false, ?_, ?_⟩
      · rw [exergueref05_Right.l0]
        simp only [h1, h3, h9, if_true]
      · constructor
        · intro z; cases z
        · rintro ⟨z, _⟩
          have := z i (Nat.le_refl _) (by omega)
          omega
    · refine ⟨b, ?_, ?_⟩
      · rw [exergueref05_Right.l0]
        simp only [h1, h3, h9, if_true, if_false, h2]
        exact hb
      · rw [hbi]
        constructor
        · rintro ⟨z, t⟩
          refine ⟨fun j hj hk => ?_, t⟩
          by_cases hij : j = i
          · subst hij; omega
          · exact z j (by omega) hk
        · rintro ⟨z, t⟩
          exact ⟨fun j hj hk => z j (by omega) hk, t⟩
theorem right_f (g : Bool) (l : List Int) (e : Int) (hm : l.length ≤ 9223372036854775807) : ∃ b, exergueref05_Right.f (l.length + 1) g l e = some b ∧ (b = true ↔ Right l e) := by
  obtain ⟨b, hb, hi⟩ := right_l0 g l e hm l.length 0 (by omega)
  refine ⟨b, hb, hi.trans ?_⟩
  unfold Right
  constructor
  · rintro ⟨z, t⟩; exact ⟨fun i h => z i (Nat.zero_le _) h, t⟩
  · rintro ⟨z, t⟩; exact ⟨fun i _ h => z i h, t⟩
/-- In as many rounds as one likes, from some on. -/
theorem right_many (g : Bool) (l : List Int) (e : Int) (hm : l.length ≤ 9223372036854775807) : ∃ b k, (∀ j, k ≤ j → exergueref05_Right.f j g l e = some b) ∧ (b = true ↔ Right l e) := by
  obtain ⟨b, hb, hi⟩ := right_f g l e hm
  exact ⟨b, l.length + 1, fun j hj => at_rounds (g := fun k => exergueref05_Right.f k g l e) (fun k => exergueref05_Right.mono _ _ _ k) hj hb, hi⟩
end Go.Proofs.YtahkamggdbibiaaDoor.PZ
