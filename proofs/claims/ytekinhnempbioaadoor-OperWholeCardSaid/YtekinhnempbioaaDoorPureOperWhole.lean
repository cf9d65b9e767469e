/- OperWhole, the pure statement: what the law computes is true.
   Conditions: none. -/
import Derived.Test.YtekinhnempbioaaDoorPZx17
import Derived.Test.YtekinhnempbioaaDoorPureOperSame
import Derived.Test.YtekinhnempbioaaDoorPureShown07
set_option linter.unusedSimpArgs false
set_option linter.unusedVariables false
namespace Go.Proofs.YtekinhnempbioaaDoor.PZ
open Go.RowKit Go.Proofs.YtekinhnempbioaaDoorW.PrintWords Go.Proofs.YtekinhnempbioaaDoorW.PrintLast
theorem opwhole_off (i f : List Int) (w c : Int) : Ev (fun k => exerguelaw07_OperWhole.j0 k true true i f w c) true := by
  refine Ev_shift ?_
  simp only [exerguelaw07_OperWhole.j0, if_true]
  exact Ev.now true
/-- Each operand but n is whole, and without noughts ahead. -/
theorem operand_whole {i f : List Int} {w c : Int} (h : RightO i f w c) (name : Int) (hn : name = 105 ∨ name = 118 ∨ name = 119 ∨ name = 102 ∨ name = 116 ∨ name = 99 ∨ name = 101) : ∃ l, operandR i f w c name = (l, true) ∧ Bare l := by
  have hw : 0 ≤ w := by rw [h.2.2.2.1]; omega
  rcases hn with rfl | rfl | rfl | rfl | rfl | rfl | rfl
  · exact ⟨i, rfl, h.2.2.1⟩
  · exact ⟨_, rfl, ndL_bare (by omega)⟩
  · exact ⟨_, rfl, ndL_bare hw⟩
  · exact ⟨_, rfl, bareL_bare _⟩
  · exact ⟨_, rfl, bareL_bare _⟩
  · exact ⟨_, rfl, ndL_bare h.2.2.2.2.1⟩
  · exact ⟨_, rfl, ndL_bare h.2.2.2.2.1⟩
theorem whole_names (i : Nat) (h : i < 7) : let n := bt (⟨#[105, 118, 119, 102, 116, 99, 101]⟩ : ByteArray) (i : Int); n = 105 ∨ n = 118 ∨ n = 119 ∨ n = 102 ∨ n = 116 ∨ n = 99 ∨ n = 101 := by
  match i, h with
  | 0, _ => exact .inl rfl
  | 1, _ => exact .inr (.inl rfl)
  | 2, _ => exact .inr (.inr (.inl rfl))
  | 3, _ => exact .inr (.inr (.inr (.inl rfl)))
  | 4, _ => exact .inr (.inr (.inr (.inr (.inl rfl))))
  | 5, _ => exact .inr (.inr (.inr (.inr (.inr (.inl rfl)))))
  | 6, _ => exact .inr (.inr (.inr (.inr (.inr (.inr rfl)))))
theorem bareL_eq_nil {l : List Int} : bareL l = [] ↔ ∀ d ∈ l, d = 0 := by
  induction l with
  | nil => simp [bareL_nil]
  | cons d l ih =>
    by_cases h : d = 0
    · subst h; rw [bareL_zero, ih]; simp
    · rw [bareL_other l h]; simp [h]
theorem fullN_nought (l : List Int) : bareL (l.take (fullN l)) = [] ↔ fullN l = 0 := by
  constructor
  · intro h
    apply Classical.byContradiction
    intro h0
    have hp : 0 < l.length := by have := fullN_le l; omega
    have key : ∀ n, ∀ l : List Int, l.length = n → fullN l ≠ 0 → ∃ d ∈ l.take (fullN l), d ≠ 0 := by
      intro n
      induction n with
      | zero => intro l hl h; have := fullN_le l; omega
      | succ n ih =>
        intro l hl h
        obtain ⟨a, d, rfl⟩ := eq_snoc l (by omega)
        by_cases hd : d = 0
        · subst hd
          rw [fullN_zero] at h ⊢
          obtain ⟨x, hx, hx0⟩ := ih a (by simpa using hl) h
          rw [List.take_append_of_le_length (fullN_le a)]
          exact ⟨x, hx, hx0⟩
        · rw [fullN_other a hd, List.take_of_length_le (by simp)]
          exact ⟨d, by simp, hd⟩
    obtain ⟨d, hd, hd0⟩ := key l.length l rfl h0
    exact hd0 (bareL_eq_nil.1 h d hd)
  · intro h
    rw [h]
    rfl
theorem opwhole_l0 {i f : List Int} {w c : Int} (h : RightO i f w c) (li : i.length ≤ 1000) (lf : f.length ≤ 1000) (n : Nat) : ∀ j : Nat, j + n = 7 → Ev (fun k => exerguelaw07_OperWhole.l0 k true (⟨#[105, 118, 119, 102, 116, 99, 101]⟩ : ByteArray) (j : Int) i f w c) true := by
  have hw : 0 ≤ w ∧ w ≤ f.length := by rw [h.2.2.2.1]; have := fullN_le f; omega
  have hc := h.2.2.2.2
  have hsz : (((⟨#[105, 118, 119, 102, 116, 99, 101]⟩ : ByteArray).size : Nat) : Int) = 7 := rfl
  induction n with
  | zero =>
    intro j hj
    refine Ev_shift ?_
    have h1 : ¬ (j : Int) < 7 := by omega
    simp only [exerguelaw07_OperWhole.l0, hsz, if_neg h1]
    refine Ev.bind (operand_ev i f w c 110 (by omega) hw hc) ?_
    refine Ev.bind (operand_ev i f w c 105 (by omega) hw hc) ?_
    refine Ev.bind (operand_ev i f w c 116 (by omega) hw hc) ?_
    have e1 : operandR i f w c 105 = (i, true) := rfl
    have e2 : operandR i f w c 116 = (bareL (f.take w.toNat), true) := rfl
    have e3 : operandR i f w c 110 = if w > 0 then ([], false) else (i, true) := rfl
    have hwn : w.toNat = fullN f := by rw [h.2.2.2.1]; rfl
    rw [e1, e2, e3, hwn]
    have hz := fullN_nought f
    simp only [if_true]
    by_cases h0 : w > 0
    · have q1 : ¬ ((bareL (f.take (fullN f))).length : Int) = 0 := by
        intro z
        have := hz.1 (List.eq_nil_of_length_eq_zero (by omega))
        omega
      have q2 : ((false : Bool) == false) = true := rfl
      simp only [if_neg q1, if_pos h0, if_pos q2, Bool.false_eq_true, if_false]
      exact Ev.now true
    · have q1 : ((bareL (f.take (fullN f))).length : Int) = 0 := by
        rw [hz.2 (by omega)]; rfl
      have hw0 : w = 0 := by omega
      subst hw0
      have q2 : (true == ((0 : Int) == 0)) = true := rfl
      have q3 : ¬ (0 : Int) > 0 := by omega
      simp only [if_pos q1, if_neg q3, if_pos q2, if_true]
      refine Ev.bind (row_e i i (by omega)) ?_
      simp only [decide_true]
      exact Ev.now true
  | succ n ih =>
    intro j hj
    refine Ev_shift ?_
    have h1 : (j : Int) < 7 := by omega
    have h2 : (0 : Int) ≤ (j : Int) := by omega
    have h3 : wrap64 ((j : Int) + 1) = ((j + 1 : Nat) : Int) := by rw [w64 _ (by omega) (by omega)]; omega
    simp only [exerguelaw07_OperWhole.l0, hsz, if_pos h1, if_pos h2, h3]
    obtain ⟨l, hl, hb⟩ := operand_whole h _ (whole_names j (by omega))
    have ho := operand_ev i f w c (bt (⟨#[105, 118, 119, 102, 116, 99, 101]⟩ : ByteArray) (j : Int)) (by omega) hw hc
    rw [hl] at ho
    refine Ev.bind ho ?_
    simp only [if_true]
    have next := ih (j + 1) (by omega)
    by_cases h4 : (l.length : Int) > 0
    · have h4' : (0 : Int) < (l.length : Int) := h4
      have h5 : ¬ rd l 0 = 0 := (bare_cons l (by omega)).1 hb
      simp only [if_pos h4, if_pos h4', if_neg h5]
      exact next
    · simp only [if_neg h4]
      exact next
end Go.Proofs.YtekinhnempbioaaDoor.PZ
namespace Go.Proofs.YtekinhnempbioaaDoor
open PZ Go.RowKit Go.Proofs.YtekinhnempbioaaDoorW.PrintWords
theorem Pure.OperWhole : ∀ (x0_0 : List Int) (x0_1 : List Int) (x0_2 : Int) (x0_3 : Int), x0_0.length * 1 ≤ 140737488351232 → (∀ b_ ∈ x0_0, (Lit.int .u8 b_).wf = true) → x0_1.length * 1 ≤ 140737488351232 → (∀ b_ ∈ x0_1, (Lit.int .u8 b_).wf = true) → (Lit.int .i64 x0_2).wf = true → (Lit.int .i64 x0_3).wf = true → ∃ k, exerguelaw07_OperWhole.f k x0_0 x0_1 x0_2 x0_3 = some true := by
  intro i f w c hm hwi hm' hwf _ _
  apply Ev.rounds
  unfold exerguelaw07_OperWhole.f
  refine Ev.bind shown_ev ?_
  rw [few_f hm hm']
  by_cases h1 : (i.length : Int) + (f.length : Int) > 1000
  · simp only [if_pos h1]
    exact opwhole_off i f w c
  · simp only [if_neg h1]
    refine Ev.bind (refRight_ev i f w c (by omega) (by omega)) ?_
    by_cases hr : RightO i f w c
    · simp only [decide_eq_true hr, Bool.not_true]
      refine Ev_shift ?_
      simp only [exerguelaw07_OperWhole.j0, Bool.false_eq_true, if_false]
      exact opwhole_l0 hr (by omega) (by omega) 7 0 (by omega)
    · simp only [decide_eq_false hr, Bool.not_false]
      exact opwhole_off i f w c
end Go.Proofs.YtekinhnempbioaaDoor
