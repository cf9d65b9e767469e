/- OperNoughts, the pure statement: what the law computes is true.
   Conditions: none. -/
import Derived.Test.YtekinhnempbioaaDoorPZx14
import Derived.Test.YtekinhnempbioaaDoorPureOperSame
import Derived.Test.YtekinhnempbioaaDoorPureShown07
set_option linter.unusedSimpArgs false
set_option linter.unusedVariables false
namespace Go.Proofs.YtekinhnempbioaaDoor.PZ
open Go.RowKit Go.Proofs.YtekinhnempbioaaDoorW.PrintWords Go.Proofs.YtekinhnempbioaaDoorW.PrintLast
theorem bareL_snoc (l : List Int) : bareL (l ++ [0]) = if bareL l = [] then [] else bareL l ++ [0] := by
  induction l with
  | nil => rfl
  | cons d l ih =>
    by_cases h : d = 0
    · subst h
      rw [List.cons_append, bareL_zero, ih, bareL_zero]
    · rw [List.cons_append, bareL_other _ h, bareL_other _ h, if_neg (by simp)]
      rfl
theorem noughts_names (i : Nat) (h : i < 6) : let n := bt (⟨#[110, 105, 119, 116, 99, 101]⟩ : ByteArray) (i : Int); n = 110 ∨ n = 105 ∨ n = 119 ∨ n = 116 ∨ n = 99 ∨ n = 101 := by
  match i, h with
  | 0, _ => exact .inl rfl
  | 1, _ => exact .inr (.inl rfl)
  | 2, _ => exact .inr (.inr (.inl rfl))
  | 3, _ => exact .inr (.inr (.inr (.inl rfl)))
  | 4, _ => exact .inr (.inr (.inr (.inr (.inl rfl))))
  | 5, _ => exact .inr (.inr (.inr (.inr (.inr rfl))))
theorem noughts_same (i f : List Int) (c : Int) (name : Int) (hn : name = 110 ∨ name = 105 ∨ name = 119 ∨ name = 116 ∨ name = 99 ∨ name = 101) :
    operandR i f (fullN f : Int) c name = operandR i (f ++ [0]) (fullN (f ++ [0]) : Int) c name := by
  rw [fullN_zero]
  have ht : (f ++ [(0 : Int)]).take (fullN f) = f.take (fullN f) := List.take_append_of_le_length (fullN_le f)
  have hto : ((fullN f : Nat) : Int).toNat = fullN f := rfl
  unfold operandR
  rw [hto, ht]
  rcases hn with rfl | rfl | rfl | rfl | rfl | rfl <;> rfl
theorem operandR_len (i f : List Int) (w c : Int) (name : Int) (li : i.length ≤ 100000) (lf : f.length ≤ 100000) (hw : 0 ≤ w ∧ w ≤ f.length) (hc : 0 ≤ c ∧ c ≤ 1000) : (operandR i f w c name).1.length ≤ 9223372036854775807 := by
  have h1 := ndL_len (n := (f.length : Int)) (by omega) (by omega)
  have h2 := ndL_len (n := w) (by omega) (by omega)
  have h3 := ndL_len (n := c) (by omega) (by omega)
  have h4 := bareL_len f
  have h5 := bareL_len (f.take w.toNat)
  rw [List.length_take] at h5
  unfold operandR
  repeat' split
  all_goals (dsimp only; first | omega | (simp; done))
theorem noughts_l0 {i f : List Int} {c : Int} (li : i.length ≤ 1000) (lf : f.length ≤ 1000) (hc : 0 ≤ c ∧ c ≤ 1000) (n : Nat) : ∀ j : Nat, j + n = 6 →
    Ev (fun k => exerguelaw07_OperNoughts.l0 k true (⟨#[110, 105, 119, 116, 99, 101]⟩ : ByteArray) (j : Int) i f (fullN f : Int) c i (f ++ [0]) (fullN (f ++ [0]) : Int) c) true := by
  have hsz : (((⟨#[110, 105, 119, 116, 99, 101]⟩ : ByteArray).size : Nat) : Int) = 6 := rfl
  have hf1 := fullN_le f
  have hf2 := fullN_le (f ++ [0])
  have hl2 : (f ++ [(0 : Int)]).length = f.length + 1 := by simp
  induction n with
  | zero =>
    intro j hj
    refine Ev_shift ?_
    have h1 : ¬ (j : Int) < 6 := by omega
    simp only [exerguelaw07_OperNoughts.l0, hsz, if_neg h1]
    refine Ev.bind (operand_ev i f (fullN f : Int) c 102 (by omega) ⟨by omega, by omega⟩ hc) ?_
    refine Ev.bind (operand_ev i (f ++ [0]) (fullN (f ++ [0]) : Int) c 102 (by omega) ⟨by omega, by omega⟩ hc) ?_
    have e1 : operandR i f (fullN f : Int) c 102 = (bareL f, true) := rfl
    have e2 : operandR i (f ++ [0]) (fullN (f ++ [0]) : Int) c 102 = (bareL (f ++ [0]), true) := rfl
    rw [e1, e2]
    have q1 : (((f ++ [(0 : Int)]).length : Nat) : Int) = wrap64 ((f.length : Int) + 1) := by rw [hl2, w64 _ (by omega) (by omega)]; omega
    simp only [if_true, if_pos q1, Option.bind_some, List.nil_append]
    have hb := bareL_len f
    have hs := bareL_snoc f
    by_cases h0 : bareL f = []
    · rw [if_pos h0] at hs
      have q2 : ((bareL f).length : Int) = 0 := by rw [h0]; rfl
      have q3 : ((bareL (f ++ [0])).length : Int) = 0 := by rw [hs]; rfl
      simp only [if_pos q2, if_pos q3]
      exact Ev.now true
    · rw [if_neg h0] at hs
      have q2 : ¬ ((bareL f).length : Int) = 0 := fun z => h0 (List.eq_nil_of_length_eq_zero (by omega))
      have q4 : ([] : List Int).length + (bareL f).length < 140737488355328 := by simp; omega
      have q5 : (bareL f).length < 140737488355328 := by omega
      simp only [if_neg q2, if_pos q4, if_pos q5]
      rw [hs]
      refine Ev.bind (row_e _ _ (by simp; omega)) ?_
      simp only [decide_true]
      exact Ev.now true
  | succ n ih =>
    intro j hj
    refine Ev_shift ?_
    have h1 : (j : Int) < 6 := by omega
    have h2 : (0 : Int) ≤ (j : Int) := by omega
    have h3 : wrap64 ((j : Int) + 1) = ((j + 1 : Nat) : Int) := by rw [w64 _ (by omega) (by omega)]; omega
    simp only [exerguelaw07_OperNoughts.l0, hsz, if_pos h1, if_pos h2, h3]
    refine Ev.bind (operand_ev i f (fullN f : Int) c _ (by omega) ⟨by omega, by omega⟩ hc) ?_
    refine Ev.bind (operand_ev i (f ++ [0]) (fullN (f ++ [0]) : Int) c _ (by omega) ⟨by omega, by omega⟩ hc) ?_
    rw [← noughts_same i f c _ (noughts_names j (by omega))]
    have q : ((operandR i f (fullN f : Int) c (bt (⟨#[110, 105, 119, 116, 99, 101]⟩ : ByteArray) (j : Int))).2 != (operandR i f (fullN f : Int) c (bt (⟨#[110, 105, 119, 116, 99, 101]⟩ : ByteArray) (j : Int))).2) = false := by simp
    simp only [q, Bool.false_eq_true, if_false]
    refine Ev.bind (row_e _ _ (operandR_len i f _ c _ (by omega) (by omega) ⟨by omega, by omega⟩ hc)) ?_
    simp only [decide_true, if_true]
    exact ih (j + 1) (by omega)
theorem figsB_append (a b : List Int) : figsB (a ++ b) = (figsB a && figsB b) := by unfold figsB; rw [List.any_append, Bool.not_or]
end Go.Proofs.YtekinhnempbioaaDoor.PZ
namespace Go.Proofs.YtekinhnempbioaaDoor
open PZ Go.RowKit Go.Proofs.YtekinhnempbioaaDoorW.PrintWords
theorem Pure.OperNoughts : ∀ (x0 : List Int) (x1 : List Int) (x2 : Int), x0.length * 1 ≤ 140737488351232 → (∀ b_ ∈ x0, (Lit.int .u8 b_).wf = true) → x1.length * 1 ≤ 140737488351232 → (∀ b_ ∈ x1, (Lit.int .u8 b_).wf = true) → (Lit.int .i64 x2).wf = true → ∃ k, exerguelaw07_OperNoughts.f k x0 x1 x2 = some true := by
  intro a b c hm _ hm' _ _
  apply Ev.rounds
  unfold exerguelaw07_OperNoughts.f exerguelaw07_few.f
  refine Ev.bind shown_ev ?_
  rw [few_f hm hm']
  simp only [Option.bind_some, decide_eq_true_eq]
  by_cases h1 : (a.length : Int) + (b.length : Int) ≤ 1000
  · simp only [if_pos h1, List.nil_append, List.singleton_append]
    have q1 : ([0] : List Int).length + a.length < 140737488355328 := by simp; omega
    have q2 : ([] : List Int).length + b.length < 140737488355328 := by simp; omega
    have q3 : b.length < 140737488355328 := by omega
    have fz : figsB [0] = true := by decide
    simp only [if_pos q1, if_pos q2, if_pos q3]
    refine Ev.bind (of_ev a b c (by omega) (by omega)) ?_
    refine Ev.bind (of_ev (0 :: a) b c (by simp; omega) (by omega)) ?_
    refine Ev.bind (of_ev a (b ++ [0]) c (by omega) (by simp; omega)) ?_
    have hba := bareL_len a
    have e1 : ofR (0 :: a) b c = ofR a b c := by
      unfold ofR
      rw [show (0 : Int) :: a = [0] ++ a from rfl, figsB_append, fz, Bool.true_and]
      rfl
    rw [e1]
    by_cases h2 : figsB a = true ∧ figsB b = true ∧ 0 ≤ c ∧ c ≤ 1000
    · have e2 : ofR a b c = (bareL a, b, (fullN b : Int), c, 0) := by unfold ofR; rw [if_pos h2]
      have e3 : ofR a (b ++ [0]) c = (bareL a, b ++ [0], (fullN (b ++ [0]) : Int), c, 0) := by
        unfold ofR
        rw [if_pos ⟨h2.1, by rw [figsB_append, h2.2.1, fz]; rfl, h2.2.2⟩]
      rw [e2, e3]
      simp only [if_true]
      have hs := sameO_ev (bareL a) b (fullN b : Int) c (bareL a) b (fullN b : Int) c (by omega) (by omega)
      rw [sameO_self] at hs
      refine Ev.bind hs ?_
      simp only [Bool.not_true]
      refine Ev_shift ?_
      simp only [exerguelaw07_OperNoughts.j0, Bool.false_eq_true, if_false, if_true]
      exact noughts_l0 (by omega) (by omega) h2.2.2 6 0 (by omega)
    · have e2 : ofR a b c = ([], [], 0, 0, 1) := by unfold ofR; rw [if_neg h2]
      have e3 : ofR a (b ++ [0]) c = ([], [], 0, 0, 1) := by
        unfold ofR
        rw [figsB_append, fz, Bool.and_true, if_neg h2]
      rw [e2, e3]
      simp only [if_true]
      have hs := sameO_ev [] [] 0 0 [] [] 0 0 (by simp) (by simp)
      rw [sameO_self] at hs
      refine Ev.bind hs ?_
      simp only [Bool.not_true]
      refine Ev_shift ?_
      have q : ¬ (1 : Int) = 0 := by decide
      simp only [exerguelaw07_OperNoughts.j0, Bool.false_eq_true, if_false, if_true, if_neg q]
      exact Ev.now true
  · simp only [if_neg h1]
    exact Ev.now true
end Go.Proofs.YtekinhnempbioaaDoor
