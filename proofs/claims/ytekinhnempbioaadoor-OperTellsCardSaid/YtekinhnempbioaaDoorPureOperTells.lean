/- OperTells, the pure statement: what the law computes is true.
   Conditions: none. -/
import Derived.Test.YtekinhnempbioaaDoorPZx23
import Derived.Test.YtekinhnempbioaaDoorPZx19
import Derived.Test.YtekinhnempbioaaDoorPZx21
import Derived.Test.YtekinhnempbioaaDoorPZx22
import Derived.Test.YtekinhnempbioaaDoorPureOperEqual
import Derived.Test.YtekinhnempbioaaDoorPureShown07
set_option linter.unusedSimpArgs false
set_option linter.unusedVariables false
namespace Go.Proofs.YtekinhnempbioaaDoor.PZ
open Go.RowKit Go.Proofs.YtekinhnempbioaaDoorW.PrintWords Go.Proofs.YtekinhnempbioaaDoorW.PrintLast
theorem ndL_step {n : Int} (h : 0 < n) : ndL n = ndL (n / 10) ++ [n % 10] := by
  unfold ndL
  rw [if_neg (by omega)]
  by_cases h1 : n < 10
  · rw [if_pos (by omega), digsN_small (by omega)]
    simp; omega
  · rw [if_neg (by omega), digsN_big (by omega)]
    have e1 : n.toNat / 10 = (n / 10).toNat := by omega
    have e2 : ((n.toNat % 10 : Nat) : Int) = n % 10 := by omega
    rw [e1, e2]
theorem refNumber_l0 (m : Nat) : ∀ (n : Int) (acc : List Int), 0 ≤ n → n.toNat ≤ m → (acc.length : Int) + n ≤ 1000000 → Ev (fun k => exergueref07_number.l0 k n acc) (ndL n ++ acc) := by
  induction m with
  | zero =>
    intro n acc h0 h1 _
    have : n = 0 := by omega
    subst this
    refine Ev_shift ?_
    have q : ¬ (0 : Int) > 0 := by omega
    simp only [exergueref07_number.l0, if_neg q]
    exact Ev.now _
  | succ m ih =>
    intro n acc h0 h1 h2
    by_cases hp : n > 0
    · refine Ev_shift ?_
      have e1 : Int.tmod n 10 % 256 = n % 10 := by rw [Int.tmod_eq_emod_of_nonneg h0]; omega
      have e2 : wrap64 (Int.tdiv n 10) = n / 10 := by rw [Int.tdiv_eq_ediv_of_nonneg h0, w64 _ (by omega) (by omega)]
      have q : ([n % 10] : List Int).length + acc.length < 140737488355328 := by simp; omega
      simp only [exergueref07_number.l0, if_pos hp, e1, e2, Option.bind_some, if_pos q]
      have := ih (n / 10) ([n % 10] ++ acc) (by omega) (by omega) (by simp; omega)
      rw [ndL_step hp, List.append_assoc]
      exact this
    · have : n = 0 := by omega
      subst this
      refine Ev_shift ?_
      simp only [exergueref07_number.l0, if_neg hp]
      exact Ev.now _
theorem refNumber_ev {n : Int} (h0 : 0 ≤ n) (h1 : n ≤ 1000000) : Ev (fun k => exergueref07_number.f k n) (ndL n) := by
  have := refNumber_l0 n.toNat n [] h0 (Nat.le_refl _) (by simpa using h1)
  rw [List.append_nil] at this
  exact this
theorem refOf_ev (a b : List Int) (c : Int) (ha : a.length ≤ 1000000000) (hb : b.length ≤ 1000000000) : Ev (fun k => exergueref07_Of.f k a b c) (ofR a b c) := by
  unfold exergueref07_Of.f
  refine Ev.bind (refFig_ev a (by omega)) ?_
  refine Ev.bind (refFig_ev b (by omega)) ?_
  have off : Ev (fun k => exergueref07_Of.j0 k a b c true) ([], [], 0, 0, 1) := by
    refine Ev_shift ?_
    simp only [exergueref07_Of.j0, if_true]
    exact Ev.now _
  by_cases h : figsB a = true ∧ figsB b = true ∧ 0 ≤ c ∧ c ≤ 1000
  · have q1 : ¬ c < 0 := by omega
    have q2 : decide (c > 1000) = false := decide_eq_false (by omega)
    have e : ofR a b c = (bareL a, b, (fullN b : Int), c, 0) := by unfold ofR; rw [if_pos h]
    rw [e]
    simp only [if_pos h.1, if_pos h.2.1, if_neg q1, q2]
    refine Ev_shift ?_
    simp only [exergueref07_Of.j0, Bool.false_eq_true, if_false]
    refine Ev.bind (refBare_ev a (by omega)) ?_
    refine Ev.bind (refFull_ev b hb) ?_
    exact Ev.now _
  · have e : ofR a b c = ([], [], 0, 0, 1) := by unfold ofR; rw [if_neg h]
    rw [e]
    by_cases h1 : figsB a = true
    · simp only [if_pos h1]
      by_cases h2 : figsB b = true
      · simp only [if_pos h2]
        by_cases h3 : c < 0
        · simp only [if_pos h3]; exact off
        · have h4 : decide (c > 1000) = true := decide_eq_true (by
            apply Classical.byContradiction
            intro z
            exact h ⟨h1, h2, by omega, by omega⟩)
          simp only [if_neg h3, h4]; exact off
      · simp only [if_neg h2]; exact off
    · simp only [if_neg h1]; exact off
theorem refOperand_ev (i f : List Int) (w c : Int) (name : Int) (hf : f.length ≤ 100000) (hw : 0 ≤ w ∧ w ≤ f.length) (hc : 0 ≤ c ∧ c ≤ 1000) : Ev (fun k => exergueref07_Operand.f k i f w c name) (operandR i f w c name) := by
  have mk : ∀ {g : Nat → Option (List Int)} {r : List Int}, Ev g r → Ev (fun k => (g k).bind fun t => some (t, true)) (r, true) := fun h => Ev.bind h (Ev.now _)
  unfold exergueref07_Operand.f operandR
  by_cases h1 : name = 110
  · simp only [if_pos h1]
    by_cases h2 : w > 0
    · simp only [if_pos h2]; exact Ev.now _
    · simp only [if_neg h2]; exact Ev.now _
  simp only [if_neg h1]
  by_cases h1 : name = 105
  · simp only [if_pos h1]; exact Ev.now _
  simp only [if_neg h1]
  by_cases h1 : name = 118
  · simp only [if_pos h1]; exact mk (refNumber_ev (by omega) (by omega))
  simp only [if_neg h1]
  by_cases h1 : name = 119
  · simp only [if_pos h1]; exact mk (refNumber_ev (by omega) (by omega))
  simp only [if_neg h1]
  by_cases h1 : name = 102
  · simp only [if_pos h1]; exact mk (refBare_ev f (by omega))
  simp only [if_neg h1]
  by_cases h1 : name = 116
  · simp only [if_pos h1, if_pos hw.1, if_pos hw.2]
    exact mk (refBare_ev _ (by rw [List.length_take]; omega))
  simp only [if_neg h1]
  by_cases h1 : name = 99
  · simp only [if_pos h1]; exact mk (refNumber_ev (by omega) (by omega))
  simp only [if_neg h1]
  by_cases h1 : name = 101
  · simp only [if_pos h1]; exact mk (refNumber_ev (by omega) (by omega))
  simp only [if_neg h1]
  exact Ev.now _
theorem operandR_len' (i f : List Int) (w c : Int) (name : Int) (li : i.length ≤ 100000) (lf : f.length ≤ 100000) (hw : 0 ≤ w ∧ w ≤ f.length) (hc : 0 ≤ c ∧ c ≤ 1000) : (operandR i f w c name).1.length ≤ 9223372036854775807 := by
  have h1 := ndL_len (n := (f.length : Int)) (by omega) (by omega)
  have h2 := ndL_len (n := w) (by omega) (by omega)
  have h3 := ndL_len (n := c) (by omega) (by omega)
  have h4 := bareL_len f
  have h5 := bareL_len (f.take w.toNat)
  rw [List.length_take] at h5
  unfold operandR
  repeat' split
  all_goals (dsimp only; first | omega | (simp; done))
theorem optells_off (a b : List Int) (c name : Int) (i f : List Int) (w cc : Int) : Ev (fun k => exerguelaw07_OperTells.j0 k a b c name true true i f w cc) true := by
  refine Ev_shift ?_
  simp only [exerguelaw07_OperTells.j0, if_true]
  exact Ev.now true
theorem optells_j1 {i f : List Int} {w c : Int} (name : Int) (li : i.length ≤ 1000) (lf : f.length ≤ 1000) : Ev (fun k => exerguelaw07_OperTells.j1 k name true (decide (RightO i f w c)) false i f w c) true := by
  refine Ev_shift ?_
  simp only [exerguelaw07_OperTells.j1, Bool.false_eq_true, if_false, if_true]
  by_cases h : RightO i f w c
  · have hw : 0 ≤ w ∧ w ≤ f.length := by rw [h.2.2.2.1]; have := fullN_le f; omega
    have hc := h.2.2.2.2
    simp only [decide_eq_true h, if_true]
    refine Ev.bind (operand_ev i f w c name (by omega) hw hc) ?_
    refine Ev.bind (refOperand_ev i f w c name (by omega) hw hc) ?_
    refine Ev.bind (row_e _ _ (operandR_len' i f w c name (by omega) (by omega) hw hc)) ?_
    simp only [decide_true, if_true, beq_self_eq_true]
    exact Ev.now true
  · simp only [decide_eq_false h, Bool.false_eq_true, if_false]
    exact Ev.now true
theorem ofR_bytes {a b : List Int} (ha : Bytes a) (hb : Bytes b) (c : Int) : Bytes (ofR a b c).1 ∧ Bytes (ofR a b c).2.1 ∧ (ofR a b c).1.length ≤ a.length ∧ (ofR a b c).2.1.length ≤ b.length := by
  unfold ofR
  split
  · exact ⟨fun x hx => ha x ((List.dropWhile_sublist _).subset hx), hb, bareL_len a, Nat.le_refl _⟩
  · exact ⟨(fun x hx => by cases hx), (fun x hx => by cases hx), Nat.zero_le _, Nat.zero_le _⟩
theorem optells_j0 {a b i f : List Int} {c w cc : Int} (name : Int) (ha : Bytes a) (hb : Bytes b) (hi : Bytes i) (hf : Bytes f) (la : a.length ≤ 1000) (lb : b.length ≤ 1000) (li : i.length ≤ 1000) (lf : f.length ≤ 1000) :
    Ev (fun k => exerguelaw07_OperTells.j0 k a b c name true false i f w cc) true := by
  refine Ev_shift ?_
  simp only [exerguelaw07_OperTells.j0, Bool.false_eq_true, if_false]
  refine Ev.bind (of_ev a b c (by omega) (by omega)) ?_
  refine Ev.bind (refOf_ev a b c (by omega) (by omega)) ?_
  refine Ev.bind (refRight_ev i f w cc (by omega) (by omega)) ?_
  obtain ⟨b1, b2, b3, b4⟩ := ofR_bytes ha hb c
  generalize ofR a b c = x at b1 b2 b3 b4 ⊢
  have hs := sameO_ev x.1 x.2.1 x.2.2.1 x.2.2.2.1 x.1 x.2.1 x.2.2.1 x.2.2.2.1 (by omega) (by omega)
  rw [sameO_self] at hs
  refine Ev.bind hs ?_
  simp only [if_true]
  rw [rightO_f]
  simp only [Option.bind_some]
  have q : (decide (RightO i f w cc) != decide (RightO i f w cc)) = false := by simp
  simp only [q, Bool.false_eq_true, if_false]
  rw [operSame_f x.2.2.1 x.2.2.2.1 w cc b1 b2 hi hf]
  simp only [Option.bind_some]
  refine Ev.bind (sameO_ev x.1 x.2.1 x.2.2.1 x.2.2.2.1 i f w cc (by omega) (by omega)) ?_
  have q2 : (sameO x.1 x.2.1 x.2.2.1 x.2.2.2.1 i f w cc != sameO x.1 x.2.1 x.2.2.1 x.2.2.2.1 i f w cc) = false := by simp
  simp only [q2]
  exact optells_j1 name li lf
end Go.Proofs.YtekinhnempbioaaDoor.PZ
namespace Go.Proofs.YtekinhnempbioaaDoor
open PZ Go.RowKit Go.Proofs.YtekinhnempbioaaDoorW.PrintWords
theorem Pure.OperTells : ∀ (x0_0 : List Int) (x0_1 : List Int) (x0_2 : Int) (x0_3_0 : List Int) (x0_3_1 : List Int) (x0_3_2 : Int) (x0_3_3 : Int) (x0_4 : Int), x0_0.length * 1 ≤ 140737488351232 → (∀ b_ ∈ x0_0, (Lit.int .u8 b_).wf = true) → x0_1.length * 1 ≤ 140737488351232 → (∀ b_ ∈ x0_1, (Lit.int .u8 b_).wf = true) → (Lit.int .i64 x0_2).wf = true → x0_3_0.length * 1 ≤ 140737488351232 → (∀ b_ ∈ x0_3_0, (Lit.int .u8 b_).wf = true) → x0_3_1.length * 1 ≤ 140737488351232 → (∀ b_ ∈ x0_3_1, (Lit.int .u8 b_).wf = true) → (Lit.int .i64 x0_3_2).wf = true → (Lit.int .i64 x0_3_3).wf = true → (Lit.int .u8 x0_4).wf = true → ∃ k, exerguelaw07_OperTells.f k x0_0 x0_1 x0_2 x0_3_0 x0_3_1 x0_3_2 x0_3_3 x0_4 = some true := by
  intro a b c i f w cc name ma wa mb wb _ mi wi mf wf _ _ _
  apply Ev.rounds
  unfold exerguelaw07_OperTells.f exerguelaw07_few.f
  refine Ev.bind shown_ev ?_
  rw [few_f ma mb, few_f mi mf]
  simp only [Option.bind_some, decide_eq_true_eq]
  by_cases h1 : (a.length : Int) + (b.length : Int) ≤ 1000
  · simp only [if_pos h1]
    by_cases h2 : (i.length : Int) + (f.length : Int) ≤ 1000
    · simp only [decide_eq_true h2, Bool.not_true]
      exact optells_j0 name (bytes_of wa) (bytes_of wb) (bytes_of wi) (bytes_of wf) (by omega) (by omega) (by omega) (by omega)
    · simp only [decide_eq_false h2, Bool.not_false]
      exact optells_off _ _ _ _ _ _ _ _
  · simp only [if_neg h1]
    exact optells_off _ _ _ _ _ _ _ _
end Go.Proofs.YtekinhnempbioaaDoor
