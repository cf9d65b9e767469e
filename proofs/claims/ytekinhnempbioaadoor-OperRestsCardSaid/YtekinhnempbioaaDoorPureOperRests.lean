/- OperRests, the pure statement: what the law computes is true.
   Conditions: none. -/
import Derived.Test.YtekinhnempbioaaDoorPZx22
import Derived.Test.YtekinhnempbioaaDoorPureShown07
set_option linter.unusedSimpArgs false
set_option linter.unusedVariables false
namespace Go.Proofs.YtekinhnempbioaaDoor.PZ
open Go.RowKit Go.Proofs.YtekinhnempbioaaDoorW.PrintWords Go.Proofs.YtekinhnempbioaaDoorW.PrintLast
theorem rests_off (l : List Int) (c m n : Int) : Ev (fun k => exerguelaw07_OperRests.j0 k l c m n true true) true := by
  refine Ev_shift ?_
  simp only [exerguelaw07_OperRests.j0, if_true]
  exact Ev.now true
theorem rests_in {l : List Int} (hf : Figs l) (hl : l.length ≤ 1000) (n : Int) (hn : 0 ≤ n ∧ n ≤ 65535) :
    Ev (fun k => (oper_In.f k l 0 n).bind fun t348 => (oper_In.f k l 0 (n - 1)).bind fun t349 => if t349 = true then some (t348 == true) else some (t348 == inD l n n)) true := by
  refine Ev.bind (in_ev hf (by omega) 0 n (by omega) (by omega)) ?_
  refine Ev.bind (in_ev hf (by omega) 0 (n - 1) (by omega) (by omega)) ?_
  have hp := num_lt hf
  by_cases h : inD l 0 (n - 1) = true
  · simp only [if_pos h]
    have : inD l 0 n = true := by
      unfold inD at h ⊢
      rw [decide_eq_true_eq] at h ⊢
      omega
    rw [this]
    exact Ev.now true
  · simp only [if_neg h]
    have : inD l 0 n = inD l n n := by
      unfold inD at h ⊢
      rw [decide_eq_true_eq] at h
      rw [decide_eq_decide]
      omega
    rw [this]
    simp only [beq_self_eq_true]
    exact Ev.now true
theorem rests_j0 {l : List Int} (hf : Figs l) (hl : l.length ≤ 1000) {c m n : Int} (hc : 0 ≤ c ∧ c ≤ 9) (hm : 1 ≤ m ∧ m ≤ 1000000000) (hn : 0 ≤ n ∧ n ≤ 65535) : Ev (fun k => exerguelaw07_OperRests.j0 k l c m n true false) true := by
  refine Ev_shift ?_
  have w1 : wrap64 n = n := w64 n (by omega) (by omega)
  have w2 : wrap64 (n - 1) = n - 1 := w64 _ (by omega) (by omega)
  have hfc : Figs (l ++ [c]) := hf.append (Figs.cons hc.1 hc.2 Figs.nil)
  have p1 : ([] : List Int).length + l.length < 140737488355328 := by simp; omega
  have p2 : l.length < 140737488355328 := by omega
  simp only [exerguelaw07_OperRests.j0, Bool.false_eq_true, if_false, if_true, w1, w2, Option.bind_some, List.nil_append, if_pos p1, if_pos p2]
  have h1 := Int.emod_nonneg (num l) (show m ≠ 0 by omega)
  have h2 := Int.emod_lt_of_pos (num l) (show 0 < m by omega)
  refine Ev.bind (mod_ev hf (by omega) hm) ?_
  refine Ev.bind (mod_ev hfc (by simp; omega) hm) ?_
  refine Ev.bind (in_ev hf (by omega) n n (by omega) (by omega)) ?_
  have q1 : num l % m ≥ 0 := h1
  have q3 : ¬ m = 0 := by omega
  have q4 : num (l ++ [c]) % m = Int.tmod (wrap64 (wrap64 (num l % m * 10) + wrap64 c)) m := by
    rw [w64 (_ * 10) (by omega) (by omega), w64 c (by omega) (by omega), w64 (_ + _) (by omega) (by omega), Int.tmod_eq_emod_of_nonneg (by omega), mod_step, num_snoc]
  simp only [if_pos q1, if_pos h2, if_neg q3, if_pos q4]
  by_cases hi : inD l n n = true
  · simp only [if_pos hi]
    refine Ev.bind (mod_ev hf (by omega) (m := 1000000) (by omega)) ?_
    have q5 : num l % 1000000 = n := by
      unfold inD at hi
      rw [decide_eq_true_eq] at hi
      omega
    simp only [if_pos q5]
    exact rests_in hf hl n hn
  · simp only [if_neg hi]
    exact rests_in hf hl n hn
end Go.Proofs.YtekinhnempbioaaDoor.PZ
namespace Go.Proofs.YtekinhnempbioaaDoor
open PZ Go.RowKit Go.Proofs.YtekinhnempbioaaDoorW.PrintWords
theorem Pure.OperRests : ∀ (x0_0 : List Int) (x0_1 : Int) (x0_2 : Int) (x0_3 : Int), x0_0.length * 1 ≤ 140737488351232 → (∀ b_ ∈ x0_0, (Lit.int .u8 b_).wf = true) → (Lit.int .u8 x0_1).wf = true → (Lit.int .i64 x0_2).wf = true → (Lit.int .u16 x0_3).wf = true → ∃ k, exerguelaw07_OperRests.f k x0_0 x0_1 x0_2 x0_3 = some true := by
  intro l c m n hm hw hc _ hn
  have hc := wf_u8 hc
  have hn := wf_u16 hn
  apply Ev.rounds
  unfold exerguelaw07_OperRests.f
  refine Ev.bind shown_ev ?_
  by_cases h1 : (l.length : Int) > 1000
  · simp only [if_pos h1]
    exact rests_off l c m n
  · simp only [if_neg h1]
    refine Ev.bind (refFig_ev l (by omega)) ?_
    cases hb : figsB l with
    | false =>
      simp only [Bool.false_eq_true, if_false]
      exact rests_off l c m n
    | true =>
      have hf := (figsB_iff hw).1 hb
      simp only [if_true]
      by_cases h0 : c > 9
      · simp only [if_pos h0]
        exact rests_off l c m n
      · simp only [if_neg h0]
        by_cases h2 : m < 1
        · simp only [if_pos h2]
          exact rests_off l c m n
        · simp only [if_neg h2]
          by_cases h3 : m > 1000000000
          · simp only [decide_eq_true h3]
            exact rests_off l c m n
          · simp only [decide_eq_false h3]
            exact rests_j0 hf (by omega) (by omega) (by omega) (by omega)
end Go.Proofs.YtekinhnempbioaaDoor
