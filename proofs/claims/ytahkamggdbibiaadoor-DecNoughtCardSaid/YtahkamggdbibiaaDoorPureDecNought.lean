/- DecNought, the pure statement: what the law computes is true.
   Conditions: none. -/
import Derived.Test.YtahkamggdbibiaaDoorPZx21
import Derived.Test.YtahkamggdbibiaaDoorPureNorm
import Derived.Test.YtahkamggdbibiaaDoorPureShown
set_option linter.unusedSimpArgs false
set_option linter.unusedVariables false
namespace Go.Proofs.YtahkamggdbibiaaDoor.PZ
open Go.RowKit Go.Proofs.YtahkamggdbibiaaDoorW.PrintWords Go.Proofs.YtahkamggdbibiaaDoorW.PrintLast
theorem nought_off (g : Bool) (l : List Int) (e n m : Int) : Ev (fun k => exerguelaw05_DecNought.j0 k g l e n m true true) true := by
  refine Ev_shift ?_
  simp only [exerguelaw05_DecNought.j0, if_true]
  exact Ev.now true
theorem nought_end (g : Bool) {r : Bool × List Int × Int × Int} (hr : (r.2.2.2 = 0 ∧ RDec r.2.1 r.2.2.1 ∧ r.1 = g) ∨ (r.2.2.2 ≠ 0 ∧ r.2.1 = [])) :
    Ev (fun k => if r.2.2.2 = r.2.2.2 then ((exergueref05_Same.f k r.1 r.2.1 r.2.2.1 r.1 r.2.1 r.2.2.1).bind fun t315 => (if t315 = true then (if r.2.2.2 = 0 then ((exergueref05_Right.f k r.1 r.2.1 r.2.2.1).bind fun t316 => (if t316 = true then (some (r.1 == g)) else (none))) else (some true)) else (none))) else (none)) true := by
  simp only [if_true]
  rcases hr with ⟨h0, h1, h2⟩ | ⟨h0, h1⟩
  · refine Ev.bind (same_self _ _ _ (by have := h1.len; omega)) ?_
    simp only [if_true, h0]
    refine Ev.bind (right_yes _ h1) ?_
    simp only [if_true, h2, beq_self_eq_true]
    exact Ev.now true
  · refine Ev.bind (same_self _ _ _ (by rw [h1]; decide)) ?_
    simp only [if_true, h0, if_false]
    exact Ev.now true
theorem normR_end (g : Bool) {c : List Int} (hc : Figs c) (hl : 0 < c.length) (h0 : rd c 0 ≠ 0) (h1 : rd c ((c.length : Int) - 1) ≠ 0) (e : Int) :
    ((normR g c e).2.2.2 = 0 ∧ RDec (normR g c e).2.1 (normR g c e).2.2.1 ∧ (normR g c e).1 = g) ∨ ((normR g c e).2.2.2 ≠ 0 ∧ (normR g c e).2.1 = []) := by
  unfold normR
  split
  · rename_i h
    have a0 := rd_figs hc 0
    have a1 := rd_figs hc (c.length - 1)
    have e1 : (c.length : Int) - 1 = ((c.length - 1 : Nat) : Int) := by omega
    rw [e1] at h1
    rw [Int.natCast_zero] at a0
    have z0 : 0 < rd c 0 := by omega
    have z1 : 0 < rd c ((c.length : Int) - 1) := by rw [e1]; omega
    exact .inl ⟨rfl, ⟨hc, .inr ⟨hl, h.1, z0, z1, h.2.1, h.2.2⟩⟩, rfl⟩
  · exact .inr ⟨by decide, rfl⟩
theorem nought_j0 (g : Bool) (l : List Int) (hw : ∀ b_ ∈ l, (Lit.int .u8 b_).wf = true) (e n m : Int) (hn : 0 ≤ n ∧ n ≤ 255) (hm : 0 ≤ m ∧ m ≤ 255) (hl : l.length ≤ 900) (he : -1000000 ≤ e ∧ e ≤ 1000000) :
    Ev (fun k => exerguelaw05_DecNought.j0 k g l e n m true false) true := by
  refine Ev_shift ?_
  obtain ⟨N, hN, hN'⟩ : ∃ N : Nat, wrap64 (Int.tmod n 40) = (N : Int) ∧ N ≤ 40 := ⟨(n % 40).toNat, by rw [Int.tmod_eq_emod_of_nonneg hn.1, w64 _ (by omega) (by omega)]; omega, by omega⟩
  obtain ⟨M, hM, hM'⟩ : ∃ N : Nat, wrap64 (Int.tmod m 40) = (N : Int) ∧ N ≤ 40 := ⟨(m % 40).toNat, by rw [Int.tmod_eq_emod_of_nonneg hm.1, w64 _ (by omega) (by omega)]; omega, by omega⟩
  simp only [exerguelaw05_DecNought.j0, hN, hM, Bool.false_eq_true, if_false, Int.toNat_natCast, Option.bind_some, if_true, List.length_append, List.length_replicate]
  simp only [if_pos (show (0 : Int) ≤ (N : Int) by omega), if_pos (show N ≤ 281474976710656 by omega), if_pos (show N + l.length < 140737488355328 by omega), if_pos (show (0 : Int) ≤ (M : Int) by omega), if_pos (show N + l.length + M < 140737488355328 by omega), w64 (e - M) (by omega) (by omega)]
  by_cases ho : (l.any fun c => decide (c > 9)) = true
  · refine Ev.bind (norm_odd g l e ho) ?_
    refine Ev.bind (norm_odd g _ (e - M) (by rw [List.any_append, List.any_append, ho]; simp)) ?_
    exact nought_end g (r := (false, [], 0, 1)) (.inr ⟨by decide, rfl⟩)
  · have hf := any_figs hw (by simpa using ho)
    rcases core_of l with ⟨k, rfl⟩ | ⟨a, c, b, rfl, cl, c0, c1⟩
    · rw [List.length_replicate] at hl
      refine Ev.bind (norm_zero g k e (by omega) (by omega)) ?_
      have e1 : List.replicate N (0 : Int) ++ List.replicate k 0 ++ List.replicate M 0 = List.replicate (N + k + M) 0 := by rw [List.replicate_append_replicate, List.replicate_append_replicate]
      rw [e1]
      refine Ev.bind (norm_zero g (N + k + M) (e - M) (by omega) (by omega)) ?_
      exact nought_end g (r := (g, [], 0, 0)) (.inl ⟨rfl, RDec.nil, rfl⟩)
    · have hc : Figs c := hf.right.left
      simp only [List.length_append, List.length_replicate] at hl
      refine Ev.bind (norm_core g hc cl c0 c1 a b e (by omega) (by omega)) ?_
      have e1 : List.replicate N (0 : Int) ++ (List.replicate a 0 ++ (c ++ List.replicate b 0)) ++ List.replicate M 0 = List.replicate (N + a) 0 ++ (c ++ List.replicate (b + M) 0) := by
        rw [← List.replicate_append_replicate, ← List.replicate_append_replicate]
        simp only [List.append_assoc]
      rw [e1]
      have h2 := norm_core g hc cl c0 c1 (N + a) (b + M) (e - M) (by omega) (by omega)
      have e2 : e - (M : Int) + ((b + M : Nat) : Int) = e + b := by omega
      rw [e2] at h2
      refine Ev.bind h2 ?_
      exact nought_end g (normR_end g hc cl c0 c1 (e + b))
end Go.Proofs.YtahkamggdbibiaaDoor.PZ
namespace Go.Proofs.YtahkamggdbibiaaDoor
open PZ Go.RowKit Go.Proofs.YtahkamggdbibiaaDoorW.PrintWords
theorem Pure.DecNought : ∀ (x0_0 : Bool) (x0_1 : List Int) (x0_2 : Int) (x0_3 : Int) (x0_4 : Int), x0_1.length ≤ maxLen → (∀ b_ ∈ x0_1, (Lit.int .u8 b_).wf = true) → (Lit.int .i64 x0_2).wf = true → (Lit.int .u8 x0_3).wf = true → (Lit.int .u8 x0_4).wf = true → ∃ k, exerguelaw05_DecNought.f k x0_0 x0_1 x0_2 x0_3 x0_4 = some true := by
  intro g l e n m hm hw _ hn hm'
  apply Ev.rounds
  unfold exerguelaw05_DecNought.f
  refine Ev.bind shown_ev ?_
  by_cases h1 : (l.length : Int) > 900
  · simp only [h1, if_true]
    exact nought_off g l e n m
  · simp only [h1, if_false]
    by_cases h2 : e < -1000000
    · simp only [h2, if_true]
      exact nought_off g l e n m
    · simp only [h2, if_false]
      by_cases h3 : e > 1000000
      · simp only [h3, decide_true]
        exact nought_off g l e n m
      · simp only [h3, decide_false]
        exact nought_j0 g l hw e n m (wf_u8 hn) (wf_u8 hm') (by omega) (by omega)
end Go.Proofs.YtahkamggdbibiaaDoor
