/- DecOrder, the pure statement: what the law computes is true.
   Conditions: none. -/
import Derived.Test.YtahkamggdbibiaaDoorPZx27
import Derived.Test.YtahkamggdbibiaaDoorPureCmp
import Derived.Test.YtahkamggdbibiaaDoorPureShown
set_option linter.unusedSimpArgs false
set_option linter.unusedVariables false
namespace Go.Proofs.YtahkamggdbibiaaDoor.PZ
open Go.RowKit Go.Proofs.YtahkamggdbibiaaDoorW.PrintWords Go.Proofs.YtahkamggdbibiaaDoorW.PrintLast
theorem order_off (ga gb gc : Bool) (a b c : List Int) (ea eb ec : Int) : Ev (fun n => exerguelaw05_DecOrder.j0 n true true ga a ea gb b eb gc c ec) true := by
  refine Ev_shift ?_
  simp only [exerguelaw05_DecOrder.j0, if_true]
  exact Ev.now true
theorem order_j2 {ga gb gc : Bool} {a b c : List Int} {ea eb ec : Int} (ha : RDec a ea) (hb : RDec b eb) (hc : RDec c ec) :
    Ev (fun n => exerguelaw05_DecOrder.j2 n true (sg (val ga a ea - val gb b eb)) false ga a ea gb b eb gc c ec) true := by
  refine Ev_shift ?_
  simp only [exerguelaw05_DecOrder.j2, Bool.false_eq_true, if_false, if_true]
  by_cases h1 : sg (val ga a ea - val gb b eb) > 0
  · simp only [h1, if_true]
    exact Ev.now true
  · simp only [h1, if_false]
    refine Ev.bind (cmp_e gb gc hb hc) ?_
    by_cases h2 : sg (val gb b eb - val gc c ec) > 0
    · simp only [h2, if_true]
      exact Ev.now true
    · simp only [h2, if_false]
      refine Ev.bind (cmp_e ga gc ha hc) ?_
      have h3 : sg (val ga a ea - val gc c ec) ≤ 0 := by
        have a1 : ¬ 0 < val ga a ea - val gb b eb := fun h => h1 (sg_pos.2 h)
        have a2 : ¬ 0 < val gb b eb - val gc c ec := fun h => h2 (sg_pos.2 h)
        have : ¬ 0 < sg (val ga a ea - val gc c ec) := fun h => by have := sg_pos.1 h; omega
        omega
      simp only [h3, decide_true]
      exact Ev.now true
theorem order_j1 {ga gb gc : Bool} {a b c : List Int} {ea eb ec : Int} (ha : RDec a ea) (hb : RDec b eb) (hc : RDec c ec) (s : Bool) (hs : s = true ↔ sg (val ga a ea - val gb b eb) = 0) :
    Ev (fun n => exerguelaw05_DecOrder.j1 n true (sg (val ga a ea - val gb b eb)) s ga a ea gb b eb gc c ec) true := by
  refine Ev_shift ?_
  simp only [exerguelaw05_DecOrder.j1]
  refine Ev.bind (cmp_e gb ga hb ha) ?_
  have hr := sg_range (val ga a ea - val gb b eb)
  have h1 : sg (val gb b eb - val ga a ea) = wrap64 (-sg (val ga a ea - val gb b eb)) := by
    rw [w64 _ (by omega) (by omega), ← sg_neg]
    congr 1
    omega
  have h2 : ((sg (val ga a ea - val gb b eb) == 0) != s) = false := by
    cases s with
    | true => rw [hs.1 rfl]; rfl
    | false =>
      have : ¬ sg (val ga a ea - val gb b eb) = 0 := fun h => by have := hs.2 h; cases this
      simpa using this
  have h3 : ¬ sg (val ga a ea - val gb b eb) < -1 := by omega
  have h4 : decide (sg (val ga a ea - val gb b eb) > 1) = false := by simp; omega
  simp only [← h1, if_true, h2, h3, h4, Bool.false_eq_true, if_false]
  exact order_j2 ha hb hc
theorem order_j0 {ga gb gc : Bool} {a b c : List Int} {ea eb ec : Int} (ha : RDec a ea) (hb : RDec b eb) (hc : RDec c ec) :
    Ev (fun n => exerguelaw05_DecOrder.j0 n true false ga a ea gb b eb gc c ec) true := by
  refine Ev_shift ?_
  simp only [exerguelaw05_DecOrder.j0, Bool.false_eq_true, if_false]
  refine Ev.bind (cmp_e ga gb ha hb) ?_
  refine Ev.bind (same_e ga gb a b ea eb (by have := ha.len; omega)) ?_
  have hv : sg (val ga a ea - val gb b eb) = 0 ↔ ((ga = gb ∧ a = b ∧ ea = eb) ∨ (a = [] ∧ b = [])) := by
    rw [sg_zero, ← RDec.val_eq ha hb]
    omega
  by_cases hs : ga = gb ∧ a = b ∧ ea = eb
  · simp only [decide_eq_true hs, if_true]
    exact order_j1 ha hb hc true ⟨fun _ => hv.2 (.inl hs), fun _ => rfl⟩
  · simp only [decide_eq_false hs, Bool.false_eq_true, if_false]
    by_cases h0 : a = []
    · have h1 : (a.length : Int) = 0 := by rw [h0]; rfl
      simp only [h1, if_true]
      refine order_j1 ha hb hc _ ?_
      rw [hv]
      constructor
      · intro h
        have : b.length = 0 := by simpa using h
        exact .inr ⟨h0, List.eq_nil_of_length_eq_zero this⟩
      · rintro (h | ⟨_, rfl⟩)
        · exact absurd h hs
        · rfl
    · have h1 : ¬ (a.length : Int) = 0 := fun h => h0 (List.eq_nil_of_length_eq_zero (by omega))
      simp only [h1, if_false]
      refine order_j1 ha hb hc false ?_
      rw [hv]
      constructor
      · intro h; cases h
      · rintro (h | ⟨h, _⟩)
        · exact absurd h hs
        · exact absurd h h0
end Go.Proofs.YtahkamggdbibiaaDoor.PZ
namespace Go.Proofs.YtahkamggdbibiaaDoor
open PZ Go.RowKit Go.Proofs.YtahkamggdbibiaaDoorW.PrintWords
theorem Pure.DecOrder : ∀ (x0_0 : Bool) (x0_1 : List Int) (x0_2 : Int) (x1_0 : Bool) (x1_1 : List Int) (x1_2 : Int) (x2_0 : Bool) (x2_1 : List Int) (x2_2 : Int), x0_1.length ≤ maxLen → (∀ b_ ∈ x0_1, (Lit.int .u8 b_).wf = true) → (Lit.int .i64 x0_2).wf = true → x1_1.length ≤ maxLen → (∀ b_ ∈ x1_1, (Lit.int .u8 b_).wf = true) → (Lit.int .i64 x1_2).wf = true → x2_1.length ≤ maxLen → (∀ b_ ∈ x2_1, (Lit.int .u8 b_).wf = true) → (Lit.int .i64 x2_2).wf = true → ∃ k, exerguelaw05_DecOrder.f k x0_0 x0_1 x0_2 x1_0 x1_1 x1_2 x2_0 x2_1 x2_2 = some true := by
  intro ga a ea gb b eb gc c ec hma hwa _ hmb hwb _ hmc hwc _
  apply Ev.rounds
  unfold exerguelaw05_DecOrder.f
  refine Ev.bind shown_ev ?_
  rcases right_cases ga (e := ea) hma hwa with ⟨ra, ha⟩ | ra
  · refine Ev.bind ra ?_
    simp only [if_true]
    rcases right_cases gb (e := eb) hmb hwb with ⟨rb, hb⟩ | rb
    · refine Ev.bind rb ?_
      simp only [if_true]
      rcases right_cases gc (e := ec) hmc hwc with ⟨rc, hc⟩ | rc
      · refine Ev.bind rc ?_
        simp only [Bool.not_true]
        exact order_j0 ha hb hc
      · refine Ev.bind rc ?_
        simp only [Bool.not_false]
        exact order_off _ _ _ _ _ _ _ _ _
    · refine Ev.bind rb ?_
      simp only [Bool.false_eq_true, if_false]
      exact order_off _ _ _ _ _ _ _ _ _
  · refine Ev.bind ra ?_
    simp only [Bool.false_eq_true, if_false]
    exact order_off _ _ _ _ _ _ _ _ _
end Go.Proofs.YtahkamggdbibiaaDoor
