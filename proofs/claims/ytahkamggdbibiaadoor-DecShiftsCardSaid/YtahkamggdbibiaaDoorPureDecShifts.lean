/- DecShifts, the pure statement: what the law computes is true.
   Conditions: none. -/
import Derived.Test.YtahkamggdbibiaaDoorPZx24
import Derived.Test.YtahkamggdbibiaaDoorPureCmp
import Derived.Test.YtahkamggdbibiaaDoorPureShown
set_option linter.unusedSimpArgs false
set_option linter.unusedVariables false
namespace Go.Proofs.YtahkamggdbibiaaDoor.PZ
open Go.RowKit Go.Proofs.YtahkamggdbibiaaDoorW.PrintWords Go.Proofs.YtahkamggdbibiaaDoorW.PrintLast
theorem wf_i16 {n : Int} (h : (Lit.int .i16 n).wf = true) : -32768 ≤ n ∧ n ≤ 32767 := by
  have h1 : (decide (IntKind.i16.min ≤ n) && decide (n ≤ IntKind.i16.max)) = true := h
  have e1 : IntKind.i16.min = -32768 := rfl
  have e2 : IntKind.i16.max = 32767 := rfl
  rw [e1, e2] at h1
  simpa using h1
/-- What Shift answers. -/
def shiftR (g : Bool) (l : List Int) (e n : Int) : Bool × List Int × Int × Int := if l.length = 0 then (g, l, e, 0) else if e + n < -1000 ∨ 1000 < e + n then (false, [], 0, 11) else (g, l, e + n, 0)
theorem shift_f (g : Bool) (l : List Int) (e n : Int) (he : -1000 ≤ e ∧ e ≤ 1000) (hn : -1000000 ≤ n ∧ n ≤ 1000000) : dec_Shift.f g l e n = some (shiftR g l e n) := by
  unfold dec_Shift.f shiftR
  have h1 : decFar n 1099511627776 = false := by unfold decFar; simp; omega
  rw [w64 (e + n) (by omega) (by omega)]
  have h2 : (decFar (e + n) 1000 = true) = (e + n < -1000 ∨ 1000 < e + n) := by unfold decFar; simp
  simp only [h1, Bool.false_eq_true, if_false, h2]
/-- A number is another one times ten to the power n. -/
def Moved (l : List Int) (e n e' : Int) : Prop := (l = [] ∧ e' = e) ∨ (l ≠ [] ∧ e' = e + n ∧ -1000 ≤ e' ∧ e' ≤ 1000)
theorem Moved.right {l : List Int} {e n e' : Int} (h : RDec l e) (m : Moved l e n e') : RDec l e' := by
  rcases m with ⟨_, rfl⟩ | ⟨hl, rfl, h1, h2⟩
  · exact h
  · refine ⟨h.figs, .inr ?_⟩
    rcases h.tail with t | t
    · exact absurd (List.eq_nil_of_length_eq_zero t.1) hl
    · exact ⟨t.1, t.2.1, t.2.2.1, t.2.2.2.1, h1, h2⟩
theorem Moved.val {l : List Int} {e n e' : Int} (g : Bool) (h : RDec l e) (m : Moved l e n e') : (0 ≤ n → PZ.val g l e' = PZ.val g l e * T10 n.toNat) ∧ (n ≤ 0 → PZ.val g l e = PZ.val g l e' * T10 (-n).toNat) := by
  have he := h.exp
  rcases m with ⟨rfl, rfl⟩ | ⟨hl, rfl, h1, h2⟩
  · simp only [val_nil]; simp
  · constructor
    · intro hn
      have e1 : (e + n + 3000).toNat = (e + 3000).toNat + n.toNat := by omega
      unfold PZ.val valN
      rw [e1, T10_add]
      cases g <;> simp only [Bool.false_eq_true, if_false, if_true] <;> grind
    · intro hn
      have e1 : (e + 3000).toNat = (e + n + 3000).toNat + (-n).toNat := by omega
      unfold PZ.val valN
      rw [e1, T10_add]
      cases g <;> simp only [Bool.false_eq_true, if_false, if_true] <;> grind
theorem moved_cmp {ga gb : Bool} {a b : List Int} {ea eb n xa xb : Int} (ha : RDec a ea) (hb : RDec b eb) (ma : Moved a ea n xa) (mb : Moved b eb n xb) : sg (PZ.val ga a xa - PZ.val gb b xb) = sg (PZ.val ga a ea - PZ.val gb b eb) := by
  have h1 := ma.val ga ha
  have h2 := mb.val gb hb
  rcases Int.le_total 0 n with hn | hn
  · rw [h1.1 hn, h2.1 hn, ← Int.sub_mul, sg_mul (T10_pos _)]
  · rw [h1.2 hn, h2.2 hn, ← Int.sub_mul, sg_mul (T10_pos _)]
theorem shifts_off1 (a1 a2 : Int) (b1 : Bool) (l1 : List Int) (e1 : Int) (b2 : Bool) (l2 : List Int) (e2 : Int) (b3 : Bool) (l3 : List Int) (e3 : Int) (b4 : Bool) (l4 : List Int) (e4 : Int) :
    Ev (fun k => exerguelaw05_DecShifts.j1 k a1 a2 true true b1 l1 e1 b2 l2 e2 b3 l3 e3 b4 l4 e4) true := by
  refine Ev_shift ?_
  simp only [exerguelaw05_DecShifts.j1, if_true]
  exact Ev.now true
theorem shifts_off (a1 a2 : Int) (b1 : Bool) (l1 : List Int) (e1 : Int) (b2 : Bool) (l2 : List Int) (e2 : Int) : Ev (fun k => exerguelaw05_DecShifts.j0 k a1 a2 true true b1 l1 e1 b2 l2 e2) true := by
  refine Ev_shift ?_
  simp only [exerguelaw05_DecShifts.j0, if_true]
  exact Ev.now true
theorem shift_back (g : Bool) {l : List Int} {e n e' : Int} (h : RDec l e) (m : Moved l e n e') : shiftR g l e' (-n) = (g, l, e, 0) := by
  unfold shiftR
  have he := h.exp
  rcases m with ⟨rfl, rfl⟩ | ⟨hl, rfl, h1, h2⟩
  · rfl
  · rw [if_neg (fun z => hl (List.eq_nil_of_length_eq_zero z)), if_neg (by omega)]
    have : e + n + -n = e := by omega
    rw [this]
theorem shift_two (g : Bool) {l : List Int} {e n e' : Int} (mm : Int) (m : Moved l e n e') : shiftR g l e' mm = shiftR g l e (n + mm) := by
  unfold shiftR
  rcases m with ⟨rfl, rfl⟩ | ⟨hl, rfl, h1, h2⟩
  · rfl
  · have h0 : ¬ l.length = 0 := fun z => hl (List.eq_nil_of_length_eq_zero z)
    rw [Int.add_assoc, if_neg h0, if_neg h0]
theorem shifts_j1 {ga gb : Bool} {a b : List Int} {ea eb n m xa xb : Int} (ha : RDec a ea) (hb : RDec b eb) (ma : Moved a ea n xa) (mb : Moved b eb n xb) (hn : -32768 ≤ n ∧ n ≤ 32767) (hm : -32768 ≤ m ∧ m ≤ 32767) :
    Ev (fun k => exerguelaw05_DecShifts.j1 k n m true false ga a ea gb b eb ga a xa gb b xb) true := by
  refine Ev_shift ?_
  have hxa := ma.right ha
  have hxb := mb.right hb
  simp only [exerguelaw05_DecShifts.j1, Bool.false_eq_true, if_false]
  rw [w64 n (by omega) (by omega), w64 m (by omega) (by omega), w64 (-n) (by omega) (by omega), w64 (n + m) (by omega) (by omega)]
  rw [shift_f _ _ _ _ hxa.exp (by omega), shift_f _ _ _ _ hxa.exp (by omega), shift_f _ _ _ _ ha.exp (by omega), shift_back ga ha ma, shift_two ga m ma]
  simp only [Option.bind_some, if_true]
  refine Ev.bind (right_yes ga hxa) ?_
  simp only [if_true]
  refine Ev.bind (same_self ga a ea (by have := ha.len; omega)) ?_
  simp only [if_true]
  refine Ev.bind (same_self _ _ _ ?_) ?_
  · unfold shiftR
    have := ha.len
    split
    · show a.length ≤ _; omega
    · split
      · decide
      · show a.length ≤ _; omega
  simp only [if_true]
  refine Ev.bind (cmp_e ga gb hxa hxb) ?_
  refine Ev.bind (cmp_e ga gb ha hb) ?_
  rw [moved_cmp ha hb ma mb]
  simp only [if_true]
  refine Ev.bind (row_e a a (by have := ha.len; omega)) ?_
  simp only [decide_true]
  exact Ev.now true
theorem shift_cases (g : Bool) {l : List Int} {e : Int} (n : Int) (h : RDec l e) : (shiftR g l e n = (false, [], 0, 11)) ∨ ∃ e', shiftR g l e n = (g, l, e', 0) ∧ Moved l e n e' := by
  unfold shiftR
  by_cases h0 : l.length = 0
  · rw [if_pos h0]
    exact .inr ⟨e, rfl, .inl ⟨List.eq_nil_of_length_eq_zero h0, rfl⟩⟩
  · rw [if_neg h0]
    by_cases h1 : e + n < -1000 ∨ 1000 < e + n
    · rw [if_pos h1]; exact .inl rfl
    · rw [if_neg h1]
      exact .inr ⟨e + n, rfl, .inr ⟨fun z => h0 (by rw [z]; rfl), rfl, by omega, by omega⟩⟩
theorem shifts_j0 {ga gb : Bool} {a b : List Int} {ea eb n m : Int} (ha : RDec a ea) (hb : RDec b eb) (hn : -32768 ≤ n ∧ n ≤ 32767) (hm : -32768 ≤ m ∧ m ≤ 32767) : Ev (fun k => exerguelaw05_DecShifts.j0 k n m true false ga a ea gb b eb) true := by
  refine Ev_shift ?_
  simp only [exerguelaw05_DecShifts.j0, Bool.false_eq_true, if_false]
  rw [w64 n (by omega) (by omega), shift_f _ _ _ _ ha.exp (by omega), shift_f _ _ _ _ hb.exp (by omega)]
  simp only [Option.bind_some]
  rcases shift_cases ga n ha with h1 | ⟨xa, h1, ma⟩
  · rw [h1]
    simp only [if_neg (show ¬ (11 : Int) = 0 by decide)]
    exact shifts_off1 _ _ _ _ _ _ _ _ _ _ _ _ _ _
  · rw [h1]
    rcases shift_cases gb n hb with h2 | ⟨xb, h2, mb⟩
    · rw [h2]
      simp only [if_true]
      exact shifts_off1 _ _ _ _ _ _ _ _ _ _ _ _ _ _
    · rw [h2]
      simp only [if_true]
      exact shifts_j1 ha hb ma mb hn hm
end Go.Proofs.YtahkamggdbibiaaDoor.PZ
namespace Go.Proofs.YtahkamggdbibiaaDoor
open PZ Go.RowKit Go.Proofs.YtahkamggdbibiaaDoorW.PrintWords
theorem Pure.DecShifts : ∀ (x0_0_0 : Bool) (x0_0_1 : List Int) (x0_0_2 : Int) (x0_1_0 : Bool) (x0_1_1 : List Int) (x0_1_2 : Int) (x0_2 : Int) (x0_3 : Int), x0_0_1.length ≤ maxLen → (∀ b_ ∈ x0_0_1, (Lit.int .u8 b_).wf = true) → (Lit.int .i64 x0_0_2).wf = true → x0_1_1.length ≤ maxLen → (∀ b_ ∈ x0_1_1, (Lit.int .u8 b_).wf = true) → (Lit.int .i64 x0_1_2).wf = true → (Lit.int .i16 x0_2).wf = true → (Lit.int .i16 x0_3).wf = true → ∃ k, exerguelaw05_DecShifts.f k x0_0_0 x0_0_1 x0_0_2 x0_1_0 x0_1_1 x0_1_2 x0_2 x0_3 = some true := by
  intro ga a ea gb b eb n m hma hwa _ hmb hwb _ hn hm
  apply Ev.rounds
  unfold exerguelaw05_DecShifts.f
  refine Ev.bind shown_ev ?_
  rcases right_cases ga (e := ea) hma hwa with ⟨ra, ha⟩ | ra
  · refine Ev.bind ra ?_
    simp only [if_true]
    rcases right_cases gb (e := eb) hmb hwb with ⟨rb, hb⟩ | rb
    · refine Ev.bind rb ?_
      simp only [Bool.not_true]
      exact shifts_j0 ha hb (wf_i16 hn) (wf_i16 hm)
    · refine Ev.bind rb ?_
      simp only [Bool.not_false]
      exact shifts_off _ _ _ _ _ _ _ _
  · refine Ev.bind ra ?_
    simp only [Bool.false_eq_true, if_false]
    exact shifts_off _ _ _ _ _ _ _ _
end Go.Proofs.YtahkamggdbibiaaDoor
