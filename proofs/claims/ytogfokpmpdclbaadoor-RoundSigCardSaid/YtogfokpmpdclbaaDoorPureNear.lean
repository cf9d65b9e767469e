/- Texts of this seat, joined: PureRow, PureRight, PureRDec, PureNorm, PureBytes, PureDiv, PureInc, PureNear, PureRound.
   Conditions: none beyond each statement's own. -/
import Derived.Test.YtogfokpmpdclbaaDoorPZx11
import Derived.Test.YtogfokpmpdclbaaDoorNum
import Derived.Test.YtogfokpmpdclbaaDoorPZx10
import Derived.Test.YtogfokpmpdclbaaDoorCompare
import Derived.Test.YtogfokpmpdclbaaDoorDivided
import Derived.Test.YtogfokpmpdclbaaDoorPZx6
section
set_option linter.unusedSimpArgs false
set_option linter.unusedVariables false
namespace Go.Proofs.YtogfokpmpdclbaaDoor.PZ
open Go.RowKit Go.Proofs.YtogfokpmpdclbaaDoorW.PrintWords Go.Proofs.YtogfokpmpdclbaaDoorW.PrintLast
/-- exergueref01.Row, of rows as long as any. -/
theorem row_l0 (a b : List Int) (hl : a.length = b.length) (hm : a.length ≤ 9223372036854775807) (n : Nat) : ∀ i : Nat, i + n = a.length → exergueref01_Row.l0 (n + 1) a b (i : Int) = some (decide (a.drop i = b.drop i)) := by
  induction n with
  | zero =>
    intro i hi
    have h1 : ¬ ((i : Int) < (a.length : Int)) := by omega
    rw [exergueref01_Row.l0, if_neg h1, List.drop_of_length_le (by omega), List.drop_of_length_le (by omega)]
    rfl
  | succ n ih =>
    intro i hi
    have h1 : (i : Int) < (a.length : Int) := by omega
    have h2 : wrap64 ((i : Int) + 1) = ((i + 1 : Nat) : Int) := by rw [w64 _ (by omega) (by omega)]; omega
    rw [exergueref01_Row.l0, if_pos h1, if_pos (by omega), if_pos (by omega), drop_cons a i (by omega), drop_cons b i (by omega)]
    by_cases he : rd a i = rd b i
    · rw [if_pos he, h2, ih (i + 1) (by omega), he]
      simp
    · rw [if_neg he]
      simp [he]
theorem row_e (a b : List Int) (hm : a.length ≤ 9223372036854775807) : Ev (fun k => exergueref01_Row.f k a b) (decide (a = b)) := by
  unfold exergueref01_Row.f
  by_cases hl : a.length = b.length
  · simp only [if_pos (show (a.length : Int) = (b.length : Int) by omega)]
    refine Ev.of (k := a.length + 1) (fun k => exergueref01_Row.mono_l k _ _ _) ?_
    have := row_l0 a b hl hm a.length 0 (by omega)
    simpa using this
  · simp only [if_neg (show ¬ (a.length : Int) = (b.length : Int) by omega)]
    have : decide (a = b) = false := by
      rw [decide_eq_false_iff_not]
      rintro rfl
      exact hl rfl
    rw [this]
    exact Ev.now _
end Go.Proofs.YtogfokpmpdclbaaDoor.PZ
end

section
namespace Go.Proofs.YtogfokpmpdclbaaDoor.PZ
open Go.RowKit Go.Proofs.YtogfokpmpdclbaaDoorW.PrintWords Go.Proofs.YtogfokpmpdclbaaDoorW.PrintLast
def RightTail (l : List Int) (e : Int) : Prop := (l.length = 0 ∧ e = 0) ∨ (0 < l.length ∧ l.length ≤ 1000 ∧ 0 < rd l 0 ∧ 0 < rd l ((l.length : Int) - 1) ∧ -1000 ≤ e ∧ e ≤ 1000)
/-- A Dec is right. -/
def Right (l : List Int) (e : Int) : Prop := (∀ i : Nat, i < l.length → rd l (i : Int) ≤ 9) ∧ RightTail l e
theorem right_l0 (g : Bool) (l : List Int) (e : Int) (hm : l.length ≤ 9223372036854775807) (n : Nat) : ∀ i : Nat, i + n = l.length →
    ∃ b, exergueref05_Right.l0 (n + 1) (l.length : Int) (i : Int) g l e = some b ∧ (b = true ↔ (∀ j : Nat, i ≤ j → j < l.length → rd l (j : Int) ≤ 9) ∧ RightTail l e) := by
  induction n with
  | zero =>
    intro i hi
    have h1 : ¬ ((i : Int) < (l.length : Int)) := by omega
    have h2 : wrap64 ((l.length : Int) - 1) = (l.length : Int) - 1 := w64 _ (by omega) (by omega)
    simp only [exergueref05_Right.l0, h1, if_false, h2]
    have hall : ∀ j : Nat, i ≤ j → j < l.length → rd l (j : Int) ≤ 9 := fun j hj hk => absurd hk (by omega)
    unfold RightTail
    by_cases h0 : l.length = 0
    · refine ⟨e == 0, by simp [h0], ?_⟩
      simp [h0]
    · by_cases h3 : l.length ≤ 1000
      · have e1 : (0 : Int) < (l.length : Int) := by omega
        have e2 : (0 : Int) ≤ (l.length : Int) - 1 := by omega
        have e3 : (l.length : Int) - 1 < (l.length : Int) := by omega
        have e4 : ((l.length : Int) = 0) = False := eq_false (by omega)
        have e5 : ((l.length : Int) ≤ 1000) = True := eq_true (by omega)
        refine ⟨decide (rd l 0 > 0) && (decide (rd l ((l.length : Int) - 1) > 0) && (decide (e ≥ -1000) && decide (e ≤ 1000))), ?_, ?_⟩
        · simp only [e4, e5, e1, e2, e3, if_true, if_false]
          by_cases a1 : rd l 0 > 0
          · by_cases a2 : rd l ((l.length : Int) - 1) > 0
            · by_cases a3 : e ≥ -1000
              · simp [a1, a2, a3]
              · simp [a1, a2, a3]
            · simp [a1, a2]
          · simp [a1]
        · simp only [Bool.and_eq_true, decide_eq_true_eq]
          constructor
          · rintro ⟨a, b, c, d⟩
            exact ⟨hall, .inr ⟨by omega, h3, a, b, by omega, d⟩⟩
          · rintro ⟨_, ⟨z, _⟩ | ⟨_, _, a, b, c, d⟩⟩
            · omega
            · exact ⟨a, b, by omega, d⟩
      · have e4 : ((l.length : Int) = 0) = False := eq_false (by omega)
        have e5 : ((l.length : Int) ≤ 1000) = False := eq_false (by omega)
        refine ⟨false, by simp only [e4, e5, if_false], ?_⟩
        constructor
        · intro z; cases z
        · rintro ⟨_, ⟨z, _⟩ | ⟨_, z, _⟩⟩ <;> omega
  | succ n ih =>
    intro i hi
    obtain ⟨b, hb, hbi⟩ := ih (i + 1) (by omega)
    have h1 : ((i : Int) < (l.length : Int)) = True := eq_true (by omega)
    have h2 : wrap64 ((i : Int) + 1) = ((i + 1 : Nat) : Int) := by rw [w64 _ (by omega) (by omega)]; omega
    have h3 : ((0 : Int) ≤ (i : Int)) = True := eq_true (by omega)
    by_cases h9 : rd l (i : Int) > 9
    · refine ⟨false, ?_, ?_⟩
      · rw [exergueref05_Right.l0]
        simp only [h1, h3, h9, if_true]
      · constructor
        · intro z; cases z
        · rintro ⟨z, _⟩
          have := z i (Nat.le_refl _) (by omega)
          omega
    · refine ⟨b, ?_, ?_⟩
      · rw [exergueref05_Right.l0]
        simp only [h1, h3, h9, if_true, if_false, h2]
        exact hb
      · rw [hbi]
        constructor
        · rintro ⟨z, t⟩
          refine ⟨fun j hj hk => ?_, t⟩
          by_cases hij : j = i
          · subst hij; omega
          · exact z j (by omega) hk
        · rintro ⟨z, t⟩
          exact ⟨fun j hj hk => z j (by omega) hk, t⟩
theorem right_f (g : Bool) (l : List Int) (e : Int) (hm : l.length ≤ 9223372036854775807) : ∃ b, exergueref05_Right.f (l.length + 1) g l e = some b ∧ (b = true ↔ Right l e) := by
  obtain ⟨b, hb, hi⟩ := right_l0 g l e hm l.length 0 (by omega)
  refine ⟨b, hb, hi.trans ?_⟩
  unfold Right
  constructor
  · rintro ⟨z, t⟩; exact ⟨fun i h => z i (Nat.zero_le _) h, t⟩
  · rintro ⟨z, t⟩; exact ⟨fun i _ h => z i h, t⟩
/-- In as many rounds as one likes, from some on. -/
theorem right_many (g : Bool) (l : List Int) (e : Int) (hm : l.length ≤ 9223372036854775807) : ∃ b k, (∀ j, k ≤ j → exergueref05_Right.f j g l e = some b) ∧ (b = true ↔ Right l e) := by
  obtain ⟨b, hb, hi⟩ := right_f g l e hm
  exact ⟨b, l.length + 1, fun j hj => at_rounds (g := fun k => exergueref05_Right.f k g l e) (fun k => exergueref05_Right.mono _ _ _ k) hj hb, hi⟩
end Go.Proofs.YtogfokpmpdclbaaDoor.PZ
end

section
set_option linter.unusedSimpArgs false
set_option linter.unusedVariables false
namespace Go.Proofs.YtogfokpmpdclbaaDoor.PZ
open Go.RowKit Go.Proofs.YtogfokpmpdclbaaDoorW.PrintWords Go.Proofs.YtogfokpmpdclbaaDoorW.PrintLast
/-- A right Dec. -/
structure RDec (l : List Int) (e : Int) : Prop where
  figs : Figs l
  tail : RightTail l e
theorem rdec_of {l : List Int} {e : Int} (hw : ∀ b_ ∈ l, (Lit.int .u8 b_).wf = true) (h : Right l e) : RDec l e := by
  refine ⟨fun d hd => ⟨(wf_u8 (hw d hd)).1, ?_⟩, h.2⟩
  obtain ⟨i, hi, rfl⟩ := List.mem_iff_getElem.1 hd
  have := h.1 i hi
  simpa [rd, List.getD_eq_getElem?_getD, List.getElem?_eq_getElem hi] using this
theorem RDec.right {l : List Int} {e : Int} (h : RDec l e) : Right l e := ⟨fun i _ => (rd_figs h.figs i).2, h.tail⟩
theorem RDec.len {l : List Int} {e : Int} (h : RDec l e) : l.length ≤ 1000 := by rcases h.tail with h | h <;> omega
theorem RDec.exp {l : List Int} {e : Int} (h : RDec l e) : -1000 ≤ e ∧ e ≤ 1000 := by rcases h.tail with h | h <;> omega
theorem RDec.nil : RDec [] 0 := ⟨Figs.nil, .inl ⟨rfl, rfl⟩⟩
theorem RDec.first {l : List Int} {e : Int} (h : RDec l e) (hl : 0 < l.length) : 0 < rd l 0 := by rcases h.tail with h | h <;> omega
theorem RDec.last {l : List Int} {e : Int} (h : RDec l e) (hl : 0 < l.length) : 0 < rd l ((l.length : Int) - 1) := by rcases h.tail with h | h <;> omega
theorem RDec.nought {l : List Int} {e : Int} (h : RDec l e) (hl : l.length = 0) : e = 0 := by rcases h.tail with h | h <;> omega
theorem right_ev (g : Bool) (l : List Int) (e : Int) (hm : l.length ≤ 9223372036854775807) : ∃ t, Ev (fun k => exergueref05_Right.f k g l e) t ∧ (t = true ↔ Right l e) := by
  obtain ⟨t, k, hk, hi⟩ := right_many g l e hm
  exact ⟨t, ⟨k, fun j hj => hk j hj⟩, hi⟩
/-- Of numbers that come in: right, or the law asks no more. -/
theorem right_cases (g : Bool) {l : List Int} {e : Int} (hm : l.length ≤ maxLen) (hw : ∀ b_ ∈ l, (Lit.int .u8 b_).wf = true) :
    (Ev (fun k => exergueref05_Right.f k g l e) true ∧ RDec l e) ∨ Ev (fun k => exergueref05_Right.f k g l e) false := by
  obtain ⟨t, ht, hi⟩ := right_ev g l e (len_max hm)
  cases t with
  | true => exact .inl ⟨ht, rdec_of hw (hi.1 rfl)⟩
  | false => exact .inr ht
def mag (l : List Int) (e : Int) : Int := mx (l.length : Int) 1 + e - 1
theorem mag_e (g : Bool) (l : List Int) (e : Int) (hl : l.length ≤ 100000) (he : -100000 ≤ e ∧ e ≤ 100000) : dec_Mag.f g l e = some (mag l e) := by
  unfold dec_Mag.f mag
  have hm : 0 ≤ mx (l.length : Int) 1 ∧ mx (l.length : Int) 1 ≤ 100000 := by unfold mx; split <;> omega
  generalize mx (l.length : Int) 1 = m at hm ⊢
  rw [w64 (m + e) (by omega) (by omega), w64 _ (by omega) (by omega)]
/-- exergueref05.Same. -/
theorem same_e (ga gb : Bool) (a b : List Int) (ea eb : Int) (hm : a.length ≤ 9223372036854775807) : Ev (fun k => exergueref05_Same.f k ga a ea gb b eb) (decide (ga = gb ∧ a = b ∧ ea = eb)) := by
  unfold exergueref05_Same.f
  refine Ev.bind (row_e a b hm) ?_
  by_cases h1 : a = b
  · simp only [h1, decide_true, if_true]
    by_cases h2 : ga = gb
    · simp only [h2, beq_self_eq_true, if_true, true_and]
      exact Ev.congr (fun _ => by rw [show (ea == eb) = decide (ea = eb) by rw [Bool.eq_iff_iff]; simp]) (Ev.now _)
    · have h3 : (ga == gb) = false := by simpa using h2
      simp only [h3, h2, decide_false, Bool.false_eq_true, if_false, false_and]
      exact Ev.now _
  · simp only [h1, decide_false, Bool.false_eq_true, if_false, false_and, and_false]
    exact Ev.now _
theorem same_self (g : Bool) (a : List Int) (e : Int) (hm : a.length ≤ 9223372036854775807) : Ev (fun k => exergueref05_Same.f k g a e g a e) true := by
  have := same_e g g a a e e hm
  simpa using this
end Go.Proofs.YtogfokpmpdclbaaDoor.PZ
end

section
set_option linter.unusedSimpArgs false
set_option linter.unusedVariables false
namespace Go.Proofs.YtogfokpmpdclbaaDoor.PZ
open Go.RowKit Go.Proofs.YtogfokpmpdclbaaDoorW.PrintWords Go.Proofs.YtogfokpmpdclbaaDoorW.PrintLast
theorem far_f (e m : Int) (h0 : 0 ≤ m) (h1 : m ≤ 1099511627776) : dec_tooFar.f e m = some (decide (e < -m ∨ m < e)) := by
  unfold dec_tooFar.f
  rw [w64 (-m) (by omega) (by omega)]
  by_cases h : e < -m
  · rw [if_pos h]; simp [h]
  · rw [if_neg h]; simp [h]
theorem figs_any {l : List Int} (h : Figs l) : (l.any fun c => decide (c > 9)) = false := by
  rw [List.any_eq_false]
  intro x hx
  have := h x hx
  simp; omega
theorem cont_f (l : List Int) : slices_ContainsFunc_byte_byte.f l 43 = some (l.any fun c => decide (c > 9)) := by
  unfold slices_ContainsFunc_byte_byte.f
  rw [if_pos rfl]
theorem dec_right_f (g : Bool) {c : List Int} (e : Int) (hc : Figs c) (hl : 0 < c.length) (hm : c.length ≤ 1000000) (h0 : rd c 0 ≠ 0) (h1 : rd c ((c.length : Int) - 1) ≠ 0) :
    dec_Right.f g c e = some (decide (c.length ≤ 1000 ∧ -1000 ≤ e ∧ e ≤ 1000)) := by
  unfold dec_Right.f
  rw [if_neg (by omega)]
  by_cases hk : c.length ≤ 1000
  · rw [if_pos (by omega), cont_f, figs_any hc]
    simp only [Option.bind_some, Bool.false_eq_true, if_false]
    rw [if_pos (by omega), if_neg h0, w64 _ (by omega) (by omega), if_pos (by omega), if_pos (by omega), if_neg h1, far_f _ _ (by omega) (by omega)]
    simp only [Option.bind_some]
    rw [← decide_not]
    congr 1
    rw [decide_eq_decide]
    omega
  · rw [if_neg (by omega), decide_eq_false (by omega)]
/-- What Norm answers of figures whose core is c. -/
def normR (g : Bool) (c : List Int) (e : Int) : Bool × List Int × Int × Int := if c.length ≤ 1000 ∧ -1000 ≤ e ∧ e ≤ 1000 then (g, c, e, 0) else (false, [], 0, 11)
theorem norm_l1 (g : Bool) {c : List Int} (hc : Figs c) (hl : 0 < c.length) (h0 : rd c 0 ≠ 0) (h1 : rd c ((c.length : Int) - 1) ≠ 0) (x : Int) (m : Nat) : ∀ e : Int, c.length + m ≤ 1000000 → -2000000000000 ≤ e ∧ e ≤ 2000000000000 - m →
    Ev (fun k => dec_Norm.l1 k (c ++ List.replicate m 0) e g x) (normR g c (e + m)) := by
  induction m with
  | zero =>
    intro e hm he
    refine Ev_shift ?_
    simp only [dec_Norm.l1, List.replicate_zero, List.append_nil]
    have hw : wrap64 ((c.length : Int) - 1) = (c.length : Int) - 1 := w64 _ (by omega) (by omega)
    simp only [hw, if_pos (show (0 : Int) ≤ (c.length : Int) - 1 by omega), if_pos (show (c.length : Int) - 1 < (c.length : Int) by omega), if_neg h1]
    have hcl : slices_Clone_byte_byte.f c = some c := by unfold slices_Clone_byte_byte.f; rw [if_pos (by omega)]
    rw [hcl]
    simp only [Option.bind_some]
    rw [dec_right_f g e hc hl (by omega) h0 h1]
    simp only [Option.bind_some, decide_eq_true_eq]
    unfold normR
    rw [Int.natCast_zero, Int.add_zero]
    have e1 : ∀ {p : Prop} [Decidable p] (a b : Bool × List Int × Int × Int), (if p then some a else some b) = some (if p then a else b) := fun a b => by split <;> rfl
    simp only [e1]
    exact Ev.now _
  | succ m ih =>
    intro e hm he
    refine Ev_shift ?_
    have hlen : (c ++ List.replicate (m + 1) 0).length = c.length + m + 1 := by simp; omega
    have hw : wrap64 (((c ++ List.replicate (m + 1) 0).length : Int) - 1) = ((c.length + m : Nat) : Int) := by rw [hlen, w64 _ (by omega) (by omega)]; omega
    have hr : rd (c ++ List.replicate (m + 1) 0) ((c.length + m : Nat) : Int) = 0 := by rw [rd_append_right _ _ _ (by omega), rd_zeros]
    have ht : (c ++ List.replicate (m + 1) 0).take (c.length + m) = c ++ List.replicate m 0 := by
      rw [List.take_append, List.take_of_length_le (by omega), List.take_replicate]
      congr 2
      omega
    simp only [dec_Norm.l1, hw, hr, if_true, Int.toNat_natCast, ht]
    simp only [if_pos (show (0 : Int) ≤ ((c.length + m : Nat) : Int) by omega), if_pos (show ((c.length + m : Nat) : Int) < (((c ++ List.replicate (m + 1) 0).length : Nat) : Int) by rw [hlen]; omega), if_pos (show ((c.length + m : Nat) : Int) ≤ (((c ++ List.replicate (m + 1) 0).length : Nat) : Int) by rw [hlen]; omega)]
    rw [w64 (e + 1) (by omega) (by omega)]
    have := ih (e + 1) (by omega) (by omega)
    have e2 : e + 1 + (m : Int) = e + ((m + 1 : Nat) : Int) := by omega
    rwa [e2] at this
theorem norm_l0 (g : Bool) (rest : List Int) (e x : Int) (n : Nat) (r : Bool × List Int × Int × Int) (hlen : n + rest.length ≤ 1000000) (h : Ev (fun k => dec_Norm.l0 k rest e g x) r) : Ev (fun k => dec_Norm.l0 k (List.replicate n 0 ++ rest) e g x) r := by
  induction n with
  | zero => simpa using h
  | succ n ih =>
    refine Ev_shift ?_
    have hl : (0 :: (List.replicate n 0 ++ rest)).length = n + rest.length + 1 := by simp
    have hr : rd (0 :: (List.replicate n 0 ++ rest)) 0 = 0 := rfl
    simp only [dec_Norm.l0, List.replicate_succ, List.cons_append, hr, if_true, List.drop_succ_cons, List.drop_zero]
    simp only [if_pos (show (((0 :: (List.replicate n 0 ++ rest)).length : Nat) : Int) > 0 by rw [hl]; omega), if_pos (show (0 : Int) < (((0 :: (List.replicate n 0 ++ rest)).length : Nat) : Int) by rw [hl]; omega), if_pos (show (1 : Int) ≤ (((0 :: (List.replicate n 0 ++ rest)).length : Nat) : Int) by rw [hl]; omega)]
    exact ih (by omega)
theorem norm_zero (g : Bool) (n : Nat) (e : Int) (hn : n ≤ 1000000) (he : -1099511627776 ≤ e ∧ e ≤ 1099511627776) : Ev (fun k => dec_Norm.f k g (List.replicate n 0) e) (g, [], 0, 0) := by
  unfold dec_Norm.f
  rw [cont_f, figs_any (Figs.zeros n), far_f _ _ (by omega) (by omega), decide_eq_false (by omega)]
  simp only [Option.bind_some, Bool.false_eq_true, if_false]
  have h : Ev (fun k => dec_Norm.l0 k ([] : List Int) e g 0) (g, [], 0, 0) := by
    have hz : ¬ ((([] : List Int).length : Nat) : Int) > 0 := by decide
    have hz' : ((([] : List Int).length : Nat) : Int) = 0 := rfl
    refine Ev_shift ?_
    simp only [dec_Norm.l0, if_neg hz]
    refine Ev_shift ?_
    simp only [dec_Norm.j1, if_pos hz']
    exact Ev.now _
  have := norm_l0 g [] e 0 n _ (by simpa using hn) h
  simpa using this
theorem norm_core (g : Bool) {c : List Int} (hc : Figs c) (hl : 0 < c.length) (h0 : rd c 0 ≠ 0) (h1 : rd c ((c.length : Int) - 1) ≠ 0) (n m : Nat) (e : Int) (hn : n + c.length + m ≤ 1000000) (he : -1099511627776 ≤ e ∧ e ≤ 1099511627776) :
    Ev (fun k => dec_Norm.f k g (List.replicate n 0 ++ (c ++ List.replicate m 0)) e) (normR g c (e + m)) := by
  unfold dec_Norm.f
  rw [cont_f, figs_any ((Figs.zeros n).append (hc.append (Figs.zeros m))), far_f _ _ (by omega) (by omega), decide_eq_false (by omega)]
  simp only [Option.bind_some, Bool.false_eq_true, if_false]
  refine norm_l0 g _ e 0 n _ (by simp; omega) ?_
  refine Ev_shift ?_
  have hlen : (c ++ List.replicate m 0).length = c.length + m := by simp
  have hr : rd (c ++ List.replicate m 0) 0 = rd c 0 := rd_append_left c _ 0 hl
  have p1 : (((c ++ List.replicate m 0).length : Nat) : Int) > 0 := by rw [hlen]; omega
  have p2 : ¬ (((c ++ List.replicate m 0).length : Nat) : Int) = 0 := by rw [hlen]; omega
  have p3 : (0 : Int) < (((c ++ List.replicate m 0).length : Nat) : Int) := p1
  simp only [dec_Norm.l0, hr, if_neg h0, if_pos p1, if_pos p3]
  refine Ev_shift ?_
  simp only [dec_Norm.j1, if_neg p2]
  exact norm_l1 g hc hl h0 h1 0 m e (by omega) (by omega)
/-- Any row is noughts, or a core with noughts ahead and behind. -/
theorem core_ahead (l : List Int) : (∃ n, l = List.replicate n 0) ∨ ∃ n c, l = List.replicate n 0 ++ c ∧ 0 < c.length ∧ rd c 0 ≠ 0 := by
  induction l with
  | nil => exact .inl ⟨0, rfl⟩
  | cons d l ih =>
    by_cases hd : d = 0
    · subst hd
      rcases ih with ⟨n, rfl⟩ | ⟨n, c, rfl, h⟩
      · exact .inl ⟨n + 1, by rw [List.replicate_succ]⟩
      · exact .inr ⟨n + 1, c, by rw [List.replicate_succ, List.cons_append], h⟩
    · exact .inr ⟨0, d :: l, by simp, by simp, by simpa [rd] using hd⟩
theorem rd_reverse (l : List Int) (k : Nat) (hk : k < l.length) : rd l.reverse k = rd l ((l.length - 1 - k : Nat) : Int) := by
  simp [rd, List.getD_eq_getElem?_getD, List.getElem?_reverse hk]
theorem core_of (l : List Int) : (∃ n, l = List.replicate n 0) ∨ ∃ n c m, l = List.replicate n 0 ++ (c ++ List.replicate m 0) ∧ 0 < c.length ∧ rd c 0 ≠ 0 ∧ rd c ((c.length : Int) - 1) ≠ 0 := by
  rcases core_ahead l with h | ⟨n, c, rfl, hl, h0⟩
  · exact .inl h
  · refine .inr ?_
    rcases core_ahead c.reverse with ⟨m, hm⟩ | ⟨m, d, hd, dl, d0⟩
    · have hc : c = List.replicate m 0 := by rw [← List.reverse_reverse c, hm, List.reverse_replicate]
      rw [hc] at h0
      exact absurd (rd_zeros m 0) h0
    · have hc : c = d.reverse ++ List.replicate m 0 := by rw [← List.reverse_reverse c, hd, List.reverse_append, List.reverse_replicate]
      refine ⟨n, d.reverse, m, by rw [hc], by simpa using dl, ?_, ?_⟩
      · have := rd_append_left d.reverse (List.replicate m 0) 0 (by simpa using dl)
        rw [hc] at h0
        intro hz
        exact h0 (this.trans hz)
      · rw [List.length_reverse]
        have e1 : (d.length : Int) - 1 = ((d.length - 1 : Nat) : Int) := by omega
        rw [e1, rd_reverse d _ (by omega)]
        have e2 : d.length - 1 - (d.length - 1) = 0 := by omega
        rw [e2]
        exact d0
end Go.Proofs.YtogfokpmpdclbaaDoor.PZ
end

section
set_option linter.unusedSimpArgs false
set_option linter.unusedVariables false
namespace Go.Proofs.YtogfokpmpdclbaaDoor.PZ
open Go.RowKit Go.Proofs.YtogfokpmpdclbaaDoorW.PrintWords Go.Proofs.YtogfokpmpdclbaaDoorW.PrintLast
theorem u8_lt {x y : Int} (hx : 0 ≤ x ∧ x ≤ 9) (hy : 0 ≤ y ∧ y ≤ 9) : x.toNat.toUInt8 < y.toNat.toUInt8 ↔ x < y := by
  rw [UInt8.lt_iff_toNat_lt]
  simp
  omega
theorem compare_num : ∀ (a b : List Int), Figs a → Figs b → a.length = b.length → Lib.compareBytes (Lib.bytesOf a) (Lib.bytesOf b) = sg (num a - num b)
  | [], [], _, _, _ => rfl
  | [], _ :: _, _, _, h => by simp at h
  | _ :: _, [], _, _, h => by simp at h
  | x :: a, y :: b, ha, hb, hl => by
    have hl' : a.length = b.length := by simpa using hl
    have ih := compare_num a b ha.tail hb.tail hl'
    have na := num_lt ha.tail
    have nb := num_lt hb.tail
    rw [hl'] at na
    have l1 := u8_lt ha.head hb.head
    have l2 := u8_lt hb.head ha.head
    rw [num_cons, num_cons, hl']
    show Lib.compareBytes (x.toNat.toUInt8 :: Lib.bytesOf a) (y.toNat.toUInt8 :: Lib.bytesOf b) = _
    unfold Lib.compareBytes
    by_cases h1 : x < y
    · rw [if_pos (l1.2 h1), sg_ahead na nb (by omega), sg_of_neg (by omega)]
    · rw [if_neg (fun z => h1 (l1.1 z))]
      by_cases h2 : y < x
      · rw [if_pos (l2.2 h2), sg_ahead na nb (by omega), sg_of_pos (by omega)]
      · have : x = y := by omega
        subst this
        rw [if_neg (fun z => h2 (l2.1 z)), ih]
        congr 1
        omega
end Go.Proofs.YtogfokpmpdclbaaDoor.PZ
end

section
set_option linter.unusedSimpArgs false
set_option linter.unusedVariables false
namespace Go.Proofs.YtogfokpmpdclbaaDoor.PZ
open Go.RowKit Go.Proofs.YtogfokpmpdclbaaDoorW.PrintWords Go.Proofs.YtogfokpmpdclbaaDoorW.PrintLast
theorem mul_lt_pos {a b p : Int} (hp : 0 < p) : a < b ↔ a * p < b * p := ⟨fun h => Int.mul_lt_mul_of_pos_right h hp, fun h => Int.lt_of_mul_lt_mul_right h (Int.le_of_lt hp)⟩
theorem bareL_figs {l : List Int} (h : Figs l) : Figs (bareL l) := fun x hx => h x ((List.dropWhile_sublist _).subset hx)
theorem bareL_num (l : List Int) : num (bareL l) = num l := by
  induction l with
  | nil => rfl
  | cons d l ih =>
    unfold bareL at ih ⊢
    by_cases h : d = 0
    · subst h
      rw [List.dropWhile_cons_of_pos (by simp), ih, num_cons]
      omega
    · rw [List.dropWhile_cons_of_neg (by simpa using h)]
theorem bareL_bare (l : List Int) : bareL l = [] ∨ rd (bareL l) 0 ≠ 0 := by
  induction l with
  | nil => exact .inl rfl
  | cons d l ih =>
    unfold bareL at ih ⊢
    by_cases h : d = 0
    · subst h
      rw [List.dropWhile_cons_of_pos (by simp)]
      exact ih
    · rw [List.dropWhile_cons_of_neg (by simpa using h)]
      exact .inr (by simpa [rd] using h)
theorem bareL_zero {l : List Int} (h : Figs l) : bareL l = [] ↔ num l = 0 := by
  rw [← bareL_num]
  constructor
  · intro e; rw [e]; rfl
  · intro e
    rcases bareL_bare l with h0 | h0
    · exact h0
    · apply Classical.byContradiction
      intro hn
      have hl : 0 < (bareL l).length := List.length_pos_iff.2 hn
      have hr := rd_figs (bareL_figs h) 0
      rw [Int.natCast_zero] at hr
      have := num_pos (bareL_figs h) hl (by omega)
      have := T10_pos ((bareL l).length - 1)
      omega
theorem bare_less {a b : List Int} (ha : Figs a) (hb : Figs b) (hB : b = [] ∨ rd b 0 ≠ 0) (h : a.length < b.length) : num a < num b := by
  have h1 := num_lt ha
  rcases hB with rfl | h0
  · simp at h
  · have f0 := rd_figs hb 0
    rw [Int.natCast_zero] at f0
    have h2 := num_pos hb (by omega) (by omega)
    have h3 := T10_le (show a.length ≤ b.length - 1 by omega)
    omega
theorem cmpL_spec {a b : List Int} (ha : Figs a) (hb : Figs b) : (cmpL a b < 0 ↔ num a < num b) ∧ (0 < cmpL a b ↔ num b < num a) := by
  have fa := bareL_figs ha
  have fb := bareL_figs hb
  rw [← bareL_num a, ← bareL_num b]
  unfold cmpL
  by_cases hl : ((bareL a).length : Int) = ((bareL b).length : Int)
  · rw [if_pos hl, compare_num _ _ fa fb (by omega), sg_lt, sg_pos]
    omega
  · rw [if_neg hl]
    rcases Nat.lt_or_ge (bareL a).length (bareL b).length with h | h
    · have := bare_less fa fb (bareL_bare b) h
      omega
    · have := bare_less fb fa (bareL_bare a) (by omega)
      omega
theorem divLoop_num {k : Int} (hk : 1 ≤ k) {hd : List Int} (hf : Figs hd) : num hd = num (divLoop k hd).2 * k + (divLoop k hd).1 ∧ Figs (divLoop k hd).2 := by
  have : ∀ (l : List Int) (s : Int × List Int), Figs l → Figs s.2 → 0 ≤ s.1 ∧ s.1 < k → num (l.foldl (divStep k) s).2 * k + (l.foldl (divStep k) s).1 = (num s.2 * k + s.1) * T10 l.length + num l ∧ Figs (l.foldl (divStep k) s).2 := by
    intro l
    induction l with
    | nil => intro s _ h _; exact ⟨by simp [T10_zero, num_nil], h⟩
    | cons c l ih =>
      intro s hl hs hr
      have hc := hl.head
      have hz0 : 0 ≤ (s.1 * 10 + c) / k := Int.ediv_nonneg (by omega) (by omega)
      have hz9 : (s.1 * 10 + c) / k ≤ 9 := by
        have : (s.1 * 10 + c) / k < 10 := Int.ediv_lt_of_lt_mul (by omega) (by omega)
        omega
      have hm := Int.mul_ediv_add_emod (s.1 * 10 + c) k
      have hm0 := Int.emod_nonneg (s.1 * 10 + c) (show k ≠ 0 by omega)
      have hm1 := Int.emod_lt_of_pos (s.1 * 10 + c) (show 0 < k by omega)
      obtain ⟨a1, a2⟩ := ih (divStep k s c) hl.tail (hs.append (Figs.cons hz0 hz9 Figs.nil)) ⟨hm0, hm1⟩
      rw [List.foldl_cons]
      refine ⟨?_, a2⟩
      rw [a1]
      unfold divStep
      dsimp only
      rw [num_snoc, num_cons, List.length_cons, T10_succ]
      generalize (s.1 * 10 + c) / k = z at *
      generalize (s.1 * 10 + c) % k = m at *
      have e : c = k * z + m - s.1 * 10 := by omega
      subst e
      grind
  obtain ⟨a1, a2⟩ := this hd (0, []) hf Figs.nil ⟨Int.le_refl _, by show (0 : Int) < k; omega⟩
  unfold divLoop
  refine ⟨?_, a2⟩
  rw [a1]
  simp [num_nil]
/-- What a unit is worth, in units of ten to the power -3000. -/
def unitV (k place : Int) : Int := k * T10 (place + 3000).toNat
theorem unitV_pos {k place : Int} (hk : 1 ≤ k) : 0 < unitV k place := Int.mul_pos (by omega) (T10_pos _)
theorem div_cut (l : List Int) (D : Int) (hD : 0 < D) : num l = num (divHead l D) * T10 D.toNat + num (divTail l D) ∧ (divTail l D).length = D.toNat := by
  unfold divHead divTail
  rw [if_pos hD, if_pos hD]
  by_cases h : D.toNat ≤ l.length
  · have e : D.toNat - l.length = 0 := by omega
    rw [e, List.replicate_zero, List.nil_append]
    have hl : (l.drop (l.length - D.toNat)).length = D.toNat := by rw [List.length_drop]; omega
    refine ⟨?_, hl⟩
    have := num_append (l.take (l.length - D.toNat)) (l.drop (l.length - D.toNat))
    rw [List.take_append_drop, hl] at this
    exact this
  · have e : l.length - D.toNat = 0 := by omega
    rw [e, List.take_zero, List.drop_zero, num_nil, num_append, num_zeros, List.length_append, List.length_replicate]
    omega
theorem div_spec (g : Bool) {l : List Int} {e k place : Int} (hf : Figs l) (hk : 1 ≤ k ∧ k ≤ 1000000000) (hl : l.length ≤ 2000) (he : -2000 ≤ e ∧ e ≤ 2000) (hp : -2000 ≤ place ∧ place ≤ 2000) :
    ∃ q half left, round_divided.f g l e k place = some (q, half, left) ∧ Figs q ∧ (q.length : Int) ≤ l.length + 4000 ∧ (q.length : Int) ≤ l.length + mx (e - place) 0 ∧ num q = valN l e / unitV k place ∧ (left = true ↔ valN l e % unitV k place ≠ 0) ∧
      (half < 0 ↔ 2 * (valN l e % unitV k place) < unitV k place) ∧ (0 < half ↔ unitV k place < 2 * (valN l e % unitV k place)) := by
  obtain ⟨D, hD⟩ : ∃ D, place - e = D := ⟨_, rfl⟩
  have hHf := divHead_figs hf D
  have hTf := divTail_figs hf D
  obtain ⟨hn, hq⟩ := divLoop_num hk.1 hHf
  obtain ⟨hr0, hr1, hql⟩ := divLoop_bounds hk.1 hHf
  have hfl : Figs (divLeft k (divHead l D) (divTail l D)) := (figL_figs _ hr0).append hTf
  have hnl : num (divLeft k (divHead l D) (divTail l D)) = (divLoop k (divHead l D)).1 * T10 (divTail l D).length + num (divTail l D) := by
    unfold divLeft
    rw [num_append, figL_num _ hr0]
  have htl := num_lt hTf
  obtain ⟨t, ht⟩ : ∃ t, (divTail l D).length = t := ⟨_, rfl⟩
  obtain ⟨s, hs⟩ : ∃ s, s = (place + 3000).toNat - t := ⟨_, rfl⟩
  have hst : (place + 3000).toNat = t + s ∧ valN l e = num (divHead l D) * T10 (t + s) + num (divTail l D) * T10 s := by
    by_cases hpos : 0 < D
    · obtain ⟨c1, c2⟩ := div_cut l D hpos
      have e1 : t = D.toNat := by rw [← ht, c2]
      have e2 : s = (e + 3000).toNat := by omega
      refine ⟨by omega, ?_⟩
      unfold valN
      rw [c1, ← e2, T10_add, e1]
      grind
    · obtain ⟨c1, c2⟩ := divHead_le l D hpos
      rw [c2] at ht
      have e1 : t = 0 := by rw [← ht]; rfl
      refine ⟨by omega, ?_⟩
      unfold valN
      rw [c1, c2, num_append, num_zeros, num_nil, List.length_replicate]
      have e3 : (e + 3000).toNat = (-D).toNat + (t + s) := by omega
      rw [e3, T10_add (-D).toNat]
      grind
  have hU : unitV k place = k * T10 t * T10 s := by unfold unitV; rw [hst.1, T10_add]; grind
  rw [ht] at hnl htl
  have hts := T10_pos s
  have htt := T10_pos t
  have hL0 : 0 ≤ num (divLeft k (divHead l D) (divTail l D)) := (num_lt hfl).1
  have hL1 : num (divLeft k (divHead l D) (divTail l D)) < k * T10 t := by
    rw [hnl]
    have : ((divLoop k (divHead l D)).1 + 1) * T10 t ≤ k * T10 t := Int.mul_le_mul_of_nonneg_right (by omega) (by omega)
    have e : ((divLoop k (divHead l D)).1 + 1) * T10 t = (divLoop k (divHead l D)).1 * T10 t + T10 t := by rw [Int.add_mul, Int.one_mul]
    omega
  obtain ⟨hV, hR⟩ := (Int.ediv_emod_unique (a := valN l e) (b := unitV k place) (r := num (divLeft k (divHead l D) (divTail l D)) * T10 s) (q := num (divLoop k (divHead l D)).2) (unitV_pos hk.1)).2 ⟨by
    rw [hst.2, hU, hn, hnl, T10_add]; grind, Int.mul_nonneg hL0 (by omega), by rw [hU]; exact Int.mul_lt_mul_of_pos_right hL1 hts⟩
  refine ⟨(divLoop k (divHead l D)).2, divHalf k (divHead l D) (divTail l D), decide (0 < (bareL (divLeft k (divHead l D) (divTail l D))).length), ?_, hq, ?_, ?_, hV.symm, ?_, ?_⟩
  · unfold round_divided.f
    rw [if_pos ⟨by omega, hf⟩, hD]
  · rw [hql]
    unfold divHead
    split
    · simp; omega
    · simp; omega
  · rw [hql]
    unfold divHead mx
    split
    · simp; split <;> omega
    · simp; split <;> omega
  · rw [hR, decide_eq_true_iff]
    have hz := bareL_zero hfl
    constructor
    · intro h0 h1
      have : num (divLeft k (divHead l D) (divTail l D)) = 0 := by
        rcases Int.mul_eq_zero.1 h1 with h | h
        · exact h
        · omega
      rw [hz.2 this] at h0
      simp at h0
    · intro h0
      apply List.length_pos_iff.2
      intro h1
      rw [hz.1 h1] at h0
      exact h0 (Int.zero_mul _)
  · have hLl : (divLeft k (divHead l D) (divTail l D)).length ≤ 1000000 := by
      unfold divLeft
      rw [List.length_append, ht]
      have := figL_len (divLoop k (divHead l D)).1 hr0 (by omega)
      omega
    obtain ⟨t1, t2, _⟩ := timesL_num hfl (k := 2) (by omega)
    have hz2 : Figs (figL k ++ List.replicate (divTail l D).length 0) := (figL_figs k (by omega)).append (Figs.zeros _)
    have hn2 : num (figL k ++ List.replicate (divTail l D).length 0) = k * T10 t := by rw [num_append, num_zeros, figL_num k (by omega), List.length_replicate, ht]; omega
    obtain ⟨c1, c2⟩ := cmpL_spec t1 hz2
    rw [t2, hn2] at c1 c2
    rw [hR, hU]
    have e : 2 * (num (divLeft k (divHead l D) (divTail l D)) * T10 s) = (num (divLeft k (divHead l D) (divTail l D)) * 2) * T10 s := by grind
    rw [e]
    unfold divHalf
    exact ⟨c1.trans (mul_lt_pos hts), c2.trans (mul_lt_pos hts)⟩
end Go.Proofs.YtogfokpmpdclbaaDoor.PZ
end

section
set_option linter.unusedSimpArgs false
set_option linter.unusedVariables false
namespace Go.Proofs.YtogfokpmpdclbaaDoor.PZ
open Go.RowKit Go.Proofs.YtogfokpmpdclbaaDoorW.PrintWords Go.Proofs.YtogfokpmpdclbaaDoorW.PrintLast
theorem odd_f {q : List Int} (half : Int) (left : Bool) (hq : Figs q) (hl : q.length ≤ 1000000) : round_found_odd.f q half left = some (decide (num q % 2 = 1)) := by
  unfold round_found_odd.f
  by_cases h0 : q.length = 0
  · obtain rfl : q = [] := List.eq_nil_of_length_eq_zero h0
    simp [num_nil]
  · obtain ⟨a, d, rfl⟩ := eq_snoc q (by omega)
    have hd := (hq.right).head
    have hla : (a ++ [d]).length = a.length + 1 := by simp
    rw [if_pos (by omega), w64 _ (by omega) (by omega), if_pos (by omega), if_pos (by omega)]
    have e : ((a ++ [d]).length : Int) - 1 = (a.length : Int) := by omega
    rw [e, rd_append_right _ _ _ (Nat.le_refl _), Nat.sub_self]
    have e2 : rd [d] ((0 : Nat) : Int) = d := rfl
    rw [e2, num_snoc, Int.tmod_eq_emod_of_nonneg hd.1]
    congr 1
    rw [Bool.eq_iff_iff]
    simp
    omega
def wayB (g : Bool) (mode R U Q : Int) : Bool :=
  if mode = 0 then true else if mode = 1 then false else if mode = 2 then !g else if mode = 3 then g else if mode = 4 then decide (U ≤ 2 * R) else if mode = 5 then decide (U < 2 * R) else if mode = 6 then decide (U < 2 * R ∨ U = 2 * R ∧ Q % 2 = 1) else decide (U < 2 * R ∨ U = 2 * R ∧ Q % 2 = 0)
theorem nearF_eq {half R U : Int} (t : Bool) (h1 : half < 0 ↔ 2 * R < U) (h2 : 0 < half ↔ U < 2 * R) : nearF half t = decide (U < 2 * R ∨ U = 2 * R ∧ t = true) := by
  unfold nearF
  rw [Bool.eq_iff_iff]
  cases t <;> simp <;> omega
theorem away_f {q : List Int} {half R U : Int} (g : Bool) {mode : Int} (hq : Figs q) (hl : q.length ≤ 1000000) (hm : 0 ≤ mode ∧ mode ≤ 7) (h1 : half < 0 ↔ 2 * R < U) (h2 : 0 < half ↔ U < 2 * R) :
    round_found_away.f q half true g mode = some (wayB g mode R U (num q)) := by
  unfold round_found_away.f
  rw [odd_f half true hq hl, Option.bind_some, if_pos hm, Bool.true_and]
  congr 1
  unfold wayF wayB
  have hm' : mode = 0 ∨ mode = 1 ∨ mode = 2 ∨ mode = 3 ∨ mode = 4 ∨ mode = 5 ∨ mode = 6 ∨ mode = 7 := by omega
  rcases hm' with rfl | rfl | rfl | rfl | rfl | rfl | rfl | rfl
  · rfl
  · rfl
  · rfl
  · rfl
  · rw [nearF_eq true h1 h2, Bool.eq_iff_iff]
    simp
    omega
  · simp only [nearF_eq _ h1 h2]
    simp
  · simp only [nearF_eq _ h1 h2]
    simp
  · rw [Bool.eq_iff_iff]
    simp only [nearF_eq _ h1 h2]
    simp
    omega
/-- How many units come out. -/
def incQ (g : Bool) (mode V U : Int) : Int := if V % U = 0 then V / U else if wayB g mode (V % U) U (V / U) = true then V / U + 1 else V / U
theorem unit_f {k place : Int} (hk : 1 ≤ k ∧ k ≤ 1000000000) (hp : -1000 ≤ place ∧ place ≤ 1000) : round_isUnit.f k place = some true := by
  unfold round_isUnit.f
  rw [if_pos (by omega), if_pos (by omega), if_pos (by omega), decide_eq_true (by omega)]
theorem is_f {mode : Int} (hm : 0 ≤ mode ∧ mode ≤ 7) : round_Is.f mode = some true := by
  unfold round_Is.f
  rw [if_pos (by omega), decide_eq_true (by omega)]
theorem inc_open (g : Bool) {l : List Int} {e k place mode : Int} (hk : 1 ≤ k ∧ k ≤ 1000000000) (hp : -1000 ≤ place ∧ place ≤ 1000) (hm : 0 ≤ mode ∧ mode ≤ 7) {r : Bool × List Int × Int × Int} (h : Ev (fun n => round_Inc.j0 n k place mode false g l e) r) : Ev (fun n => round_Inc.f n g l e k place mode) r := by
  unfold round_Inc.f
  rw [is_f hm, unit_f hk hp]
  simpa using h
/-- A right number that is so many units stays. -/
theorem inc_keeps (g : Bool) {l : List Int} {e k place mode : Int} (h : RDec l e) (hk : 1 ≤ k ∧ k ≤ 1000000000) (hp : -1000 ≤ place ∧ place ≤ 1000) (hm : 0 ≤ mode ∧ mode ≤ 7) (h0 : valN l e % unitV k place = 0) : Ev (fun n => round_Inc.f n g l e k place mode) (g, l, e, 0) := by
  have hl := h.len
  have he := h.exp
  obtain ⟨q, half, left, hd, _, _, _, _, hlf, _⟩ := div_spec g h.figs hk (by omega) (by omega) (e := e) (place := place) (by omega)
  refine inc_open g hk hp hm (Ev_shift ?_)
  have hleft : left = false := by cases left <;> simp_all
  subst hleft
  simp only [round_Inc.j0, hd, Option.bind_some, Bool.false_eq_true, if_false]
  exact Ev.now _
/-- Figures that are so many units, as a right number. -/
theorem norm_units (g : Bool) {y : List Int} {place : Int} (hy : Figs y) (hl : y.length ≤ 300) (hp : -200 ≤ place ∧ place ≤ 200) :
    ∃ l' e', Ev (fun n => dec_Norm.f n g y place) (g, l', e', 0) ∧ RDec l' e' ∧ valN l' e' = num y * T10 (place + 3000).toNat := by
  rcases core_of y with ⟨n, rfl⟩ | ⟨n, c, m, rfl, hc, h0, h1⟩
  · refine ⟨[], 0, norm_zero g n place (by simpa using (show n ≤ 1000000 by simp at hl; omega)) (by omega), RDec.nil, ?_⟩
    rw [num_zeros]
    simp [valN, num_nil]
  · have hcf : Figs c := hy.right.left
    simp at hl
    have he := norm_core g hcf hc h0 h1 n m place (by omega) (by omega)
    have hr : normR g c (place + m) = (g, c, place + m, 0) := by unfold normR; rw [if_pos (by omega)]
    rw [hr] at he
    have f0 := rd_figs hcf 0
    have f1 := rd_figs hcf (c.length - 1)
    have e1 : ((c.length - 1 : Nat) : Int) = (c.length : Int) - 1 := by omega
    rw [e1] at f1
    rw [Int.natCast_zero] at f0
    refine ⟨c, place + m, he, ⟨hcf, .inr ⟨hc, by omega, by omega, by omega, by omega, by omega⟩⟩, ?_⟩
    rw [num_append, num_append, num_zeros, num_zeros, List.length_replicate]
    unfold valN
    have e2 : (place + (m : Int) + 3000).toNat = m + (place + 3000).toNat := by omega
    rw [e2, T10_add]
    grind
theorem inc_near (g : Bool) {l : List Int} {e k place mode : Int} (h : RDec l e) (hl : l.length ≤ 40) (he : -60 ≤ e ∧ e ≤ 60) (hk : 1 ≤ k ∧ k ≤ 1000000000) (hp : -120 ≤ place ∧ place ≤ 120) (hm : 0 ≤ mode ∧ mode ≤ 7) :
    ∃ l' e', Ev (fun n => round_Inc.f n g l e k place mode) (g, l', e', 0) ∧ RDec l' e' ∧ valN l' e' = incQ g mode (valN l e) (unitV k place) * unitV k place ∧ (valN l e % unitV k place = 0 → l' = l ∧ e' = e) := by
  by_cases h0 : valN l e % unitV k place = 0
  · refine ⟨l, e, inc_keeps g h hk (by omega) hm h0, h, ?_, fun _ => ⟨rfl, rfl⟩⟩
    unfold incQ
    rw [if_pos h0]
    have := Int.mul_ediv_add_emod (valN l e) (unitV k place)
    rw [h0] at this
    rw [Int.mul_comm]
    omega
  · obtain ⟨q, half, left, hd, hq, _, hql, hqn, hlf, h1, h2⟩ := div_spec g h.figs hk (by omega) (by omega) (e := e) (place := place) (by omega)
    have hql' : q.length ≤ 220 := by unfold mx at hql; split at hql <;> omega
    obtain rfl : left = true := hlf.2 h0
    have haw := away_f g hq (by omega) hm h1 h2
    rw [hqn] at haw
    have key : ∀ (y : List Int), Figs y → y.length ≤ 230 → ∃ l' e', Ev (fun n => (round_times.f y k).bind fun t166 => ((dec_Norm.f n g t166 place).bind fun bt169 => (some (bt169.1, bt169.2.1, bt169.2.2.1, bt169.2.2.2)))) (g, l', e', 0) ∧ RDec l' e' ∧ valN l' e' = num y * unitV k place := by
      intro y hy hyl
      obtain ⟨t1, t2, t3⟩ := timesL_num hy (k := k) (by omega)
      obtain ⟨l', e', n1, n2, n3⟩ := norm_units g t1 (by omega) (place := place) (by omega)
      refine ⟨l', e', ?_, n2, by rw [n3, t2]; unfold unitV; grind⟩
      have ht : round_times.f y k = some (timesL y k) := by unfold round_times.f; rw [if_pos ⟨by omega, hy⟩]
      rw [ht]
      simp only [Option.bind_some]
      exact Ev.bind n1 (Ev.now _)
    cases hw : wayB g mode (valN l e % unitV k place) (unitV k place) (valN l e / unitV k place) with
    | true =>
      obtain ⟨m1, m2, m3⟩ := moreL_num hq
      obtain ⟨l', e', a1, a2, a3⟩ := key (moreL q) m2 (by omega)
      refine ⟨l', e', ?_, a2, ?_, fun z => absurd z h0⟩
      · refine inc_open g hk (by omega) hm (Ev_shift ?_)
        have hmo : round_more.f q = some (moreL q) := by unfold round_more.f; rw [if_pos ⟨by omega, hq⟩]
        simp only [round_Inc.j0, hd, haw, hw, hmo, Option.bind_some, if_true, Bool.false_eq_true, if_false]
        exact a1
      · rw [a3, m1, hqn]
        unfold incQ
        rw [if_neg h0, hw, if_pos rfl]
    | false =>
      obtain ⟨l', e', a1, a2, a3⟩ := key q hq (by omega)
      refine ⟨l', e', ?_, a2, ?_, fun z => absurd z h0⟩
      · refine inc_open g hk (by omega) hm (Ev_shift ?_)
        simp only [round_Inc.j0, hd, haw, hw, Option.bind_some, if_true, Bool.false_eq_true, if_false]
        exact a1
      · rw [a3, hqn]
        unfold incQ
        rw [if_neg h0, hw, if_neg (by decide)]
theorem to_of (g : Bool) {l : List Int} {e place mode : Int} {l' : List Int} {e' c : Int} {g' : Bool} (h : Ev (fun n => round_Inc.f n g l e 1 place mode) (g', l', e', c)) : Ev (fun n => round_To.f n g l e place mode) (g', l', e', c) := by
  unfold round_To.f
  exact Ev.bind h (Ev.now _)
end Go.Proofs.YtogfokpmpdclbaaDoor.PZ
end

section
set_option linter.unusedSimpArgs false
set_option linter.unusedVariables false
namespace Go.Proofs.YtogfokpmpdclbaaDoor.PZ
open Go.RowKit Go.Proofs.YtogfokpmpdclbaaDoorW.PrintWords Go.Proofs.YtogfokpmpdclbaaDoorW.PrintLast
structure NearD (l : List Int) (e : Int) : Prop where
  r : RDec l e
  len : l.length ≤ 40
  exp : -60 ≤ e ∧ e ≤ 60
structure NearU (k place mode : Int) : Prop where
  k : 1 ≤ k ∧ k ≤ 1000000000
  p : -120 ≤ place ∧ place ≤ 120
  m : 0 ≤ mode ∧ mode ≤ 7
theorem refis_f (mode : Int) : exergueref06_Is.f mode = some (decide (0 ≤ mode ∧ mode ≤ 7)) := by
  unfold exergueref06_Is.f
  by_cases h : mode ≥ 0
  · rw [if_pos h]; congr 1; rw [Bool.eq_iff_iff]; simp; omega
  · rw [if_neg h, decide_eq_false (by omega)]
theorem nearD_ev (g : Bool) {l : List Int} {e : Int} (hz : l.length * 1 ≤ 140737488351232) (hw : ∀ b_ ∈ l, (Lit.int .u8 b_).wf = true) :
    (Ev (fun n => exergueref06_Near.f n g l e) true ∧ NearD l e) ∨ Ev (fun n => exergueref06_Near.f n g l e) false := by
  unfold exergueref06_Near.f
  rcases right_cases g (l := l) (e := e) (by unfold maxLen; omega) hw with ⟨h, hr⟩ | h
  · by_cases h1 : (l.length : Int) ≤ 40
    · by_cases h2 : e ≥ -60
      · by_cases h3 : e ≤ 60
        · refine .inl ⟨Ev.bind h ?_, hr, by omega, by omega⟩
          simp only [if_true, if_pos h1, if_pos h2, decide_eq_true h3]
          exact Ev.now _
        · refine .inr (Ev.bind h ?_)
          simp only [if_true, if_pos h1, if_pos h2, decide_eq_false h3]
          exact Ev.now _
      · refine .inr (Ev.bind h ?_)
        simp only [if_true, if_pos h1, if_neg h2]
        exact Ev.now _
    · refine .inr (Ev.bind h ?_)
      simp only [if_true, if_neg h1]
      exact Ev.now _
  · refine .inr (Ev.bind h ?_)
    simp only [Bool.false_eq_true, if_false]
    exact Ev.now _
theorem NearU.mode {k place mode : Int} (u : NearU k place mode) {m : Int} (hm : 0 ≤ m ∧ m ≤ 7) : NearU k place m := ⟨u.k, u.p, hm⟩
end Go.Proofs.YtogfokpmpdclbaaDoor.PZ
end

section
set_option linter.unusedSimpArgs false
set_option linter.unusedVariables false
namespace Go.Proofs.YtogfokpmpdclbaaDoor.PZ
open Go.RowKit Go.Proofs.YtogfokpmpdclbaaDoorW.PrintWords Go.Proofs.YtogfokpmpdclbaaDoorW.PrintLast
end Go.Proofs.YtogfokpmpdclbaaDoor.PZ
end
