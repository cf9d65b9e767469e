/- exergueref05.Mag, At, figures and Cmp, plainly: how two right numbers compare is how what they are worth compares.
   Conditions: the numbers are right. -/
import Derived.Test.YtogfokpmpdclbaaDoorPZx17
import Derived.Test.YtogfokpmpdclbaaDoorPureNear
set_option linter.unusedSimpArgs false
set_option linter.unusedVariables false
namespace Go.Proofs.YtogfokpmpdclbaaDoor.PZ
open Go.RowKit Go.Proofs.YtogfokpmpdclbaaDoorW.PrintWords Go.Proofs.YtogfokpmpdclbaaDoorW.PrintLast
def rmag (l : List Int) (e : Int) : Int := if l.length = 0 then 0 else e + l.length - 1
theorem rmag_f (g : Bool) (l : List Int) (e : Int) (hl : l.length ≤ 100000) (he : -100000 ≤ e ∧ e ≤ 100000) : exergueref05_Mag.f g l e = some (rmag l e) := by
  unfold exergueref05_Mag.f rmag
  by_cases h : l.length = 0
  · rw [if_pos (by omega), if_pos h]
  · rw [if_neg (by omega), if_neg h, w64 (e + (l.length : Int)) (by omega) (by omega), w64 _ (by omega) (by omega)]
def refAt (l : List Int) (e p : Int) : Int := if 0 ≤ e + l.length - 1 - p ∧ e + l.length - 1 - p < l.length then rd l (e + l.length - 1 - p) else 0
theorem at_l0 (g : Bool) (l : List Int) (e p : Int) (hl : l.length ≤ 100000) (he : -100000 ≤ e ∧ e ≤ 100000) (hp : -1000000 ≤ p ∧ p ≤ 1000000) (n : Nat) : ∀ i : Nat, i + n = l.length → (∀ j : Nat, j < i → e + l.length - 1 - j ≠ p) → Ev (fun k => exergueref05_At.l0 k p i g l e) (refAt l e p) := by
  induction n with
  | zero =>
    intro i hi hno
    refine Ev_shift ?_
    simp only [exergueref05_At.l0, if_neg (show ¬ ((i : Int) < (l.length : Int)) by omega)]
    have : refAt l e p = 0 := by
      unfold refAt
      rw [if_neg]
      intro hc
      exact hno (e + l.length - 1 - p).toNat (by omega) (by omega)
    rw [this]
    exact Ev.now _
  | succ n ih =>
    intro i hi hno
    refine Ev_shift ?_
    have w1 : wrap64 ((wrap64 ((wrap64 (e + (l.length : Int))) - 1)) - (i : Int)) = e + l.length - 1 - i := by rw [w64 (e + (l.length : Int)) (by omega) (by omega), w64 (e + (l.length : Int) - 1) (by omega) (by omega), w64 _ (by omega) (by omega)]
    have w2 : wrap64 ((i : Int) + 1) = ((i + 1 : Nat) : Int) := by rw [w64 _ (by omega) (by omega)]; omega
    simp only [exergueref05_At.l0, if_pos (show (i : Int) < (l.length : Int) by omega), w1, w2, if_pos (show (0 : Int) ≤ (i : Int) by omega)]
    by_cases h : e + l.length - 1 - (i : Int) = p
    · simp only [if_pos h]
      have : refAt l e p = rd l i := by
        unfold refAt
        have e1 : e + l.length - 1 - p = (i : Int) := by omega
        rw [e1, if_pos (by omega)]
      rw [this]
      exact Ev.now _
    · simp only [if_neg h]
      refine ih (i + 1) (by omega) (fun j hj => ?_)
      by_cases hj2 : j = i
      · subst hj2; exact h
      · exact hno j (by omega)
theorem at_ev (g : Bool) (l : List Int) (e p : Int) (hl : l.length ≤ 100000) (he : -100000 ≤ e ∧ e ≤ 100000) (hp : -1000000 ≤ p ∧ p ≤ 1000000) : Ev (fun k => exergueref05_At.f k g l e p) (refAt l e p) := by
  unfold exergueref05_At.f
  exact at_l0 g l e p hl he hp l.length 0 (by omega) (fun j hj => by omega)
def refFigs (l : List Int) (e fr : Int) (n : Nat) : List Int := (List.range n).map fun j : Nat => refAt l e (fr - j)
theorem figs_l0 (g : Bool) (l : List Int) (e fr dn : Int) (hl : l.length ≤ 100000) (he : -100000 ≤ e ∧ e ≤ 100000) (hf : -100000 ≤ fr ∧ fr ≤ 100000) (ht : -100000 ≤ dn ∧ dn ≤ 100000) (n : Nat) : ∀ m : Nat, fr - m - dn + 1 = n →
    Ev (fun k => exergueref05_figures.l0 k dn (refFigs l e fr m) (fr - m) g l e) (refFigs l e fr (m + n)) := by
  induction n with
  | zero =>
    intro m hm
    refine Ev_shift ?_
    simp only [exergueref05_figures.l0, if_neg (show ¬ (fr - (m : Int) ≥ dn) by omega), Nat.add_zero]
    exact Ev.now _
  | succ n ih =>
    intro m hm
    refine Ev_shift ?_
    have hlen : (refFigs l e fr m).length = m := by simp [refFigs]
    have w1 : wrap64 (fr - (m : Int) - 1) = fr - ((m + 1 : Nat) : Int) := by rw [w64 _ (by omega) (by omega)]; omega
    simp only [exergueref05_figures.l0, if_pos (show fr - (m : Int) ≥ dn by omega)]
    refine Ev.bind (at_ev g l e _ hl he (by omega)) ?_
    simp only [hlen, if_pos (show m < 140737488355328 by omega), w1]
    have e1 : refFigs l e fr m ++ [refAt l e (fr - m)] = refFigs l e fr (m + 1) := by simp [refFigs, List.range_succ]
    rw [e1]
    have := ih (m + 1) (by omega)
    rwa [show m + 1 + n = m + (n + 1) by omega] at this
theorem figs_ev (g : Bool) (l : List Int) (e fr dn : Int) (hl : l.length ≤ 100000) (he : -100000 ≤ e ∧ e ≤ 100000) (hf : -100000 ≤ fr ∧ fr ≤ 100000) (ht : -100000 ≤ dn ∧ dn ≤ 100000) (h : dn ≤ fr + 1) :
    Ev (fun k => exergueref05_figures.f k g l e fr dn) (refFigs l e fr (fr - dn + 1).toNat) := by
  unfold exergueref05_figures.f
  have := figs_l0 g l e fr dn hl he hf ht (fr - dn + 1).toNat 0 (by omega)
  simpa [refFigs] using this
theorem refFigs_eq {l : List Int} {e fr dn : Int} (h1 : e + l.length - 1 ≤ fr) (h2 : dn ≤ e) : refFigs l e fr (fr - dn + 1).toNat = List.replicate (fr - (e + l.length - 1)).toNat 0 ++ (l ++ List.replicate (e - dn).toNat 0) := by
  apply List.ext_getElem
  · simp [refFigs]; omega
  · intro j hj1 hj2
    have hjn : j < (fr - dn + 1).toNat := by simpa [refFigs] using hj1
    have hL : (refFigs l e fr (fr - dn + 1).toNat)[j] = refAt l e (fr - j) := by simp [refFigs]
    rw [hL]
    unfold refAt
    by_cases c1 : j < (fr - (e + l.length - 1)).toNat
    · rw [if_neg (by omega), List.getElem_append_left (by simpa using c1)]
      simp
    · rw [List.getElem_append_right (by simpa using c1)]
      by_cases c2 : j - (fr - (e + l.length - 1)).toNat < l.length
      · have e1 : e + l.length - 1 - (fr - (j : Int)) = ((j - (fr - (e + l.length - 1)).toNat : Nat) : Int) := by omega
        rw [List.getElem_append_left (by simpa using c2), e1, if_pos (by omega)]
        simp [rd, List.getD_eq_getElem?_getD, List.getElem?_eq_getElem c2]
      · rw [if_neg (by omega), List.getElem_append_right (by simp; omega)]
        simp
theorem refFigs_num {l : List Int} {e fr dn : Int} (hf : Figs l) (h1 : e + l.length - 1 ≤ fr) (h2 : dn ≤ e) (h3 : -3000 ≤ dn) : num (refFigs l e fr (fr - dn + 1).toNat) * T10 (dn + 3000).toNat = valN l e ∧ Figs (refFigs l e fr (fr - dn + 1).toNat) := by
  rw [refFigs_eq h1 h2]
  refine ⟨?_, (Figs.zeros _).append (hf.append (Figs.zeros _))⟩
  rw [num_append, num_append, num_zeros, num_zeros, List.length_replicate]
  unfold valN
  have e1 : (e + 3000).toNat = (e - dn).toNat + (dn + 3000).toNat := by omega
  rw [e1, T10_add]
  grind
theorem cmp_l0 (x y : List Int) (g : Bool) (l : List Int) (e : Int) (hx : Figs x) (hy : Figs y) (hl : x.length = y.length) (hm : x.length ≤ 1000000) (n : Nat) : ∀ i : Nat, i + n = x.length →
    Ev (fun k => exergueref05_Cmp.l0 k x y i g l e) (if g then -sg (num (x.drop i) - num (y.drop i)) else sg (num (x.drop i) - num (y.drop i))) := by
  induction n with
  | zero =>
    intro i hi
    refine Ev_shift ?_
    simp only [exergueref05_Cmp.l0, if_neg (show ¬ ((i : Int) < (x.length : Int)) by omega)]
    rw [List.drop_of_length_le (show x.length ≤ i by omega), List.drop_of_length_le (show y.length ≤ i by omega)]
    have : (if g = true then -sg (num [] - num []) else sg (num [] - num [])) = 0 := by split <;> rfl
    rw [this]
    exact Ev.now _
  | succ n ih =>
    intro i hi
    refine Ev_shift ?_
    have w2 : wrap64 ((i : Int) + 1) = ((i + 1 : Nat) : Int) := by rw [w64 _ (by omega) (by omega)]; omega
    simp only [exergueref05_Cmp.l0, if_pos (show (i : Int) < (x.length : Int) by omega), if_pos (show (0 : Int) ≤ (i : Int) by omega), if_pos (show (i : Int) < (y.length : Int) by omega), w2]
    rw [drop_cons x i (by omega), drop_cons y i (by omega), num_cons, num_cons]
    have e1 : (x.drop (i + 1)).length = (y.drop (i + 1)).length := by simp [hl]
    rw [e1]
    have n1 := num_lt (hx.drop (i + 1))
    have n2 := num_lt (hy.drop (i + 1))
    rw [e1] at n1
    by_cases h : rd x i = rd y i
    · simp only [if_pos h]
      have := ih (i + 1) (by omega)
      have e2 : rd x (i : Int) * T10 (y.drop (i + 1)).length + num (x.drop (i + 1)) - (rd y (i : Int) * T10 (y.drop (i + 1)).length + num (y.drop (i + 1))) = num (x.drop (i + 1)) - num (y.drop (i + 1)) := by rw [h]; omega
      rw [e2]
      exact this
    · simp only [if_neg h]
      rw [sg_ahead n1 n2 h]
      by_cases hlt : rd x i < rd y i
      · rw [sg_of_neg (show rd x (i : Int) - rd y i < 0 by omega), decide_eq_true hlt]
        cases g
        · simp only [Bool.true_bne, Bool.not_false, if_true, Bool.false_eq_true, if_false]; exact Ev.now _
        · simp only [bne_self_eq_false, Bool.false_eq_true, if_false, if_true]; exact Ev.now _
      · rw [sg_of_pos (show 0 < rd x (i : Int) - rd y i by omega), decide_eq_false hlt]
        cases g
        · simp only [bne_self_eq_false, Bool.false_eq_true, if_false]; exact Ev.now _
        · simp only [Bool.false_bne, if_true]; exact Ev.now _
theorem refcmp (ga gb : Bool) {a b : List Int} {ea eb : Int} (ha : RDec a ea) (hb : RDec b eb) : Ev (fun k => exergueref05_Cmp.f k ga a ea gb b eb) (sg (val ga a ea - val gb b eb)) := by
  have la := ha.len
  have lb := hb.len
  have xa := ha.exp
  have xb := hb.exp
  unfold exergueref05_Cmp.f
  rw [rmag_f ga a ea (by omega) (by omega), rmag_f gb b eb (by omega) (by omega)]
  simp only [Option.bind_some]
  have hfr : (∀ l e, ((l = a ∧ e = ea) ∨ (l = b ∧ e = eb)) → e + (l.length : Int) - 1 ≤ mx (rmag a ea) (rmag b eb)) ∧ -3000 ≤ mx (rmag a ea) (rmag b eb) ∧ mx (rmag a ea) (rmag b eb) ≤ 3000 ∧ mn ea eb ≤ ea ∧ mn ea eb ≤ eb ∧ -1000 ≤ mn ea eb ∧ mn ea eb ≤ mx (rmag a ea) (rmag b eb) + 1 := by
    have na := ha.nought
    have nb := hb.nought
    unfold mx mn rmag
    refine ⟨?_, ?_, ?_, ?_, ?_, ?_, ?_⟩
    · rintro l e (⟨rfl, rfl⟩ | ⟨rfl, rfl⟩) <;> (repeat' split) <;> omega
    all_goals (repeat' split) <;> omega
  obtain ⟨f1, f2, f3, f4, f5, f6, f7⟩ := hfr
  generalize mx (rmag a ea) (rmag b eb) = fr at *
  generalize mn ea eb = dn at *
  refine Ev.bind (figs_ev ga a ea fr dn (by omega) (by omega) (by omega) (by omega) f7) ?_
  refine Ev.bind (figs_ev gb b eb fr dn (by omega) (by omega) (by omega) (by omega) f7) ?_
  obtain ⟨na, ffa⟩ := refFigs_num ha.figs (f1 a ea (.inl ⟨rfl, rfl⟩)) f4 (by omega)
  obtain ⟨nb, ffb⟩ := refFigs_num hb.figs (f1 b eb (.inr ⟨rfl, rfl⟩)) f5 (by omega)
  have hlx : (refFigs a ea fr (fr - dn + 1).toNat).length = (fr - dn + 1).toNat := by simp [refFigs]
  have hly : (refFigs b eb fr (fr - dn + 1).toNat).length = (fr - dn + 1).toNat := by simp [refFigs]
  generalize refFigs a ea fr (fr - dn + 1).toNat = x at *
  generalize refFigs b eb fr (fr - dn + 1).toNat = y at *
  have va := valN_nonneg ha.figs ea
  have vb := valN_nonneg hb.figs eb
  -- what follows the noughts
  have main : ¬ (a.length = 0 ∧ b.length = 0) → Ev (fun k => exergueref05_Cmp.j0 k x y false ga a ea gb b eb) (sg (val ga a ea - val gb b eb)) := by
    intro hn
    refine Ev_shift ?_
    simp only [exergueref05_Cmp.j0, Bool.false_eq_true, if_false]
    by_cases hg : ga = gb
    · subst hg
      simp only [bne_self_eq_false, Bool.false_eq_true, if_false]
      have := cmp_l0 x y ga a ea ffa ffb (by omega) (by omega) x.length 0 (by omega)
      rw [List.drop_zero, List.drop_zero] at this
      have e1 : sg (num x - num y) = sg (valN a ea - valN b eb) := by
        rw [← na, ← nb, ← Int.sub_mul, sg_mul (T10_pos _)]
      have e2 : sg (val ga a ea - val ga b eb) = if ga = true then -sg (num x - num y) else sg (num x - num y) := by
        rw [e1]
        unfold val
        cases ga
        · rfl
        · simp only [if_true]
          rw [← sg_neg]
          congr 1
          omega
      rw [e2]
      exact this
    · have hne : (ga != gb) = true := by cases ga <;> cases gb <;> simp_all
      have hz : valN a ea ≠ 0 ∨ valN b eb ≠ 0 := by
        by_cases h : a.length = 0
        · have h2 : 0 < b.length := by omega
          have := valN_pos hb.figs h2 (hb.first h2) eb
          exact .inr (by omega)
        · have h2 : 0 < a.length := by omega
          have := valN_pos ha.figs h2 (ha.first h2) ea
          exact .inl (by omega)
      simp only [hne, if_true]
      unfold val
      cases ga <;> cases gb
      · exact absurd rfl hg
      · simp only [Bool.false_eq_true, if_false, if_true]
        rw [sg_of_pos (by omega)]
        exact Ev.now _
      · simp only [Bool.false_eq_true, if_false, if_true]
        rw [sg_of_neg (by omega)]
        exact Ev.now _
      · exact absurd rfl hg
  by_cases h0 : a.length = 0
  · simp only [if_pos (show (a.length : Int) = 0 by omega)]
    by_cases h1 : b.length = 0
    · have e1 : ((b.length : Int) == 0) = true := by simp; exact List.eq_nil_of_length_eq_zero h1
      rw [e1]
      refine Ev_shift ?_
      simp only [exergueref05_Cmp.j0, if_true]
      have ea0 : a = [] := List.eq_nil_of_length_eq_zero h0
      have eb0 : b = [] := List.eq_nil_of_length_eq_zero h1
      rw [ea0, eb0, val_nil, val_nil]
      exact Ev.now _
    · have e1 : ((b.length : Int) == 0) = false := by simp; intro z; rw [z] at h1; simp at h1
      rw [e1]
      exact main (fun h => h1 h.2)
  · simp only [if_neg (show ¬ (a.length : Int) = 0 by omega)]
    exact main (fun h => h0 h.1)
end Go.Proofs.YtogfokpmpdclbaaDoor.PZ
