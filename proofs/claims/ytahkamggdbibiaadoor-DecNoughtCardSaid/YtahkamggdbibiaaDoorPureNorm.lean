/- dec.Norm, plainly: figures with noughts ahead and behind.
   Conditions: the figures are no more than an int counts, the power is not too far from 0. -/
import Derived.Test.YtahkamggdbibiaaDoorPZx6
import Derived.Test.YtahkamggdbibiaaDoorPureCmp
set_option linter.unusedSimpArgs false
set_option linter.unusedVariables false
namespace Go.Proofs.YtahkamggdbibiaaDoor.PZ
open Go.RowKit Go.Proofs.YtahkamggdbibiaaDoorW.PrintWords Go.Proofs.YtahkamggdbibiaaDoorW.PrintLast
theorem far_f (e m : Int) (h0 : 0 ≤ m) (h1 : m ≤ 1099511627776) : dec_tooFar.f e m = some (decide (e < -m ∨ m < e)) := by
  unfold dec_tooFar.f
  rw [w64 (-m) (by omega) (by omega)]
  by_cases h : e < -m
  · rw [if_pos h]; simp [h]
  · rw [if_neg h]; simp [h]
theorem figs_any {l : List Int} (h : Figs l) : (l.any fun c => decide (c > 9)) = false := by
  rw [List.any_eq_false]
  intro x hx
  have := h x hx
  simp; omega
theorem any_figs {l : List Int} (hw : ∀ b_ ∈ l, (Lit.int .u8 b_).wf = true) (h : (l.any fun c => decide (c > 9)) = false) : Figs l := by
  rw [List.any_eq_false] at h
  intro x hx
  have h1 := h x hx
  have h2 := wf_u8 (hw x hx)
  simp at h1
  omega
theorem cont_f (l : List Int) : slices_ContainsFunc_byte_byte.f l 38 = some (l.any fun c => decide (c > 9)) := by
  unfold slices_ContainsFunc_byte_byte.f
  rw [if_pos rfl]
theorem dec_right_f (g : Bool) {c : List Int} (e : Int) (hc : Figs c) (hl : 0 < c.length) (hm : c.length ≤ 1000000) (h0 : rd c 0 ≠ 0) (h1 : rd c ((c.length : Int) - 1) ≠ 0) :
    dec_Right.f g c e = some (decide (c.length ≤ 1000 ∧ -1000 ≤ e ∧ e ≤ 1000)) := by
  unfold dec_Right.f
  rw [if_neg (by omega)]
  by_cases hk : c.length ≤ 1000
  · rw [if_pos (by omega), cont_f, figs_any hc]
    simp only [Option.bind_some, Bool.false_eq_true, if_false]
    rw [if_pos (by omega), if_neg h0, w64 _ (by omega) (by omega), if_pos (by omega), if_pos (by omega), if_neg h1, far_f _ _ (by omega) (by omega)]
    simp only [Option.bind_some]
    rw [← decide_not]
    congr 1
    rw [decide_eq_decide]
    omega
  · rw [if_neg (by omega), decide_eq_false (by omega)]
/-- What Norm answers of figures whose core is c. -/
def normR (g : Bool) (c : List Int) (e : Int) : Bool × List Int × Int × Int := if c.length ≤ 1000 ∧ -1000 ≤ e ∧ e ≤ 1000 then (g, c, e, 0) else (false, [], 0, 11)
theorem norm_l1 (g : Bool) {c : List Int} (hc : Figs c) (hl : 0 < c.length) (h0 : rd c 0 ≠ 0) (h1 : rd c ((c.length : Int) - 1) ≠ 0) (x : Int) (m : Nat) : ∀ e : Int, c.length + m ≤ 1000000 → -2000000000000 ≤ e ∧ e ≤ 2000000000000 - m →
    Ev (fun k => dec_Norm.l1 k (c ++ List.replicate m 0) e g x) (normR g c (e + m)) := by
  induction m with
  | zero =>
    intro e hm he
    refine Ev_shift ?_
    simp only [dec_Norm.l1, List.replicate_zero, List.append_nil]
    have hw : wrap64 ((c.length : Int) - 1) = (c.length : Int) - 1 := w64 _ (by omega) (by omega)
    simp only [hw, if_pos (show (0 : Int) ≤ (c.length : Int) - 1 by omega), if_pos (show (c.length : Int) - 1 < (c.length : Int) by omega), if_neg h1]
    have hcl : slices_Clone_byte_byte.f c = some c := by unfold slices_Clone_byte_byte.f; rw [if_pos (by omega)]
    rw [hcl]
    simp only [Option.bind_some]
    rw [dec_right_f g e hc hl (by omega) h0 h1]
    simp only [Option.bind_some, decide_eq_true_eq]
    unfold normR
    rw [Int.natCast_zero, Int.add_zero]
    have e1 : ∀ {p : Prop} [Decidable p] (a b : Bool × List Int × Int × Int), (if p then some a else some b) = some (if p then a else b) := fun a b => by split <;> rfl
    simp only [e1]
    exact Ev.now _
  | succ m ih =>
    intro e hm he
    refine Ev_shift ?_
    have hlen : (c ++ List.replicate (m + 1) 0).length = c.length + m + 1 := by simp; omega
    have hw : wrap64 (((c ++ List.replicate (m + 1) 0).length : Int) - 1) = ((c.length + m : Nat) : Int) := by rw [hlen, w64 _ (by omega) (by omega)]; omega
    have hr : rd (c ++ List.replicate (m + 1) 0) ((c.length + m : Nat) : Int) = 0 := by rw [rd_append_right _ _ _ (by omega), rd_zeros]
    have ht : (c ++ List.replicate (m + 1) 0).take (c.length + m) = c ++ List.replicate m 0 := by
      rw [List.take_append, List.take_of_length_le (by omega), List.take_replicate]
      congr 2
      omega
    simp only [dec_Norm.l1, hw, hr, if_true, Int.toNat_natCast, ht]
    simp only [if_pos (show (0 : Int) ≤ ((c.length + m : Nat) : Int) by omega), if_pos (show ((c.length + m : Nat) : Int) < (((c ++ List.replicate (m + 1) 0).length : Nat) : Int) by rw [hlen]; omega), if_pos (show ((c.length + m : Nat) : Int) ≤ (((c ++ List.replicate (m + 1) 0).length : Nat) : Int) by rw [hlen]; omega)]
    rw [w64 (e + 1) (by omega) (by omega)]
    have := ih (e + 1) (by omega) (by omega)
    have e2 : e + 1 + (m : Int) = e + ((m + 1 : Nat) : Int) := by omega
    rwa [e2] at this
theorem norm_l0 (g : Bool) (rest : List Int) (e x : Int) (n : Nat) (r : Bool × List Int × Int × Int) (hlen : n + rest.length ≤ 1000000) (h : Ev (fun k => dec_Norm.l0 k rest e g x) r) : Ev (fun k => dec_Norm.l0 k (List.replicate n 0 ++ rest) e g x) r := by
  induction n with
  | zero => simpa using h
  | succ n ih =>
    refine Ev_shift ?_
    have hl : (0 :: (List.replicate n 0 ++ rest)).length = n + rest.length + 1 := by simp
    have hr : rd (0 :: (List.replicate n 0 ++ rest)) 0 = 0 := rfl
    simp only [dec_Norm.l0, List.replicate_succ, List.cons_append, hr, if_true, List.drop_succ_cons, List.drop_zero]
    simp only [if_pos (show (((0 :: (List.replicate n 0 ++ rest)).length : Nat) : Int) > 0 by rw [hl]; omega), if_pos (show (0 : Int) < (((0 :: (List.replicate n 0 ++ rest)).length : Nat) : Int) by rw [hl]; omega), if_pos (show (1 : Int) ≤ (((0 :: (List.replicate n 0 ++ rest)).length : Nat) : Int) by rw [hl]; omega)]
    exact ih (by omega)
theorem norm_zero (g : Bool) (n : Nat) (e : Int) (hn : n ≤ 1000000) (he : -1099511627776 ≤ e ∧ e ≤ 1099511627776) : Ev (fun k => dec_Norm.f k g (List.replicate n 0) e) (g, [], 0, 0) := by
  unfold dec_Norm.f
  rw [cont_f, figs_any (Figs.zeros n), far_f _ _ (by omega) (by omega), decide_eq_false (by omega)]
  simp only [Option.bind_some, Bool.false_eq_true, if_false]
  have h : Ev (fun k => dec_Norm.l0 k ([] : List Int) e g 0) (g, [], 0, 0) := by
    have hz : ¬ ((([] : List Int).length : Nat) : Int) > 0 := by decide
    have hz' : ((([] : List Int).length : Nat) : Int) = 0 := rfl
    refine Ev_shift ?_
    simp only [dec_Norm.l0, if_neg hz]
    refine Ev_shift ?_
    simp only [dec_Norm.j1, if_pos hz']
    exact Ev.now _
  have := norm_l0 g [] e 0 n _ (by simpa using hn) h
  simpa using this
theorem norm_core (g : Bool) {c : List Int} (hc : Figs c) (hl : 0 < c.length) (h0 : rd c 0 ≠ 0) (h1 : rd c ((c.length : Int) - 1) ≠ 0) (n m : Nat) (e : Int) (hn : n + c.length + m ≤ 1000000) (he : -1099511627776 ≤ e ∧ e ≤ 1099511627776) :
    Ev (fun k => dec_Norm.f k g (List.replicate n 0 ++ (c ++ List.replicate m 0)) e) (normR g c (e + m)) := by
  unfold dec_Norm.f
  rw [cont_f, figs_any ((Figs.zeros n).append (hc.append (Figs.zeros m))), far_f _ _ (by omega) (by omega), decide_eq_false (by omega)]
  simp only [Option.bind_some, Bool.false_eq_true, if_false]
  refine norm_l0 g _ e 0 n _ (by simp; omega) ?_
  refine Ev_shift ?_
  have hlen : (c ++ List.replicate m 0).length = c.length + m := by simp
  have hr : rd (c ++ List.replicate m 0) 0 = rd c 0 := rd_append_left c _ 0 hl
  have p1 : (((c ++ List.replicate m 0).length : Nat) : Int) > 0 := by rw [hlen]; omega
  have p2 : ¬ (((c ++ List.replicate m 0).length : Nat) : Int) = 0 := by rw [hlen]; omega
  have p3 : (0 : Int) < (((c ++ List.replicate m 0).length : Nat) : Int) := p1
  simp only [dec_Norm.l0, hr, if_neg h0, if_pos p1, if_pos p3]
  refine Ev_shift ?_
  simp only [dec_Norm.j1, if_neg p2]
  exact norm_l1 g hc hl h0 h1 0 m e (by omega) (by omega)
theorem norm_odd (g : Bool) (l : List Int) (e : Int) (h : (l.any fun c => decide (c > 9)) = true) : Ev (fun k => dec_Norm.f k g l e) (false, [], 0, 1) := by
  unfold dec_Norm.f
  rw [cont_f, h]
  simp only [Option.bind_some, if_true]
  exact Ev.now _
theorem norm_far (g : Bool) (l : List Int) (e : Int) (h : (l.any fun c => decide (c > 9)) = false) (he : e < -1099511627776 ∨ 1099511627776 < e) : Ev (fun k => dec_Norm.f k g l e) (false, [], 0, 11) := by
  unfold dec_Norm.f
  rw [cont_f, h, far_f _ _ (by omega) (by omega), decide_eq_true he]
  simp only [Option.bind_some, Bool.false_eq_true, if_false, if_true]
  exact Ev.now _
/-- Any row is noughts, or a core with noughts ahead and behind. -/
theorem core_ahead (l : List Int) : (∃ n, l = List.replicate n 0) ∨ ∃ n c, l = List.replicate n 0 ++ c ∧ 0 < c.length ∧ rd c 0 ≠ 0 := by
  induction l with
  | nil => exact .inl ⟨0, rfl⟩
  | cons d l ih =>
    by_cases hd : d = 0
    · subst hd
      rcases ih with ⟨n, rfl⟩ | ⟨n, c, rfl, h⟩
      · exact .inl ⟨n + 1, by rw [List.replicate_succ]⟩
      · exact .inr ⟨n + 1, c, by rw [List.replicate_succ, List.cons_append], h⟩
    · exact .inr ⟨0, d :: l, by simp, by simp, by simpa [rd] using hd⟩
theorem rd_reverse (l : List Int) (k : Nat) (hk : k < l.length) : rd l.reverse k = rd l ((l.length - 1 - k : Nat) : Int) := by
  simp [rd, List.getD_eq_getElem?_getD, List.getElem?_reverse hk]
theorem core_of (l : List Int) : (∃ n, l = List.replicate n 0) ∨ ∃ n c m, l = List.replicate n 0 ++ (c ++ List.replicate m 0) ∧ 0 < c.length ∧ rd c 0 ≠ 0 ∧ rd c ((c.length : Int) - 1) ≠ 0 := by
  rcases core_ahead l with h | ⟨n, c, rfl, hl, h0⟩
  · exact .inl h
  · refine .inr ?_
    rcases core_ahead c.reverse with ⟨m, hm⟩ | ⟨m, d, hd, dl, d0⟩
    · have hc : c = List.replicate m 0 := by rw [← List.reverse_reverse c, hm, List.reverse_replicate]
      rw [hc] at h0
      exact absurd (rd_zeros m 0) h0
    · have hc : c = d.reverse ++ List.replicate m 0 := by rw [← List.reverse_reverse c, hd, List.reverse_append, List.reverse_replicate]
      refine ⟨n, d.reverse, m, by rw [hc], by simpa using dl, ?_, ?_⟩
      · have := rd_append_left d.reverse (List.replicate m 0) 0 (by simpa using dl)
        rw [hc] at h0
        intro hz
        exact h0 (this.trans hz)
      · rw [List.length_reverse]
        have e1 : (d.length : Int) - 1 = ((d.length - 1 : Nat) : Int) := by omega
        rw [e1, rd_reverse d _ (by omega)]
        have e2 : d.length - 1 - (d.length - 1) = 0 := by omega
        rw [e2]
        exact d0
end Go.Proofs.YtahkamggdbibiaaDoor.PZ
