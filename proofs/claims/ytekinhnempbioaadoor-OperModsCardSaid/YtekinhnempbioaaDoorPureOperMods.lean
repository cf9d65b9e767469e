/- OperMods, the pure statement: what the law computes is true.
   Conditions: none. -/
import Derived.Test.YtekinhnempbioaaDoorPZx17
import Derived.Test.YtekinhnempbioaaDoorPureShown07
set_option linter.unusedSimpArgs false
set_option linter.unusedVariables false
namespace Go.Proofs.YtekinhnempbioaaDoor.PZ
open Go.RowKit Go.Proofs.YtekinhnempbioaaDoorW.PrintWords Go.Proofs.YtekinhnempbioaaDoorW.PrintLast
theorem mod_both (a d b m : Int) : (a % m + d * (b % m)) % m = (a + d * b) % m := by
  rw [Int.add_emod, Int.emod_emod, Int.mul_emod d (b % m), Int.emod_emod, ← Int.mul_emod, ← Int.add_emod]
theorem refMod_l0 {l : List Int} (hf : Figs l) (hl : l.length ≤ 1000000) {m : Int} (hm : 1 ≤ m ∧ m ≤ 1000000000) (j : Nat) : j ≤ l.length → ∀ x : Int, x = (j : Int) - 1 → exergueref07_Mod.l0 (j + 1) l m (num (l.drop j) % m) (T10 (l.length - j) % m) x = some (num l % m) := by
  induction j with
  | zero =>
    intro _ x hx
    rw [exergueref07_Mod.l0, if_neg (by omega), List.drop_zero]
  | succ j ih =>
    intro hj x hx
    have hx' : x = (j : Int) := by omega
    subst hx'
    have hd := rd_figs hf j
    have h1 := Int.emod_nonneg (num (l.drop (j + 1))) (show m ≠ 0 by omega)
    have h2 := Int.emod_lt_of_pos (num (l.drop (j + 1))) (show 0 < m by omega)
    have h3 := Int.emod_nonneg (T10 (l.length - (j + 1))) (show m ≠ 0 by omega)
    have h4 := Int.emod_lt_of_pos (T10 (l.length - (j + 1))) (show 0 < m by omega)
    have h5 : 0 ≤ rd l j * (T10 (l.length - (j + 1)) % m) := Int.mul_nonneg hd.1 h3
    have h6 : rd l j * (T10 (l.length - (j + 1)) % m) ≤ 9 * (T10 (l.length - (j + 1)) % m) := Int.mul_le_mul_of_nonneg_right hd.2 h3
    rw [exergueref07_Mod.l0, if_pos (by omega), if_pos (by omega), if_pos (by omega), if_neg (by omega)]
    rw [w64 (rd l j) (by omega) (by omega), w64 (rd l j * _) (by omega) (by omega), w64 (_ + _) (by omega) (by omega), w64 (_ * 10) (by omega) (by omega), w64 ((j : Int) - 1) (by omega) (by omega)]
    rw [Int.tmod_eq_emod_of_nonneg (by omega), Int.tmod_eq_emod_of_nonneg (by omega), mod_both]
    have e1 : num (l.drop (j + 1)) + rd l j * T10 (l.length - (j + 1)) = num (l.drop j) := by
      rw [drop_cons l j (by omega), num_cons, List.length_drop]
      omega
    have e2 : T10 (l.length - (j + 1)) % m * 10 % m = T10 (l.length - j) % m := by
      have e3 : l.length - j = (l.length - (j + 1)) + 1 := by omega
      rw [e3, T10_succ, Int.mul_emod, Int.emod_emod, ← Int.mul_emod]
    rw [e1, e2]
    exact ih (by omega) _ rfl
theorem refMod_ev {l : List Int} (hf : Figs l) (hl : l.length ≤ 1000000) {m : Int} (hm : 1 ≤ m ∧ m ≤ 1000000000) : Ev (fun k => exergueref07_Mod.f k l m) (num l % m) := by
  refine Ev.of (k := l.length + 1) (fun k => exergueref07_Mod.mono _ _ k) ?_
  unfold exergueref07_Mod.f
  rw [if_neg (by omega), w64 _ (by omega) (by omega)]
  have := refMod_l0 hf hl hm l.length (Nat.le_refl _) _ rfl
  rw [List.drop_length, num_nil, Nat.sub_self, T10_zero] at this
  simpa using this
theorem refIn_l0 {l : List Int} (hf : Figs l) (hl : l.length ≤ 19) (x y : Int) (hx : -9223372036854775808 ≤ x ∧ x ≤ 9223372036854775807) (hy : -9223372036854775808 ≤ y ∧ y ≤ 9223372036854775807) (n : Nat) : ∀ i : Nat, i + n = l.length → exergueref07_In.l0 (n + 1) x y l (num (l.take i)) (i : Int) = some (inD l x y) := by
  have hT : T10 19 = 10000000000000000000 := by decide
  induction n with
  | zero =>
    intro i hi
    have hn := num_lt hf
    have h19 := T10_le hl
    rw [exergueref07_In.l0, if_neg (by omega), List.take_of_length_le (by omega)]
    unfold inD
    by_cases h0 : y ≥ 0
    · rw [if_pos h0, IntWalk.u64_in y (by omega)]
      by_cases h1 : num l ≤ y
      · rw [if_pos h1]
        by_cases h2 : x < 0
        · rw [if_pos h2, decide_eq_true (show 0 ≤ y ∧ (0 ≤ x → x ≤ num l) ∧ num l ≤ y from ⟨h0, by omega, h1⟩)]
        · rw [if_neg h2, IntWalk.u64_in x (by omega)]
          congr 1
          rw [decide_eq_decide]
          omega
      · rw [if_neg h1, decide_eq_false (by omega)]
    · rw [if_neg h0, decide_eq_false (by omega)]
  | succ n ih =>
    intro i hi
    have hd := rd_figs hf i
    have ht := num_lt (hf.take i)
    have hti := T10_le (show (l.take i).length ≤ 18 by rw [List.length_take]; omega)
    have hT8 : T10 18 = 1000000000000000000 := by decide
    rw [exergueref07_In.l0, if_pos (by omega), if_pos (by omega)]
    rw [IntWalk.u64_in (_ * 10) (by omega), IntWalk.u64_in (rd l i) (by omega), IntWalk.u64_in _ (by omega), w64 ((i : Int) + 1) (by omega) (by omega)]
    have := ih (i + 1) (by omega)
    rw [take_succ_snoc l i (by omega), num_snoc] at this
    simpa using this
theorem refIn_ev {l : List Int} (hf : Figs l) (hl : l.length ≤ 1000000) (x y : Int) (hx : -9223372036854775808 ≤ x ∧ x ≤ 9223372036854775807) (hy : -9223372036854775808 ≤ y ∧ y ≤ 9223372036854775807) : Ev (fun k => exergueref07_In.f k l x y) (inD l x y) := by
  unfold exergueref07_In.f
  refine Ev.bind (refBare_ev l (by omega)) ?_
  have hbf := bareL_figs hf
  have hT : T10 19 = 10000000000000000000 := by decide
  by_cases h : ((bareL l).length : Int) > 19
  · simp only [if_pos h]
    have : inD l x y = false := by
      unfold inD
      rw [decide_eq_false_iff_not]
      rintro ⟨_, _, h1⟩
      rw [← bareL_num] at h1
      have h2 := bareL_bare l
      have f0 := rd_figs hbf 0
      rw [Int.natCast_zero] at f0
      rcases h2 with h2 | h2
      · rw [h2] at h; simp at h
      · have h3 := num_pos hbf (by omega) (by omega)
        have h4 := T10_le (show 19 ≤ (bareL l).length - 1 by omega)
        omega
    rw [this]
    exact Ev.now _
  · simp only [if_neg h]
    have e : inD l x y = inD (bareL l) x y := by unfold inD; rw [bareL_num]
    rw [e]
    refine Ev.of (k := (bareL l).length + 1) (fun k => exergueref07_In.mono_l k _ _ _ _ _) ?_
    have := refIn_l0 hbf (by omega) x y hx hy (bareL l).length 0 (by omega)
    simpa [num_nil] using this
theorem mods_off (l : List Int) (m x y : Int) : Ev (fun k => exerguelaw07_OperMods.j0 k l m x y true true) true := by
  refine Ev_shift ?_
  simp only [exerguelaw07_OperMods.j0, if_true]
  exact Ev.now true
end Go.Proofs.YtekinhnempbioaaDoor.PZ
namespace Go.Proofs.YtekinhnempbioaaDoor
open PZ Go.RowKit Go.Proofs.YtekinhnempbioaaDoorW.PrintWords
theorem Pure.OperMods : ∀ (x0_0 : List Int) (x0_1 : Int) (x0_2 : Int) (x0_3 : Int), x0_0.length * 1 ≤ 140737488351232 → (∀ b_ ∈ x0_0, (Lit.int .u8 b_).wf = true) → (Lit.int .i64 x0_1).wf = true → (Lit.int .i64 x0_2).wf = true → (Lit.int .i64 x0_3).wf = true → ∃ k, exerguelaw07_OperMods.f k x0_0 x0_1 x0_2 x0_3 = some true := by
  intro l m x y hm hw _ hx hy
  have hx := wf_i64 hx
  have hy := wf_i64 hy
  apply Ev.rounds
  unfold exerguelaw07_OperMods.f
  refine Ev.bind shown_ev ?_
  by_cases h1 : (l.length : Int) > 1000
  · simp only [if_pos h1]
    exact mods_off l m x y
  · simp only [if_neg h1]
    refine Ev.bind (refFig_ev l (by omega)) ?_
    cases hb : figsB l with
    | false =>
      simp only [Bool.false_eq_true, if_false]
      exact mods_off l m x y
    | true =>
      have hf := (figsB_iff hw).1 hb
      simp only [if_true]
      by_cases h2 : m < 1
      · simp only [if_pos h2]
        exact mods_off l m x y
      · simp only [if_neg h2]
        by_cases h3 : m > 1000000000
        · simp only [decide_eq_true h3]
          exact mods_off l m x y
        · simp only [decide_eq_false h3]
          refine Ev_shift ?_
          simp only [exerguelaw07_OperMods.j0, Bool.false_eq_true, if_false, if_true]
          refine Ev.bind (mod_ev hf (by omega) (m := m) (by omega)) ?_
          refine Ev.bind (refMod_ev hf (by omega) (m := m) (by omega)) ?_
          simp only [if_true]
          refine Ev.bind (in_ev hf (by omega) x y hx hy) ?_
          refine Ev.bind (refIn_ev hf (by omega) x y hx hy) ?_
          simp only [beq_self_eq_true]
          exact Ev.now true
end Go.Proofs.YtekinhnempbioaaDoor
