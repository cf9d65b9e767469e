/- RoundSig, the pure statement: what the law computes is true.
   Conditions: none. -/
import Derived.Test.YtogfokpmpdclbaaDoorSigDefs
import Derived.Test.YtogfokpmpdclbaaDoorPureNear
set_option linter.unusedSimpArgs false
set_option linter.unusedVariables false
namespace Go.Proofs.YtogfokpmpdclbaaDoor.PZ
open Go.RowKit Go.Proofs.YtogfokpmpdclbaaDoorW.PrintWords Go.Proofs.YtogfokpmpdclbaaDoorW.PrintLast
def rmag (l : List Int) (e : Int) : Int := if l.length = 0 then 0 else e + l.length - 1
theorem rmag_f (g : Bool) (l : List Int) (e : Int) (hl : l.length ≤ 100000) (he : -100000 ≤ e ∧ e ≤ 100000) : exergueref05_Mag.f g l e = some (rmag l e) := by
  unfold exergueref05_Mag.f rmag
  by_cases h : l.length = 0
  · rw [if_pos (by omega), if_pos h]
  · rw [if_neg (by omega), if_neg h, w64 (e + (l.length : Int)) (by omega) (by omega), w64 _ (by omega) (by omega)]
/-- A right number that is at most 10^k units of a power of ten has at most k figures. -/
theorem sig_len {l : List Int} {e place q : Int} {k : Nat} (h : RDec l e) (hk : 1 ≤ k) (hp : -2000 ≤ place) (hv : valN l e = q * T10 (place + 3000).toNat) (h0 : 0 ≤ q) (h1 : q ≤ T10 k) : l.length ≤ k := by
  apply Classical.byContradiction
  intro hn
  have hl : 0 < l.length := by omega
  obtain ⟨a, d, rfl⟩ := eq_snoc l hl
  have hd := (h.figs.right).head
  have hla : (a ++ [d]).length = a.length + 1 := by simp
  have hlast := h.last hl
  have e1 : ((a ++ [d]).length : Int) - 1 = ((a.length : Nat) : Int) := by omega
  rw [e1, rd_append_right _ _ _ (Nat.le_refl _), Nat.sub_self] at hlast
  have hd0 : 0 < d := hlast
  have hx := h.exp
  unfold valN at hv
  have hmod : num (a ++ [d]) % 10 = d := by rw [num_snoc]; omega
  by_cases c : e < place
  · obtain ⟨s, hs⟩ : ∃ s : Nat, (place + 3000).toNat = (s + 1) + (e + 3000).toNat := ⟨(place - e - 1).toNat, by omega⟩
    rw [hs, T10_add, ← Int.mul_assoc] at hv
    have := Int.eq_of_mul_eq_mul_right (Int.ne_of_gt (T10_pos _)) hv
    rw [T10_succ, ← Int.mul_assoc] at this
    omega
  · obtain ⟨s, hs⟩ : ∃ s : Nat, (e + 3000).toNat = s + (place + 3000).toNat := ⟨(e - place).toNat, by omega⟩
    rw [hs, T10_add, ← Int.mul_assoc] at hv
    have hq := Int.eq_of_mul_eq_mul_right (Int.ne_of_gt (T10_pos _)) hv
    have hn0 := num_pos h.figs hl (h.first hl)
    have hs1 : 1 ≤ T10 s := T10_pos s
    have hle : num (a ++ [d]) * 1 ≤ num (a ++ [d]) * T10 s := Int.mul_le_mul_of_nonneg_left hs1 (num_lt h.figs).1
    have hT := T10_le (show k ≤ (a ++ [d]).length - 1 by omega)
    obtain ⟨k', rfl⟩ : ∃ k', k = k' + 1 := ⟨k - 1, by omega⟩
    rw [T10_succ] at hT h1
    omega
theorem sig_bound (g : Bool) {l : List Int} {e mode place : Int} {k : Nat} (h : RDec l e) (hp : place = e + l.length - k) (hp2 : -2000 ≤ place) : incQ g mode (valN l e) (unitV 1 place) ≤ T10 k ∧ 0 ≤ incQ g mode (valN l e) (unitV 1 place) := by
  have hU := unitV_pos (k := 1) (place := place) (by omega)
  have hx := h.exp
  have hn := num_lt h.figs
  have hlt : valN l e < T10 k * unitV 1 place := by
    unfold valN unitV
    rw [Int.one_mul, ← T10_add, show k + (place + 3000).toNat = l.length + (e + 3000).toNat by omega, T10_add]
    exact Int.mul_lt_mul_of_pos_right hn.2 (T10_pos _)
  have hd : valN l e / unitV 1 place < T10 k := Int.ediv_lt_of_lt_mul hU hlt
  have hd0 : 0 ≤ valN l e / unitV 1 place := Int.ediv_nonneg (valN_nonneg h.figs e) (Int.le_of_lt hU)
  unfold incQ
  split
  · omega
  · split <;> omega
theorem sig_whole {l : List Int} {e place : Int} (hp : place ≤ e) (hp2 : -2000 ≤ place) : valN l e % unitV 1 place = 0 := by
  unfold valN unitV
  rw [Int.one_mul, show (e + 3000).toNat = (e - place).toNat + (place + 3000).toNat by omega, T10_add, ← Int.mul_assoc]
  exact Int.mul_emod_left _ _
theorem sig_open (g : Bool) {l : List Int} {e k mode : Int} (hm : 0 ≤ mode ∧ mode ≤ 7) (hk : 1 ≤ k) {r : Bool × List Int × Int × Int} (h : Ev (fun n => round_Sig.j0 n k mode false g l e) r) : Ev (fun n => round_Sig.f n g l e k mode) r := by
  unfold round_Sig.f
  rw [is_f hm]
  simp only [Option.bind_some, if_true, decide_eq_false (show ¬ k < 1 by omega)]
  exact h
theorem sig_off (k mode : Int) (g : Bool) (l : List Int) (e : Int) : Ev (fun n => exerguelaw06_RoundSig.j0 n mode true k true g l e) true := by
  refine Ev_shift ?_
  simp only [exerguelaw06_RoundSig.j0, if_true]
  exact Ev.now true
theorem sig_on (g : Bool) {l : List Int} {e mode q : Int} (hd : NearD l e) (hm : 0 ≤ mode ∧ mode ≤ 7) (hq1 : 1 ≤ q ∧ q ≤ 60) : Ev (fun n => exerguelaw06_RoundSig.j0 n mode true q false g l e) true := by
  have hdl := hd.len
  have hde := hd.exp
  have hmg := rmag_f g l e (by omega) (by omega)
  obtain ⟨mg, hmg2⟩ : ∃ x, rmag l e = x := ⟨_, rfl⟩
  have hmr : -60 ≤ mg ∧ mg ≤ 100 := by rw [← hmg2]; unfold rmag; split <;> omega
  rw [hmg2] at hmg
  obtain ⟨p, hp⟩ : ∃ p, mg - q + 1 = p := ⟨_, rfl⟩
  have hpr : -120 ≤ p ∧ p ≤ 120 := by omega
  have e1 : wrap64 (wrap64 (mg - q) + 1) = p := by rw [w64 (mg - q) (by omega) (by omega), w64 (mg - q + 1) (by omega) (by omega), hp]
  obtain ⟨ly, ey, y1, y2, y3, y4⟩ := inc_near g hd.r hd.len hd.exp (show (1 : Int) ≤ 1 ∧ (1 : Int) ≤ 1000000000 by omega) hpr hm
  refine Ev_shift ?_
  simp only [exerguelaw06_RoundSig.j0, Bool.false_eq_true, if_false, if_true]
  by_cases h0 : l.length = 0
  · have hs : Ev (fun n => round_Sig.f n g l e q mode) (g, l, e, 0) := by
      refine sig_open g hm hq1.1 (Ev_shift ?_)
      simp only [round_Sig.j0, Bool.false_eq_true, if_false, mag_e g l e (by omega) (by omega), Option.bind_some, if_pos (show (l.length : Int) = 0 by omega)]
      exact Ev.now _
    refine Ev.bind hs ?_
    simp only [hmg, Option.bind_some, e1]
    refine Ev.bind (to_of g y1) ?_
    simp only [if_true, if_pos (show (l.length : Int) ≤ q by omega), if_neg (show ¬ (l.length : Int) > q by omega)]
    refine Ev.bind (same_self g l e (by omega)) ?_
    simp only [if_true, if_pos (show (l.length : Int) = 0 by omega)]
    exact Ev.now _
  · have hmag : mag l e = mg := by rw [← hmg2]; unfold mag rmag mx; rw [if_neg h0]; split <;> omega
    have hpp : p = e + l.length - q := by rw [← hp, ← hmg2]; unfold rmag; rw [if_neg h0]; omega
    have hs : Ev (fun n => round_Sig.f n g l e q mode) (g, ly, ey, 0) := by
      refine sig_open g hm hq1.1 (Ev_shift ?_)
      simp only [round_Sig.j0, Bool.false_eq_true, if_false, mag_e g l e (by omega) (by omega), Option.bind_some, if_neg (show ¬ (l.length : Int) = 0 by omega), hmag, e1, if_neg (show ¬ p < -1000 by omega)]
      exact Ev.bind (to_of g y1) (Ev.now _)
    have hqn : ((q.toNat : Nat) : Int) = q := by omega
    have hb := sig_bound g (mode := mode) (k := q.toNat) hd.r (place := p) (by rw [hqn]; exact hpp) (by omega)
    have hlen := sig_len y2 (k := q.toNat) (place := p) (by omega) (by omega) (by rw [y3]; unfold unitV; rw [Int.one_mul]) hb.2 hb.1
    have hly := y2.len
    refine Ev.bind hs ?_
    simp only [hmg, Option.bind_some, e1]
    refine Ev.bind (to_of g y1) ?_
    simp only [if_true, if_pos (show (ly.length : Int) ≤ q by omega)]
    by_cases hlq : (l.length : Int) > q
    · simp only [if_pos hlq, if_neg (show ¬ (l.length : Int) = 0 by omega)]
      refine Ev.bind (same_self g ly ey (by omega)) ?_
      exact Ev.now _
    · obtain ⟨rfl, rfl⟩ := y4 (sig_whole (by omega) (by omega))
      simp only [if_neg hlq]
      refine Ev.bind (same_self g ly ey (by omega)) ?_
      simp only [if_true, if_neg (show ¬ (ly.length : Int) = 0 by omega)]
      refine Ev.bind (same_self g ly ey (by omega)) ?_
      exact Ev.now _
end Go.Proofs.YtogfokpmpdclbaaDoor.PZ
namespace Go.Proofs.YtogfokpmpdclbaaDoor
open PZ Go.RowKit Go.Proofs.YtogfokpmpdclbaaDoorW.PrintWords
theorem Pure.RoundSig : ∀ (x0_0 : Bool) (x0_1 : List Int) (x0_2 : Int) (x1 : Int) (x2 : Int), x0_1.length * 1 ≤ 140737488351232 → (∀ b_ ∈ x0_1, (Lit.int .u8 b_).wf = true) → (Lit.int .i64 x0_2).wf = true → (Lit.int .u8 x1).wf = true → (Lit.int .i64 x2).wf = true → ∃ k, exerguelaw06_RoundSig.f k x0_0 x0_1 x0_2 x1 x2 = some true := by
  intro g l e m mode hz hw _ hm _
  apply Ev.rounds
  have hm8 := wf_u8 hm
  have e2 : wrap64 (wrap64 (Int.tmod m 60) + 1) = m % 60 + 1 := by rw [Int.tmod_eq_emod_of_nonneg hm8.1, w64 (m % 60) (by omega) (by omega), w64 _ (by omega) (by omega)]
  unfold exerguelaw06_RoundSig.f
  refine Ev.bind shown_ev ?_
  rw [e2]
  rcases nearD_ev g hz hw (e := e) with ⟨n1, hd⟩ | n1
  · refine Ev.bind n1 ?_
    simp only [if_true, refis_f, Option.bind_some]
    by_cases ho : 0 ≤ mode ∧ mode ≤ 7
    · simp only [decide_eq_true ho, Bool.not_true]
      exact sig_on g hd ho (by omega)
    · simp only [decide_eq_false ho, Bool.not_false]
      exact sig_off _ _ _ _ _
  · refine Ev.bind n1 ?_
    simp only [Bool.false_eq_true, if_false]
    exact sig_off _ _ _ _ _
end Go.Proofs.YtogfokpmpdclbaaDoor
