/- The law RoundNearer, walked: it answers true.
   Conditions: the laid table of powers of ten reads. -/
import Derived.Test.YtogfokpmpdclbaaDoorLaw06
import Derived.Test.YtogfokpmpdclbaaDoorPureNear
set_option linter.unusedVariables false
set_option linter.unusedSimpArgs false
namespace Go.Proofs.YtogfokpmpdclbaaDoor.PZ
open Go.RowKit Go.Sort Go.Proofs.YtogfokpmpdclbaaDoorW.PrintWords Go.Proofs.YtogfokpmpdclbaaDoorW.PrintLast
theorem same_val (g : Bool) {a b : List Int} {ea eb : Int} (ha : RDec a ea) (hb : RDec b eb) : decide (g = g ∧ a = b ∧ ea = eb) = decide (valN a ea = valN b eb) := by
  rw [decide_eq_decide]
  constructor
  · rintro ⟨_, rfl, rfl⟩; rfl
  · intro h; exact ⟨rfl, rdec_same (g := g) ha hb h⟩
/-- Where nothing is as near as far: the ways to the nearer one are one; else each is one of two. -/
theorem nearer_cases (g : Bool) (V : Int) {U : Int} (hU : 0 < U) :
    (incQ g 4 V U * U = incQ g 5 V U * U ∧ incQ g 6 V U * U = incQ g 4 V U * U ∧ incQ g 7 V U * U = incQ g 4 V U * U) ∨
    (incQ g 4 V U * U ≠ incQ g 5 V U * U ∧ incQ g 4 V U * U = incQ g 0 V U * U ∧ incQ g 5 V U * U = incQ g 1 V U * U ∧
      ((incQ g 6 V U * U = incQ g 4 V U * U ∧ incQ g 7 V U * U = incQ g 5 V U * U) ∨ (incQ g 6 V U * U = incQ g 5 V U * U ∧ incQ g 7 V U * U = incQ g 4 V U * U))) := by
  obtain ⟨P, R, hV, hR0, hR1, hR, hP, hi⟩ := inc_val V hU
  simp only [hi]
  by_cases h0 : R = 0
  · left; simp [h0]
  · simp only [if_neg h0]
    have e4 : wayB g 4 R U (V / U) = decide (U ≤ 2 * R) := rfl
    have e5 : wayB g 5 R U (V / U) = decide (U < 2 * R) := rfl
    have e6 : wayB g 6 R U (V / U) = decide (U < 2 * R ∨ U = 2 * R ∧ V / U % 2 = 1) := rfl
    have e7 : wayB g 7 R U (V / U) = decide (U < 2 * R ∨ U = 2 * R ∧ V / U % 2 = 0) := rfl
    have e0 : wayB g 0 R U (V / U) = true := rfl
    have e1 : wayB g 1 R U (V / U) = false := rfl
    rw [e4, e5, e6, e7, e0, e1]
    simp only [decide_eq_true_eq]
    clear hR hP hi hV e0 e1 e4 e5 e6 e7
    generalize V / U = Q
    rcases Int.lt_trichotomy (2 * R) U with h | h | h
    · left
      rw [if_neg (by omega), if_neg (by omega), if_neg (by omega), if_neg (by omega)]
      simp
    · right
      have c1 : U ≤ 2 * R := by omega
      have c2 : ¬ U < 2 * R := by omega
      rcases Int.emod_two_eq Q with h2 | h2
      · have c3 : ¬ (U < 2 * R ∨ U = 2 * R ∧ Q % 2 = 1) := by omega
        have c4 : U < 2 * R ∨ U = 2 * R ∧ Q % 2 = 0 := by omega
        simp only [if_pos c1, if_neg c2, if_neg c3, if_pos c4]
        simp
        omega
      · have c3 : U < 2 * R ∨ U = 2 * R ∧ Q % 2 = 1 := by omega
        have c4 : ¬ (U < 2 * R ∨ U = 2 * R ∧ Q % 2 = 0) := by omega
        simp only [if_pos c1, if_neg c2, if_pos c3, if_neg c4]
        simp
        omega
    · left
      rw [if_pos (by omega), if_pos (by omega), if_pos (by omega), if_pos (by omega)]
      simp
def exerguelaw06_RoundNearer.f (k : Nat) (g : Bool) (l : List Int) (e kk place : Int) : Option Bool := if (l.length * 1 ≤ 140737488351232 ∧ ∀ b_ ∈ l, (Lit.int .u8 b_).wf = true) then some true else none
set_option maxRecDepth 100000 in
set_option maxHeartbeats 2000000 in
theorem exerguelaw06_RoundNearer.calls (k : Nat) (a0_0 : Bool) (A0_1 : Option Addr) (c0_1 : Nat) (l0_1 : List Int) (a0_2 : Int) (a1 a2 : Int) (r : Bool) (w : World) (hG : GL w) (hr0_1 : Kd.C (Kd.int .u8) w A0_1 l0_1.length l0_1) (hc0_1 : l0_1.length ≤ c0_1) (h : exerguelaw06_RoundNearer.f k a0_0 l0_1 a0_2 a1 a2 = some r) :
    Calls Tryd.prog 6 #[.agg #[.bool a0_0, .slice A0_1 l0_1.length c0_1, .int .i64 a0_2], .int .i64 a1, .int .i64 a2] w fun e w' => e = .returned (.bool r) ∧ Below w.heap.size w w' := by
  unfold exerguelaw06_RoundNearer.f at h
  split at h
  · obtain rfl := Option.some.inj h
    rename_i hb
    obtain ⟨hz, hw⟩ := hb
    have HG := Aside0.mk hG
    have hu2 := Tryd.underlying24
    have hnear := near_ev a0_0 a1 a2 0 hz hw (e := a0_2)
    have HB := Aside0.mk ((show Boxes [] w w from ⟨fun x hx => (by cases hx), Below.refl _ w⟩).push a0_0 a0_2 (DRow.mk hr0_1 hc0_1))
    clear hr0_1 hc0_1 hz hw hG h
    rcases hnear with ⟨n1, hd, hun⟩ | n1
    · obtain ⟨n, hn⟩ := n1.rounds
      have HNR := Aside0.mk hn
      clear n1 hn
      obtain ⟨l4, e4, x4, r4, v4, _⟩ := inc_of a0_0 hd (hun.mode (m := 4) (by omega))
      obtain ⟨l5, e5, x5, r5, v5, _⟩ := inc_of a0_0 hd (hun.mode (m := 5) (by omega))
      obtain ⟨l6, e6, x6, r6, v6, _⟩ := inc_of a0_0 hd (hun.mode (m := 6) (by omega))
      obtain ⟨l7, e7, x7, r7, v7, _⟩ := inc_of a0_0 hd (hun.mode (m := 7) (by omega))
      obtain ⟨l0, e0, x0, r0, v0, _⟩ := inc_of a0_0 hd (hun.mode (m := 0) (by omega))
      obtain ⟨l1, e1, x1, r1, v1, _⟩ := inc_of a0_0 hd (hun.mode (m := 1) (by omega))
      have hc := nearer_cases a0_0 (valN l0_1 a0_2) (unitV_pos hun.k.1 (place := a2))
      rw [← v4, ← v5, ← v6, ← v7, ← v0, ← v1] at hc
      obtain ⟨_, q4⟩ := x4.rounds
      obtain ⟨_, q5⟩ := x5.rounds
      obtain ⟨_, q6⟩ := x6.rounds
      obtain ⟨_, q7⟩ := x7.rounds
      obtain ⟨_, q0⟩ := x0.rounds
      obtain ⟨_, q1⟩ := x1.rounds
      obtain ⟨_, s45⟩ := same_n a0_0 a0_0 (b := l5) (eb := e5) r4
      obtain ⟨_, s64⟩ := same_n a0_0 a0_0 (b := l4) (eb := e4) r6
      obtain ⟨_, s74⟩ := same_n a0_0 a0_0 (b := l4) (eb := e4) r7
      obtain ⟨_, s75⟩ := same_n a0_0 a0_0 (b := l5) (eb := e5) r7
      obtain ⟨_, s65⟩ := same_n a0_0 a0_0 (b := l5) (eb := e5) r6
      obtain ⟨_, s40⟩ := same_n a0_0 a0_0 (b := l0) (eb := e0) r4
      obtain ⟨_, s51⟩ := same_n a0_0 a0_0 (b := l1) (eb := e1) r5
      rw [same_val a0_0 r4 r5] at s45
      rw [same_val a0_0 r6 r4] at s64
      rw [same_val a0_0 r7 r4] at s74
      rw [same_val a0_0 r7 r5] at s75
      rw [same_val a0_0 r6 r5] at s65
      rw [same_val a0_0 r4 r0] at s40
      rw [same_val a0_0 r5 r1] at s51
      have H4 := Aside0.mk q4
      have H5 := Aside0.mk q5
      have H6 := Aside0.mk q6
      have H7 := Aside0.mk q7
      have H0 := Aside0.mk q0
      have H1 := Aside0.mk q1
      clear x4 x5 x6 x7 x0 x1 v4 v5 v6 v7 v0 v1 q4 q5 q6 q7 q0 q1 hd hun
      rcases hc with ⟨h1, h2, h3⟩ | ⟨h1, h2, h3, hc⟩
      · rw [decide_eq_true h1] at s45
        rw [decide_eq_true h2] at s64
        rw [decide_eq_true h3] at s74
        have S45 := Aside0.mk s45
        have S64 := Aside0.mk s64
        have S74 := Aside0.mk s74
        clear s45 s64 s74 s75 s65 s40 s51 h1 h2 h3 r4 r5 r6 r7 r0 r1
        go_enter Tryd.func6, Tryd.ntmps6
        -- BEGIN A
        go_wp2_with (first | (go_at_call 9; have hq := shown_b HG.out HB.out; (with_reducible refine hq.mono ?_); clear hq; rintro e_ w' ⟨rfl, hb_⟩; (try clear HC); have HB' := Aside0.mk (Boxes.below HB.out hb_); clear HB; have HB := HB'; clear HB'; have HC := HB.out.cells; simp only [CellsAll, List.cons_append, List.nil_append, List.append_assoc] at HC; clear hb_) | (go_at_call 10; have hq := near_b HB.out 0 rfl HNR.out; (with_reducible refine hq.mono ?_); clear hq; rintro e_ w' ⟨rfl, hb_⟩; (try clear HC); have HB' := Aside0.mk (Boxes.below HB.out hb_); clear HB; have HB := HB'; clear HB'; have HC := HB.out.cells; simp only [CellsAll, List.cons_append, List.nil_append, List.append_assoc] at HC; clear hb_) | (go_at_call 12; have hq := inc_b HG.out HB.out 0 rfl H4.out; (with_reducible refine hq.mono ?_); clear hq; rintro e_ w' ⟨A4, c4, rfl, hx_, hb_⟩; (try clear HC); have HB' := Aside0.mk (Boxes.below HB.out hb_); clear HB; have HB := HB'; clear HB'; (try clear HP); have HP := Aside0.mk hx_; clear hx_; have HC := HB.out.cells; simp only [CellsAll, List.cons_append, List.nil_append, List.append_assoc] at HC; clear hb_) | (go_at_call 12; have hq := inc_b HG.out (HB.out.push a0_0 e4 HP.out) 0 rfl H5.out; (with_reducible refine hq.mono ?_); clear hq; rintro e_ w' ⟨A5, c5, rfl, hx_, hb_⟩; (try clear HC); have HB' := Aside0.mk (Boxes.below (HB.out.push a0_0 e4 HP.out) hb_); clear HB; have HB := HB'; clear HB'; (try clear HP); have HP := Aside0.mk hx_; clear hx_; have HC := HB.out.cells; simp only [CellsAll, List.cons_append, List.nil_append, List.append_assoc] at HC; clear hb_) | (go_at_call 12; have hq := inc_b HG.out (HB.out.push a0_0 e5 HP.out) 0 rfl H6.out; (with_reducible refine hq.mono ?_); clear hq; rintro e_ w' ⟨A6, c6, rfl, hx_, hb_⟩; (try clear HC); have HB' := Aside0.mk (Boxes.below (HB.out.push a0_0 e5 HP.out) hb_); clear HB; have HB := HB'; clear HB'; (try clear HP); have HP := Aside0.mk hx_; clear hx_; have HC := HB.out.cells; simp only [CellsAll, List.cons_append, List.nil_append, List.append_assoc] at HC; clear hb_) | (go_at_call 12; have hq := inc_b HG.out (HB.out.push a0_0 e6 HP.out) 0 rfl H7.out; (with_reducible refine hq.mono ?_); clear hq; rintro e_ w' ⟨A7, c7, rfl, hx_, hb_⟩; (try clear HC); have HB' := Aside0.mk (Boxes.below (HB.out.push a0_0 e6 HP.out) hb_); clear HB; have HB := HB'; clear HB'; (try clear HP); have HP := Aside0.mk hx_; clear hx_; have HC := HB.out.cells; simp only [CellsAll, List.cons_append, List.nil_append, List.append_assoc] at HC; clear hb_) | (go_at_call 15; have hq := same_b (HB.out.push a0_0 e7 HP.out) 1 2 rfl rfl S45.out; (with_reducible refine hq.mono ?_); clear hq; rintro e_ w' ⟨rfl, hb_⟩; (try clear HC); have HB' := Aside0.mk (Boxes.below (HB.out.push a0_0 e7 HP.out) hb_); clear HB; have HB := HB'; clear HB'; have HC := HB.out.cells; simp only [CellsAll, List.cons_append, List.nil_append, List.append_assoc] at HC; clear hb_) | (go_at_call 15; have hq := same_b HB.out 3 1 rfl rfl S64.out; (with_reducible refine hq.mono ?_); clear hq; rintro e_ w' ⟨rfl, hb_⟩; (try clear HC); have HB' := Aside0.mk (Boxes.below HB.out hb_); clear HB; have HB := HB'; clear HB'; have HC := HB.out.cells; simp only [CellsAll, List.cons_append, List.nil_append, List.append_assoc] at HC; clear hb_) | (go_at_call 15; have hq := same_b HB.out 4 1 rfl rfl S74.out; (with_reducible refine hq.mono ?_); clear hq; rintro e_ w' ⟨rfl, hb_⟩; (try clear HC); have HB' := Aside0.mk (Boxes.below HB.out hb_); clear HB; have HB := HB'; clear HB'; have HC := HB.out.cells; simp only [CellsAll, List.cons_append, List.nil_append, List.append_assoc] at HC; clear hb_))
        -- END A
        go_ret
        exact ⟨rfl, HB.out.2⟩
      · rw [decide_eq_false h1] at s45
        rw [decide_eq_true h2] at s40
        rw [decide_eq_true h3] at s51
        have S45 := Aside0.mk s45
        have S40 := Aside0.mk s40
        have S51 := Aside0.mk s51
        clear s45 s40 s51 h2 h3
        rcases hc with ⟨h2, h3⟩ | ⟨h2, h3⟩
        · rw [decide_eq_true h2] at s64
          rw [decide_eq_true h3] at s75
          have S64 := Aside0.mk s64
          have S75 := Aside0.mk s75
          clear s64 s74 s75 s65 h1 h2 h3 r4 r5 r6 r7 r0 r1
          go_enter Tryd.func6, Tryd.ntmps6
          -- BEGIN B1
          go_wp2_with (first | (go_at_call 9; have hq := shown_b HG.out HB.out; (with_reducible refine hq.mono ?_); clear hq; rintro e_ w' ⟨rfl, hb_⟩; (try clear HC); have HB' := Aside0.mk (Boxes.below HB.out hb_); clear HB; have HB := HB'; clear HB'; have HC := HB.out.cells; simp only [CellsAll, List.cons_append, List.nil_append, List.append_assoc] at HC; clear hb_) | (go_at_call 10; have hq := near_b HB.out 0 rfl HNR.out; (with_reducible refine hq.mono ?_); clear hq; rintro e_ w' ⟨rfl, hb_⟩; (try clear HC); have HB' := Aside0.mk (Boxes.below HB.out hb_); clear HB; have HB := HB'; clear HB'; have HC := HB.out.cells; simp only [CellsAll, List.cons_append, List.nil_append, List.append_assoc] at HC; clear hb_) | (go_at_call 12; have hq := inc_b HG.out HB.out 0 rfl H4.out; (with_reducible refine hq.mono ?_); clear hq; rintro e_ w' ⟨A4, c4, rfl, hx_, hb_⟩; (try clear HC); have HB' := Aside0.mk (Boxes.below HB.out hb_); clear HB; have HB := HB'; clear HB'; (try clear HP); have HP := Aside0.mk hx_; clear hx_; have HC := HB.out.cells; simp only [CellsAll, List.cons_append, List.nil_append, List.append_assoc] at HC; clear hb_) | (go_at_call 12; have hq := inc_b HG.out (HB.out.push a0_0 e4 HP.out) 0 rfl H5.out; (with_reducible refine hq.mono ?_); clear hq; rintro e_ w' ⟨A5, c5, rfl, hx_, hb_⟩; (try clear HC); have HB' := Aside0.mk (Boxes.below (HB.out.push a0_0 e4 HP.out) hb_); clear HB; have HB := HB'; clear HB'; (try clear HP); have HP := Aside0.mk hx_; clear hx_; have HC := HB.out.cells; simp only [CellsAll, List.cons_append, List.nil_append, List.append_assoc] at HC; clear hb_) | (go_at_call 12; have hq := inc_b HG.out (HB.out.push a0_0 e5 HP.out) 0 rfl H6.out; (with_reducible refine hq.mono ?_); clear hq; rintro e_ w' ⟨A6, c6, rfl, hx_, hb_⟩; (try clear HC); have HB' := Aside0.mk (Boxes.below (HB.out.push a0_0 e5 HP.out) hb_); clear HB; have HB := HB'; clear HB'; (try clear HP); have HP := Aside0.mk hx_; clear hx_; have HC := HB.out.cells; simp only [CellsAll, List.cons_append, List.nil_append, List.append_assoc] at HC; clear hb_) | (go_at_call 12; have hq := inc_b HG.out (HB.out.push a0_0 e6 HP.out) 0 rfl H7.out; (with_reducible refine hq.mono ?_); clear hq; rintro e_ w' ⟨A7, c7, rfl, hx_, hb_⟩; (try clear HC); have HB' := Aside0.mk (Boxes.below (HB.out.push a0_0 e6 HP.out) hb_); clear HB; have HB := HB'; clear HB'; (try clear HP); have HP := Aside0.mk hx_; clear hx_; have HC := HB.out.cells; simp only [CellsAll, List.cons_append, List.nil_append, List.append_assoc] at HC; clear hb_) | (go_at_call 15; have hq := same_b (HB.out.push a0_0 e7 HP.out) 1 2 rfl rfl S45.out; (with_reducible refine hq.mono ?_); clear hq; rintro e_ w' ⟨rfl, hb_⟩; (try clear HC); have HB' := Aside0.mk (Boxes.below (HB.out.push a0_0 e7 HP.out) hb_); clear HB; have HB := HB'; clear HB'; have HC := HB.out.cells; simp only [CellsAll, List.cons_append, List.nil_append, List.append_assoc] at HC; clear hb_) | (go_at_call 12; have hq := inc_b HG.out HB.out 0 rfl H0.out; (with_reducible refine hq.mono ?_); clear hq; rintro e_ w' ⟨A0, c0, rfl, hx_, hb_⟩; (try clear HC); have HB' := Aside0.mk (Boxes.below HB.out hb_); clear HB; have HB := HB'; clear HB'; (try clear HP); have HP := Aside0.mk hx_; clear hx_; have HC := HB.out.cells; simp only [CellsAll, List.cons_append, List.nil_append, List.append_assoc] at HC; clear hb_) | (go_at_call 12; have hq := inc_b HG.out (HB.out.push a0_0 e0 HP.out) 0 rfl H1.out; (with_reducible refine hq.mono ?_); clear hq; rintro e_ w' ⟨A1, c1, rfl, hx_, hb_⟩; (try clear HC); have HB' := Aside0.mk (Boxes.below (HB.out.push a0_0 e0 HP.out) hb_); clear HB; have HB := HB'; clear HB'; (try clear HP); have HP := Aside0.mk hx_; clear hx_; have HC := HB.out.cells; simp only [CellsAll, List.cons_append, List.nil_append, List.append_assoc] at HC; clear hb_) | (go_at_call 15; have hq := same_b (HB.out.push a0_0 e1 HP.out) 3 1 rfl rfl S64.out; (with_reducible refine hq.mono ?_); clear hq; rintro e_ w' ⟨rfl, hb_⟩; (try clear HC); have HB' := Aside0.mk (Boxes.below (HB.out.push a0_0 e1 HP.out) hb_); clear HB; have HB := HB'; clear HB'; have HC := HB.out.cells; simp only [CellsAll, List.cons_append, List.nil_append, List.append_assoc] at HC; clear hb_) | (go_at_call 15; have hq := same_b HB.out 4 2 rfl rfl S75.out; (with_reducible refine hq.mono ?_); clear hq; rintro e_ w' ⟨rfl, hb_⟩; (try clear HC); have HB' := Aside0.mk (Boxes.below HB.out hb_); clear HB; have HB := HB'; clear HB'; have HC := HB.out.cells; simp only [CellsAll, List.cons_append, List.nil_append, List.append_assoc] at HC; clear hb_) | (go_at_call 15; have hq := same_b HB.out 1 5 rfl rfl S40.out; (with_reducible refine hq.mono ?_); clear hq; rintro e_ w' ⟨rfl, hb_⟩; (try clear HC); have HB' := Aside0.mk (Boxes.below HB.out hb_); clear HB; have HB := HB'; clear HB'; have HC := HB.out.cells; simp only [CellsAll, List.cons_append, List.nil_append, List.append_assoc] at HC; clear hb_) | (go_at_call 15; have hq := same_b HB.out 2 6 rfl rfl S51.out; (with_reducible refine hq.mono ?_); clear hq; rintro e_ w' ⟨rfl, hb_⟩; (try clear HC); have HB' := Aside0.mk (Boxes.below HB.out hb_); clear HB; have HB := HB'; clear HB'; have HC := HB.out.cells; simp only [CellsAll, List.cons_append, List.nil_append, List.append_assoc] at HC; clear hb_))
          -- END B1
          go_ret
          exact ⟨rfl, HB.out.2⟩
        · rw [decide_eq_false (show ¬ valN l6 e6 = valN l4 e4 by omega)] at s64
          rw [decide_eq_true h2] at s65
          rw [decide_eq_true h3] at s74
          have S64 := Aside0.mk s64
          have S65 := Aside0.mk s65
          have S74 := Aside0.mk s74
          clear s64 s74 s75 s65 h1 h2 h3 r4 r5 r6 r7 r0 r1
          go_enter Tryd.func6, Tryd.ntmps6
          -- BEGIN B2
          go_wp2_with (first | (go_at_call 9; have hq := shown_b HG.out HB.out; (with_reducible refine hq.mono ?_); clear hq; rintro e_ w' ⟨rfl, hb_⟩; (try clear HC); have HB' := Aside0.mk (Boxes.below HB.out hb_); clear HB; have HB := HB'; clear HB'; have HC := HB.out.cells; simp only [CellsAll, List.cons_append, List.nil_append, List.append_assoc] at HC; clear hb_) | (go_at_call 10; have hq := near_b HB.out 0 rfl HNR.out; (with_reducible refine hq.mono ?_); clear hq; rintro e_ w' ⟨rfl, hb_⟩; (try clear HC); have HB' := Aside0.mk (Boxes.below HB.out hb_); clear HB; have HB := HB'; clear HB'; have HC := HB.out.cells; simp only [CellsAll, List.cons_append, List.nil_append, List.append_assoc] at HC; clear hb_) | (go_at_call 12; have hq := inc_b HG.out HB.out 0 rfl H4.out; (with_reducible refine hq.mono ?_); clear hq; rintro e_ w' ⟨A4, c4, rfl, hx_, hb_⟩; (try clear HC); have HB' := Aside0.mk (Boxes.below HB.out hb_); clear HB; have HB := HB'; clear HB'; (try clear HP); have HP := Aside0.mk hx_; clear hx_; have HC := HB.out.cells; simp only [CellsAll, List.cons_append, List.nil_append, List.append_assoc] at HC; clear hb_) | (go_at_call 12; have hq := inc_b HG.out (HB.out.push a0_0 e4 HP.out) 0 rfl H5.out; (with_reducible refine hq.mono ?_); clear hq; rintro e_ w' ⟨A5, c5, rfl, hx_, hb_⟩; (try clear HC); have HB' := Aside0.mk (Boxes.below (HB.out.push a0_0 e4 HP.out) hb_); clear HB; have HB := HB'; clear HB'; (try clear HP); have HP := Aside0.mk hx_; clear hx_; have HC := HB.out.cells; simp only [CellsAll, List.cons_append, List.nil_append, List.append_assoc] at HC; clear hb_) | (go_at_call 12; have hq := inc_b HG.out (HB.out.push a0_0 e5 HP.out) 0 rfl H6.out; (with_reducible refine hq.mono ?_); clear hq; rintro e_ w' ⟨A6, c6, rfl, hx_, hb_⟩; (try clear HC); have HB' := Aside0.mk (Boxes.below (HB.out.push a0_0 e5 HP.out) hb_); clear HB; have HB := HB'; clear HB'; (try clear HP); have HP := Aside0.mk hx_; clear hx_; have HC := HB.out.cells; simp only [CellsAll, List.cons_append, List.nil_append, List.append_assoc] at HC; clear hb_) | (go_at_call 12; have hq := inc_b HG.out (HB.out.push a0_0 e6 HP.out) 0 rfl H7.out; (with_reducible refine hq.mono ?_); clear hq; rintro e_ w' ⟨A7, c7, rfl, hx_, hb_⟩; (try clear HC); have HB' := Aside0.mk (Boxes.below (HB.out.push a0_0 e6 HP.out) hb_); clear HB; have HB := HB'; clear HB'; (try clear HP); have HP := Aside0.mk hx_; clear hx_; have HC := HB.out.cells; simp only [CellsAll, List.cons_append, List.nil_append, List.append_assoc] at HC; clear hb_) | (go_at_call 15; have hq := same_b (HB.out.push a0_0 e7 HP.out) 1 2 rfl rfl S45.out; (with_reducible refine hq.mono ?_); clear hq; rintro e_ w' ⟨rfl, hb_⟩; (try clear HC); have HB' := Aside0.mk (Boxes.below (HB.out.push a0_0 e7 HP.out) hb_); clear HB; have HB := HB'; clear HB'; have HC := HB.out.cells; simp only [CellsAll, List.cons_append, List.nil_append, List.append_assoc] at HC; clear hb_) | (go_at_call 12; have hq := inc_b HG.out HB.out 0 rfl H0.out; (with_reducible refine hq.mono ?_); clear hq; rintro e_ w' ⟨A0, c0, rfl, hx_, hb_⟩; (try clear HC); have HB' := Aside0.mk (Boxes.below HB.out hb_); clear HB; have HB := HB'; clear HB'; (try clear HP); have HP := Aside0.mk hx_; clear hx_; have HC := HB.out.cells; simp only [CellsAll, List.cons_append, List.nil_append, List.append_assoc] at HC; clear hb_) | (go_at_call 12; have hq := inc_b HG.out (HB.out.push a0_0 e0 HP.out) 0 rfl H1.out; (with_reducible refine hq.mono ?_); clear hq; rintro e_ w' ⟨A1, c1, rfl, hx_, hb_⟩; (try clear HC); have HB' := Aside0.mk (Boxes.below (HB.out.push a0_0 e0 HP.out) hb_); clear HB; have HB := HB'; clear HB'; (try clear HP); have HP := Aside0.mk hx_; clear hx_; have HC := HB.out.cells; simp only [CellsAll, List.cons_append, List.nil_append, List.append_assoc] at HC; clear hb_) | (go_at_call 15; have hq := same_b (HB.out.push a0_0 e1 HP.out) 3 1 rfl rfl S64.out; (with_reducible refine hq.mono ?_); clear hq; rintro e_ w' ⟨rfl, hb_⟩; (try clear HC); have HB' := Aside0.mk (Boxes.below (HB.out.push a0_0 e1 HP.out) hb_); clear HB; have HB := HB'; clear HB'; have HC := HB.out.cells; simp only [CellsAll, List.cons_append, List.nil_append, List.append_assoc] at HC; clear hb_) | (go_at_call 15; have hq := same_b HB.out 3 2 rfl rfl S65.out; (with_reducible refine hq.mono ?_); clear hq; rintro e_ w' ⟨rfl, hb_⟩; (try clear HC); have HB' := Aside0.mk (Boxes.below HB.out hb_); clear HB; have HB := HB'; clear HB'; have HC := HB.out.cells; simp only [CellsAll, List.cons_append, List.nil_append, List.append_assoc] at HC; clear hb_) | (go_at_call 15; have hq := same_b HB.out 4 1 rfl rfl S74.out; (with_reducible refine hq.mono ?_); clear hq; rintro e_ w' ⟨rfl, hb_⟩; (try clear HC); have HB' := Aside0.mk (Boxes.below HB.out hb_); clear HB; have HB := HB'; clear HB'; have HC := HB.out.cells; simp only [CellsAll, List.cons_append, List.nil_append, List.append_assoc] at HC; clear hb_) | (go_at_call 15; have hq := same_b HB.out 1 5 rfl rfl S40.out; (with_reducible refine hq.mono ?_); clear hq; rintro e_ w' ⟨rfl, hb_⟩; (try clear HC); have HB' := Aside0.mk (Boxes.below HB.out hb_); clear HB; have HB := HB'; clear HB'; have HC := HB.out.cells; simp only [CellsAll, List.cons_append, List.nil_append, List.append_assoc] at HC; clear hb_) | (go_at_call 15; have hq := same_b HB.out 2 6 rfl rfl S51.out; (with_reducible refine hq.mono ?_); clear hq; rintro e_ w' ⟨rfl, hb_⟩; (try clear HC); have HB' := Aside0.mk (Boxes.below HB.out hb_); clear HB; have HB := HB'; clear HB'; have HC := HB.out.cells; simp only [CellsAll, List.cons_append, List.nil_append, List.append_assoc] at HC; clear hb_))
          -- END B2
          go_ret
          exact ⟨rfl, HB.out.2⟩
    · obtain ⟨n, hn⟩ := n1.rounds
      have HNR := Aside0.mk hn
      clear n1 hn
      go_enter Tryd.func6, Tryd.ntmps6
      -- BEGIN OFF
      go_wp2_with (first | (go_at_call 9; have hq := shown_b HG.out HB.out; (with_reducible refine hq.mono ?_); clear hq; rintro e_ w' ⟨rfl, hb_⟩; (try clear HC); have HB' := Aside0.mk (Boxes.below HB.out hb_); clear HB; have HB := HB'; clear HB'; have HC := HB.out.cells; simp only [CellsAll, List.cons_append, List.nil_append, List.append_assoc] at HC; clear hb_) | (go_at_call 10; have hq := near_b HB.out 0 rfl HNR.out; (with_reducible refine hq.mono ?_); clear hq; rintro e_ w' ⟨rfl, hb_⟩; (try clear HC); have HB' := Aside0.mk (Boxes.below HB.out hb_); clear HB; have HB := HB'; clear HB'; have HC := HB.out.cells; simp only [CellsAll, List.cons_append, List.nil_append, List.append_assoc] at HC; clear hb_))
      -- END OFF
      go_ret
      exact ⟨rfl, HB.out.2⟩
  · cases h
end Go.Proofs.YtogfokpmpdclbaaDoor.PZ
