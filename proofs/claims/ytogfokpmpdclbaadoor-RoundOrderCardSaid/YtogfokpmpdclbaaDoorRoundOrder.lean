/- The law RoundOrder, walked: it answers true.
   Conditions: the laid table of powers of ten reads. -/
import Derived.Test.YtogfokpmpdclbaaDoorLaw06C
set_option linter.unusedVariables false
set_option linter.unusedSimpArgs false
namespace Go.Proofs.YtogfokpmpdclbaaDoor.PZ
open Go.RowKit Go.Sort Go.Proofs.YtogfokpmpdclbaaDoorW.PrintWords Go.Proofs.YtogfokpmpdclbaaDoorW.PrintLast
/-- Rounding keeps the order of the sizes. -/
theorem incQ_mono (g : Bool) (m : Int) {V V' U : Int} (hU : 0 < U) (h : V ≤ V') : incQ g m V U ≤ incQ g m V' U := by
  have hd : V / U ≤ V' / U := Int.ediv_le_ediv hU h
  have e1 := Int.emod_add_mul_ediv V U
  have e2 := Int.emod_add_mul_ediv V' U
  have n1 := Int.emod_nonneg V (show U ≠ 0 by omega)
  have n2 := Int.emod_nonneg V' (show U ≠ 0 by omega)
  have b1 : incQ g m V U ≤ V / U + 1 := by unfold incQ; split <;> (try split) <;> omega
  have b2 : V' / U ≤ incQ g m V' U := by unfold incQ; split <;> (try split) <;> omega
  by_cases hq : V / U < V' / U
  · exact Int.le_trans b1 (Int.le_trans (by omega) b2)
  · have hq : V / U = V' / U := by
      generalize V / U = x at *
      generalize V' / U = y at *
      omega
    have hr : V % U ≤ V' % U := by
      rw [hq] at e1
      generalize U * (V' / U) = z at *
      omega
    by_cases h0 : V % U = 0
    · have : incQ g m V U = V / U := by unfold incQ; rw [if_pos h0]
      rw [this, hq]
      exact b2
    · have h1 : ¬ V' % U = 0 := by
        generalize V % U = x at *
        generalize V' % U = y at *
        omega
      unfold incQ
      rw [if_neg h0, if_neg h1, hq]
      have hw : wayB g m (V % U) U (V' / U) = true → wayB g m (V' % U) U (V' / U) = true := by
        unfold wayB
        clear e1 e2 b1 b2 hd
        generalize V' / U = q
        generalize V % U = x at *
        generalize V' % U = y at *
        repeat' split
        all_goals first
          | exact id
          | (simp only [decide_eq_true_eq]; intro h2; omega)
          | (simp only [decide_eq_true_eq]
             rintro (h2 | ⟨h2, h3⟩)
             · exact .inl (by omega)
             · by_cases h4 : x = y
               · exact .inr ⟨by omega, h3⟩
               · exact .inl (by omega))
      by_cases ht : wayB g m (V % U) U (V' / U) = true
      · rw [if_pos ht, if_pos (hw ht)]
        exact Int.le_refl _
      · rw [if_neg ht]
        split
        · exact Int.le_add_one (Int.le_refl _)
        · exact Int.le_refl _
theorem incQ_nonneg (g : Bool) (m : Int) {V U : Int} (hU : 0 < U) (h : 0 ≤ V) : 0 ≤ incQ g m V U := by
  have : 0 ≤ V / U := Int.ediv_nonneg h (Int.le_of_lt hU)
  unfold incQ
  split <;> (try split) <;> omega
theorem incQ_zero (g : Bool) (m U : Int) : incQ g m 0 U = 0 := by unfold incQ; simp
/-- Rounding keeps the order of the numbers. -/
theorem order_keeps (ga gb : Bool) (m : Int) {V V' U : Int} (hU : 0 < U) (h0 : 0 ≤ V) (h1 : 0 ≤ V') (h : sv ga V ≤ sv gb V') : sv ga (incQ ga m V U * U) ≤ sv gb (incQ gb m V' U * U) := by
  have p0 : 0 ≤ incQ ga m V U * U := Int.mul_nonneg (incQ_nonneg _ _ hU h0) (Int.le_of_lt hU)
  have p1 : 0 ≤ incQ gb m V' U * U := Int.mul_nonneg (incQ_nonneg _ _ hU h1) (Int.le_of_lt hU)
  unfold sv at *
  cases ga <;> cases gb <;> simp only [Bool.false_eq_true, if_false, if_true] at *
  · exact Int.mul_le_mul_of_nonneg_right (incQ_mono _ _ hU h) (Int.le_of_lt hU)
  · obtain rfl : V = 0 := by omega
    obtain rfl : V' = 0 := by omega
    simp only [incQ_zero]
    omega
  · omega
  · have := Int.mul_le_mul_of_nonneg_right (incQ_mono true m hU (show V' ≤ V by omega)) (Int.le_of_lt hU)
    omega
/-- The other sign's way. -/
def turn (m : Int) : Int := if m = 2 then 3 else if m = 3 then 2 else m
theorem incQ_turn (g : Bool) (m V U : Int) : incQ (!g) (turn m) V U = incQ g m V U := by
  have hw : ∀ R Q, wayB (!g) (turn m) R U Q = wayB g m R U Q := by
    intro R Q
    unfold turn
    by_cases h2 : m = 2
    · subst h2; rw [if_pos rfl]; rfl
    · by_cases h3 : m = 3
      · subst h3; rw [if_neg (by omega), if_pos rfl]; exact (Bool.not_not g)
      · rw [if_neg h2, if_neg h3]
        unfold wayB
        rw [if_neg h2, if_neg h2, if_neg h3, if_neg h3]
  unfold incQ
  rw [hw]
theorem turn_range {m : Int} (h : 0 ≤ m ∧ m ≤ 7) : 0 ≤ turn m ∧ turn m ≤ 7 := by unfold turn; split <;> (try split) <;> omega
def exerguelaw06_RoundOrder.f (k : Nat) (g : Bool) (l : List Int) (e : Int) (gb : Bool) (lb : List Int) (eb kk place mode : Int) : Option Bool :=
  if (l.length * 1 ≤ 140737488351232 ∧ ∀ b_ ∈ l, (Lit.int .u8 b_).wf = true) ∧ (lb.length * 1 ≤ 140737488351232 ∧ ∀ b_ ∈ lb, (Lit.int .u8 b_).wf = true) then some true else none
theorem with2_start {A Ab : Option Addr} {l lb : List Int} {c cb : Nat} (w : World) (o : Obj) (g gb : Bool) (e eb : Int) (hr : DRow w A l c) (hs : DRow w Ab lb cb) :
    Boxes [⟨w.heap.size + 1, g, A, l, c, e⟩, ⟨w.heap.size + 1 + 1, gb, Ab, lb, cb, eb⟩] w (((w.alloc o).alloc (.cells #[.bool g, .slice A l.length c, .int .i64 e] 24)).alloc (.cells #[.bool gb, .slice Ab lb.length cb, .int .i64 eb] 24)) := by
  have h1 := with_start w o g e hr
  have h2 := h1.push gb eb (hs.below h1.2)
  have hz : ((w.alloc o).alloc (.cells #[.bool g, .slice A l.length c, .int .i64 e] 24)).heap.size = w.heap.size + 1 + 1 := by simp
  rw [hz] at h2
  exact h2
set_option maxRecDepth 100000 in
set_option maxHeartbeats 4000000 in
theorem exerguelaw06_RoundOrder.calls (k : Nat) (a0_0 : Bool) (A0_1 : Option Addr) (c0_1 : Nat) (l0_1 : List Int) (a0_2 : Int) (a0_3 : Bool) (A0_4 : Option Addr) (c0_4 : Nat) (l0_4 : List Int) (a0_5 a0_6 a0_7 a0_8 : Int) (r : Bool) (w : World) (hG : GL w) (hr0_1 : Kd.C (Kd.int .u8) w A0_1 l0_1.length l0_1) (hc0_1 : l0_1.length ≤ c0_1) (hr0_4 : Kd.C (Kd.int .u8) w A0_4 l0_4.length l0_4) (hc0_4 : l0_4.length ≤ c0_4) (h : exerguelaw06_RoundOrder.f k a0_0 l0_1 a0_2 a0_3 l0_4 a0_5 a0_6 a0_7 a0_8 = some r) :
    Calls Tryd.prog 5 #[.agg #[.bool a0_0, .slice A0_1 l0_1.length c0_1, .int .i64 a0_2, .bool a0_3, .slice A0_4 l0_4.length c0_4, .int .i64 a0_5, .int .i64 a0_6, .int .i64 a0_7, .int .i64 a0_8]] w fun e w' => e = .returned (.bool r) ∧ Below w.heap.size w w' := by
  unfold exerguelaw06_RoundOrder.f at h
  split at h
  · obtain rfl := Option.some.inj h
    rename_i hb
    obtain ⟨⟨hz, hw⟩, hz2, hw2⟩ := hb
    have HG := Aside0.mk hG
    have hu1 := Tryd.underlying42
    have hu2 := Tryd.underlying24
    have hnear := near_ev a0_0 a0_6 a0_7 a0_8 hz hw (e := a0_2)
    have hnear2 := near_ev a0_3 a0_6 a0_7 a0_8 hz2 hw2 (e := a0_5)
    have HB := Aside0.mk (with2_start w (.cells #[.bool a0_0, .slice A0_1 l0_1.length c0_1, .int .i64 a0_2, .bool a0_3, .slice A0_4 l0_4.length c0_4, .int .i64 a0_5, .int .i64 a0_6, .int .i64 a0_7, .int .i64 a0_8] 42) a0_0 a0_3 a0_2 a0_5 (DRow.mk hr0_1 hc0_1) (DRow.mk hr0_4 hc0_4))
    clear hr0_1 hc0_1 hz hw hG h hr0_4 hc0_4 hz2 hw2
    rcases hnear with ⟨n1, hd, hun⟩ | n1
    · obtain ⟨n, hn⟩ := n1.rounds
      have HNR := Aside0.mk hn
      clear n1 hn
      rcases hnear2 with ⟨n1, hd2, _⟩ | n1
      · obtain ⟨n2, hn2⟩ := n1.rounds
        have HNR2 := Aside0.mk hn2
        clear n1 hn2
        obtain ⟨lx, ex, xx, rx, vx, _⟩ := inc_of a0_0 hd hun
        obtain ⟨ly, ey, xy, ry, vy, _⟩ := inc_of a0_3 hd2 hun
        obtain ⟨lz, ez, xz, rz, vz, _⟩ := inc_of (!a0_0) hd (hun.mode (turn_range hun.m))
        rw [incQ_turn, ← vx] at vz
        obtain ⟨rfl, rfl⟩ := rdec_same (g := a0_0) rz rx vz
        obtain ⟨t, ht⟩ : ∃ t, turn a0_8 = t := ⟨_, rfl⟩
        rw [ht] at xz
        obtain ⟨_, qx⟩ := xx.rounds
        obtain ⟨_, qy⟩ := xy.rounds
        obtain ⟨_, qz⟩ := xz.rounds
        have HX := Aside0.mk qx
        have HY := Aside0.mk qy
        have HZ := Aside0.mk qz
        obtain ⟨_, s1⟩ := same_n a0_0 a0_0 (b := lz) (eb := ez) rx
        rw [decide_eq_true (show a0_0 = a0_0 ∧ lz = lz ∧ ez = ez from ⟨rfl, rfl, rfl⟩)] at s1
        have S1 := Aside0.mk s1
        obtain ⟨d1, hd1⟩ : ∃ x, sg (val a0_0 l0_1 a0_2 - val a0_3 l0_4 a0_5) = x := ⟨_, rfl⟩
        obtain ⟨d2, hd2'⟩ : ∃ x, sg (val a0_0 lz ez - val a0_3 ly ey) = x := ⟨_, rfl⟩
        obtain ⟨_, p1⟩ := cmp_n a0_0 a0_3 hd.r hd2.r hd1
        obtain ⟨_, p2⟩ := cmp_n a0_0 a0_3 rx ry hd2'
        have P1 := Aside0.mk p1
        have P2 := Aside0.mk p2
        have hkeep : d1 ≤ 0 → d2 ≤ 0 := by
          intro h
          have h1 : ¬ 0 < d1 := by omega
          rw [← hd1, sg_pos, val_sv, val_sv] at h1
          have h2 := order_keeps a0_0 a0_3 a0_8 (unitV_pos hun.k.1 (place := a0_7)) (valN_nonneg hd.r.figs a0_2) (valN_nonneg hd2.r.figs a0_5) (by omega)
          rw [← vx, ← vy] at h2
          have h3 : ¬ 0 < d2 := by rw [← hd2', sg_pos, val_sv, val_sv]; omega
          omega
        have hm := hun.m
        clear xx xy xz vx vy vz qx qy qz s1 p1 p2 hd1 hd2' hd hd2 hun rx ry rz
        by_cases m2 : a0_8 = 2
        · subst m2
          obtain rfl : t = 3 := ht.symm
          by_cases hp : d1 > 0
          · have D1 : decide (d1 > 0) = true := decide_eq_true hp
            clear hp hkeep
            go_enter Tryd.func5, Tryd.ntmps5
            -- BEGIN M2A
            go_wp2_with (first | (go_at_call 9; have hq := shown_b HG.out HB.out; (with_reducible refine hq.mono ?_); clear hq; rintro e_ w' ⟨rfl, hb_⟩; (try clear HC); have HB' := Aside0.mk (Boxes.below HB.out hb_); clear HB; have HB := HB'; clear HB'; have HC := HB.out.cells; simp only [CellsAll, List.cons_append, List.nil_append, List.append_assoc] at HC; clear hb_; (try clear HL); have HL := Nat.lt_of_succ_lt HC.1.2.2.2) | (go_at_call 10; have hq := near_b HB.out 0 rfl HNR.out; (with_reducible refine hq.mono ?_); clear hq; rintro e_ w' ⟨rfl, hb_⟩; (try clear HC); have HB' := Aside0.mk (Boxes.below HB.out hb_); clear HB; have HB := HB'; clear HB'; have HC := HB.out.cells; simp only [CellsAll, List.cons_append, List.nil_append, List.append_assoc] at HC; clear hb_; (try clear HL); have HL := Nat.lt_of_succ_lt HC.1.2.2.2) | (go_at_call 10; have hq := near_b HB.out 1 rfl HNR2.out; (with_reducible refine hq.mono ?_); clear hq; rintro e_ w' ⟨rfl, hb_⟩; (try clear HC); have HB' := Aside0.mk (Boxes.below HB.out hb_); clear HB; have HB := HB'; clear HB'; have HC := HB.out.cells; simp only [CellsAll, List.cons_append, List.nil_append, List.append_assoc] at HC; clear hb_; (try clear HL); have HL := Nat.lt_of_succ_lt HC.1.2.2.2) | (go_at_call 12; have hq := inc_b HG.out HB.out 0 rfl HX.out; (with_reducible refine hq.mono ?_); clear hq; rintro e_ w' ⟨Ax, cx, rfl, hx_, hb_⟩; (try clear HC); have HB' := Aside0.mk (Boxes.below HB.out hb_); clear HB; have HB := HB'; clear HB'; (try clear HP); have HP := Aside0.mk hx_; clear hx_; have HC := HB.out.cells; simp only [CellsAll, List.cons_append, List.nil_append, List.append_assoc] at HC; clear hb_; (try clear HL); have HL := Nat.lt_of_succ_lt HC.1.2.2.2) | (go_at_call 12; have hq := inc_b HG.out (HB.out.push a0_0 ez HP.out) 1 rfl HY.out; (with_reducible refine hq.mono ?_); clear hq; rintro e_ w' ⟨Ay, cy, rfl, hx_, hb_⟩; (try clear HC); have HB' := Aside0.mk (Boxes.below (HB.out.push a0_0 ez HP.out) hb_); clear HB; have HB := HB'; clear HB'; (try clear HP); have HP := Aside0.mk hx_; clear hx_; have HC := HB.out.cells; simp only [CellsAll, List.cons_append, List.nil_append, List.append_assoc] at HC; clear hb_; (try clear HL); have HL := Nat.lt_of_succ_lt HC.1.2.2.2) | (go_at_call 12; have hq := inc_b HG.out ((HB.out.push a0_3 ey HP.out).push (!a0_0) a0_2 ((HB.out.push a0_3 ey HP.out).row (i := 0) rfl)) 4 rfl HZ.out; (with_reducible refine hq.mono ?_); clear hq; rintro e_ w' ⟨Az, cz, rfl, hx_, hb_⟩; (try clear HC); have HB' := Aside0.mk (Boxes.below ((HB.out.push a0_3 ey HP.out).push (!a0_0) a0_2 ((HB.out.push a0_3 ey HP.out).row (i := 0) rfl)) hb_); clear HB; have HB := HB'; clear HB'; (try clear HP); have HP := Aside0.mk hx_; clear hx_; have HC := HB.out.cells; simp only [CellsAll, List.cons_append, List.nil_append, List.append_assoc] at HC; clear hb_; (try clear HL); have HL := Nat.lt_of_succ_lt HC.1.2.2.2) | (go_at_call 15; have hq := same_b (HB.out.push a0_0 ez HP.out) 2 5 rfl rfl S1.out; (with_reducible refine hq.mono ?_); clear hq; rintro e_ w' ⟨rfl, hb_⟩; (try clear HC); have HB' := Aside0.mk (Boxes.below (HB.out.push a0_0 ez HP.out) hb_); clear HB; have HB := HB'; clear HB'; have HC := HB.out.cells; simp only [CellsAll, List.cons_append, List.nil_append, List.append_assoc] at HC; clear hb_; (try clear HL); have HL := Nat.lt_of_succ_lt HC.1.2.2.2) | (go_at_call 16; have hq := cmp_b HB.out 0 1 rfl rfl P1.out; (with_reducible refine hq.mono ?_); clear hq; rintro e_ w' ⟨rfl, hb_⟩; (try clear HC); have HB' := Aside0.mk (Boxes.below HB.out hb_); clear HB; have HB := HB'; clear HB'; have HC := HB.out.cells; simp only [CellsAll, List.cons_append, List.nil_append, List.append_assoc] at HC; clear hb_; (try clear HL); have HL := Nat.lt_of_succ_lt HC.1.2.2.2))
            -- END M2A
            go_ret
            exact ⟨rfl, HB.out.2⟩
          · have D1 : decide (d1 > 0) = false := decide_eq_false hp
            have D2 : decide (d2 ≤ 0) = true := decide_eq_true (hkeep (by omega))
            clear hp hkeep
            go_enter Tryd.func5, Tryd.ntmps5
            -- BEGIN M2B
            go_wp2_with (first | (go_at_call 9; have hq := shown_b HG.out HB.out; (with_reducible refine hq.mono ?_); clear hq; rintro e_ w' ⟨rfl, hb_⟩; (try clear HC); have HB' := Aside0.mk (Boxes.below HB.out hb_); clear HB; have HB := HB'; clear HB'; have HC := HB.out.cells; simp only [CellsAll, List.cons_append, List.nil_append, List.append_assoc] at HC; clear hb_; (try clear HL); have HL := Nat.lt_of_succ_lt HC.1.2.2.2) | (go_at_call 10; have hq := near_b HB.out 0 rfl HNR.out; (with_reducible refine hq.mono ?_); clear hq; rintro e_ w' ⟨rfl, hb_⟩; (try clear HC); have HB' := Aside0.mk (Boxes.below HB.out hb_); clear HB; have HB := HB'; clear HB'; have HC := HB.out.cells; simp only [CellsAll, List.cons_append, List.nil_append, List.append_assoc] at HC; clear hb_; (try clear HL); have HL := Nat.lt_of_succ_lt HC.1.2.2.2) | (go_at_call 10; have hq := near_b HB.out 1 rfl HNR2.out; (with_reducible refine hq.mono ?_); clear hq; rintro e_ w' ⟨rfl, hb_⟩; (try clear HC); have HB' := Aside0.mk (Boxes.below HB.out hb_); clear HB; have HB := HB'; clear HB'; have HC := HB.out.cells; simp only [CellsAll, List.cons_append, List.nil_append, List.append_assoc] at HC; clear hb_; (try clear HL); have HL := Nat.lt_of_succ_lt HC.1.2.2.2) | (go_at_call 12; have hq := inc_b HG.out HB.out 0 rfl HX.out; (with_reducible refine hq.mono ?_); clear hq; rintro e_ w' ⟨Ax, cx, rfl, hx_, hb_⟩; (try clear HC); have HB' := Aside0.mk (Boxes.below HB.out hb_); clear HB; have HB := HB'; clear HB'; (try clear HP); have HP := Aside0.mk hx_; clear hx_; have HC := HB.out.cells; simp only [CellsAll, List.cons_append, List.nil_append, List.append_assoc] at HC; clear hb_; (try clear HL); have HL := Nat.lt_of_succ_lt HC.1.2.2.2) | (go_at_call 12; have hq := inc_b HG.out (HB.out.push a0_0 ez HP.out) 1 rfl HY.out; (with_reducible refine hq.mono ?_); clear hq; rintro e_ w' ⟨Ay, cy, rfl, hx_, hb_⟩; (try clear HC); have HB' := Aside0.mk (Boxes.below (HB.out.push a0_0 ez HP.out) hb_); clear HB; have HB := HB'; clear HB'; (try clear HP); have HP := Aside0.mk hx_; clear hx_; have HC := HB.out.cells; simp only [CellsAll, List.cons_append, List.nil_append, List.append_assoc] at HC; clear hb_; (try clear HL); have HL := Nat.lt_of_succ_lt HC.1.2.2.2) | (go_at_call 12; have hq := inc_b HG.out ((HB.out.push a0_3 ey HP.out).push (!a0_0) a0_2 ((HB.out.push a0_3 ey HP.out).row (i := 0) rfl)) 4 rfl HZ.out; (with_reducible refine hq.mono ?_); clear hq; rintro e_ w' ⟨Az, cz, rfl, hx_, hb_⟩; (try clear HC); have HB' := Aside0.mk (Boxes.below ((HB.out.push a0_3 ey HP.out).push (!a0_0) a0_2 ((HB.out.push a0_3 ey HP.out).row (i := 0) rfl)) hb_); clear HB; have HB := HB'; clear HB'; (try clear HP); have HP := Aside0.mk hx_; clear hx_; have HC := HB.out.cells; simp only [CellsAll, List.cons_append, List.nil_append, List.append_assoc] at HC; clear hb_; (try clear HL); have HL := Nat.lt_of_succ_lt HC.1.2.2.2) | (go_at_call 15; have hq := same_b (HB.out.push a0_0 ez HP.out) 2 5 rfl rfl S1.out; (with_reducible refine hq.mono ?_); clear hq; rintro e_ w' ⟨rfl, hb_⟩; (try clear HC); have HB' := Aside0.mk (Boxes.below (HB.out.push a0_0 ez HP.out) hb_); clear HB; have HB := HB'; clear HB'; have HC := HB.out.cells; simp only [CellsAll, List.cons_append, List.nil_append, List.append_assoc] at HC; clear hb_; (try clear HL); have HL := Nat.lt_of_succ_lt HC.1.2.2.2) | (go_at_call 16; have hq := cmp_b HB.out 0 1 rfl rfl P1.out; (with_reducible refine hq.mono ?_); clear hq; rintro e_ w' ⟨rfl, hb_⟩; (try clear HC); have HB' := Aside0.mk (Boxes.below HB.out hb_); clear HB; have HB := HB'; clear HB'; have HC := HB.out.cells; simp only [CellsAll, List.cons_append, List.nil_append, List.append_assoc] at HC; clear hb_; (try clear HL); have HL := Nat.lt_of_succ_lt HC.1.2.2.2) | (go_at_call 16; have hq := cmp_b HB.out 2 3 rfl rfl P2.out; (with_reducible refine hq.mono ?_); clear hq; rintro e_ w' ⟨rfl, hb_⟩; (try clear HC); have HB' := Aside0.mk (Boxes.below HB.out hb_); clear HB; have HB := HB'; clear HB'; have HC := HB.out.cells; simp only [CellsAll, List.cons_append, List.nil_append, List.append_assoc] at HC; clear hb_; (try clear HL); have HL := Nat.lt_of_succ_lt HC.1.2.2.2))
            -- END M2B
            go_ret
            exact ⟨rfl, HB.out.2⟩
        · by_cases m3 : a0_8 = 3
          · subst m3
            obtain rfl : t = 2 := ht.symm
            by_cases hp : d1 > 0
            · have D1 : decide (d1 > 0) = true := decide_eq_true hp
              clear hp hkeep
              go_enter Tryd.func5, Tryd.ntmps5
              -- BEGIN M3A
              go_wp2_with (first | (go_at_call 9; have hq := shown_b HG.out HB.out; (with_reducible refine hq.mono ?_); clear hq; rintro e_ w' ⟨rfl, hb_⟩; (try clear HC); have HB' := Aside0.mk (Boxes.below HB.out hb_); clear HB; have HB := HB'; clear HB'; have HC := HB.out.cells; simp only [CellsAll, List.cons_append, List.nil_append, List.append_assoc] at HC; clear hb_; (try clear HL); have HL := Nat.lt_of_succ_lt HC.1.2.2.2) | (go_at_call 10; have hq := near_b HB.out 0 rfl HNR.out; (with_reducible refine hq.mono ?_); clear hq; rintro e_ w' ⟨rfl, hb_⟩; (try clear HC); have HB' := Aside0.mk (Boxes.below HB.out hb_); clear HB; have HB := HB'; clear HB'; have HC := HB.out.cells; simp only [CellsAll, List.cons_append, List.nil_append, List.append_assoc] at HC; clear hb_; (try clear HL); have HL := Nat.lt_of_succ_lt HC.1.2.2.2) | (go_at_call 10; have hq := near_b HB.out 1 rfl HNR2.out; (with_reducible refine hq.mono ?_); clear hq; rintro e_ w' ⟨rfl, hb_⟩; (try clear HC); have HB' := Aside0.mk (Boxes.below HB.out hb_); clear HB; have HB := HB'; clear HB'; have HC := HB.out.cells; simp only [CellsAll, List.cons_append, List.nil_append, List.append_assoc] at HC; clear hb_; (try clear HL); have HL := Nat.lt_of_succ_lt HC.1.2.2.2) | (go_at_call 12; have hq := inc_b HG.out HB.out 0 rfl HX.out; (with_reducible refine hq.mono ?_); clear hq; rintro e_ w' ⟨Ax, cx, rfl, hx_, hb_⟩; (try clear HC); have HB' := Aside0.mk (Boxes.below HB.out hb_); clear HB; have HB := HB'; clear HB'; (try clear HP); have HP := Aside0.mk hx_; clear hx_; have HC := HB.out.cells; simp only [CellsAll, List.cons_append, List.nil_append, List.append_assoc] at HC; clear hb_; (try clear HL); have HL := Nat.lt_of_succ_lt HC.1.2.2.2) | (go_at_call 12; have hq := inc_b HG.out (HB.out.push a0_0 ez HP.out) 1 rfl HY.out; (with_reducible refine hq.mono ?_); clear hq; rintro e_ w' ⟨Ay, cy, rfl, hx_, hb_⟩; (try clear HC); have HB' := Aside0.mk (Boxes.below (HB.out.push a0_0 ez HP.out) hb_); clear HB; have HB := HB'; clear HB'; (try clear HP); have HP := Aside0.mk hx_; clear hx_; have HC := HB.out.cells; simp only [CellsAll, List.cons_append, List.nil_append, List.append_assoc] at HC; clear hb_; (try clear HL); have HL := Nat.lt_of_succ_lt HC.1.2.2.2) | (go_at_call 12; have hq := inc_b HG.out ((HB.out.push a0_3 ey HP.out).push (!a0_0) a0_2 ((HB.out.push a0_3 ey HP.out).row (i := 0) rfl)) 4 rfl HZ.out; (with_reducible refine hq.mono ?_); clear hq; rintro e_ w' ⟨Az, cz, rfl, hx_, hb_⟩; (try clear HC); have HB' := Aside0.mk (Boxes.below ((HB.out.push a0_3 ey HP.out).push (!a0_0) a0_2 ((HB.out.push a0_3 ey HP.out).row (i := 0) rfl)) hb_); clear HB; have HB := HB'; clear HB'; (try clear HP); have HP := Aside0.mk hx_; clear hx_; have HC := HB.out.cells; simp only [CellsAll, List.cons_append, List.nil_append, List.append_assoc] at HC; clear hb_; (try clear HL); have HL := Nat.lt_of_succ_lt HC.1.2.2.2) | (go_at_call 15; have hq := same_b (HB.out.push a0_0 ez HP.out) 2 5 rfl rfl S1.out; (with_reducible refine hq.mono ?_); clear hq; rintro e_ w' ⟨rfl, hb_⟩; (try clear HC); have HB' := Aside0.mk (Boxes.below (HB.out.push a0_0 ez HP.out) hb_); clear HB; have HB := HB'; clear HB'; have HC := HB.out.cells; simp only [CellsAll, List.cons_append, List.nil_append, List.append_assoc] at HC; clear hb_; (try clear HL); have HL := Nat.lt_of_succ_lt HC.1.2.2.2) | (go_at_call 16; have hq := cmp_b HB.out 0 1 rfl rfl P1.out; (with_reducible refine hq.mono ?_); clear hq; rintro e_ w' ⟨rfl, hb_⟩; (try clear HC); have HB' := Aside0.mk (Boxes.below HB.out hb_); clear HB; have HB := HB'; clear HB'; have HC := HB.out.cells; simp only [CellsAll, List.cons_append, List.nil_append, List.append_assoc] at HC; clear hb_; (try clear HL); have HL := Nat.lt_of_succ_lt HC.1.2.2.2))
              -- END M3A
              go_ret
              exact ⟨rfl, HB.out.2⟩
            · have D1 : decide (d1 > 0) = false := decide_eq_false hp
              have D2 : decide (d2 ≤ 0) = true := decide_eq_true (hkeep (by omega))
              clear hp hkeep
              go_enter Tryd.func5, Tryd.ntmps5
              -- BEGIN M3B
              go_wp2_with (first | (go_at_call 9; have hq := shown_b HG.out HB.out; (with_reducible refine hq.mono ?_); clear hq; rintro e_ w' ⟨rfl, hb_⟩; (try clear HC); have HB' := Aside0.mk (Boxes.below HB.out hb_); clear HB; have HB := HB'; clear HB'; have HC := HB.out.cells; simp only [CellsAll, List.cons_append, List.nil_append, List.append_assoc] at HC; clear hb_; (try clear HL); have HL := Nat.lt_of_succ_lt HC.1.2.2.2) | (go_at_call 10; have hq := near_b HB.out 0 rfl HNR.out; (with_reducible refine hq.mono ?_); clear hq; rintro e_ w' ⟨rfl, hb_⟩; (try clear HC); have HB' := Aside0.mk (Boxes.below HB.out hb_); clear HB; have HB := HB'; clear HB'; have HC := HB.out.cells; simp only [CellsAll, List.cons_append, List.nil_append, List.append_assoc] at HC; clear hb_; (try clear HL); have HL := Nat.lt_of_succ_lt HC.1.2.2.2) | (go_at_call 10; have hq := near_b HB.out 1 rfl HNR2.out; (with_reducible refine hq.mono ?_); clear hq; rintro e_ w' ⟨rfl, hb_⟩; (try clear HC); have HB' := Aside0.mk (Boxes.below HB.out hb_); clear HB; have HB := HB'; clear HB'; have HC := HB.out.cells; simp only [CellsAll, List.cons_append, List.nil_append, List.append_assoc] at HC; clear hb_; (try clear HL); have HL := Nat.lt_of_succ_lt HC.1.2.2.2) | (go_at_call 12; have hq := inc_b HG.out HB.out 0 rfl HX.out; (with_reducible refine hq.mono ?_); clear hq; rintro e_ w' ⟨Ax, cx, rfl, hx_, hb_⟩; (try clear HC); have HB' := Aside0.mk (Boxes.below HB.out hb_); clear HB; have HB := HB'; clear HB'; (try clear HP); have HP := Aside0.mk hx_; clear hx_; have HC := HB.out.cells; simp only [CellsAll, List.cons_append, List.nil_append, List.append_assoc] at HC; clear hb_; (try clear HL); have HL := Nat.lt_of_succ_lt HC.1.2.2.2) | (go_at_call 12; have hq := inc_b HG.out (HB.out.push a0_0 ez HP.out) 1 rfl HY.out; (with_reducible refine hq.mono ?_); clear hq; rintro e_ w' ⟨Ay, cy, rfl, hx_, hb_⟩; (try clear HC); have HB' := Aside0.mk (Boxes.below (HB.out.push a0_0 ez HP.out) hb_); clear HB; have HB := HB'; clear HB'; (try clear HP); have HP := Aside0.mk hx_; clear hx_; have HC := HB.out.cells; simp only [CellsAll, List.cons_append, List.nil_append, List.append_assoc] at HC; clear hb_; (try clear HL); have HL := Nat.lt_of_succ_lt HC.1.2.2.2) | (go_at_call 12; have hq := inc_b HG.out ((HB.out.push a0_3 ey HP.out).push (!a0_0) a0_2 ((HB.out.push a0_3 ey HP.out).row (i := 0) rfl)) 4 rfl HZ.out; (with_reducible refine hq.mono ?_); clear hq; rintro e_ w' ⟨Az, cz, rfl, hx_, hb_⟩; (try clear HC); have HB' := Aside0.mk (Boxes.below ((HB.out.push a0_3 ey HP.out).push (!a0_0) a0_2 ((HB.out.push a0_3 ey HP.out).row (i := 0) rfl)) hb_); clear HB; have HB := HB'; clear HB'; (try clear HP); have HP := Aside0.mk hx_; clear hx_; have HC := HB.out.cells; simp only [CellsAll, List.cons_append, List.nil_append, List.append_assoc] at HC; clear hb_; (try clear HL); have HL := Nat.lt_of_succ_lt HC.1.2.2.2) | (go_at_call 15; have hq := same_b (HB.out.push a0_0 ez HP.out) 2 5 rfl rfl S1.out; (with_reducible refine hq.mono ?_); clear hq; rintro e_ w' ⟨rfl, hb_⟩; (try clear HC); have HB' := Aside0.mk (Boxes.below (HB.out.push a0_0 ez HP.out) hb_); clear HB; have HB := HB'; clear HB'; have HC := HB.out.cells; simp only [CellsAll, List.cons_append, List.nil_append, List.append_assoc] at HC; clear hb_; (try clear HL); have HL := Nat.lt_of_succ_lt HC.1.2.2.2) | (go_at_call 16; have hq := cmp_b HB.out 0 1 rfl rfl P1.out; (with_reducible refine hq.mono ?_); clear hq; rintro e_ w' ⟨rfl, hb_⟩; (try clear HC); have HB' := Aside0.mk (Boxes.below HB.out hb_); clear HB; have HB := HB'; clear HB'; have HC := HB.out.cells; simp only [CellsAll, List.cons_append, List.nil_append, List.append_assoc] at HC; clear hb_; (try clear HL); have HL := Nat.lt_of_succ_lt HC.1.2.2.2) | (go_at_call 16; have hq := cmp_b HB.out 2 3 rfl rfl P2.out; (with_reducible refine hq.mono ?_); clear hq; rintro e_ w' ⟨rfl, hb_⟩; (try clear HC); have HB' := Aside0.mk (Boxes.below HB.out hb_); clear HB; have HB := HB'; clear HB'; have HC := HB.out.cells; simp only [CellsAll, List.cons_append, List.nil_append, List.append_assoc] at HC; clear hb_; (try clear HL); have HL := Nat.lt_of_succ_lt HC.1.2.2.2))
              -- END M3B
              go_ret
              exact ⟨rfl, HB.out.2⟩
          · have hte : t = a0_8 := by rw [← ht]; unfold turn; rw [if_neg m2, if_neg m3]
            rw [hte] at HZ
            have E2 : (a0_8 == 2) = false := beq_eq_false_iff_ne.2 m2
            have E3 : (a0_8 == 3) = false := beq_eq_false_iff_ne.2 m3
            clear m2 m3 ht hte hm
            by_cases hp : d1 > 0
            · have D1 : decide (d1 > 0) = true := decide_eq_true hp
              clear hp hkeep
              go_enter Tryd.func5, Tryd.ntmps5
              -- BEGIN MOA
              go_wp2_with (first | (go_at_call 9; have hq := shown_b HG.out HB.out; (with_reducible refine hq.mono ?_); clear hq; rintro e_ w' ⟨rfl, hb_⟩; (try clear HC); have HB' := Aside0.mk (Boxes.below HB.out hb_); clear HB; have HB := HB'; clear HB'; have HC := HB.out.cells; simp only [CellsAll, List.cons_append, List.nil_append, List.append_assoc] at HC; clear hb_; (try clear HL); have HL := Nat.lt_of_succ_lt HC.1.2.2.2) | (go_at_call 10; have hq := near_b HB.out 0 rfl HNR.out; (with_reducible refine hq.mono ?_); clear hq; rintro e_ w' ⟨rfl, hb_⟩; (try clear HC); have HB' := Aside0.mk (Boxes.below HB.out hb_); clear HB; have HB := HB'; clear HB'; have HC := HB.out.cells; simp only [CellsAll, List.cons_append, List.nil_append, List.append_assoc] at HC; clear hb_; (try clear HL); have HL := Nat.lt_of_succ_lt HC.1.2.2.2) | (go_at_call 10; have hq := near_b HB.out 1 rfl HNR2.out; (with_reducible refine hq.mono ?_); clear hq; rintro e_ w' ⟨rfl, hb_⟩; (try clear HC); have HB' := Aside0.mk (Boxes.below HB.out hb_); clear HB; have HB := HB'; clear HB'; have HC := HB.out.cells; simp only [CellsAll, List.cons_append, List.nil_append, List.append_assoc] at HC; clear hb_; (try clear HL); have HL := Nat.lt_of_succ_lt HC.1.2.2.2) | (go_at_call 12; have hq := inc_b HG.out HB.out 0 rfl HX.out; (with_reducible refine hq.mono ?_); clear hq; rintro e_ w' ⟨Ax, cx, rfl, hx_, hb_⟩; (try clear HC); have HB' := Aside0.mk (Boxes.below HB.out hb_); clear HB; have HB := HB'; clear HB'; (try clear HP); have HP := Aside0.mk hx_; clear hx_; have HC := HB.out.cells; simp only [CellsAll, List.cons_append, List.nil_append, List.append_assoc] at HC; clear hb_; (try clear HL); have HL := Nat.lt_of_succ_lt HC.1.2.2.2) | (go_at_call 12; have hq := inc_b HG.out (HB.out.push a0_0 ez HP.out) 1 rfl HY.out; (with_reducible refine hq.mono ?_); clear hq; rintro e_ w' ⟨Ay, cy, rfl, hx_, hb_⟩; (try clear HC); have HB' := Aside0.mk (Boxes.below (HB.out.push a0_0 ez HP.out) hb_); clear HB; have HB := HB'; clear HB'; (try clear HP); have HP := Aside0.mk hx_; clear hx_; have HC := HB.out.cells; simp only [CellsAll, List.cons_append, List.nil_append, List.append_assoc] at HC; clear hb_; (try clear HL); have HL := Nat.lt_of_succ_lt HC.1.2.2.2) | (go_at_call 12; have hq := inc_b HG.out ((HB.out.push a0_3 ey HP.out).push (!a0_0) a0_2 ((HB.out.push a0_3 ey HP.out).row (i := 0) rfl)) 4 rfl HZ.out; (with_reducible refine hq.mono ?_); clear hq; rintro e_ w' ⟨Az, cz, rfl, hx_, hb_⟩; (try clear HC); have HB' := Aside0.mk (Boxes.below ((HB.out.push a0_3 ey HP.out).push (!a0_0) a0_2 ((HB.out.push a0_3 ey HP.out).row (i := 0) rfl)) hb_); clear HB; have HB := HB'; clear HB'; (try clear HP); have HP := Aside0.mk hx_; clear hx_; have HC := HB.out.cells; simp only [CellsAll, List.cons_append, List.nil_append, List.append_assoc] at HC; clear hb_; (try clear HL); have HL := Nat.lt_of_succ_lt HC.1.2.2.2) | (go_at_call 15; have hq := same_b (HB.out.push a0_0 ez HP.out) 2 5 rfl rfl S1.out; (with_reducible refine hq.mono ?_); clear hq; rintro e_ w' ⟨rfl, hb_⟩; (try clear HC); have HB' := Aside0.mk (Boxes.below (HB.out.push a0_0 ez HP.out) hb_); clear HB; have HB := HB'; clear HB'; have HC := HB.out.cells; simp only [CellsAll, List.cons_append, List.nil_append, List.append_assoc] at HC; clear hb_; (try clear HL); have HL := Nat.lt_of_succ_lt HC.1.2.2.2) | (go_at_call 16; have hq := cmp_b HB.out 0 1 rfl rfl P1.out; (with_reducible refine hq.mono ?_); clear hq; rintro e_ w' ⟨rfl, hb_⟩; (try clear HC); have HB' := Aside0.mk (Boxes.below HB.out hb_); clear HB; have HB := HB'; clear HB'; have HC := HB.out.cells; simp only [CellsAll, List.cons_append, List.nil_append, List.append_assoc] at HC; clear hb_; (try clear HL); have HL := Nat.lt_of_succ_lt HC.1.2.2.2))
              -- END MOA
              go_ret
              exact ⟨rfl, HB.out.2⟩
            · have D1 : decide (d1 > 0) = false := decide_eq_false hp
              have D2 : decide (d2 ≤ 0) = true := decide_eq_true (hkeep (by omega))
              clear hp hkeep
              go_enter Tryd.func5, Tryd.ntmps5
              -- BEGIN MOB
              go_wp2_with (first | (go_at_call 9; have hq := shown_b HG.out HB.out; (with_reducible refine hq.mono ?_); clear hq; rintro e_ w' ⟨rfl, hb_⟩; (try clear HC); have HB' := Aside0.mk (Boxes.below HB.out hb_); clear HB; have HB := HB'; clear HB'; have HC := HB.out.cells; simp only [CellsAll, List.cons_append, List.nil_append, List.append_assoc] at HC; clear hb_; (try clear HL); have HL := Nat.lt_of_succ_lt HC.1.2.2.2) | (go_at_call 10; have hq := near_b HB.out 0 rfl HNR.out; (with_reducible refine hq.mono ?_); clear hq; rintro e_ w' ⟨rfl, hb_⟩; (try clear HC); have HB' := Aside0.mk (Boxes.below HB.out hb_); clear HB; have HB := HB'; clear HB'; have HC := HB.out.cells; simp only [CellsAll, List.cons_append, List.nil_append, List.append_assoc] at HC; clear hb_; (try clear HL); have HL := Nat.lt_of_succ_lt HC.1.2.2.2) | (go_at_call 10; have hq := near_b HB.out 1 rfl HNR2.out; (with_reducible refine hq.mono ?_); clear hq; rintro e_ w' ⟨rfl, hb_⟩; (try clear HC); have HB' := Aside0.mk (Boxes.below HB.out hb_); clear HB; have HB := HB'; clear HB'; have HC := HB.out.cells; simp only [CellsAll, List.cons_append, List.nil_append, List.append_assoc] at HC; clear hb_; (try clear HL); have HL := Nat.lt_of_succ_lt HC.1.2.2.2) | (go_at_call 12; have hq := inc_b HG.out HB.out 0 rfl HX.out; (with_reducible refine hq.mono ?_); clear hq; rintro e_ w' ⟨Ax, cx, rfl, hx_, hb_⟩; (try clear HC); have HB' := Aside0.mk (Boxes.below HB.out hb_); clear HB; have HB := HB'; clear HB'; (try clear HP); have HP := Aside0.mk hx_; clear hx_; have HC := HB.out.cells; simp only [CellsAll, List.cons_append, List.nil_append, List.append_assoc] at HC; clear hb_; (try clear HL); have HL := Nat.lt_of_succ_lt HC.1.2.2.2) | (go_at_call 12; have hq := inc_b HG.out (HB.out.push a0_0 ez HP.out) 1 rfl HY.out; (with_reducible refine hq.mono ?_); clear hq; rintro e_ w' ⟨Ay, cy, rfl, hx_, hb_⟩; (try clear HC); have HB' := Aside0.mk (Boxes.below (HB.out.push a0_0 ez HP.out) hb_); clear HB; have HB := HB'; clear HB'; (try clear HP); have HP := Aside0.mk hx_; clear hx_; have HC := HB.out.cells; simp only [CellsAll, List.cons_append, List.nil_append, List.append_assoc] at HC; clear hb_; (try clear HL); have HL := Nat.lt_of_succ_lt HC.1.2.2.2) | (go_at_call 12; have hq := inc_b HG.out ((HB.out.push a0_3 ey HP.out).push (!a0_0) a0_2 ((HB.out.push a0_3 ey HP.out).row (i := 0) rfl)) 4 rfl HZ.out; (with_reducible refine hq.mono ?_); clear hq; rintro e_ w' ⟨Az, cz, rfl, hx_, hb_⟩; (try clear HC); have HB' := Aside0.mk (Boxes.below ((HB.out.push a0_3 ey HP.out).push (!a0_0) a0_2 ((HB.out.push a0_3 ey HP.out).row (i := 0) rfl)) hb_); clear HB; have HB := HB'; clear HB'; (try clear HP); have HP := Aside0.mk hx_; clear hx_; have HC := HB.out.cells; simp only [CellsAll, List.cons_append, List.nil_append, List.append_assoc] at HC; clear hb_; (try clear HL); have HL := Nat.lt_of_succ_lt HC.1.2.2.2) | (go_at_call 15; have hq := same_b (HB.out.push a0_0 ez HP.out) 2 5 rfl rfl S1.out; (with_reducible refine hq.mono ?_); clear hq; rintro e_ w' ⟨rfl, hb_⟩; (try clear HC); have HB' := Aside0.mk (Boxes.below (HB.out.push a0_0 ez HP.out) hb_); clear HB; have HB := HB'; clear HB'; have HC := HB.out.cells; simp only [CellsAll, List.cons_append, List.nil_append, List.append_assoc] at HC; clear hb_; (try clear HL); have HL := Nat.lt_of_succ_lt HC.1.2.2.2) | (go_at_call 16; have hq := cmp_b HB.out 0 1 rfl rfl P1.out; (with_reducible refine hq.mono ?_); clear hq; rintro e_ w' ⟨rfl, hb_⟩; (try clear HC); have HB' := Aside0.mk (Boxes.below HB.out hb_); clear HB; have HB := HB'; clear HB'; have HC := HB.out.cells; simp only [CellsAll, List.cons_append, List.nil_append, List.append_assoc] at HC; clear hb_; (try clear HL); have HL := Nat.lt_of_succ_lt HC.1.2.2.2) | (go_at_call 16; have hq := cmp_b HB.out 2 3 rfl rfl P2.out; (with_reducible refine hq.mono ?_); clear hq; rintro e_ w' ⟨rfl, hb_⟩; (try clear HC); have HB' := Aside0.mk (Boxes.below HB.out hb_); clear HB; have HB := HB'; clear HB'; have HC := HB.out.cells; simp only [CellsAll, List.cons_append, List.nil_append, List.append_assoc] at HC; clear hb_; (try clear HL); have HL := Nat.lt_of_succ_lt HC.1.2.2.2))
              -- END MOB
              go_ret
              exact ⟨rfl, HB.out.2⟩
      · obtain ⟨n2, hn2⟩ := n1.rounds
        have HNR2 := Aside0.mk hn2
        clear n1 hn2 hd hun
        go_enter Tryd.func5, Tryd.ntmps5
        -- BEGIN OFF2
        go_wp2_with (first | (go_at_call 9; have hq := shown_b HG.out HB.out; (with_reducible refine hq.mono ?_); clear hq; rintro e_ w' ⟨rfl, hb_⟩; (try clear HC); have HB' := Aside0.mk (Boxes.below HB.out hb_); clear HB; have HB := HB'; clear HB'; have HC := HB.out.cells; simp only [CellsAll, List.cons_append, List.nil_append, List.append_assoc] at HC; clear hb_) | (go_at_call 10; have hq := near_b HB.out 0 rfl HNR.out; (with_reducible refine hq.mono ?_); clear hq; rintro e_ w' ⟨rfl, hb_⟩; (try clear HC); have HB' := Aside0.mk (Boxes.below HB.out hb_); clear HB; have HB := HB'; clear HB'; have HC := HB.out.cells; simp only [CellsAll, List.cons_append, List.nil_append, List.append_assoc] at HC; clear hb_) | (go_at_call 10; have hq := near_b HB.out 1 rfl HNR2.out; (with_reducible refine hq.mono ?_); clear hq; rintro e_ w' ⟨rfl, hb_⟩; (try clear HC); have HB' := Aside0.mk (Boxes.below HB.out hb_); clear HB; have HB := HB'; clear HB'; have HC := HB.out.cells; simp only [CellsAll, List.cons_append, List.nil_append, List.append_assoc] at HC; clear hb_))
        -- END OFF2
        go_ret
        exact ⟨rfl, HB.out.2⟩
    · obtain ⟨n, hn⟩ := n1.rounds
      have HNR := Aside0.mk hn
      clear n1 hn hnear2
      go_enter Tryd.func5, Tryd.ntmps5
      -- BEGIN OFF
      go_wp2_with (first | (go_at_call 9; have hq := shown_b HG.out HB.out; (with_reducible refine hq.mono ?_); clear hq; rintro e_ w' ⟨rfl, hb_⟩; (try clear HC); have HB' := Aside0.mk (Boxes.below HB.out hb_); clear HB; have HB := HB'; clear HB'; have HC := HB.out.cells; simp only [CellsAll, List.cons_append, List.nil_append, List.append_assoc] at HC; clear hb_) | (go_at_call 10; have hq := near_b HB.out 0 rfl HNR.out; (with_reducible refine hq.mono ?_); clear hq; rintro e_ w' ⟨rfl, hb_⟩; (try clear HC); have HB' := Aside0.mk (Boxes.below HB.out hb_); clear HB; have HB := HB'; clear HB'; have HC := HB.out.cells; simp only [CellsAll, List.cons_append, List.nil_append, List.append_assoc] at HC; clear hb_))
      -- END OFF
      go_ret
      exact ⟨rfl, HB.out.2⟩
  · cases h
end Go.Proofs.YtogfokpmpdclbaaDoor.PZ
