-- made by wip/xprint.py (a program of this session over the kit's print.py). Not trusted: Lean checks it.
import Derived.Test.YtekinhnempbioaaDoorPZx0
import Derived.Test.YtekinhnempbioaaDoorPZx2
import Derived.Test.YtekinhnempbioaaDoorPZx5
import Derived.Test.YtekinhnempbioaaDoorPZx13
import Derived.Test.YtekinhnempbioaaDoorPZx20
import Derived.Test.YtekinhnempbioaaDoorGl
import Derived.Test.YtekinhnempbioaaDoorOperRight
import Derived.Test.YtekinhnempbioaaDoorRefRight
namespace Go.Proofs.YtekinhnempbioaaDoor.PZ
open Go.RowKit Go.Proofs.YtekinhnempbioaaDoorW.PrintWords Go.Proofs.YtekinhnempbioaaDoorW.PrintLast Go.Proofs.YtekinhnempbioaaDoorW.PrintMore
attribute [local go_sem] max2_int min2_int max_two min_two max_three min_three max_four min_four   -- for this text's walks alone
set_option linter.unusedVariables false
set_option linter.unusedSimpArgs false

/-! ### exerguelaw07_OperBack: function 9 -/
def exerguelaw07_OperBack.j0 : Nat → Bool → Bool → List Int → List Int → Int → Int → Option (Bool)
  | 0, _, _, _, _, _, _ => none
  | k + 1, x3, x19, x437000, x437001, x437002, x437003 => if x19 = true then (some x3) else ((oper_Of.f x437000 x437001 x437003).bind fun bt439 => (if x3 = true then (if bt439.2.2.2.2 = 0 then ((exergueref07_Same.f k bt439.1 bt439.2.1 bt439.2.2.1 bt439.2.2.2.1 x437000 x437001 x437002 x437003).bind fun t449 => (if t449 = true then ((oper_Same.f bt439.1 bt439.2.1 bt439.2.2.1 bt439.2.2.2.1 x437000 x437001 x437002 x437003).bind fun t450 => (if t450 = true then ((oper_Right.f bt439.1 bt439.2.1 bt439.2.2.1 bt439.2.2.2.1).bind fun t451 => (some t451)) else (none))) else (none))) else (none)) else (none)))
def exerguelaw07_OperBack.f (k : Nat) (l0_0 : List Int) (l0_1 : List Int) (a0_2 : Int) (a0_3 : Int) : Option (Bool) := (exerguelaw07_shown.f k).bind fun t437 => (if (wrap64 ((l0_0.length : Int) + (l0_1.length : Int))) > 1000 then (exerguelaw07_OperBack.j0 k t437 true l0_0 l0_1 a0_2 a0_3) else ((exergueref07_Right.f k l0_0 l0_1 a0_2 a0_3).bind fun t438 => (exerguelaw07_OperBack.j0 k t437 (!t438) l0_0 l0_1 a0_2 a0_3)))
theorem exerguelaw07_OperBack.mono_l : ∀ k, (∀ y0 y1 y2 y3 y4 y5, LeO (exerguelaw07_OperBack.j0 k y0 y1 y2 y3 y4 y5) (exerguelaw07_OperBack.j0 (k + 1) y0 y1 y2 y3 y4 y5))
  | 0 => fun _ _ _ _ _ _ r h => by simp [exerguelaw07_OperBack.j0] at h
  | k + 1 => by
    have ih0 := exerguelaw07_OperBack.mono_l k
    · intro y0 y1 y2 y3 y4 y5
      unfold exerguelaw07_OperBack.j0
      repeat' first
      | (with_reducible exact ih0 _ _ _ _ _ _)
      | (with_reducible exact exerguelaw07_shown.mono _)
      | (with_reducible exact exergueref07_Right.mono _ _ _ _ _)
      | (with_reducible exact exergueref07_Same.mono _ _ _ _ _ _ _ _ _)
      | (with_reducible exact LeO.refl _)
      | (with_reducible exact LeO.none _)
      | (with_reducible refine LeO.ite ?_ ?_)
      | (with_reducible refine LeO.bind ?_ (fun _ => ?_))
      | exact ih0 _ _ _ _ _ _
      | exact exerguelaw07_shown.mono _
      | exact exergueref07_Right.mono _ _ _ _ _
      | exact exergueref07_Same.mono _ _ _ _ _ _ _ _ _
      | exact LeO.none _
      | refine LeO.ite ?_ ?_
      | refine LeO.bind ?_ (fun _ => ?_)
theorem exerguelaw07_OperBack.mono : ∀ a0 a1 a2 a3 k, LeO (exerguelaw07_OperBack.f k a0 a1 a2 a3) (exerguelaw07_OperBack.f (k + 1) a0 a1 a2 a3) := by
  intro a0 a1 a2 a3 k
  have ih0 := exerguelaw07_OperBack.mono_l k
  unfold exerguelaw07_OperBack.f
  repeat' first
      | (with_reducible exact ih0 _ _ _ _ _ _)
      | (with_reducible exact exerguelaw07_shown.mono _)
      | (with_reducible exact exergueref07_Right.mono _ _ _ _ _)
      | (with_reducible exact exergueref07_Same.mono _ _ _ _ _ _ _ _ _)
      | (with_reducible exact LeO.refl _)
      | (with_reducible exact LeO.none _)
      | (with_reducible refine LeO.ite ?_ ?_)
      | (with_reducible refine LeO.bind ?_ (fun _ => ?_))
      | exact ih0 _ _ _ _ _ _
      | exact exerguelaw07_shown.mono _
      | exact exergueref07_Right.mono _ _ _ _ _
      | exact exergueref07_Same.mono _ _ _ _ _ _ _ _ _
      | exact LeO.none _
      | refine LeO.ite ?_ ?_
      | refine LeO.bind ?_ (fun _ => ?_)
set_option maxHeartbeats 8000000 in
set_option maxRecDepth 100000 in
theorem exerguelaw07_OperBack.calls (k : Nat) (A0_0 : Option Addr) (c0_0 : Nat) (l0_0 : List Int) (A0_1 : Option Addr) (c0_1 : Nat) (l0_1 : List Int) (a0_2 : Int) (a0_3 : Int) (r : Bool) (w : World) (hG : GL w) (hr0_0 : Kd.C (Kd.int .u8) w A0_0 l0_0.length l0_0) (hc0_0 : l0_0.length ≤ c0_0) (hr0_1 : Kd.C (Kd.int .u8) w A0_1 l0_1.length l0_1) (hc0_1 : l0_1.length ≤ c0_1) (h : exerguelaw07_OperBack.f k l0_0 l0_1 a0_2 a0_3 = some r) :
    Calls Tryd.prog 9 #[.agg #[.slice A0_0 l0_0.length c0_0, .slice A0_1 l0_1.length c0_1, .int .i64 a0_2, .int .i64 a0_3]] w fun e w' => e = .returned (.bool r) ∧ Below w.heap.size w w' := by
  have hu32 := Tryd.underlying32
  have HR0_0 := Aside0.mk hr0_0
  have HC0_0 := Aside0.mk hc0_0
  clear hr0_0 hc0_0
  have HR0_1 := Aside0.mk hr0_1
  have HC0_1 := Aside0.mk hc0_1
  clear hr0_1 hc0_1
  have HB := Aside0.mk (Below.refl w.heap.size w)
  have HG := Aside0.mk hG
  clear hG
  have H : ((exerguelaw07_shown.f k).bind fun t437 => (if (wrap64 ((l0_0.length : Int) + (l0_1.length : Int))) > 1000 then (exerguelaw07_OperBack.j0 k t437 true l0_0 l0_1 a0_2 a0_3) else ((exergueref07_Right.f k l0_0 l0_1 a0_2 a0_3).bind fun t438 => (exerguelaw07_OperBack.j0 k t437 (!t438) l0_0 l0_1 a0_2 a0_3)))) = some r := h
  clear h
  replace H := Option.bind_eq_some_iff.mp H
  obtain ⟨t437, A20, H⟩ := H
  replace H : (if (wrap64 ((l0_0.length : Int) + (l0_1.length : Int))) > 1000 then (exerguelaw07_OperBack.j0 k t437 true l0_0 l0_1 a0_2 a0_3) else ((exergueref07_Right.f k l0_0 l0_1 a0_2 a0_3).bind fun t438 => (exerguelaw07_OperBack.j0 k t437 (!t438) l0_0 l0_1 a0_2 a0_3))) = some r := H
  have A2 := Aside0.mk A20
  clear A20
  have HC3 := Aside0.mk H
  clear H
  go_enter Tryd.func9, Tryd.ntmps9
  go_upto_region 2 with (first | ((with_reducible refine gate_dst (N := 1) rfl ?_); refine box_event ?hg (N := 1) ?hd (cs := #[.slice A0_0 l0_0.length c0_0, .slice A0_1 l0_1.length c0_1, .int .i64 a0_2, .int .i64 a0_3]) (t := 32) ?hr ?_; (case hd => rfl); (case hg => rfl); (case hr => first | (go_simp; done) | (go_simp; rfl)); intro gb436 hg w4 hbox hb; have n0_ := Aside0.mk (below_step (by repeat (first | (with_reducible first | exact HB.out | apply below_alloc | apply pw_below_drewN | apply below_drew1) | exact HB.out)) hb); have n1_ := Aside0.mk (hbox); have n2_ := Aside0.mk ((by rw [hg]; exact (below_size (by repeat (first | (with_reducible first | exact HB.out | apply below_alloc | apply pw_below_drewN | apply below_drew1) | exact HB.out))) : w.heap.size ≤ gb436)); have n3_ := Aside0.mk ((by rw [hg]; exact (below_size (by repeat (first | (with_reducible first | exact HB.out | apply below_alloc | apply pw_below_drewN | apply below_drew1) | exact HB.out))) : w.heap.size ≤ gb436)); clear HB; have HB := n0_; have BK436 := n1_; have GW436 := n2_; have GE436 := n3_; clear n0_ n1_ n2_ n3_; clear hb hbox hg) | ((with_reducible refine gate_callee (f := 10) rfl ?_); refine goesL_ (some 6) rfl rfl Tryd.func10 (by kernel_rfl) rfl #[] rfl (by (try simp only [List.map_toArray, List.map_cons, List.map_nil]); first | done | rfl | (simp only [List.length_drop, List.length_take]; rfl)) ?_; (with_reducible refine (exerguelaw07_shown.calls k  t437 _ ?side1 A2.out).mono ?_); (case side1 => refine GL.below HG.out ?_; repeat (first | (with_reducible first | exact HB.out | apply below_alloc | apply pw_below_drewN | apply below_drew1 | refine below_set ?_ GE436.out) | exact HB.out)); rintro e w5 ⟨rfl, hb⟩; refine ⟨_, rfl, ?_⟩; have n0_ := Aside0.mk (blk_below (g := gb436) (o := .cells #[.slice A0_0 l0_0.length c0_0, .slice A0_1 l0_1.length c0_1, .int .i64 a0_2, .int .i64 a0_3] 32 (0, 0)) (by (with_reducible repeat (first | refine blk_drewN ?_ _ | refine blk_drew ?_ | refine blk_alloc ?_ _)); exact BK436.out) hb); have n1_ := Aside0.mk (below_step (by repeat (first | (with_reducible first | exact HB.out | apply below_alloc | apply pw_below_drewN | apply below_drew1 | refine below_set ?_ GE436.out) | exact HB.out)) hb); clear BK436; clear HB; have BK436 := n0_; have HB := n1_; clear n0_ n1_; (try clear hb); (try clear hb2); (try clear hk); (try clear hi)))
  (try simp only [Act.put, List.setIfInBounds_toArray, List.set_cons_zero, List.set_cons_succ])
  go_cut [19] (fun v19 wc => ∃ (kq : Nat) (x19_2 : Bool), v19 = .bool x19_2 ∧ Aside0 (exerguelaw07_OperBack.j0 kq t437 x19_2 l0_0 l0_1 a0_2 a0_3 = some r) ∧ Aside0 (kq ≤ k) ∧ Aside0 (wc.heap[gb436]? = some (.cells #[(.slice A0_0 l0_0.length c0_0), (.slice A0_1 l0_1.length c0_1), .int .i64 a0_2, .int .i64 a0_3] 32 (0, 0))) ∧ Aside0 (Below w.heap.size w wc))
  case first =>
    have H := HC3.out
    clear HC3
    by_cases c6 : (wrap64 ((l0_0.length : Int) + (l0_1.length : Int))) > 1000
    · rw [if_pos c6] at H
      have c6b0 : decide (1000 < (wrap64 ((l0_0.length : Int) + (l0_1.length : Int)))) = true := decide_eq_true c6
      clear c6
      (first | rw [c6b0] | (simp only [i64_w, i32_w]; rw [c6b0]) | skip)
      have H' := Aside0.mk H
      clear H
      have hcz7_0 : w5.cell? ⟨gb436, 0, none⟩ = some (.slice A0_0 l0_0.length c0_0) := (blk_cell BK436.out 0).trans rfl
      have hcz7_1 : w5.cell? ⟨gb436, 1, none⟩ = some (.slice A0_1 l0_1.length c0_1) := (blk_cell BK436.out 1).trans rfl
      have hcz7_2 : w5.cell? ⟨gb436, 2, none⟩ = some (.int .i64 a0_2) := (blk_cell BK436.out 2).trans rfl
      have hcz7_3 : w5.cell? ⟨gb436, 3, none⟩ = some (.int .i64 a0_3) := (blk_cell BK436.out 3).trans rfl
      have hfz7_0 := blk_frozen BK436.out 0
      have hfz7_1 := blk_frozen BK436.out 1
      have hfz7_2 := blk_frozen BK436.out 2
      have hfz7_3 := blk_frozen BK436.out 3
      go_wp2
      go_meet
      case rel => exact ⟨_, (true), (by first | rfl | (simp; done) | (simp [*]; done)), H', ⟨by first | omega | exact Nat.le_refl _⟩, ⟨by (with_reducible repeat (first | refine blk_drewN ?_ _ | refine blk_drew ?_ | refine blk_alloc ?_ _)); exact BK436.out⟩, ⟨by repeat (first | (with_reducible first | exact HB.out | apply below_alloc | apply pw_below_drewN | apply below_drew1 | refine below_set ?_ GE436.out) | exact HB.out)⟩⟩
    · rw [if_neg c6] at H
      have c6b0 : decide (1000 < (wrap64 ((l0_0.length : Int) + (l0_1.length : Int)))) = false := decide_eq_false c6
      clear c6
      (first | rw [c6b0] | (simp only [i64_w, i32_w]; rw [c6b0]) | skip)
      replace H := Option.bind_eq_some_iff.mp H
      obtain ⟨t438, A80, H⟩ := H
      replace H : (exerguelaw07_OperBack.j0 k t437 (!t438) l0_0 l0_1 a0_2 a0_3) = some r := H
      have A8 := Aside0.mk A80
      clear A80
      have H' := Aside0.mk H
      clear H
      have hcz9_0 : w5.cell? ⟨gb436, 0, none⟩ = some (.slice A0_0 l0_0.length c0_0) := (blk_cell BK436.out 0).trans rfl
      have hcz9_1 : w5.cell? ⟨gb436, 1, none⟩ = some (.slice A0_1 l0_1.length c0_1) := (blk_cell BK436.out 1).trans rfl
      have hcz9_2 : w5.cell? ⟨gb436, 2, none⟩ = some (.int .i64 a0_2) := (blk_cell BK436.out 2).trans rfl
      have hcz9_3 : w5.cell? ⟨gb436, 3, none⟩ = some (.int .i64 a0_3) := (blk_cell BK436.out 3).trans rfl
      have hfz9_0 := blk_frozen BK436.out 0
      have hfz9_1 := blk_frozen BK436.out 1
      have hfz9_2 := blk_frozen BK436.out 2
      have hfz9_3 := blk_frozen BK436.out 3
      go_wp2_with (first | (go_at_call 21; (with_reducible refine (exergueref07_Right.calls k _ _ l0_0 _ _ l0_1 a0_2 a0_3 t438 _ ?side1 ?side2 ?side3 ?side4 A8.out).mono ?_); (case side1 => repeat (first | exact (Kd.C_below HR0_0.out HB.out) | (with_reducible refine Kd.C_alloc ?_ _) | (with_reducible refine Kd.C_drewN ?_ _) | (with_reducible refine Kd.C_drew ?_))); (case side2 => exact HC0_0.out); (case side3 => repeat (first | exact (Kd.C_below HR0_1.out HB.out) | (with_reducible refine Kd.C_alloc ?_ _) | (with_reducible refine Kd.C_drewN ?_ _) | (with_reducible refine Kd.C_drew ?_))); (case side4 => exact HC0_1.out); rintro e w10 ⟨rfl, hb⟩; have n0_ := Aside0.mk (blk_below (g := gb436) (o := .cells #[.slice A0_0 l0_0.length c0_0, .slice A0_1 l0_1.length c0_1, .int .i64 a0_2, .int .i64 a0_3] 32 (0, 0)) (by (with_reducible repeat (first | refine blk_drewN ?_ _ | refine blk_drew ?_ | refine blk_alloc ?_ _)); exact BK436.out) hb); have n1_ := Aside0.mk (below_step (by repeat (first | (with_reducible first | exact HB.out | apply below_alloc | apply pw_below_drewN | apply below_drew1 | refine below_set ?_ GE436.out) | exact HB.out)) hb); clear BK436; clear HB; have BK436 := n0_; have HB := n1_; clear n0_ n1_; (try clear hb); (try clear hb2); (try clear hk); (try clear hi)))
      go_meet
      case rel => exact ⟨_, (!t438), (by first | rfl | (simp; done) | (simp [*]; done)), H', ⟨by first | omega | exact Nat.le_refl _⟩, ⟨by (with_reducible repeat (first | refine blk_drewN ?_ _ | refine blk_drew ?_ | refine blk_alloc ?_ _)); exact BK436.out⟩, ⟨by repeat (first | (with_reducible first | exact HB.out | apply below_alloc | apply pw_below_drewN | apply below_drew1 | refine below_set ?_ GE436.out) | exact HB.out)⟩⟩
  case rest =>
    clear HC3
    try clear c1
    try clear p2
    try clear c6
    try clear c6b0
    try clear p6
    try clear c9
    try clear c10
    try clear hcz7_0
    try clear hcz7_1
    try clear hcz7_2
    try clear hcz7_3
    try clear hcz9_0
    try clear hcz9_1
    try clear hcz9_2
    try clear hcz9_3
    try clear hfz7_0
    try clear hfz7_1
    try clear hfz7_2
    try clear hfz7_3
    try clear hfz9_0
    try clear hfz9_1
    try clear hfz9_2
    try clear hfz9_3
    obtain ⟨kq, x19_2, rfl, HA, HJ2, BK436, HB⟩ := hcut
    cases kq with
    | zero => exact absurd HA.out (by simp [exerguelaw07_OperBack.j0])
    | succ kj2 =>
      have H := HA.out
      clear HA
      simp only [exerguelaw07_OperBack.j0] at H
      by_cases c11 : x19_2 = true
      · subst c11
        have H1 : (some t437) = some r := by rw [if_pos rfl] at H; exact H
        clear H
        have H := H1
        clear H1
        obtain rfl := Option.some.inj H
        go_wp2
        go_ret
        exact ⟨by first | rfl | (simp [errW_none, errW_some] <;> rfl) | (simp [*, errW_none, errW_some] <;> rfl), by repeat (first | (with_reducible first | exact HB.out | apply below_alloc | apply pw_below_drewN | apply below_drew1 | refine below_set ?_ GE436.out) | exact HB.out)⟩
      · replace c11 := Bool.eq_false_iff.mpr c11
        subst c11
        have H1 : ((oper_Of.f l0_0 l0_1 a0_3).bind fun bt439 => (if t437 = true then (if bt439.2.2.2.2 = 0 then ((exergueref07_Same.f kj2 bt439.1 bt439.2.1 bt439.2.2.1 bt439.2.2.2.1 l0_0 l0_1 a0_2 a0_3).bind fun t449 => (if t449 = true then ((oper_Same.f bt439.1 bt439.2.1 bt439.2.2.1 bt439.2.2.2.1 l0_0 l0_1 a0_2 a0_3).bind fun t450 => (if t450 = true then ((oper_Right.f bt439.1 bt439.2.1 bt439.2.2.1 bt439.2.2.2.1).bind fun t451 => (some t451)) else (none))) else (none))) else (none)) else (none))) = some r := by rw [if_neg (show ¬ (false = true) by decide)] at H; exact H
        clear H
        have H := H1
        clear H1
        replace H := Option.bind_eq_some_iff.mp H
        obtain ⟨⟨t439, t442, t445, t446, t447⟩, A120, H⟩ := H
        replace H : (if t437 = true then (if t447 = 0 then ((exergueref07_Same.f kj2 t439 t442 t445 t446 l0_0 l0_1 a0_2 a0_3).bind fun t449 => (if t449 = true then ((oper_Same.f t439 t442 t445 t446 l0_0 l0_1 a0_2 a0_3).bind fun t450 => (if t450 = true then ((oper_Right.f t439 t442 t445 t446).bind fun t451 => (some t451)) else (none))) else (none))) else (none)) else (none)) = some r := H
        have A12 := Aside0.mk A120
        clear A120
        by_cases c13 : t437 = true
        · subst c13
          have H1 : (if t447 = 0 then ((exergueref07_Same.f kj2 t439 t442 t445 t446 l0_0 l0_1 a0_2 a0_3).bind fun t449 => (if t449 = true then ((oper_Same.f t439 t442 t445 t446 l0_0 l0_1 a0_2 a0_3).bind fun t450 => (if t450 = true then ((oper_Right.f t439 t442 t445 t446).bind fun t451 => (some t451)) else (none))) else (none))) else (none)) = some r := by rw [if_pos rfl] at H; exact H
          clear H
          have H := H1
          clear H1
          by_cases c14 : t447 = 0
          · rw [if_pos c14] at H
            have c14b0 : (t447 == 0) = true := beq_iff_eq.mpr c14
            have c14b1 : (t447 != 0) = false := bne_eq_false_iff_eq.mpr c14
            clear c14
            replace H := Option.bind_eq_some_iff.mp H
            obtain ⟨t449, A150, H⟩ := H
            replace H : (if t449 = true then ((oper_Same.f t439 t442 t445 t446 l0_0 l0_1 a0_2 a0_3).bind fun t450 => (if t450 = true then ((oper_Right.f t439 t442 t445 t446).bind fun t451 => (some t451)) else (none))) else (none)) = some r := H
            have A15 := Aside0.mk A150
            clear A150
            by_cases c16 : t449 = true
            · subst c16
              have H1 : ((oper_Same.f t439 t442 t445 t446 l0_0 l0_1 a0_2 a0_3).bind fun t450 => (if t450 = true then ((oper_Right.f t439 t442 t445 t446).bind fun t451 => (some t451)) else (none))) = some r := by rw [if_pos rfl] at H; exact H
              clear H
              have H := H1
              clear H1
              replace H := Option.bind_eq_some_iff.mp H
              obtain ⟨t450, A170, H⟩ := H
              replace H : (if t450 = true then ((oper_Right.f t439 t442 t445 t446).bind fun t451 => (some t451)) else (none)) = some r := H
              have A17 := Aside0.mk A170
              clear A170
              by_cases c18 : t450 = true
              · subst c18
                have H1 : ((oper_Right.f t439 t442 t445 t446).bind fun t451 => (some t451)) = some r := by rw [if_pos rfl] at H; exact H
                clear H
                have H := H1
                clear H1
                replace H := Option.bind_eq_some_iff.mp H
                obtain ⟨t451, A190, H⟩ := H
                replace H : (some t451) = some r := H
                have A19 := Aside0.mk A190
                clear A190
                obtain rfl := Option.some.inj H
                have hcz20_0 : wc.cell? ⟨gb436, 0, none⟩ = some (.slice A0_0 l0_0.length c0_0) := (blk_cell BK436.out 0).trans rfl
                have hcz20_1 : wc.cell? ⟨gb436, 1, none⟩ = some (.slice A0_1 l0_1.length c0_1) := (blk_cell BK436.out 1).trans rfl
                have hcz20_2 : wc.cell? ⟨gb436, 2, none⟩ = some (.int .i64 a0_2) := (blk_cell BK436.out 2).trans rfl
                have hcz20_3 : wc.cell? ⟨gb436, 3, none⟩ = some (.int .i64 a0_3) := (blk_cell BK436.out 3).trans rfl
                have hfz20_0 := blk_frozen BK436.out 0
                have hfz20_1 := blk_frozen BK436.out 1
                have hfz20_2 := blk_frozen BK436.out 2
                have hfz20_3 := blk_frozen BK436.out 3
                go_wp2_with (first | ((with_reducible refine gate_callee (f := 17) rfl ?_); refine goesL_ (some 28) rfl rfl Tryd.func17 (by kernel_rfl) rfl #[.slice A0_0 l0_0.length c0_0, .slice A0_1 l0_1.length c0_1, .int .i64 a0_3] rfl (by (try simp only [List.map_toArray, List.map_cons, List.map_nil]); first | done | rfl | (simp only [List.length_drop, List.length_take]; rfl)) ?_; (with_reducible refine (oper_Of.calls _ _ l0_0 _ _ l0_1 a0_3 t439 t442 t445 t446 t447 _ ?side1 ?side2 ?side3 ?side4 A12.out).mono ?_); (case side1 => repeat (first | exact (Kd.C_below HR0_0.out HB.out) | (with_reducible refine Kd.C_alloc ?_ _) | (with_reducible refine Kd.C_drewN ?_ _) | (with_reducible refine Kd.C_drew ?_))); (case side2 => exact HC0_0.out); (case side3 => repeat (first | exact (Kd.C_below HR0_1.out HB.out) | (with_reducible refine Kd.C_alloc ?_ _) | (with_reducible refine Kd.C_drewN ?_ _) | (with_reducible refine Kd.C_drew ?_))); (case side4 => exact HC0_1.out); rintro e w21 ⟨v440, v443, rfl, ho0, ho1, hb⟩; refine ⟨_, rfl, ?_⟩; have n0_ := Aside0.mk (Kd.V_lower (Kd.V_mono (ok' := fun k_ => some k_ ≠ (v443 : Value).ownBlock ∧ k_ ≠ gb436) ho0 (fun k_ hk_ => ⟨hk_.2, (Kd.freshB (g := gb436) (o := .cells #[.slice A0_0 l0_0.length c0_0, .slice A0_1 l0_1.length c0_1, .int .i64 a0_2, .int .i64 a0_3] 32 (0, 0)) (by (with_reducible repeat (first | refine blk_drewN ?_ _ | refine blk_drew ?_ | refine blk_alloc ?_ _)); exact BK436.out) k_ hk_.1)⟩)) (below_size (by repeat (first | (with_reducible first | exact HB.out | apply below_alloc | apply pw_below_drewN | apply below_drew1 | refine below_set ?_ GE436.out) | exact HB.out)))); have n1_ := Aside0.mk (Kd.R_lower (Kd.R_mono (ok' := fun k_ => True) ho1 (fun _ hk_ => trivial)) (below_size (by repeat (first | (with_reducible first | exact HB.out | apply below_alloc | apply pw_below_drewN | apply below_drew1 | refine below_set ?_ GE436.out) | exact HB.out)))); have n2_ := Aside0.mk (blk_below (g := gb436) (o := .cells #[.slice A0_0 l0_0.length c0_0, .slice A0_1 l0_1.length c0_1, .int .i64 a0_2, .int .i64 a0_3] 32 (0, 0)) (by (with_reducible repeat (first | refine blk_drewN ?_ _ | refine blk_drew ?_ | refine blk_alloc ?_ _)); exact BK436.out) hb); have n3_ := Aside0.mk (below_step (by repeat (first | (with_reducible first | exact HB.out | apply below_alloc | apply pw_below_drewN | apply below_drew1 | refine below_set ?_ GE436.out) | exact HB.out)) hb); clear BK436; clear HB; have HO441 := n0_; have HO444 := n1_; have BK436 := n2_; have HB := n3_; clear n0_ n1_ n2_ n3_; (try clear hb); (try clear hb2); (try clear hk); (try clear hi); (try clear ho0); (try clear ho1)) | ((with_reducible refine gate_dst (N := 4) rfl ?_); refine box_event ?hg (N := 4) ?hd (cs := #[.slice none 0 0, .slice none 0 0, .int .i64 0, .int .i64 0]) (t := 32) ?hr ?_; (case hd => rfl); (case hg => rfl); (case hr => first | (go_simp; done) | (go_simp; rfl)); intro gb448 hg w22 hbox hb; have n0_ := Aside0.mk (Kd.V_below (Kd.V_elderB (by (with_reducible repeat (first | apply Kd.V_alloc | apply Kd.V_drewN | apply Kd.V_drew)); exact HO441.out) gb448 (Nat.le_of_eq hg.symm)) hb); have n1_ := Aside0.mk (Kd.R_below (by (with_reducible repeat (first | apply Kd.R_alloc | apply Kd.R_drewN | apply Kd.R_drew)); exact HO444.out) hb); have n2_ := Aside0.mk (blk_below (g := gb436) (o := .cells #[.slice A0_0 l0_0.length c0_0, .slice A0_1 l0_1.length c0_1, .int .i64 a0_2, .int .i64 a0_3] 32 (0, 0)) (by (with_reducible repeat (first | refine blk_drewN ?_ _ | refine blk_drew ?_ | refine blk_alloc ?_ _)); exact BK436.out) hb); have n3_ := Aside0.mk (below_step (by repeat (first | (with_reducible first | exact HB.out | apply below_alloc | apply pw_below_drewN | apply below_drew1 | refine below_set ?_ GE436.out) | exact HB.out)) hb); have n4_ := Aside0.mk (hbox); have n5_ := Aside0.mk ((by rw [hg]; exact (below_size (by repeat (first | (with_reducible first | exact HB.out | apply below_alloc | apply pw_below_drewN | apply below_drew1 | refine below_set ?_ GE436.out) | exact HB.out))) : w.heap.size ≤ gb448)); have n6_ := Aside0.mk ((by rw [hg]; exact (below_size (by repeat (first | (with_reducible first | exact HB.out | apply below_alloc | apply pw_below_drewN | apply below_drew1 | refine below_set ?_ GE436.out) | exact HB.out))) : w.heap.size ≤ gb448)); have n7_ := Aside0.mk ((by rw [hg]; exact Nat.ne_of_lt (blk_lt (g := gb436) (o := .cells #[.slice A0_0 l0_0.length c0_0, .slice A0_1 l0_1.length c0_1, .int .i64 a0_2, .int .i64 a0_3] 32 (0, 0)) (by (with_reducible repeat (first | refine blk_drewN ?_ _ | refine blk_drew ?_ | refine blk_alloc ?_ _)); exact BK436.out)) : gb436 ≠ gb448)); have n8_ := Aside0.mk ((by rw [hg]; exact Nat.ne_of_gt (blk_lt (g := gb436) (o := .cells #[.slice A0_0 l0_0.length c0_0, .slice A0_1 l0_1.length c0_1, .int .i64 a0_2, .int .i64 a0_3] 32 (0, 0)) (by (with_reducible repeat (first | refine blk_drewN ?_ _ | refine blk_drew ?_ | refine blk_alloc ?_ _)); exact BK436.out)) : gb448 ≠ gb436)); clear HO441; clear HO444; clear BK436; clear HB; have HO441 := n0_; have HO444 := n1_; have BK436 := n2_; have HB := n3_; have BK448 := n4_; have GW448 := n5_; have GE448 := n6_; have NB436_448 := n7_; have NB448_436 := n8_; clear n0_ n1_ n2_ n3_ n4_ n5_ n6_ n7_ n8_; clear hb hbox hg; obtain ⟨Ao23, co23, eo23⟩ := Kd.V_slice HO441.out; subst eo23; have hnb24 := NB448_436.out; have hnc24 := NB436_448.out; have hcz25_0 : w22.cell? ⟨gb448, 0, none⟩ = some (.slice none 0 0) := (blk_cell BK448.out 0).trans rfl; have hcz25_1 : w22.cell? ⟨gb448, 1, none⟩ = some (.slice none 0 0) := (blk_cell BK448.out 1).trans rfl; have hcz25_2 : w22.cell? ⟨gb448, 2, none⟩ = some (.int .i64 0) := (blk_cell BK448.out 2).trans rfl; have hcz25_3 : w22.cell? ⟨gb448, 3, none⟩ = some (.int .i64 0) := (blk_cell BK448.out 3).trans rfl; have hfz25_0 := blk_frozen BK448.out 0; have hfz25_1 := blk_frozen BK448.out 1; have hfz25_2 := blk_frozen BK448.out 2; have hfz25_3 := blk_frozen BK448.out 3; obtain ⟨Ao26, co26, eo26⟩ := Kd.R_slice HO444.out; subst eo26; have hcz27_0 : w22.cell? ⟨gb436, 0, none⟩ = some (.slice A0_0 l0_0.length c0_0) := (blk_cell BK436.out 0).trans rfl; have hcz27_1 : w22.cell? ⟨gb436, 1, none⟩ = some (.slice A0_1 l0_1.length c0_1) := (blk_cell BK436.out 1).trans rfl; have hcz27_2 : w22.cell? ⟨gb436, 2, none⟩ = some (.int .i64 a0_2) := (blk_cell BK436.out 2).trans rfl; have hcz27_3 : w22.cell? ⟨gb436, 3, none⟩ = some (.int .i64 a0_3) := (blk_cell BK436.out 3).trans rfl; have hfz27_0 := blk_frozen BK436.out 0; have hfz27_1 := blk_frozen BK436.out 1; have hfz27_2 := blk_frozen BK436.out 2; have hfz27_3 := blk_frozen BK436.out 3) | (go_at_call 18; (with_reducible refine (exergueref07_Same.calls kj2 _ _ t439 _ _ t442 t445 t446 _ _ l0_0 _ _ l0_1 a0_2 a0_3 true _ ?side1 ?side2 ?side3 ?side4 ?side5 ?side6 ?side7 ?side8 A15.out).mono ?_); (case side1 => refine (Kd.V_reads' (e := 5) (base := w.heap.size) (ok := fun k_ => ((some k_ ≠ (.slice Ao26 t442.length co26 : Value).ownBlock ∧ k_ ≠ gb436) ∧ k_ ≠ gb448)) (n := t439.length) (c := co23) ?_).2.2; exact (by (with_reducible repeat (first | apply Kd.V_alloc | apply Kd.V_drewN | apply Kd.V_drew)); exact (Kd.V_mono (Kd.V_far (p := ⟨gb448, 3, none⟩) (Kd.V_far (p := ⟨gb448, 2, none⟩) (Kd.V_far (p := ⟨gb448, 1, none⟩) (Kd.V_far (p := ⟨gb448, 0, none⟩) (Kd.V_mono HO441.out (fun k_ hk => (⟨hk, hk.2⟩ : _ ∧ k_ ≠ gb448))) (fun _ hk => hk.2) (.slice Ao23 t439.length co23)) (fun _ hk => hk.2) (.slice Ao26 t442.length co26)) (fun _ hk => hk.2) (.int .i64 t445)) (fun _ hk => hk.2) (.int .i64 t446)) (fun _ h_ => h_.1)))); (case side2 => exact (Kd.V_reads' HO441.out).2.1); (case side3 => refine (Kd.R_reads' (e := 5) (base := w.heap.size) (ok := fun k_ => True) (n := t442.length) (c := co26) ?_).2.2; exact (by (with_reducible repeat (first | apply Kd.R_alloc | apply Kd.R_drewN | apply Kd.R_drew)); exact (Kd.R_mono (Kd.R_far (p := ⟨gb448, 3, none⟩) (Kd.R_far (p := ⟨gb448, 2, none⟩) (Kd.R_far (p := ⟨gb448, 1, none⟩) (Kd.R_far (p := ⟨gb448, 0, none⟩) (Kd.R_types HO444.out BK448.out (by decide)) (fun _ hk => hk.2) (.slice Ao23 t439.length co23)) (fun _ hk => hk.2) (.slice Ao26 t442.length co26)) (fun _ hk => hk.2) (.int .i64 t445)) (fun _ hk => hk.2) (.int .i64 t446)) (fun _ h_ => h_.1)))); (case side4 => exact (Kd.R_reads' HO444.out).2.1); (case side5 => exact Kd.C_below HR0_0.out (by repeat (first | (with_reducible first | exact HB.out | apply below_alloc | apply pw_below_drewN | apply below_drew1 | refine below_set ?_ GE436.out | refine below_set ?_ GE448.out) | exact HB.out))); (case side6 => exact HC0_0.out); (case side7 => exact Kd.C_below HR0_1.out (by repeat (first | (with_reducible first | exact HB.out | apply below_alloc | apply pw_below_drewN | apply below_drew1 | refine below_set ?_ GE436.out | refine below_set ?_ GE448.out) | exact HB.out))); (case side8 => exact HC0_1.out); rintro e w28 ⟨rfl, hb⟩; have n0_ := Aside0.mk (Kd.V_below (by (with_reducible repeat (first | apply Kd.V_alloc | apply Kd.V_drewN | apply Kd.V_drew)); exact (Kd.V_mono (Kd.V_far (p := ⟨gb448, 3, none⟩) (Kd.V_far (p := ⟨gb448, 2, none⟩) (Kd.V_far (p := ⟨gb448, 1, none⟩) (Kd.V_far (p := ⟨gb448, 0, none⟩) (Kd.V_mono HO441.out (fun k_ hk => (⟨hk, hk.2⟩ : _ ∧ k_ ≠ gb448))) (fun _ hk => hk.2) (.slice Ao23 t439.length co23)) (fun _ hk => hk.2) (.slice Ao26 t442.length co26)) (fun _ hk => hk.2) (.int .i64 t445)) (fun _ hk => hk.2) (.int .i64 t446)) (fun _ h_ => h_.1))) hb); have n1_ := Aside0.mk (Kd.R_below (by (with_reducible repeat (first | apply Kd.R_alloc | apply Kd.R_drewN | apply Kd.R_drew)); exact (Kd.R_mono (Kd.R_far (p := ⟨gb448, 3, none⟩) (Kd.R_far (p := ⟨gb448, 2, none⟩) (Kd.R_far (p := ⟨gb448, 1, none⟩) (Kd.R_far (p := ⟨gb448, 0, none⟩) (Kd.R_types HO444.out BK448.out (by decide)) (fun _ hk => hk.2) (.slice Ao23 t439.length co23)) (fun _ hk => hk.2) (.slice Ao26 t442.length co26)) (fun _ hk => hk.2) (.int .i64 t445)) (fun _ hk => hk.2) (.int .i64 t446)) (fun _ h_ => h_.1))) hb); have n2_ := Aside0.mk (blk_below (g := gb436) (o := .cells #[.slice A0_0 l0_0.length c0_0, .slice A0_1 l0_1.length c0_1, .int .i64 a0_2, .int .i64 a0_3] 32 (0, 0)) (by (with_reducible repeat (first | refine blk_drewN ?_ _ | refine blk_drew ?_ | refine blk_alloc ?_ _)); refine blk_far ?_ NB436_448.out _; (with_reducible repeat (first | refine blk_drewN ?_ _ | refine blk_drew ?_ | refine blk_alloc ?_ _)); refine blk_far ?_ NB436_448.out _; (with_reducible repeat (first | refine blk_drewN ?_ _ | refine blk_drew ?_ | refine blk_alloc ?_ _)); refine blk_far ?_ NB436_448.out _; (with_reducible repeat (first | refine blk_drewN ?_ _ | refine blk_drew ?_ | refine blk_alloc ?_ _)); refine blk_far ?_ NB436_448.out _; (with_reducible repeat (first | refine blk_drewN ?_ _ | refine blk_drew ?_ | refine blk_alloc ?_ _)); exact BK436.out) hb); have n3_ := Aside0.mk (blk_below (g := gb448) (o := .cells #[.slice Ao23 t439.length co23, .slice Ao26 t442.length co26, .int .i64 t445, .int .i64 t446] 32 (0, 0)) (by (with_reducible repeat (first | refine blk_drewN ?_ _ | refine blk_drew ?_ | refine blk_alloc ?_ _)); refine blk_put (cs := #[.slice Ao23 t439.length co23, .slice Ao26 t442.length co26, .int .i64 t445, .int .i64 0]) ?_ 3 _ rfl; (with_reducible repeat (first | refine blk_drewN ?_ _ | refine blk_drew ?_ | refine blk_alloc ?_ _)); refine blk_put (cs := #[.slice Ao23 t439.length co23, .slice Ao26 t442.length co26, .int .i64 0, .int .i64 0]) ?_ 2 _ rfl; (with_reducible repeat (first | refine blk_drewN ?_ _ | refine blk_drew ?_ | refine blk_alloc ?_ _)); refine blk_put (cs := #[.slice Ao23 t439.length co23, .slice none 0 0, .int .i64 0, .int .i64 0]) ?_ 1 _ rfl; (with_reducible repeat (first | refine blk_drewN ?_ _ | refine blk_drew ?_ | refine blk_alloc ?_ _)); refine blk_put (cs := #[.slice none 0 0, .slice none 0 0, .int .i64 0, .int .i64 0]) ?_ 0 _ rfl; (with_reducible repeat (first | refine blk_drewN ?_ _ | refine blk_drew ?_ | refine blk_alloc ?_ _)); exact BK448.out) hb); have n4_ := Aside0.mk (below_step (by repeat (first | (with_reducible first | exact HB.out | apply below_alloc | apply pw_below_drewN | apply below_drew1 | refine below_set ?_ GE436.out | refine below_set ?_ GE448.out) | exact HB.out)) hb); clear HO441; clear HO444; clear BK436; clear BK448; clear HB; have HO441 := n0_; have HO444 := n1_; have BK436 := n2_; have BK448 := n3_; have HB := n4_; clear n0_ n1_ n2_ n3_ n4_; (try clear hb); (try clear hb2); (try clear hk); (try clear hi); have hcz29_0 : w28.cell? ⟨gb448, 0, none⟩ = some (.slice Ao23 t439.length co23) := (blk_cell BK448.out 0).trans rfl; have hcz29_1 : w28.cell? ⟨gb448, 1, none⟩ = some (.slice Ao26 t442.length co26) := (blk_cell BK448.out 1).trans rfl; have hcz29_2 : w28.cell? ⟨gb448, 2, none⟩ = some (.int .i64 t445) := (blk_cell BK448.out 2).trans rfl; have hcz29_3 : w28.cell? ⟨gb448, 3, none⟩ = some (.int .i64 t446) := (blk_cell BK448.out 3).trans rfl; have hfz29_0 := blk_frozen BK448.out 0; have hfz29_1 := blk_frozen BK448.out 1; have hfz29_2 := blk_frozen BK448.out 2; have hfz29_3 := blk_frozen BK448.out 3; have hcz30_0 : w28.cell? ⟨gb436, 0, none⟩ = some (.slice A0_0 l0_0.length c0_0) := (blk_cell BK436.out 0).trans rfl; have hcz30_1 : w28.cell? ⟨gb436, 1, none⟩ = some (.slice A0_1 l0_1.length c0_1) := (blk_cell BK436.out 1).trans rfl; have hcz30_2 : w28.cell? ⟨gb436, 2, none⟩ = some (.int .i64 a0_2) := (blk_cell BK436.out 2).trans rfl; have hcz30_3 : w28.cell? ⟨gb436, 3, none⟩ = some (.int .i64 a0_3) := (blk_cell BK436.out 3).trans rfl; have hfz30_0 := blk_frozen BK436.out 0; have hfz30_1 := blk_frozen BK436.out 1; have hfz30_2 := blk_frozen BK436.out 2; have hfz30_3 := blk_frozen BK436.out 3) | (go_at_call 24; (with_reducible refine (oper_Same.calls _ _ t439 _ _ t442 t445 t446 _ _ l0_0 _ _ l0_1 a0_2 a0_3 true _ ?side1 ?side2 ?side3 ?side4 ?side5 ?side6 ?side7 ?side8 A17.out).mono ?_); (case side1 => repeat (first | exact (Kd.V_reads' HO441.out).2.2 | (with_reducible refine Kd.C_alloc ?_ _) | (with_reducible refine Kd.C_drewN ?_ _) | (with_reducible refine Kd.C_drew ?_))); (case side2 => exact (Kd.V_reads' HO441.out).2.1); (case side3 => repeat (first | exact (Kd.R_reads' HO444.out).2.2 | (with_reducible refine Kd.C_alloc ?_ _) | (with_reducible refine Kd.C_drewN ?_ _) | (with_reducible refine Kd.C_drew ?_))); (case side4 => exact (Kd.R_reads' HO444.out).2.1); (case side5 => repeat (first | exact (Kd.C_below HR0_0.out HB.out) | (with_reducible refine Kd.C_alloc ?_ _) | (with_reducible refine Kd.C_drewN ?_ _) | (with_reducible refine Kd.C_drew ?_))); (case side6 => exact HC0_0.out); (case side7 => repeat (first | exact (Kd.C_below HR0_1.out HB.out) | (with_reducible refine Kd.C_alloc ?_ _) | (with_reducible refine Kd.C_drewN ?_ _) | (with_reducible refine Kd.C_drew ?_))); (case side8 => exact HC0_1.out); rintro e w31 ⟨rfl, hb⟩; have n0_ := Aside0.mk (Kd.V_below (by (with_reducible repeat (first | apply Kd.V_alloc | apply Kd.V_drewN | apply Kd.V_drew)); exact HO441.out) hb); have n1_ := Aside0.mk (Kd.R_below (by (with_reducible repeat (first | apply Kd.R_alloc | apply Kd.R_drewN | apply Kd.R_drew)); exact HO444.out) hb); have n2_ := Aside0.mk (blk_below (g := gb436) (o := .cells #[.slice A0_0 l0_0.length c0_0, .slice A0_1 l0_1.length c0_1, .int .i64 a0_2, .int .i64 a0_3] 32 (0, 0)) (by (with_reducible repeat (first | refine blk_drewN ?_ _ | refine blk_drew ?_ | refine blk_alloc ?_ _)); exact BK436.out) hb); have n3_ := Aside0.mk (blk_below (g := gb448) (o := .cells #[.slice Ao23 t439.length co23, .slice Ao26 t442.length co26, .int .i64 t445, .int .i64 t446] 32 (0, 0)) (by (with_reducible repeat (first | refine blk_drewN ?_ _ | refine blk_drew ?_ | refine blk_alloc ?_ _)); exact BK448.out) hb); have n4_ := Aside0.mk (below_step (by repeat (first | (with_reducible first | exact HB.out | apply below_alloc | apply pw_below_drewN | apply below_drew1 | refine below_set ?_ GE436.out | refine below_set ?_ GE448.out) | exact HB.out)) hb); clear HO441; clear HO444; clear BK436; clear BK448; clear HB; have HO441 := n0_; have HO444 := n1_; have BK436 := n2_; have BK448 := n3_; have HB := n4_; clear n0_ n1_ n2_ n3_ n4_; (try clear hb); (try clear hb2); (try clear hk); (try clear hi); have hcz32_0 : w31.cell? ⟨gb448, 0, none⟩ = some (.slice Ao23 t439.length co23) := (blk_cell BK448.out 0).trans rfl; have hcz32_1 : w31.cell? ⟨gb448, 1, none⟩ = some (.slice Ao26 t442.length co26) := (blk_cell BK448.out 1).trans rfl; have hcz32_2 : w31.cell? ⟨gb448, 2, none⟩ = some (.int .i64 t445) := (blk_cell BK448.out 2).trans rfl; have hcz32_3 : w31.cell? ⟨gb448, 3, none⟩ = some (.int .i64 t446) := (blk_cell BK448.out 3).trans rfl; have hfz32_0 := blk_frozen BK448.out 0; have hfz32_1 := blk_frozen BK448.out 1; have hfz32_2 := blk_frozen BK448.out 2; have hfz32_3 := blk_frozen BK448.out 3) | (go_at_call 23; (with_reducible refine (oper_Right.calls _ _ t439 _ _ t442 t445 t446 t451 _ ?side1 ?side2 ?side3 ?side4 A19.out).mono ?_); (case side1 => repeat (first | exact (Kd.V_reads' HO441.out).2.2 | (with_reducible refine Kd.C_alloc ?_ _) | (with_reducible refine Kd.C_drewN ?_ _) | (with_reducible refine Kd.C_drew ?_))); (case side2 => exact (Kd.V_reads' HO441.out).2.1); (case side3 => repeat (first | exact (Kd.R_reads' HO444.out).2.2 | (with_reducible refine Kd.C_alloc ?_ _) | (with_reducible refine Kd.C_drewN ?_ _) | (with_reducible refine Kd.C_drew ?_))); (case side4 => exact (Kd.R_reads' HO444.out).2.1); rintro e w33 ⟨rfl, hb⟩; have n0_ := Aside0.mk (Kd.V_below (by (with_reducible repeat (first | apply Kd.V_alloc | apply Kd.V_drewN | apply Kd.V_drew)); exact HO441.out) hb); have n1_ := Aside0.mk (Kd.R_below (by (with_reducible repeat (first | apply Kd.R_alloc | apply Kd.R_drewN | apply Kd.R_drew)); exact HO444.out) hb); have n2_ := Aside0.mk (blk_below (g := gb436) (o := .cells #[.slice A0_0 l0_0.length c0_0, .slice A0_1 l0_1.length c0_1, .int .i64 a0_2, .int .i64 a0_3] 32 (0, 0)) (by (with_reducible repeat (first | refine blk_drewN ?_ _ | refine blk_drew ?_ | refine blk_alloc ?_ _)); exact BK436.out) hb); have n3_ := Aside0.mk (blk_below (g := gb448) (o := .cells #[.slice Ao23 t439.length co23, .slice Ao26 t442.length co26, .int .i64 t445, .int .i64 t446] 32 (0, 0)) (by (with_reducible repeat (first | refine blk_drewN ?_ _ | refine blk_drew ?_ | refine blk_alloc ?_ _)); exact BK448.out) hb); have n4_ := Aside0.mk (below_step (by repeat (first | (with_reducible first | exact HB.out | apply below_alloc | apply pw_below_drewN | apply below_drew1 | refine below_set ?_ GE436.out | refine below_set ?_ GE448.out) | exact HB.out)) hb); clear HO441; clear HO444; clear BK436; clear BK448; clear HB; have HO441 := n0_; have HO444 := n1_; have BK436 := n2_; have BK448 := n3_; have HB := n4_; clear n0_ n1_ n2_ n3_ n4_; (try clear hb); (try clear hb2); (try clear hk); (try clear hi)))
                go_ret
                exact ⟨by first | rfl | (simp [errW_none, errW_some] <;> rfl) | (simp [*, errW_none, errW_some] <;> rfl), by repeat (first | (with_reducible first | exact HB.out | apply below_alloc | apply pw_below_drewN | apply below_drew1 | refine below_set ?_ GE436.out | refine below_set ?_ GE448.out) | exact HB.out)⟩
              · replace c18 := Bool.eq_false_iff.mpr c18
                subst c18
                have H1 : (none) = some r := by rw [if_neg (show ¬ (false = true) by decide)] at H; exact H
                clear H
                have H := H1
                clear H1
                exact absurd H (by simp)
            · replace c16 := Bool.eq_false_iff.mpr c16
              subst c16
              have H1 : (none) = some r := by rw [if_neg (show ¬ (false = true) by decide)] at H; exact H
              clear H
              have H := H1
              clear H1
              exact absurd H (by simp)
          · rw [if_neg c14] at H
            exact absurd H (by simp)
        · replace c13 := Bool.eq_false_iff.mpr c13
          subst c13
          have H1 : (none) = some r := by rw [if_neg (show ¬ (false = true) by decide)] at H; exact H
          clear H
          have H := H1
          clear H1
          exact absurd H (by simp)

end Go.Proofs.YtekinhnempbioaaDoor.PZ
