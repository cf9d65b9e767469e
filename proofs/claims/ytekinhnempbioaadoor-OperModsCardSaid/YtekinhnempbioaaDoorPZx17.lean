-- made by wip/xprint.py (a program of this session over the kit's print.py). Not trusted: Lean checks it.
import Derived.Test.YtekinhnempbioaaDoorPZx0
import Derived.Test.YtekinhnempbioaaDoorPZx1
import Derived.Test.YtekinhnempbioaaDoorPZx5
import Derived.Test.YtekinhnempbioaaDoorPZx12
import Derived.Test.YtekinhnempbioaaDoorPZx13
import Derived.Test.YtekinhnempbioaaDoorPZx14
import Derived.Test.YtekinhnempbioaaDoorPZx16
import Derived.Test.YtekinhnempbioaaDoorGl
namespace Go.Proofs.YtekinhnempbioaaDoor.PZ
open Go.RowKit Go.Proofs.YtekinhnempbioaaDoorW.PrintWords Go.Proofs.YtekinhnempbioaaDoorW.PrintLast Go.Proofs.YtekinhnempbioaaDoorW.PrintMore
attribute [local go_sem] max2_int min2_int max_two min_two max_three min_three max_four min_four   -- for this text's walks alone
set_option linter.unusedVariables false
set_option linter.unusedSimpArgs false

/-! ### exerguelaw07_OperMods: function 3 -/
def exerguelaw07_OperMods.j0 : Nat → List Int → Int → Int → Int → Bool → Bool → Option (Bool)
  | 0, _, _, _, _, _, _ => none
  | k + 1, x3, x4, x5, x6, x7, x32 => if x32 = true then (some x7) else (if x7 = true then ((oper_Mod.f k x3 x4).bind fun t237 => ((exergueref07_Mod.f k x3 x4).bind fun t238 => (if t237 = t238 then ((oper_In.f k x3 x5 x6).bind fun t239 => ((exergueref07_In.f k x3 x5 x6).bind fun t240 => (some (t239 == t240)))) else (none)))) else (none))
def exerguelaw07_OperMods.f (k : Nat) (l0_0 : List Int) (a0_1 : Int) (a0_2 : Int) (a0_3 : Int) : Option (Bool) := (exerguelaw07_shown.f k).bind fun t235 => (if (l0_0.length : Int) > 1000 then (exerguelaw07_OperMods.j0 k l0_0 a0_1 a0_2 a0_3 t235 true) else ((exergueref07_Figures.f k l0_0).bind fun t236 => (if t236 = true then (if a0_1 < 1 then (exerguelaw07_OperMods.j0 k l0_0 a0_1 a0_2 a0_3 t235 true) else (exerguelaw07_OperMods.j0 k l0_0 a0_1 a0_2 a0_3 t235 (decide (a0_1 > 1000000000)))) else (exerguelaw07_OperMods.j0 k l0_0 a0_1 a0_2 a0_3 t235 true))))
theorem exerguelaw07_OperMods.mono_l : ∀ k, (∀ y0 y1 y2 y3 y4 y5, LeO (exerguelaw07_OperMods.j0 k y0 y1 y2 y3 y4 y5) (exerguelaw07_OperMods.j0 (k + 1) y0 y1 y2 y3 y4 y5))
  | 0 => fun _ _ _ _ _ _ r h => by simp [exerguelaw07_OperMods.j0] at h
  | k + 1 => by
    have ih0 := exerguelaw07_OperMods.mono_l k
    · intro y0 y1 y2 y3 y4 y5
      unfold exerguelaw07_OperMods.j0
      repeat' first
      | (with_reducible exact ih0 _ _ _ _ _ _)
      | (with_reducible exact exerguelaw07_shown.mono _)
      | (with_reducible exact exergueref07_Figures.mono _ _)
      | (with_reducible exact exergueref07_In.mono _ _ _ _)
      | (with_reducible exact exergueref07_Mod.mono _ _ _)
      | (with_reducible exact oper_In.mono _ _ _ _)
      | (with_reducible exact oper_Mod.mono _ _ _)
      | (with_reducible exact LeO.refl _)
      | (with_reducible exact LeO.none _)
      | (with_reducible refine LeO.ite ?_ ?_)
      | (with_reducible refine LeO.bind ?_ (fun _ => ?_))
      | exact ih0 _ _ _ _ _ _
      | exact exerguelaw07_shown.mono _
      | exact exergueref07_Figures.mono _ _
      | exact exergueref07_In.mono _ _ _ _
      | exact exergueref07_Mod.mono _ _ _
      | exact oper_In.mono _ _ _ _
      | exact oper_Mod.mono _ _ _
      | exact LeO.none _
      | refine LeO.ite ?_ ?_
      | refine LeO.bind ?_ (fun _ => ?_)
theorem exerguelaw07_OperMods.mono : ∀ a0 a1 a2 a3 k, LeO (exerguelaw07_OperMods.f k a0 a1 a2 a3) (exerguelaw07_OperMods.f (k + 1) a0 a1 a2 a3) := by
  intro a0 a1 a2 a3 k
  have ih0 := exerguelaw07_OperMods.mono_l k
  unfold exerguelaw07_OperMods.f
  repeat' first
      | (with_reducible exact ih0 _ _ _ _ _ _)
      | (with_reducible exact exerguelaw07_shown.mono _)
      | (with_reducible exact exergueref07_Figures.mono _ _)
      | (with_reducible exact exergueref07_In.mono _ _ _ _)
      | (with_reducible exact exergueref07_Mod.mono _ _ _)
      | (with_reducible exact oper_In.mono _ _ _ _)
      | (with_reducible exact oper_Mod.mono _ _ _)
      | (with_reducible exact LeO.refl _)
      | (with_reducible exact LeO.none _)
      | (with_reducible refine LeO.ite ?_ ?_)
      | (with_reducible refine LeO.bind ?_ (fun _ => ?_))
      | exact ih0 _ _ _ _ _ _
      | exact exerguelaw07_shown.mono _
      | exact exergueref07_Figures.mono _ _
      | exact exergueref07_In.mono _ _ _ _
      | exact exergueref07_Mod.mono _ _ _
      | exact oper_In.mono _ _ _ _
      | exact oper_Mod.mono _ _ _
      | exact LeO.none _
      | refine LeO.ite ?_ ?_
      | refine LeO.bind ?_ (fun _ => ?_)
set_option maxHeartbeats 8000000 in
set_option maxRecDepth 100000 in
theorem exerguelaw07_OperMods.calls (k : Nat) (A0_0 : Option Addr) (c0_0 : Nat) (l0_0 : List Int) (a0_1 : Int) (a0_2 : Int) (a0_3 : Int) (r : Bool) (w : World) (hG : GL w) (hr0_0 : Kd.C (Kd.int .u8) w A0_0 l0_0.length l0_0) (hc0_0 : l0_0.length ≤ c0_0) (h : exerguelaw07_OperMods.f k l0_0 a0_1 a0_2 a0_3 = some r) :
    Calls Tryd.prog 3 #[.agg #[.slice A0_0 l0_0.length c0_0, .int .i64 a0_1, .int .i64 a0_2, .int .i64 a0_3]] w fun e w' => e = .returned (.bool r) ∧ Below w.heap.size w w' := by
  have hu24 := Tryd.underlying24
  have HR0_0 := Aside0.mk hr0_0
  have HC0_0 := Aside0.mk hc0_0
  clear hr0_0 hc0_0
  have HB := Aside0.mk (Below.refl w.heap.size w)
  have HG := Aside0.mk hG
  clear hG
  have H : ((exerguelaw07_shown.f k).bind fun t235 => (if (l0_0.length : Int) > 1000 then (exerguelaw07_OperMods.j0 k l0_0 a0_1 a0_2 a0_3 t235 true) else ((exergueref07_Figures.f k l0_0).bind fun t236 => (if t236 = true then (if a0_1 < 1 then (exerguelaw07_OperMods.j0 k l0_0 a0_1 a0_2 a0_3 t235 true) else (exerguelaw07_OperMods.j0 k l0_0 a0_1 a0_2 a0_3 t235 (decide (a0_1 > 1000000000)))) else (exerguelaw07_OperMods.j0 k l0_0 a0_1 a0_2 a0_3 t235 true))))) = some r := h
  clear h
  replace H := Option.bind_eq_some_iff.mp H
  obtain ⟨t235, A20, H⟩ := H
  replace H : (if (l0_0.length : Int) > 1000 then (exerguelaw07_OperMods.j0 k l0_0 a0_1 a0_2 a0_3 t235 true) else ((exergueref07_Figures.f k l0_0).bind fun t236 => (if t236 = true then (if a0_1 < 1 then (exerguelaw07_OperMods.j0 k l0_0 a0_1 a0_2 a0_3 t235 true) else (exerguelaw07_OperMods.j0 k l0_0 a0_1 a0_2 a0_3 t235 (decide (a0_1 > 1000000000)))) else (exerguelaw07_OperMods.j0 k l0_0 a0_1 a0_2 a0_3 t235 true)))) = some r := H
  have A2 := Aside0.mk A20
  clear A20
  have HC3 := Aside0.mk H
  clear H
  go_enter Tryd.func3, Tryd.ntmps3
  go_upto_region 6 with (first | ((with_reducible refine gate_dst (N := 1) rfl ?_); refine box_event ?hg (N := 1) ?hd (cs := #[.slice A0_0 l0_0.length c0_0, .int .i64 a0_1, .int .i64 a0_2, .int .i64 a0_3]) (t := 24) ?hr ?_; (case hd => rfl); (case hg => rfl); (case hr => first | (go_simp; done) | (go_simp; rfl)); intro gb234 hg w4 hbox hb; have n0_ := Aside0.mk (below_step (by repeat (first | (with_reducible first | exact HB.out | apply below_alloc | apply pw_below_drewN | apply below_drew1) | exact HB.out)) hb); have n1_ := Aside0.mk (hbox); have n2_ := Aside0.mk ((by rw [hg]; exact (below_size (by repeat (first | (with_reducible first | exact HB.out | apply below_alloc | apply pw_below_drewN | apply below_drew1) | exact HB.out))) : w.heap.size ≤ gb234)); have n3_ := Aside0.mk ((by rw [hg]; exact (below_size (by repeat (first | (with_reducible first | exact HB.out | apply below_alloc | apply pw_below_drewN | apply below_drew1) | exact HB.out))) : w.heap.size ≤ gb234)); clear HB; have HB := n0_; have BK234 := n1_; have GW234 := n2_; have GE234 := n3_; clear n0_ n1_ n2_ n3_; clear hb hbox hg; have hcz5_0 : w4.cell? ⟨gb234, 0, none⟩ = some (.slice A0_0 l0_0.length c0_0) := (blk_cell BK234.out 0).trans rfl; have hcz5_1 : w4.cell? ⟨gb234, 1, none⟩ = some (.int .i64 a0_1) := (blk_cell BK234.out 1).trans rfl; have hcz5_2 : w4.cell? ⟨gb234, 2, none⟩ = some (.int .i64 a0_2) := (blk_cell BK234.out 2).trans rfl; have hcz5_3 : w4.cell? ⟨gb234, 3, none⟩ = some (.int .i64 a0_3) := (blk_cell BK234.out 3).trans rfl; have hfz5_0 := blk_frozen BK234.out 0; have hfz5_1 := blk_frozen BK234.out 1; have hfz5_2 := blk_frozen BK234.out 2; have hfz5_3 := blk_frozen BK234.out 3) | ((with_reducible refine gate_callee (f := 10) rfl ?_); refine goesL_ (some 16) rfl rfl Tryd.func10 (by kernel_rfl) rfl #[] rfl (by (try simp only [List.map_toArray, List.map_cons, List.map_nil]); first | done | rfl | (simp only [List.length_drop, List.length_take]; rfl)) ?_; (with_reducible refine (exerguelaw07_shown.calls k  t235 _ ?side1 A2.out).mono ?_); (case side1 => refine GL.below HG.out ?_; repeat (first | (with_reducible first | exact HB.out | apply below_alloc | apply pw_below_drewN | apply below_drew1 | refine below_set ?_ GE234.out) | exact HB.out)); rintro e w6 ⟨rfl, hb⟩; refine ⟨_, rfl, ?_⟩; have n0_ := Aside0.mk (blk_below (g := gb234) (o := .cells #[.slice A0_0 l0_0.length c0_0, .int .i64 a0_1, .int .i64 a0_2, .int .i64 a0_3] 24 (0, 0)) (by (with_reducible repeat (first | refine blk_drewN ?_ _ | refine blk_drew ?_ | refine blk_alloc ?_ _)); exact BK234.out) hb); have n1_ := Aside0.mk (below_step (by repeat (first | (with_reducible first | exact HB.out | apply below_alloc | apply pw_below_drewN | apply below_drew1 | refine below_set ?_ GE234.out) | exact HB.out)) hb); clear BK234; clear HB; have BK234 := n0_; have HB := n1_; clear n0_ n1_; (try clear hb); (try clear hb2); (try clear hk); (try clear hi)))
  (try simp only [Act.put, List.setIfInBounds_toArray, List.set_cons_zero, List.set_cons_succ])
  go_cut [32] (fun v32 wc => ∃ (kq : Nat) (x32_2 : Bool), v32 = .bool x32_2 ∧ Aside0 (exerguelaw07_OperMods.j0 kq l0_0 a0_1 a0_2 a0_3 t235 x32_2 = some r) ∧ Aside0 (kq ≤ k) ∧ Aside0 (wc.heap[gb234]? = some (.cells #[(.slice A0_0 l0_0.length c0_0), .int .i64 a0_1, .int .i64 a0_2, .int .i64 a0_3] 24 (0, 0))) ∧ Aside0 (Below w.heap.size w wc))
  case first =>
    have H := HC3.out
    clear HC3
    by_cases c7 : (l0_0.length : Int) > 1000
    · rw [if_pos c7] at H
      have c7b0 : decide (1000 < (l0_0.length : Int)) = true := decide_eq_true c7
      have c7b1 : decide (1000 < l0_0.length) = true := decide_eq_true (by omega)
      clear c7
      (first | rw [c7b0] | (simp only [i64_w, i32_w]; rw [c7b0]) | skip)
      have H' := Aside0.mk H
      clear H
      go_wp2
      go_meet
      case rel => exact ⟨_, (true), (by first | rfl | (simp; done) | (simp [*]; done)), H', ⟨by first | omega | exact Nat.le_refl _⟩, ⟨by (with_reducible repeat (first | refine blk_drewN ?_ _ | refine blk_drew ?_ | refine blk_alloc ?_ _)); exact BK234.out⟩, ⟨by repeat (first | (with_reducible first | exact HB.out | apply below_alloc | apply pw_below_drewN | apply below_drew1 | refine below_set ?_ GE234.out) | exact HB.out)⟩⟩
    · rw [if_neg c7] at H
      have c7b0 : decide (1000 < (l0_0.length : Int)) = false := decide_eq_false c7
      have c7b1 : decide (1000 < l0_0.length) = false := decide_eq_false (by omega)
      clear c7
      (first | rw [c7b0] | (simp only [i64_w, i32_w]; rw [c7b0]) | skip)
      replace H := Option.bind_eq_some_iff.mp H
      obtain ⟨t236, A80, H⟩ := H
      replace H : (if t236 = true then (if a0_1 < 1 then (exerguelaw07_OperMods.j0 k l0_0 a0_1 a0_2 a0_3 t235 true) else (exerguelaw07_OperMods.j0 k l0_0 a0_1 a0_2 a0_3 t235 (decide (a0_1 > 1000000000)))) else (exerguelaw07_OperMods.j0 k l0_0 a0_1 a0_2 a0_3 t235 true)) = some r := H
      have A8 := Aside0.mk A80
      clear A80
      by_cases c9 : t236 = true
      · subst c9
        have H1 : (if a0_1 < 1 then (exerguelaw07_OperMods.j0 k l0_0 a0_1 a0_2 a0_3 t235 true) else (exerguelaw07_OperMods.j0 k l0_0 a0_1 a0_2 a0_3 t235 (decide (a0_1 > 1000000000)))) = some r := by rw [if_pos rfl] at H; exact H
        clear H
        have H := H1
        clear H1
        by_cases c10 : a0_1 < 1
        · rw [if_pos c10] at H
          have c10b0 : decide (a0_1 < 1) = true := decide_eq_true c10
          clear c10
          have H' := Aside0.mk H
          clear H
          go_wp2_with (first | (go_at_call 11; (with_reducible refine (exergueref07_Figures.calls k _ _ l0_0 true _ ?side1 ?side2 A8.out).mono ?_); (case side1 => repeat (first | exact (Kd.C_below HR0_0.out HB.out) | (with_reducible refine Kd.C_alloc ?_ _) | (with_reducible refine Kd.C_drewN ?_ _) | (with_reducible refine Kd.C_drew ?_))); (case side2 => exact HC0_0.out); rintro e w' ⟨rfl, ⟨nd, rfl⟩⟩))
          go_meet
          case rel => exact ⟨_, (true), (by first | rfl | (simp; done) | (simp [*]; done)), H', ⟨by first | omega | exact Nat.le_refl _⟩, ⟨by (with_reducible repeat (first | refine blk_drewN ?_ _ | refine blk_drew ?_ | refine blk_alloc ?_ _)); exact BK234.out⟩, ⟨by repeat (first | (with_reducible first | exact HB.out | apply below_alloc | apply pw_below_drewN | apply below_drew1 | refine below_set ?_ GE234.out) | exact HB.out)⟩⟩
        · rw [if_neg c10] at H
          have c10b0 : decide (a0_1 < 1) = false := decide_eq_false c10
          clear c10
          have H' := Aside0.mk H
          clear H
          go_wp2_with (first | (go_at_call 11; (with_reducible refine (exergueref07_Figures.calls k _ _ l0_0 true _ ?side1 ?side2 A8.out).mono ?_); (case side1 => repeat (first | exact (Kd.C_below HR0_0.out HB.out) | (with_reducible refine Kd.C_alloc ?_ _) | (with_reducible refine Kd.C_drewN ?_ _) | (with_reducible refine Kd.C_drew ?_))); (case side2 => exact HC0_0.out); rintro e w' ⟨rfl, ⟨nd, rfl⟩⟩))
          go_meet
          case rel => exact ⟨_, (decide (a0_1 > 1000000000)), (by first | rfl | (simp; done) | (simp [*]; done)), H', ⟨by first | omega | exact Nat.le_refl _⟩, ⟨by (with_reducible repeat (first | refine blk_drewN ?_ _ | refine blk_drew ?_ | refine blk_alloc ?_ _)); exact BK234.out⟩, ⟨by repeat (first | (with_reducible first | exact HB.out | apply below_alloc | apply pw_below_drewN | apply below_drew1 | refine below_set ?_ GE234.out) | exact HB.out)⟩⟩
      · replace c9 := Bool.eq_false_iff.mpr c9
        subst c9
        have H1 : (exerguelaw07_OperMods.j0 k l0_0 a0_1 a0_2 a0_3 t235 true) = some r := by rw [if_neg (show ¬ (false = true) by decide)] at H; exact H
        clear H
        have H := H1
        clear H1
        have H' := Aside0.mk H
        clear H
        go_wp2_with (first | (go_at_call 11; (with_reducible refine (exergueref07_Figures.calls k _ _ l0_0 false _ ?side1 ?side2 A8.out).mono ?_); (case side1 => repeat (first | exact (Kd.C_below HR0_0.out HB.out) | (with_reducible refine Kd.C_alloc ?_ _) | (with_reducible refine Kd.C_drewN ?_ _) | (with_reducible refine Kd.C_drew ?_))); (case side2 => exact HC0_0.out); rintro e w' ⟨rfl, ⟨nd, rfl⟩⟩))
        go_meet
        case rel => exact ⟨_, (true), (by first | rfl | (simp; done) | (simp [*]; done)), H', ⟨by first | omega | exact Nat.le_refl _⟩, ⟨by (with_reducible repeat (first | refine blk_drewN ?_ _ | refine blk_drew ?_ | refine blk_alloc ?_ _)); exact BK234.out⟩, ⟨by repeat (first | (with_reducible first | exact HB.out | apply below_alloc | apply pw_below_drewN | apply below_drew1 | refine below_set ?_ GE234.out) | exact HB.out)⟩⟩
  case rest =>
    clear HC3
    try clear c1
    try clear p2
    try clear c3
    try clear c7
    try clear c7b0
    try clear c7b1
    try clear c9
    try clear c10
    try clear c10b0
    try clear hcz5_0
    try clear hcz5_1
    try clear hcz5_2
    try clear hcz5_3
    try clear hfz5_0
    try clear hfz5_1
    try clear hfz5_2
    try clear hfz5_3
    obtain ⟨kq, x32_2, rfl, HA, HJ2, BK234, HB⟩ := hcut
    cases kq with
    | zero => exact absurd HA.out (by simp [exerguelaw07_OperMods.j0])
    | succ kj2 =>
      have H := HA.out
      clear HA
      simp only [exerguelaw07_OperMods.j0] at H
      by_cases c11 : x32_2 = true
      · subst c11
        have H1 : (some t235) = some r := by rw [if_pos rfl] at H; exact H
        clear H
        have H := H1
        clear H1
        obtain rfl := Option.some.inj H
        go_wp2
        go_ret
        exact ⟨by first | rfl | (simp [errW_none, errW_some] <;> rfl) | (simp [*, errW_none, errW_some] <;> rfl), by repeat (first | (with_reducible first | exact HB.out | apply below_alloc | apply pw_below_drewN | apply below_drew1 | refine below_set ?_ GE234.out) | exact HB.out)⟩
      · replace c11 := Bool.eq_false_iff.mpr c11
        subst c11
        have H1 : (if t235 = true then ((oper_Mod.f kj2 l0_0 a0_1).bind fun t237 => ((exergueref07_Mod.f kj2 l0_0 a0_1).bind fun t238 => (if t237 = t238 then ((oper_In.f kj2 l0_0 a0_2 a0_3).bind fun t239 => ((exergueref07_In.f kj2 l0_0 a0_2 a0_3).bind fun t240 => (some (t239 == t240)))) else (none)))) else (none)) = some r := by rw [if_neg (show ¬ (false = true) by decide)] at H; exact H
        clear H
        have H := H1
        clear H1
        by_cases c12 : t235 = true
        · subst c12
          have H1 : ((oper_Mod.f kj2 l0_0 a0_1).bind fun t237 => ((exergueref07_Mod.f kj2 l0_0 a0_1).bind fun t238 => (if t237 = t238 then ((oper_In.f kj2 l0_0 a0_2 a0_3).bind fun t239 => ((exergueref07_In.f kj2 l0_0 a0_2 a0_3).bind fun t240 => (some (t239 == t240)))) else (none)))) = some r := by rw [if_pos rfl] at H; exact H
          clear H
          have H := H1
          clear H1
          replace H := Option.bind_eq_some_iff.mp H
          obtain ⟨t237, A130, H⟩ := H
          replace H : ((exergueref07_Mod.f kj2 l0_0 a0_1).bind fun t238 => (if t237 = t238 then ((oper_In.f kj2 l0_0 a0_2 a0_3).bind fun t239 => ((exergueref07_In.f kj2 l0_0 a0_2 a0_3).bind fun t240 => (some (t239 == t240)))) else (none))) = some r := H
          have A13 := Aside0.mk A130
          clear A130
          replace H := Option.bind_eq_some_iff.mp H
          obtain ⟨t238, A140, H⟩ := H
          replace H : (if t237 = t238 then ((oper_In.f kj2 l0_0 a0_2 a0_3).bind fun t239 => ((exergueref07_In.f kj2 l0_0 a0_2 a0_3).bind fun t240 => (some (t239 == t240)))) else (none)) = some r := H
          have A14 := Aside0.mk A140
          clear A140
          by_cases c15 : t237 = t238
          · rw [if_pos c15] at H
            have c15b0 : (t237 == t238) = true := beq_iff_eq.mpr c15
            have c15b1 : (t237 != t238) = false := bne_eq_false_iff_eq.mpr c15
            clear c15
            replace H := Option.bind_eq_some_iff.mp H
            obtain ⟨t239, A160, H⟩ := H
            replace H : ((exergueref07_In.f kj2 l0_0 a0_2 a0_3).bind fun t240 => (some (t239 == t240))) = some r := H
            have A16 := Aside0.mk A160
            clear A160
            replace H := Option.bind_eq_some_iff.mp H
            obtain ⟨t240, A170, H⟩ := H
            replace H : (some (t239 == t240)) = some r := H
            have A17 := Aside0.mk A170
            clear A170
            obtain rfl := Option.some.inj H
            go_wp2_with (first | (go_at_call 12; (with_reducible refine (oper_Mod.calls kj2 _ _ l0_0 a0_1 t237 _ ?side1 ?side2 A13.out).mono ?_); (case side1 => repeat (first | exact (Kd.C_below HR0_0.out HB.out) | (with_reducible refine Kd.C_alloc ?_ _) | (with_reducible refine Kd.C_drewN ?_ _) | (with_reducible refine Kd.C_drew ?_))); (case side2 => exact HC0_0.out); rintro e w' ⟨rfl, ⟨nd, rfl⟩⟩) | (go_at_call 13; (with_reducible refine (exergueref07_Mod.calls kj2 _ _ l0_0 a0_1 t238 _ ?side1 ?side2 A14.out).mono ?_); (case side1 => repeat (first | exact (Kd.C_below HR0_0.out (by repeat (first | (with_reducible first | exact HB.out | apply below_alloc | apply pw_below_drewN | apply below_drew1 | refine below_set ?_ GE234.out) | exact HB.out))) | (with_reducible refine Kd.C_alloc ?_ _) | (with_reducible refine Kd.C_drewN ?_ _) | (with_reducible refine Kd.C_drew ?_))); (case side2 => exact HC0_0.out); rintro e w' ⟨rfl, ⟨nd, rfl⟩⟩) | (go_at_call 14; (with_reducible refine (oper_In.calls kj2 _ _ l0_0 a0_2 a0_3 t239 _ ?side3 ?side1 ?side2 A16.out).mono ?_); (case side1 => repeat (first | exact (Kd.C_below HR0_0.out (by repeat (first | (with_reducible first | exact HB.out | apply below_alloc | apply pw_below_drewN | apply below_drew1 | refine below_set ?_ GE234.out) | exact HB.out))) | (with_reducible refine Kd.C_alloc ?_ _) | (with_reducible refine Kd.C_drewN ?_ _) | (with_reducible refine Kd.C_drew ?_))); (case side2 => exact HC0_0.out); (case side3 => refine GL.below HG.out ?_; repeat (first | (with_reducible first | exact HB.out | apply below_alloc | apply pw_below_drewN | apply below_drew1 | refine below_set ?_ GE234.out) | exact HB.out)); rintro e w18 ⟨rfl, hb⟩; have n0_ := Aside0.mk (blk_below (g := gb234) (o := .cells #[.slice A0_0 l0_0.length c0_0, .int .i64 a0_1, .int .i64 a0_2, .int .i64 a0_3] 24 (0, 0)) (by (with_reducible repeat (first | refine blk_drewN ?_ _ | refine blk_drew ?_ | refine blk_alloc ?_ _)); exact BK234.out) hb); have n1_ := Aside0.mk (below_step (by repeat (first | (with_reducible first | exact HB.out | apply below_alloc | apply pw_below_drewN | apply below_drew1 | refine below_set ?_ GE234.out) | exact HB.out)) hb); clear BK234; clear HB; have BK234 := n0_; have HB := n1_; clear n0_ n1_; (try clear hb); (try clear hb2); (try clear hk); (try clear hi)) | (go_at_call 15; (with_reducible refine (exergueref07_In.calls kj2 _ _ l0_0 a0_2 a0_3 t240 _ ?side1 ?side2 A17.out).mono ?_); (case side1 => repeat (first | exact (Kd.C_below HR0_0.out HB.out) | (with_reducible refine Kd.C_alloc ?_ _) | (with_reducible refine Kd.C_drewN ?_ _) | (with_reducible refine Kd.C_drew ?_))); (case side2 => exact HC0_0.out); rintro e w19 ⟨rfl, hb⟩; have n0_ := Aside0.mk (blk_below (g := gb234) (o := .cells #[.slice A0_0 l0_0.length c0_0, .int .i64 a0_1, .int .i64 a0_2, .int .i64 a0_3] 24 (0, 0)) (by (with_reducible repeat (first | refine blk_drewN ?_ _ | refine blk_drew ?_ | refine blk_alloc ?_ _)); exact BK234.out) hb); have n1_ := Aside0.mk (below_step (by repeat (first | (with_reducible first | exact HB.out | apply below_alloc | apply pw_below_drewN | apply below_drew1 | refine below_set ?_ GE234.out) | exact HB.out)) hb); clear BK234; clear HB; have BK234 := n0_; have HB := n1_; clear n0_ n1_; (try clear hb); (try clear hb2); (try clear hk); (try clear hi)))
            go_ret
            exact ⟨by first | rfl | (simp [errW_none, errW_some] <;> rfl) | (simp [*, errW_none, errW_some] <;> rfl), by repeat (first | (with_reducible first | exact HB.out | apply below_alloc | apply pw_below_drewN | apply below_drew1 | refine below_set ?_ GE234.out) | exact HB.out)⟩
          · rw [if_neg c15] at H
            exact absurd H (by simp)
        · replace c12 := Bool.eq_false_iff.mpr c12
          subst c12
          have H1 : (none) = some r := by rw [if_neg (show ¬ (false = true) by decide)] at H; exact H
          clear H
          have H := H1
          clear H1
          exact absurd H (by simp)

end Go.Proofs.YtekinhnempbioaaDoor.PZ
