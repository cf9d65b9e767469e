-- made by wip/xprint.py (a program of this session over the kit's print.py). Not trusted: Lean checks it.
import Derived.Test.YtahkamggdbibiaaDoorPZx0
import Derived.Test.YtahkamggdbibiaaDoorPZx7
import Derived.Test.YtahkamggdbibiaaDoorPZx16
import Derived.Test.YtahkamggdbibiaaDoorPZx17
import Derived.Test.YtahkamggdbibiaaDoorPZx24
import Derived.Test.YtahkamggdbibiaaDoorGl
namespace Go.Proofs.YtahkamggdbibiaaDoor.PZ
open Go.RowKit Go.Proofs.YtahkamggdbibiaaDoorW.PrintWords Go.Proofs.YtahkamggdbibiaaDoorW.PrintLast Go.Proofs.YtahkamggdbibiaaDoorW.PrintMore
attribute [local go_sem] max2_int min2_int max_two min_two max_three min_three max_four min_four   -- for this text's walks alone
set_option linter.unusedVariables false
set_option linter.unusedSimpArgs false

/-! ### exerguelaw05_DecOrder: function 5 -/
mutual
def exerguelaw05_DecOrder.j0 : Nat → Bool → Bool → Bool → List Int → Int → Bool → List Int → Int → Bool → List Int → Int → Option (Bool)
  | 0, _, _, _, _, _, _, _, _, _, _, _ => none
  | k + 1, x7, x23, x271000, x271001, x271002, x272000, x272001, x272002, x273000, x273001, x273002 => if x23 = true then (some x7) else ((dec_Cmp.f k x271000 x271001 x271002 x272000 x272001 x272002).bind fun t277 => ((exergueref05_Same.f k x271000 x271001 x271002 x272000 x272001 x272002).bind fun t278 => (if t278 = true then (exerguelaw05_DecOrder.j1 k x7 t277 true x271000 x271001 x271002 x272000 x272001 x272002 x273000 x273001 x273002) else (if (x271001.length : Int) = 0 then (exerguelaw05_DecOrder.j1 k x7 t277 ((x272001.length : Int) == 0) x271000 x271001 x271002 x272000 x272001 x272002 x273000 x273001 x273002) else (exerguelaw05_DecOrder.j1 k x7 t277 false x271000 x271001 x271002 x272000 x272001 x272002 x273000 x273001 x273002)))))
def exerguelaw05_DecOrder.j1 : Nat → Bool → Int → Bool → Bool → List Int → Int → Bool → List Int → Int → Bool → List Int → Int → Option (Bool)
  | 0, _, _, _, _, _, _, _, _, _, _, _, _ => none
  | k + 1, x7, x8, x9, x271000, x271001, x271002, x272000, x272001, x272002, x273000, x273001, x273002 => (dec_Cmp.f k x272000 x272001 x272002 x271000 x271001 x271002).bind fun t279 => (if t279 = (wrap64 (-x8)) then (if ((x8 == 0) != x9) = true then (exerguelaw05_DecOrder.j2 k x7 x8 true x271000 x271001 x271002 x272000 x272001 x272002 x273000 x273001 x273002) else (if x8 < (-1) then (exerguelaw05_DecOrder.j2 k x7 x8 true x271000 x271001 x271002 x272000 x272001 x272002 x273000 x273001 x273002) else (exerguelaw05_DecOrder.j2 k x7 x8 (decide (x8 > 1)) x271000 x271001 x271002 x272000 x272001 x272002 x273000 x273001 x273002))) else (exerguelaw05_DecOrder.j2 k x7 x8 true x271000 x271001 x271002 x272000 x272001 x272002 x273000 x273001 x273002))
def exerguelaw05_DecOrder.j2 : Nat → Bool → Int → Bool → Bool → List Int → Int → Bool → List Int → Int → Bool → List Int → Int → Option (Bool)
  | 0, _, _, _, _, _, _, _, _, _, _, _, _ => none
  | k + 1, x7, x8, x62, x271000, x271001, x271002, x272000, x272001, x272002, x273000, x273001, x273002 => if x62 = true then (none) else (if x7 = true then (if x8 > 0 then (some true) else ((dec_Cmp.f k x272000 x272001 x272002 x273000 x273001 x273002).bind fun t280 => (if t280 > 0 then (some true) else ((dec_Cmp.f k x271000 x271001 x271002 x273000 x273001 x273002).bind fun t281 => (some (decide (t281 ≤ 0))))))) else (none))
end
def exerguelaw05_DecOrder.f (k : Nat) (a0_0 : Bool) (l0_1 : List Int) (a0_2 : Int) (a1_0 : Bool) (l1_1 : List Int) (a1_2 : Int) (a2_0 : Bool) (l2_1 : List Int) (a2_2 : Int) : Option (Bool) := (exerguelaw05_shown.f k).bind fun t273 => ((exergueref05_Right.f k a0_0 l0_1 a0_2).bind fun t274 => (if t274 = true then ((exergueref05_Right.f k a1_0 l1_1 a1_2).bind fun t275 => (if t275 = true then ((exergueref05_Right.f k a2_0 l2_1 a2_2).bind fun t276 => (exerguelaw05_DecOrder.j0 k t273 (!t276) a0_0 l0_1 a0_2 a1_0 l1_1 a1_2 a2_0 l2_1 a2_2)) else (exerguelaw05_DecOrder.j0 k t273 true a0_0 l0_1 a0_2 a1_0 l1_1 a1_2 a2_0 l2_1 a2_2))) else (exerguelaw05_DecOrder.j0 k t273 true a0_0 l0_1 a0_2 a1_0 l1_1 a1_2 a2_0 l2_1 a2_2)))
theorem exerguelaw05_DecOrder.mono_l : ∀ k, (∀ y0 y1 y2 y3 y4 y5 y6 y7 y8 y9 y10, LeO (exerguelaw05_DecOrder.j0 k y0 y1 y2 y3 y4 y5 y6 y7 y8 y9 y10) (exerguelaw05_DecOrder.j0 (k + 1) y0 y1 y2 y3 y4 y5 y6 y7 y8 y9 y10)) ∧ (∀ y0 y1 y2 y3 y4 y5 y6 y7 y8 y9 y10 y11, LeO (exerguelaw05_DecOrder.j1 k y0 y1 y2 y3 y4 y5 y6 y7 y8 y9 y10 y11) (exerguelaw05_DecOrder.j1 (k + 1) y0 y1 y2 y3 y4 y5 y6 y7 y8 y9 y10 y11)) ∧ (∀ y0 y1 y2 y3 y4 y5 y6 y7 y8 y9 y10 y11, LeO (exerguelaw05_DecOrder.j2 k y0 y1 y2 y3 y4 y5 y6 y7 y8 y9 y10 y11) (exerguelaw05_DecOrder.j2 (k + 1) y0 y1 y2 y3 y4 y5 y6 y7 y8 y9 y10 y11))
  | 0 => ⟨fun _ _ _ _ _ _ _ _ _ _ _ r h => by simp [exerguelaw05_DecOrder.j0] at h, fun _ _ _ _ _ _ _ _ _ _ _ _ r h => by simp [exerguelaw05_DecOrder.j1] at h, fun _ _ _ _ _ _ _ _ _ _ _ _ r h => by simp [exerguelaw05_DecOrder.j2] at h⟩
  | k + 1 => by
    obtain ⟨ih0, ih1, ih2⟩ := exerguelaw05_DecOrder.mono_l k
    refine ⟨?_, ?_, ?_⟩
    · intro y0 y1 y2 y3 y4 y5 y6 y7 y8 y9 y10
      unfold exerguelaw05_DecOrder.j0
      repeat' first
      | (with_reducible exact ih0 _ _ _ _ _ _ _ _ _ _ _)
      | (with_reducible exact ih1 _ _ _ _ _ _ _ _ _ _ _ _)
      | (with_reducible exact ih2 _ _ _ _ _ _ _ _ _ _ _ _)
      | (with_reducible exact dec_Cmp.mono _ _ _ _ _ _ _)
      | (with_reducible exact exerguelaw05_shown.mono _)
      | (with_reducible exact exergueref05_Right.mono _ _ _ _)
      | (with_reducible exact exergueref05_Same.mono _ _ _ _ _ _ _)
      | (with_reducible exact LeO.refl _)
      | (with_reducible exact LeO.none _)
      | (with_reducible refine LeO.ite ?_ ?_)
      | (with_reducible refine LeO.bind ?_ (fun _ => ?_))
      | exact ih0 _ _ _ _ _ _ _ _ _ _ _
      | exact ih1 _ _ _ _ _ _ _ _ _ _ _ _
      | exact ih2 _ _ _ _ _ _ _ _ _ _ _ _
      | exact dec_Cmp.mono _ _ _ _ _ _ _
      | exact exerguelaw05_shown.mono _
      | exact exergueref05_Right.mono _ _ _ _
      | exact exergueref05_Same.mono _ _ _ _ _ _ _
      | exact LeO.none _
      | refine LeO.ite ?_ ?_
      | refine LeO.bind ?_ (fun _ => ?_)
    · intro y0 y1 y2 y3 y4 y5 y6 y7 y8 y9 y10 y11
      unfold exerguelaw05_DecOrder.j1
      repeat' first
      | (with_reducible exact ih0 _ _ _ _ _ _ _ _ _ _ _)
      | (with_reducible exact ih1 _ _ _ _ _ _ _ _ _ _ _ _)
      | (with_reducible exact ih2 _ _ _ _ _ _ _ _ _ _ _ _)
      | (with_reducible exact dec_Cmp.mono _ _ _ _ _ _ _)
      | (with_reducible exact exerguelaw05_shown.mono _)
      | (with_reducible exact exergueref05_Right.mono _ _ _ _)
      | (with_reducible exact exergueref05_Same.mono _ _ _ _ _ _ _)
      | (with_reducible exact LeO.refl _)
      | (with_reducible exact LeO.none _)
      | (with_reducible refine LeO.ite ?_ ?_)
      | (with_reducible refine LeO.bind ?_ (fun _ => ?_))
      | exact ih0 _ _ _ _ _ _ _ _ _ _ _
      | exact ih1 _ _ _ _ _ _ _ _ _ _ _ _
      | exact ih2 _ _ _ _ _ _ _ _ _ _ _ _
      | exact dec_Cmp.mono _ _ _ _ _ _ _
      | exact exerguelaw05_shown.mono _
      | exact exergueref05_Right.mono _ _ _ _
      | exact exergueref05_Same.mono _ _ _ _ _ _ _
      | exact LeO.none _
      | refine LeO.ite ?_ ?_
      | refine LeO.bind ?_ (fun _ => ?_)
    · intro y0 y1 y2 y3 y4 y5 y6 y7 y8 y9 y10 y11
      unfold exerguelaw05_DecOrder.j2
      repeat' first
      | (with_reducible exact ih0 _ _ _ _ _ _ _ _ _ _ _)
      | (with_reducible exact ih1 _ _ _ _ _ _ _ _ _ _ _ _)
      | (with_reducible exact ih2 _ _ _ _ _ _ _ _ _ _ _ _)
      | (with_reducible exact dec_Cmp.mono _ _ _ _ _ _ _)
      | (with_reducible exact exerguelaw05_shown.mono _)
      | (with_reducible exact exergueref05_Right.mono _ _ _ _)
      | (with_reducible exact exergueref05_Same.mono _ _ _ _ _ _ _)
      | (with_reducible exact LeO.refl _)
      | (with_reducible exact LeO.none _)
      | (with_reducible refine LeO.ite ?_ ?_)
      | (with_reducible refine LeO.bind ?_ (fun _ => ?_))
      | exact ih0 _ _ _ _ _ _ _ _ _ _ _
      | exact ih1 _ _ _ _ _ _ _ _ _ _ _ _
      | exact ih2 _ _ _ _ _ _ _ _ _ _ _ _
      | exact dec_Cmp.mono _ _ _ _ _ _ _
      | exact exerguelaw05_shown.mono _
      | exact exergueref05_Right.mono _ _ _ _
      | exact exergueref05_Same.mono _ _ _ _ _ _ _
      | exact LeO.none _
      | refine LeO.ite ?_ ?_
      | refine LeO.bind ?_ (fun _ => ?_)
theorem exerguelaw05_DecOrder.mono : ∀ a0 a1 a2 a3 a4 a5 a6 a7 a8 k, LeO (exerguelaw05_DecOrder.f k a0 a1 a2 a3 a4 a5 a6 a7 a8) (exerguelaw05_DecOrder.f (k + 1) a0 a1 a2 a3 a4 a5 a6 a7 a8) := by
  intro a0 a1 a2 a3 a4 a5 a6 a7 a8 k
  obtain ⟨ih0, ih1, ih2⟩ := exerguelaw05_DecOrder.mono_l k
  unfold exerguelaw05_DecOrder.f
  repeat' first
      | (with_reducible exact ih0 _ _ _ _ _ _ _ _ _ _ _)
      | (with_reducible exact ih1 _ _ _ _ _ _ _ _ _ _ _ _)
      | (with_reducible exact ih2 _ _ _ _ _ _ _ _ _ _ _ _)
      | (with_reducible exact dec_Cmp.mono _ _ _ _ _ _ _)
      | (with_reducible exact exerguelaw05_shown.mono _)
      | (with_reducible exact exergueref05_Right.mono _ _ _ _)
      | (with_reducible exact exergueref05_Same.mono _ _ _ _ _ _ _)
      | (with_reducible exact LeO.refl _)
      | (with_reducible exact LeO.none _)
      | (with_reducible refine LeO.ite ?_ ?_)
      | (with_reducible refine LeO.bind ?_ (fun _ => ?_))
      | exact ih0 _ _ _ _ _ _ _ _ _ _ _
      | exact ih1 _ _ _ _ _ _ _ _ _ _ _ _
      | exact ih2 _ _ _ _ _ _ _ _ _ _ _ _
      | exact dec_Cmp.mono _ _ _ _ _ _ _
      | exact exerguelaw05_shown.mono _
      | exact exergueref05_Right.mono _ _ _ _
      | exact exergueref05_Same.mono _ _ _ _ _ _ _
      | exact LeO.none _
      | refine LeO.ite ?_ ?_
      | refine LeO.bind ?_ (fun _ => ?_)
set_option maxHeartbeats 8000000 in
set_option maxRecDepth 100000 in
theorem exerguelaw05_DecOrder.calls (k : Nat) (a0_0 : Bool) (A0_1 : Option Addr) (c0_1 : Nat) (l0_1 : List Int) (a0_2 : Int) (a1_0 : Bool) (A1_1 : Option Addr) (c1_1 : Nat) (l1_1 : List Int) (a1_2 : Int) (a2_0 : Bool) (A2_1 : Option Addr) (c2_1 : Nat) (l2_1 : List Int) (a2_2 : Int) (r : Bool) (w : World) (hG : GL w) (hr0_1 : Kd.C (Kd.int .u8) w A0_1 l0_1.length l0_1) (hc0_1 : l0_1.length ≤ c0_1) (hr1_1 : Kd.C (Kd.int .u8) w A1_1 l1_1.length l1_1) (hc1_1 : l1_1.length ≤ c1_1) (hr2_1 : Kd.C (Kd.int .u8) w A2_1 l2_1.length l2_1) (hc2_1 : l2_1.length ≤ c2_1) (h : exerguelaw05_DecOrder.f k a0_0 l0_1 a0_2 a1_0 l1_1 a1_2 a2_0 l2_1 a2_2 = some r) :
    Calls Tryd.prog 5 #[.agg #[.bool a0_0, .slice A0_1 l0_1.length c0_1, .int .i64 a0_2], .agg #[.bool a1_0, .slice A1_1 l1_1.length c1_1, .int .i64 a1_2], .agg #[.bool a2_0, .slice A2_1 l2_1.length c2_1, .int .i64 a2_2]] w fun e w' => e = .returned (.bool r) ∧ Below w.heap.size w w' := by
  have hu24 := Tryd.underlying24
  have HR0_1 := Aside0.mk hr0_1
  have HC0_1 := Aside0.mk hc0_1
  clear hr0_1 hc0_1
  have HR1_1 := Aside0.mk hr1_1
  have HC1_1 := Aside0.mk hc1_1
  clear hr1_1 hc1_1
  have HR2_1 := Aside0.mk hr2_1
  have HC2_1 := Aside0.mk hc2_1
  clear hr2_1 hc2_1
  have HB := Aside0.mk (Below.refl w.heap.size w)
  have HG := Aside0.mk hG
  clear hG
  have H : ((exerguelaw05_shown.f k).bind fun t273 => ((exergueref05_Right.f k a0_0 l0_1 a0_2).bind fun t274 => (if t274 = true then ((exergueref05_Right.f k a1_0 l1_1 a1_2).bind fun t275 => (if t275 = true then ((exergueref05_Right.f k a2_0 l2_1 a2_2).bind fun t276 => (exerguelaw05_DecOrder.j0 k t273 (!t276) a0_0 l0_1 a0_2 a1_0 l1_1 a1_2 a2_0 l2_1 a2_2)) else (exerguelaw05_DecOrder.j0 k t273 true a0_0 l0_1 a0_2 a1_0 l1_1 a1_2 a2_0 l2_1 a2_2))) else (exerguelaw05_DecOrder.j0 k t273 true a0_0 l0_1 a0_2 a1_0 l1_1 a1_2 a2_0 l2_1 a2_2)))) = some r := h
  clear h
  replace H := Option.bind_eq_some_iff.mp H
  obtain ⟨t273, A40, H⟩ := H
  replace H : ((exergueref05_Right.f k a0_0 l0_1 a0_2).bind fun t274 => (if t274 = true then ((exergueref05_Right.f k a1_0 l1_1 a1_2).bind fun t275 => (if t275 = true then ((exergueref05_Right.f k a2_0 l2_1 a2_2).bind fun t276 => (exerguelaw05_DecOrder.j0 k t273 (!t276) a0_0 l0_1 a0_2 a1_0 l1_1 a1_2 a2_0 l2_1 a2_2)) else (exerguelaw05_DecOrder.j0 k t273 true a0_0 l0_1 a0_2 a1_0 l1_1 a1_2 a2_0 l2_1 a2_2))) else (exerguelaw05_DecOrder.j0 k t273 true a0_0 l0_1 a0_2 a1_0 l1_1 a1_2 a2_0 l2_1 a2_2))) = some r := H
  have A4 := Aside0.mk A40
  clear A40
  have HC5 := Aside0.mk H
  clear H
  go_enter Tryd.func5, Tryd.ntmps5
  go_upto_region 2 with (first | ((with_reducible refine gate_dst (N := 3) rfl ?_); (try (refine gate_guard (by rfl) ?_; dsimp only)); refine box_event ?hg (N := 3) ?hd (cs := #[.bool a0_0, .slice A0_1 l0_1.length c0_1, .int .i64 a0_2]) (t := 24) ?hr ?_; (case hd => rfl); (case hg => rfl); (case hr => first | (go_simp; done) | (go_simp; rfl)); intro gb270 hg w6 hbox hb; have n0_ := Aside0.mk (below_step (by repeat (first | (with_reducible first | exact HB.out | apply below_alloc | apply pw_below_drewN | apply below_drew1) | exact HB.out)) hb); have n1_ := Aside0.mk (hbox); have n2_ := Aside0.mk ((by rw [hg]; exact (below_size (by repeat (first | (with_reducible first | exact HB.out | apply below_alloc | apply pw_below_drewN | apply below_drew1) | exact HB.out))) : w.heap.size ≤ gb270)); have n3_ := Aside0.mk ((by rw [hg]; exact (below_size (by repeat (first | (with_reducible first | exact HB.out | apply below_alloc | apply pw_below_drewN | apply below_drew1) | exact HB.out))) : w.heap.size ≤ gb270)); clear HB; have HB := n0_; have BK270 := n1_; have GW270 := n2_; have GE270 := n3_; clear n0_ n1_ n2_ n3_; clear hb hbox hg) | ((with_reducible refine gate_dst (N := 4) rfl ?_); (try (refine gate_guard (by rfl) ?_; dsimp only)); refine box_event ?hg (N := 4) ?hd (cs := #[.bool a1_0, .slice A1_1 l1_1.length c1_1, .int .i64 a1_2]) (t := 24) ?hr ?_; (case hd => rfl); (case hg => rfl); (case hr => first | (go_simp; done) | (go_simp; rfl)); intro gb271 hg w7 hbox hb; have n0_ := Aside0.mk (blk_below (g := gb270) (o := .cells #[.bool a0_0, .slice A0_1 l0_1.length c0_1, .int .i64 a0_2] 24 (0, 0)) (by (with_reducible repeat (first | refine blk_drewN ?_ _ | refine blk_drew ?_ | refine blk_alloc ?_ _)); exact BK270.out) hb); have n1_ := Aside0.mk (below_step (by repeat (first | (with_reducible first | exact HB.out | apply below_alloc | apply pw_below_drewN | apply below_drew1 | refine below_set ?_ GE270.out) | exact HB.out)) hb); have n2_ := Aside0.mk (hbox); have n3_ := Aside0.mk ((by rw [hg]; exact (below_size (by repeat (first | (with_reducible first | exact HB.out | apply below_alloc | apply pw_below_drewN | apply below_drew1 | refine below_set ?_ GE270.out) | exact HB.out))) : w.heap.size ≤ gb271)); have n4_ := Aside0.mk ((by rw [hg]; exact (below_size (by repeat (first | (with_reducible first | exact HB.out | apply below_alloc | apply pw_below_drewN | apply below_drew1 | refine below_set ?_ GE270.out) | exact HB.out))) : w.heap.size ≤ gb271)); have n5_ := Aside0.mk ((by rw [hg]; exact Nat.ne_of_lt (blk_lt (g := gb270) (o := .cells #[.bool a0_0, .slice A0_1 l0_1.length c0_1, .int .i64 a0_2] 24 (0, 0)) (by (with_reducible repeat (first | refine blk_drewN ?_ _ | refine blk_drew ?_ | refine blk_alloc ?_ _)); exact BK270.out)) : gb270 ≠ gb271)); have n6_ := Aside0.mk ((by rw [hg]; exact Nat.ne_of_gt (blk_lt (g := gb270) (o := .cells #[.bool a0_0, .slice A0_1 l0_1.length c0_1, .int .i64 a0_2] 24 (0, 0)) (by (with_reducible repeat (first | refine blk_drewN ?_ _ | refine blk_drew ?_ | refine blk_alloc ?_ _)); exact BK270.out)) : gb271 ≠ gb270)); clear BK270; clear HB; have BK270 := n0_; have HB := n1_; have BK271 := n2_; have GW271 := n3_; have GE271 := n4_; have NB270_271 := n5_; have NB271_270 := n6_; clear n0_ n1_ n2_ n3_ n4_ n5_ n6_; clear hb hbox hg) | ((with_reducible refine gate_dst (N := 5) rfl ?_); (try (refine gate_guard (by rfl) ?_; dsimp only)); refine box_event ?hg (N := 5) ?hd (cs := #[.bool a2_0, .slice A2_1 l2_1.length c2_1, .int .i64 a2_2]) (t := 24) ?hr ?_; (case hd => rfl); (case hg => rfl); (case hr => first | (go_simp; done) | (go_simp; rfl)); intro gb272 hg w8 hbox hb; have n0_ := Aside0.mk (blk_below (g := gb270) (o := .cells #[.bool a0_0, .slice A0_1 l0_1.length c0_1, .int .i64 a0_2] 24 (0, 0)) (by (with_reducible repeat (first | refine blk_drewN ?_ _ | refine blk_drew ?_ | refine blk_alloc ?_ _)); exact BK270.out) hb); have n1_ := Aside0.mk (blk_below (g := gb271) (o := .cells #[.bool a1_0, .slice A1_1 l1_1.length c1_1, .int .i64 a1_2] 24 (0, 0)) (by (with_reducible repeat (first | refine blk_drewN ?_ _ | refine blk_drew ?_ | refine blk_alloc ?_ _)); exact BK271.out) hb); have n2_ := Aside0.mk (below_step (by repeat (first | (with_reducible first | exact HB.out | apply below_alloc | apply pw_below_drewN | apply below_drew1 | refine below_set ?_ GE270.out | refine below_set ?_ GE271.out) | exact HB.out)) hb); have n3_ := Aside0.mk (hbox); have n4_ := Aside0.mk ((by rw [hg]; exact (below_size (by repeat (first | (with_reducible first | exact HB.out | apply below_alloc | apply pw_below_drewN | apply below_drew1 | refine below_set ?_ GE270.out | refine below_set ?_ GE271.out) | exact HB.out))) : w.heap.size ≤ gb272)); have n5_ := Aside0.mk ((by rw [hg]; exact (below_size (by repeat (first | (with_reducible first | exact HB.out | apply below_alloc | apply pw_below_drewN | apply below_drew1 | refine below_set ?_ GE270.out | refine below_set ?_ GE271.out) | exact HB.out))) : w.heap.size ≤ gb272)); have n6_ := Aside0.mk ((by rw [hg]; exact Nat.ne_of_lt (blk_lt (g := gb270) (o := .cells #[.bool a0_0, .slice A0_1 l0_1.length c0_1, .int .i64 a0_2] 24 (0, 0)) (by (with_reducible repeat (first | refine blk_drewN ?_ _ | refine blk_drew ?_ | refine blk_alloc ?_ _)); exact BK270.out)) : gb270 ≠ gb272)); have n7_ := Aside0.mk ((by rw [hg]; exact Nat.ne_of_gt (blk_lt (g := gb270) (o := .cells #[.bool a0_0, .slice A0_1 l0_1.length c0_1, .int .i64 a0_2] 24 (0, 0)) (by (with_reducible repeat (first | refine blk_drewN ?_ _ | refine blk_drew ?_ | refine blk_alloc ?_ _)); exact BK270.out)) : gb272 ≠ gb270)); have n8_ := Aside0.mk ((by rw [hg]; exact Nat.ne_of_lt (blk_lt (g := gb271) (o := .cells #[.bool a1_0, .slice A1_1 l1_1.length c1_1, .int .i64 a1_2] 24 (0, 0)) (by (with_reducible repeat (first | refine blk_drewN ?_ _ | refine blk_drew ?_ | refine blk_alloc ?_ _)); exact BK271.out)) : gb271 ≠ gb272)); have n9_ := Aside0.mk ((by rw [hg]; exact Nat.ne_of_gt (blk_lt (g := gb271) (o := .cells #[.bool a1_0, .slice A1_1 l1_1.length c1_1, .int .i64 a1_2] 24 (0, 0)) (by (with_reducible repeat (first | refine blk_drewN ?_ _ | refine blk_drew ?_ | refine blk_alloc ?_ _)); exact BK271.out)) : gb272 ≠ gb271)); clear BK270; clear BK271; clear HB; have BK270 := n0_; have BK271 := n1_; have HB := n2_; have BK272 := n3_; have GW272 := n4_; have GE272 := n5_; have NB270_272 := n6_; have NB272_270 := n7_; have NB271_272 := n8_; have NB272_271 := n9_; clear n0_ n1_ n2_ n3_ n4_ n5_ n6_ n7_ n8_ n9_; clear hb hbox hg) | ((with_reducible refine gate_callee (f := 10) rfl ?_); refine goesL_ (some 10) rfl rfl Tryd.func10 (by kernel_rfl) rfl #[] rfl (by (try simp only [List.map_toArray, List.map_cons, List.map_nil]); first | done | rfl | (simp only [List.length_drop, List.length_take]; rfl)) ?_; (with_reducible refine (exerguelaw05_shown.calls k  t273 _ ?side1 A4.out).mono ?_); (case side1 => refine GL.below HG.out ?_; repeat (first | (with_reducible first | exact HB.out | apply below_alloc | apply pw_below_drewN | apply below_drew1 | refine below_set ?_ GE270.out | refine below_set ?_ GE271.out | refine below_set ?_ GE272.out) | exact HB.out)); rintro e w9 ⟨rfl, hb⟩; refine ⟨_, rfl, ?_⟩; have n0_ := Aside0.mk (blk_below (g := gb270) (o := .cells #[.bool a0_0, .slice A0_1 l0_1.length c0_1, .int .i64 a0_2] 24 (0, 0)) (by (with_reducible repeat (first | refine blk_drewN ?_ _ | refine blk_drew ?_ | refine blk_alloc ?_ _)); exact BK270.out) hb); have n1_ := Aside0.mk (blk_below (g := gb271) (o := .cells #[.bool a1_0, .slice A1_1 l1_1.length c1_1, .int .i64 a1_2] 24 (0, 0)) (by (with_reducible repeat (first | refine blk_drewN ?_ _ | refine blk_drew ?_ | refine blk_alloc ?_ _)); exact BK271.out) hb); have n2_ := Aside0.mk (blk_below (g := gb272) (o := .cells #[.bool a2_0, .slice A2_1 l2_1.length c2_1, .int .i64 a2_2] 24 (0, 0)) (by (with_reducible repeat (first | refine blk_drewN ?_ _ | refine blk_drew ?_ | refine blk_alloc ?_ _)); exact BK272.out) hb); have n3_ := Aside0.mk (below_step (by repeat (first | (with_reducible first | exact HB.out | apply below_alloc | apply pw_below_drewN | apply below_drew1 | refine below_set ?_ GE270.out | refine below_set ?_ GE271.out | refine below_set ?_ GE272.out) | exact HB.out)) hb); clear BK270; clear BK271; clear BK272; clear HB; have BK270 := n0_; have BK271 := n1_; have BK272 := n2_; have HB := n3_; clear n0_ n1_ n2_ n3_; (try clear hb); (try clear hb2); (try clear hk); (try clear hi)))
  (try simp only [Act.put, List.setIfInBounds_toArray, List.set_cons_zero, List.set_cons_succ])
  go_cut [23] (fun v23 wc => ∃ (kq : Nat) (x23_4 : Bool), v23 = .bool x23_4 ∧ Aside0 (exerguelaw05_DecOrder.j0 kq t273 x23_4 a0_0 l0_1 a0_2 a1_0 l1_1 a1_2 a2_0 l2_1 a2_2 = some r) ∧ Aside0 (kq ≤ k) ∧ Aside0 (wc.heap[gb270]? = some (.cells #[.bool a0_0, (.slice A0_1 l0_1.length c0_1), .int .i64 a0_2] 24 (0, 0))) ∧ Aside0 (wc.heap[gb271]? = some (.cells #[.bool a1_0, (.slice A1_1 l1_1.length c1_1), .int .i64 a1_2] 24 (0, 0))) ∧ Aside0 (wc.heap[gb272]? = some (.cells #[.bool a2_0, (.slice A2_1 l2_1.length c2_1), .int .i64 a2_2] 24 (0, 0))) ∧ Aside0 (Below w.heap.size w wc))
  case first =>
    have H := HC5.out
    clear HC5
    replace H := Option.bind_eq_some_iff.mp H
    obtain ⟨t274, A100, H⟩ := H
    replace H : (if t274 = true then ((exergueref05_Right.f k a1_0 l1_1 a1_2).bind fun t275 => (if t275 = true then ((exergueref05_Right.f k a2_0 l2_1 a2_2).bind fun t276 => (exerguelaw05_DecOrder.j0 k t273 (!t276) a0_0 l0_1 a0_2 a1_0 l1_1 a1_2 a2_0 l2_1 a2_2)) else (exerguelaw05_DecOrder.j0 k t273 true a0_0 l0_1 a0_2 a1_0 l1_1 a1_2 a2_0 l2_1 a2_2))) else (exerguelaw05_DecOrder.j0 k t273 true a0_0 l0_1 a0_2 a1_0 l1_1 a1_2 a2_0 l2_1 a2_2)) = some r := H
    have A10 := Aside0.mk A100
    clear A100
    by_cases c11 : t274 = true
    · subst c11
      have H1 : ((exergueref05_Right.f k a1_0 l1_1 a1_2).bind fun t275 => (if t275 = true then ((exergueref05_Right.f k a2_0 l2_1 a2_2).bind fun t276 => (exerguelaw05_DecOrder.j0 k t273 (!t276) a0_0 l0_1 a0_2 a1_0 l1_1 a1_2 a2_0 l2_1 a2_2)) else (exerguelaw05_DecOrder.j0 k t273 true a0_0 l0_1 a0_2 a1_0 l1_1 a1_2 a2_0 l2_1 a2_2))) = some r := by rw [if_pos rfl] at H; exact H
      clear H
      have H := H1
      clear H1
      replace H := Option.bind_eq_some_iff.mp H
      obtain ⟨t275, A120, H⟩ := H
      replace H : (if t275 = true then ((exergueref05_Right.f k a2_0 l2_1 a2_2).bind fun t276 => (exerguelaw05_DecOrder.j0 k t273 (!t276) a0_0 l0_1 a0_2 a1_0 l1_1 a1_2 a2_0 l2_1 a2_2)) else (exerguelaw05_DecOrder.j0 k t273 true a0_0 l0_1 a0_2 a1_0 l1_1 a1_2 a2_0 l2_1 a2_2)) = some r := H
      have A12 := Aside0.mk A120
      clear A120
      by_cases c13 : t275 = true
      · subst c13
        have H1 : ((exergueref05_Right.f k a2_0 l2_1 a2_2).bind fun t276 => (exerguelaw05_DecOrder.j0 k t273 (!t276) a0_0 l0_1 a0_2 a1_0 l1_1 a1_2 a2_0 l2_1 a2_2)) = some r := by rw [if_pos rfl] at H; exact H
        clear H
        have H := H1
        clear H1
        replace H := Option.bind_eq_some_iff.mp H
        obtain ⟨t276, A140, H⟩ := H
        replace H : (exerguelaw05_DecOrder.j0 k t273 (!t276) a0_0 l0_1 a0_2 a1_0 l1_1 a1_2 a2_0 l2_1 a2_2) = some r := H
        have A14 := Aside0.mk A140
        clear A140
        have H' := Aside0.mk H
        clear H
        have hnb15 := NB270_271.out
        have hnc15 := NB271_270.out
        have hnb16 := NB270_272.out
        have hnc16 := NB272_270.out
        have hcz17_0 : w9.cell? ⟨gb270, 0, none⟩ = some (.bool a0_0) := (blk_cell BK270.out 0).trans rfl
        have hcz17_1 : w9.cell? ⟨gb270, 1, none⟩ = some (.slice A0_1 l0_1.length c0_1) := (blk_cell BK270.out 1).trans rfl
        have hcz17_2 : w9.cell? ⟨gb270, 2, none⟩ = some (.int .i64 a0_2) := (blk_cell BK270.out 2).trans rfl
        have hfz17_0 := blk_frozen BK270.out 0
        have hfz17_1 := blk_frozen BK270.out 1
        have hfz17_2 := blk_frozen BK270.out 2
        go_wp2_with (first | ((with_reducible refine gate_callee (f := 14) rfl ?_); refine goesL_ (some 12) rfl rfl Tryd.func14 (by kernel_rfl) rfl #[.agg #[.bool a0_0, .slice A0_1 l0_1.length c0_1, .int .i64 a0_2]] rfl (by (try simp only [List.map_toArray, List.map_cons, List.map_nil]); first | done | rfl | (simp only [List.length_drop, List.length_take]; rfl)) ?_; (with_reducible refine (exergueref05_Right.calls k a0_0 _ _ l0_1 a0_2 true _ ?side1 ?side2 A10.out).mono ?_); (case side1 => repeat (first | exact (Kd.C_below HR0_1.out HB.out) | (with_reducible refine Kd.C_alloc ?_ _) | (with_reducible refine Kd.C_drewN ?_ _) | (with_reducible refine Kd.C_drew ?_))); (case side2 => exact HC0_1.out); rintro e w18 ⟨rfl, hb⟩; refine ⟨_, rfl, ?_⟩; have n0_ := Aside0.mk (blk_below (g := gb270) (o := .cells #[.bool a0_0, .slice A0_1 l0_1.length c0_1, .int .i64 a0_2] 24 (0, 0)) (by (with_reducible repeat (first | refine blk_drewN ?_ _ | refine blk_drew ?_ | refine blk_alloc ?_ _)); exact BK270.out) hb); have n1_ := Aside0.mk (blk_below (g := gb271) (o := .cells #[.bool a1_0, .slice A1_1 l1_1.length c1_1, .int .i64 a1_2] 24 (0, 0)) (by (with_reducible repeat (first | refine blk_drewN ?_ _ | refine blk_drew ?_ | refine blk_alloc ?_ _)); exact BK271.out) hb); have n2_ := Aside0.mk (blk_below (g := gb272) (o := .cells #[.bool a2_0, .slice A2_1 l2_1.length c2_1, .int .i64 a2_2] 24 (0, 0)) (by (with_reducible repeat (first | refine blk_drewN ?_ _ | refine blk_drew ?_ | refine blk_alloc ?_ _)); exact BK272.out) hb); have n3_ := Aside0.mk (below_step (by repeat (first | (with_reducible first | exact HB.out | apply below_alloc | apply pw_below_drewN | apply below_drew1 | refine below_set ?_ GE270.out | refine below_set ?_ GE271.out | refine below_set ?_ GE272.out) | exact HB.out)) hb); clear BK270; clear BK271; clear BK272; clear HB; have BK270 := n0_; have BK271 := n1_; have BK272 := n2_; have HB := n3_; clear n0_ n1_ n2_ n3_; (try clear hb); (try clear hb2); (try clear hk); (try clear hi); have hnb19 := NB271_272.out; have hnc19 := NB272_271.out; have hcz20_0 : w18.cell? ⟨gb271, 0, none⟩ = some (.bool a1_0) := (blk_cell BK271.out 0).trans rfl; have hcz20_1 : w18.cell? ⟨gb271, 1, none⟩ = some (.slice A1_1 l1_1.length c1_1) := (blk_cell BK271.out 1).trans rfl; have hcz20_2 : w18.cell? ⟨gb271, 2, none⟩ = some (.int .i64 a1_2) := (blk_cell BK271.out 2).trans rfl; have hfz20_0 := blk_frozen BK271.out 0; have hfz20_1 := blk_frozen BK271.out 1; have hfz20_2 := blk_frozen BK271.out 2) | (go_at_call 14; (with_reducible refine (exergueref05_Right.calls k a1_0 _ _ l1_1 a1_2 true _ ?side1 ?side2 A12.out).mono ?_); (case side1 => repeat (first | exact (Kd.C_below HR1_1.out HB.out) | (with_reducible refine Kd.C_alloc ?_ _) | (with_reducible refine Kd.C_drewN ?_ _) | (with_reducible refine Kd.C_drew ?_))); (case side2 => exact HC1_1.out); rintro e w21 ⟨rfl, hb⟩; have n0_ := Aside0.mk (blk_below (g := gb270) (o := .cells #[.bool a0_0, .slice A0_1 l0_1.length c0_1, .int .i64 a0_2] 24 (0, 0)) (by (with_reducible repeat (first | refine blk_drewN ?_ _ | refine blk_drew ?_ | refine blk_alloc ?_ _)); exact BK270.out) hb); have n1_ := Aside0.mk (blk_below (g := gb271) (o := .cells #[.bool a1_0, .slice A1_1 l1_1.length c1_1, .int .i64 a1_2] 24 (0, 0)) (by (with_reducible repeat (first | refine blk_drewN ?_ _ | refine blk_drew ?_ | refine blk_alloc ?_ _)); exact BK271.out) hb); have n2_ := Aside0.mk (blk_below (g := gb272) (o := .cells #[.bool a2_0, .slice A2_1 l2_1.length c2_1, .int .i64 a2_2] 24 (0, 0)) (by (with_reducible repeat (first | refine blk_drewN ?_ _ | refine blk_drew ?_ | refine blk_alloc ?_ _)); exact BK272.out) hb); have n3_ := Aside0.mk (below_step (by repeat (first | (with_reducible first | exact HB.out | apply below_alloc | apply pw_below_drewN | apply below_drew1 | refine below_set ?_ GE270.out | refine below_set ?_ GE271.out | refine below_set ?_ GE272.out) | exact HB.out)) hb); clear BK270; clear BK271; clear BK272; clear HB; have BK270 := n0_; have BK271 := n1_; have BK272 := n2_; have HB := n3_; clear n0_ n1_ n2_ n3_; (try clear hb); (try clear hb2); (try clear hk); (try clear hi); have hcz22_0 : w21.cell? ⟨gb272, 0, none⟩ = some (.bool a2_0) := (blk_cell BK272.out 0).trans rfl; have hcz22_1 : w21.cell? ⟨gb272, 1, none⟩ = some (.slice A2_1 l2_1.length c2_1) := (blk_cell BK272.out 1).trans rfl; have hcz22_2 : w21.cell? ⟨gb272, 2, none⟩ = some (.int .i64 a2_2) := (blk_cell BK272.out 2).trans rfl; have hfz22_0 := blk_frozen BK272.out 0; have hfz22_1 := blk_frozen BK272.out 1; have hfz22_2 := blk_frozen BK272.out 2) | (go_at_call 14; (with_reducible refine (exergueref05_Right.calls k a2_0 _ _ l2_1 a2_2 t276 _ ?side1 ?side2 A14.out).mono ?_); (case side1 => repeat (first | exact (Kd.C_below HR2_1.out HB.out) | (with_reducible refine Kd.C_alloc ?_ _) | (with_reducible refine Kd.C_drewN ?_ _) | (with_reducible refine Kd.C_drew ?_))); (case side2 => exact HC2_1.out); rintro e w23 ⟨rfl, hb⟩; have n0_ := Aside0.mk (blk_below (g := gb270) (o := .cells #[.bool a0_0, .slice A0_1 l0_1.length c0_1, .int .i64 a0_2] 24 (0, 0)) (by (with_reducible repeat (first | refine blk_drewN ?_ _ | refine blk_drew ?_ | refine blk_alloc ?_ _)); exact BK270.out) hb); have n1_ := Aside0.mk (blk_below (g := gb271) (o := .cells #[.bool a1_0, .slice A1_1 l1_1.length c1_1, .int .i64 a1_2] 24 (0, 0)) (by (with_reducible repeat (first | refine blk_drewN ?_ _ | refine blk_drew ?_ | refine blk_alloc ?_ _)); exact BK271.out) hb); have n2_ := Aside0.mk (blk_below (g := gb272) (o := .cells #[.bool a2_0, .slice A2_1 l2_1.length c2_1, .int .i64 a2_2] 24 (0, 0)) (by (with_reducible repeat (first | refine blk_drewN ?_ _ | refine blk_drew ?_ | refine blk_alloc ?_ _)); exact BK272.out) hb); have n3_ := Aside0.mk (below_step (by repeat (first | (with_reducible first | exact HB.out | apply below_alloc | apply pw_below_drewN | apply below_drew1 | refine below_set ?_ GE270.out | refine below_set ?_ GE271.out | refine below_set ?_ GE272.out) | exact HB.out)) hb); clear BK270; clear BK271; clear BK272; clear HB; have BK270 := n0_; have BK271 := n1_; have BK272 := n2_; have HB := n3_; clear n0_ n1_ n2_ n3_; (try clear hb); (try clear hb2); (try clear hk); (try clear hi)))
        go_meet
        case rel => exact ⟨_, (!t276), (by first | rfl | (simp; done) | (simp [*]; done)), H', ⟨by first | omega | exact Nat.le_refl _⟩, ⟨by (with_reducible repeat (first | refine blk_drewN ?_ _ | refine blk_drew ?_ | refine blk_alloc ?_ _)); exact BK270.out⟩, ⟨by (with_reducible repeat (first | refine blk_drewN ?_ _ | refine blk_drew ?_ | refine blk_alloc ?_ _)); exact BK271.out⟩, ⟨by (with_reducible repeat (first | refine blk_drewN ?_ _ | refine blk_drew ?_ | refine blk_alloc ?_ _)); exact BK272.out⟩, ⟨by repeat (first | (with_reducible first | exact HB.out | apply below_alloc | apply pw_below_drewN | apply below_drew1 | refine below_set ?_ GE270.out | refine below_set ?_ GE271.out | refine below_set ?_ GE272.out) | exact HB.out)⟩⟩
      · replace c13 := Bool.eq_false_iff.mpr c13
        subst c13
        have H1 : (exerguelaw05_DecOrder.j0 k t273 true a0_0 l0_1 a0_2 a1_0 l1_1 a1_2 a2_0 l2_1 a2_2) = some r := by rw [if_neg (show ¬ (false = true) by decide)] at H; exact H
        clear H
        have H := H1
        clear H1
        have H' := Aside0.mk H
        clear H
        have hnb24 := NB270_271.out
        have hnc24 := NB271_270.out
        have hnb25 := NB270_272.out
        have hnc25 := NB272_270.out
        have hcz26_0 : w9.cell? ⟨gb270, 0, none⟩ = some (.bool a0_0) := (blk_cell BK270.out 0).trans rfl
        have hcz26_1 : w9.cell? ⟨gb270, 1, none⟩ = some (.slice A0_1 l0_1.length c0_1) := (blk_cell BK270.out 1).trans rfl
        have hcz26_2 : w9.cell? ⟨gb270, 2, none⟩ = some (.int .i64 a0_2) := (blk_cell BK270.out 2).trans rfl
        have hfz26_0 := blk_frozen BK270.out 0
        have hfz26_1 := blk_frozen BK270.out 1
        have hfz26_2 := blk_frozen BK270.out 2
        go_wp2_with (first | ((with_reducible refine gate_callee (f := 14) rfl ?_); refine goesL_ (some 12) rfl rfl Tryd.func14 (by kernel_rfl) rfl #[.agg #[.bool a0_0, .slice A0_1 l0_1.length c0_1, .int .i64 a0_2]] rfl (by (try simp only [List.map_toArray, List.map_cons, List.map_nil]); first | done | rfl | (simp only [List.length_drop, List.length_take]; rfl)) ?_; (with_reducible refine (exergueref05_Right.calls k a0_0 _ _ l0_1 a0_2 true _ ?side1 ?side2 A10.out).mono ?_); (case side1 => repeat (first | exact (Kd.C_below HR0_1.out HB.out) | (with_reducible refine Kd.C_alloc ?_ _) | (with_reducible refine Kd.C_drewN ?_ _) | (with_reducible refine Kd.C_drew ?_))); (case side2 => exact HC0_1.out); rintro e w27 ⟨rfl, hb⟩; refine ⟨_, rfl, ?_⟩; have n0_ := Aside0.mk (blk_below (g := gb270) (o := .cells #[.bool a0_0, .slice A0_1 l0_1.length c0_1, .int .i64 a0_2] 24 (0, 0)) (by (with_reducible repeat (first | refine blk_drewN ?_ _ | refine blk_drew ?_ | refine blk_alloc ?_ _)); exact BK270.out) hb); have n1_ := Aside0.mk (blk_below (g := gb271) (o := .cells #[.bool a1_0, .slice A1_1 l1_1.length c1_1, .int .i64 a1_2] 24 (0, 0)) (by (with_reducible repeat (first | refine blk_drewN ?_ _ | refine blk_drew ?_ | refine blk_alloc ?_ _)); exact BK271.out) hb); have n2_ := Aside0.mk (blk_below (g := gb272) (o := .cells #[.bool a2_0, .slice A2_1 l2_1.length c2_1, .int .i64 a2_2] 24 (0, 0)) (by (with_reducible repeat (first | refine blk_drewN ?_ _ | refine blk_drew ?_ | refine blk_alloc ?_ _)); exact BK272.out) hb); have n3_ := Aside0.mk (below_step (by repeat (first | (with_reducible first | exact HB.out | apply below_alloc | apply pw_below_drewN | apply below_drew1 | refine below_set ?_ GE270.out | refine below_set ?_ GE271.out | refine below_set ?_ GE272.out) | exact HB.out)) hb); clear BK270; clear BK271; clear BK272; clear HB; have BK270 := n0_; have BK271 := n1_; have BK272 := n2_; have HB := n3_; clear n0_ n1_ n2_ n3_; (try clear hb); (try clear hb2); (try clear hk); (try clear hi); have hnb28 := NB271_272.out; have hnc28 := NB272_271.out; have hcz29_0 : w27.cell? ⟨gb271, 0, none⟩ = some (.bool a1_0) := (blk_cell BK271.out 0).trans rfl; have hcz29_1 : w27.cell? ⟨gb271, 1, none⟩ = some (.slice A1_1 l1_1.length c1_1) := (blk_cell BK271.out 1).trans rfl; have hcz29_2 : w27.cell? ⟨gb271, 2, none⟩ = some (.int .i64 a1_2) := (blk_cell BK271.out 2).trans rfl; have hfz29_0 := blk_frozen BK271.out 0; have hfz29_1 := blk_frozen BK271.out 1; have hfz29_2 := blk_frozen BK271.out 2) | (go_at_call 14; (with_reducible refine (exergueref05_Right.calls k a1_0 _ _ l1_1 a1_2 false _ ?side1 ?side2 A12.out).mono ?_); (case side1 => repeat (first | exact (Kd.C_below HR1_1.out HB.out) | (with_reducible refine Kd.C_alloc ?_ _) | (with_reducible refine Kd.C_drewN ?_ _) | (with_reducible refine Kd.C_drew ?_))); (case side2 => exact HC1_1.out); rintro e w30 ⟨rfl, hb⟩; have n0_ := Aside0.mk (blk_below (g := gb270) (o := .cells #[.bool a0_0, .slice A0_1 l0_1.length c0_1, .int .i64 a0_2] 24 (0, 0)) (by (with_reducible repeat (first | refine blk_drewN ?_ _ | refine blk_drew ?_ | refine blk_alloc ?_ _)); exact BK270.out) hb); have n1_ := Aside0.mk (blk_below (g := gb271) (o := .cells #[.bool a1_0, .slice A1_1 l1_1.length c1_1, .int .i64 a1_2] 24 (0, 0)) (by (with_reducible repeat (first | refine blk_drewN ?_ _ | refine blk_drew ?_ | refine blk_alloc ?_ _)); exact BK271.out) hb); have n2_ := Aside0.mk (blk_below (g := gb272) (o := .cells #[.bool a2_0, .slice A2_1 l2_1.length c2_1, .int .i64 a2_2] 24 (0, 0)) (by (with_reducible repeat (first | refine blk_drewN ?_ _ | refine blk_drew ?_ | refine blk_alloc ?_ _)); exact BK272.out) hb); have n3_ := Aside0.mk (below_step (by repeat (first | (with_reducible first | exact HB.out | apply below_alloc | apply pw_below_drewN | apply below_drew1 | refine below_set ?_ GE270.out | refine below_set ?_ GE271.out | refine below_set ?_ GE272.out) | exact HB.out)) hb); clear BK270; clear BK271; clear BK272; clear HB; have BK270 := n0_; have BK271 := n1_; have BK272 := n2_; have HB := n3_; clear n0_ n1_ n2_ n3_; (try clear hb); (try clear hb2); (try clear hk); (try clear hi)))
        go_meet
        case rel => exact ⟨_, (true), (by first | rfl | (simp; done) | (simp [*]; done)), H', ⟨by first | omega | exact Nat.le_refl _⟩, ⟨by (with_reducible repeat (first | refine blk_drewN ?_ _ | refine blk_drew ?_ | refine blk_alloc ?_ _)); exact BK270.out⟩, ⟨by (with_reducible repeat (first | refine blk_drewN ?_ _ | refine blk_drew ?_ | refine blk_alloc ?_ _)); exact BK271.out⟩, ⟨by (with_reducible repeat (first | refine blk_drewN ?_ _ | refine blk_drew ?_ | refine blk_alloc ?_ _)); exact BK272.out⟩, ⟨by repeat (first | (with_reducible first | exact HB.out | apply below_alloc | apply pw_below_drewN | apply below_drew1 | refine below_set ?_ GE270.out | refine below_set ?_ GE271.out | refine below_set ?_ GE272.out) | exact HB.out)⟩⟩
    · replace c11 := Bool.eq_false_iff.mpr c11
      subst c11
      have H1 : (exerguelaw05_DecOrder.j0 k t273 true a0_0 l0_1 a0_2 a1_0 l1_1 a1_2 a2_0 l2_1 a2_2) = some r := by rw [if_neg (show ¬ (false = true) by decide)] at H; exact H
      clear H
      have H := H1
      clear H1
      have H' := Aside0.mk H
      clear H
      have hnb31 := NB270_271.out
      have hnc31 := NB271_270.out
      have hnb32 := NB270_272.out
      have hnc32 := NB272_270.out
      have hcz33_0 : w9.cell? ⟨gb270, 0, none⟩ = some (.bool a0_0) := (blk_cell BK270.out 0).trans rfl
      have hcz33_1 : w9.cell? ⟨gb270, 1, none⟩ = some (.slice A0_1 l0_1.length c0_1) := (blk_cell BK270.out 1).trans rfl
      have hcz33_2 : w9.cell? ⟨gb270, 2, none⟩ = some (.int .i64 a0_2) := (blk_cell BK270.out 2).trans rfl
      have hfz33_0 := blk_frozen BK270.out 0
      have hfz33_1 := blk_frozen BK270.out 1
      have hfz33_2 := blk_frozen BK270.out 2
      go_wp2_with (first | ((with_reducible refine gate_callee (f := 14) rfl ?_); refine goesL_ (some 12) rfl rfl Tryd.func14 (by kernel_rfl) rfl #[.agg #[.bool a0_0, .slice A0_1 l0_1.length c0_1, .int .i64 a0_2]] rfl (by (try simp only [List.map_toArray, List.map_cons, List.map_nil]); first | done | rfl | (simp only [List.length_drop, List.length_take]; rfl)) ?_; (with_reducible refine (exergueref05_Right.calls k a0_0 _ _ l0_1 a0_2 false _ ?side1 ?side2 A10.out).mono ?_); (case side1 => repeat (first | exact (Kd.C_below HR0_1.out HB.out) | (with_reducible refine Kd.C_alloc ?_ _) | (with_reducible refine Kd.C_drewN ?_ _) | (with_reducible refine Kd.C_drew ?_))); (case side2 => exact HC0_1.out); rintro e w34 ⟨rfl, hb⟩; refine ⟨_, rfl, ?_⟩; have n0_ := Aside0.mk (blk_below (g := gb270) (o := .cells #[.bool a0_0, .slice A0_1 l0_1.length c0_1, .int .i64 a0_2] 24 (0, 0)) (by (with_reducible repeat (first | refine blk_drewN ?_ _ | refine blk_drew ?_ | refine blk_alloc ?_ _)); exact BK270.out) hb); have n1_ := Aside0.mk (blk_below (g := gb271) (o := .cells #[.bool a1_0, .slice A1_1 l1_1.length c1_1, .int .i64 a1_2] 24 (0, 0)) (by (with_reducible repeat (first | refine blk_drewN ?_ _ | refine blk_drew ?_ | refine blk_alloc ?_ _)); exact BK271.out) hb); have n2_ := Aside0.mk (blk_below (g := gb272) (o := .cells #[.bool a2_0, .slice A2_1 l2_1.length c2_1, .int .i64 a2_2] 24 (0, 0)) (by (with_reducible repeat (first | refine blk_drewN ?_ _ | refine blk_drew ?_ | refine blk_alloc ?_ _)); exact BK272.out) hb); have n3_ := Aside0.mk (below_step (by repeat (first | (with_reducible first | exact HB.out | apply below_alloc | apply pw_below_drewN | apply below_drew1 | refine below_set ?_ GE270.out | refine below_set ?_ GE271.out | refine below_set ?_ GE272.out) | exact HB.out)) hb); clear BK270; clear BK271; clear BK272; clear HB; have BK270 := n0_; have BK271 := n1_; have BK272 := n2_; have HB := n3_; clear n0_ n1_ n2_ n3_; (try clear hb); (try clear hb2); (try clear hk); (try clear hi)))
      go_meet
      case rel => exact ⟨_, (true), (by first | rfl | (simp; done) | (simp [*]; done)), H', ⟨by first | omega | exact Nat.le_refl _⟩, ⟨by (with_reducible repeat (first | refine blk_drewN ?_ _ | refine blk_drew ?_ | refine blk_alloc ?_ _)); exact BK270.out⟩, ⟨by (with_reducible repeat (first | refine blk_drewN ?_ _ | refine blk_drew ?_ | refine blk_alloc ?_ _)); exact BK271.out⟩, ⟨by (with_reducible repeat (first | refine blk_drewN ?_ _ | refine blk_drew ?_ | refine blk_alloc ?_ _)); exact BK272.out⟩, ⟨by repeat (first | (with_reducible first | exact HB.out | apply below_alloc | apply pw_below_drewN | apply below_drew1 | refine below_set ?_ GE270.out | refine below_set ?_ GE271.out | refine below_set ?_ GE272.out) | exact HB.out)⟩⟩
  case rest =>
    clear HC5
    try clear c1
    try clear c2
    try clear p2
    try clear c3
    try clear c5
    try clear c10
    try clear c11
    try clear c13
    try clear c14
    try clear c15
    try clear c16
    try clear c19
    try clear c24
    try clear c25
    try clear c28
    try clear c31
    try clear c32
    try clear hcz17_0
    try clear hcz17_1
    try clear hcz17_2
    try clear hcz20_0
    try clear hcz20_1
    try clear hcz20_2
    try clear hcz22_0
    try clear hcz22_1
    try clear hcz22_2
    try clear hcz26_0
    try clear hcz26_1
    try clear hcz26_2
    try clear hcz29_0
    try clear hcz29_1
    try clear hcz29_2
    try clear hcz33_0
    try clear hcz33_1
    try clear hcz33_2
    try clear hfz17_0
    try clear hfz17_1
    try clear hfz17_2
    try clear hfz20_0
    try clear hfz20_1
    try clear hfz20_2
    try clear hfz22_0
    try clear hfz22_1
    try clear hfz22_2
    try clear hfz26_0
    try clear hfz26_1
    try clear hfz26_2
    try clear hfz29_0
    try clear hfz29_1
    try clear hfz29_2
    try clear hfz33_0
    try clear hfz33_1
    try clear hfz33_2
    obtain ⟨kq, x23_4, rfl, HA, HJ4, BK270, BK271, BK272, HB⟩ := hcut
    cases kq with
    | zero => exact absurd HA.out (by simp [exerguelaw05_DecOrder.j0])
    | succ kj4 =>
      have H := HA.out
      clear HA
      simp only [exerguelaw05_DecOrder.j0] at H
      by_cases c35 : x23_4 = true
      · subst c35
        have H1 : (some t273) = some r := by rw [if_pos rfl] at H; exact H
        clear H
        have H := H1
        clear H1
        obtain rfl := Option.some.inj H
        go_wp2
        go_ret
        exact ⟨by first | rfl | (simp [errW_none, errW_some] <;> rfl) | (simp [*, errW_none, errW_some] <;> rfl), by repeat (first | (with_reducible first | exact HB.out | apply below_alloc | apply pw_below_drewN | apply below_drew1 | refine below_set ?_ GE270.out | refine below_set ?_ GE271.out | refine below_set ?_ GE272.out) | exact HB.out)⟩
      · replace c35 := Bool.eq_false_iff.mpr c35
        subst c35
        have H1 : ((dec_Cmp.f kj4 a0_0 l0_1 a0_2 a1_0 l1_1 a1_2).bind fun t277 => ((exergueref05_Same.f kj4 a0_0 l0_1 a0_2 a1_0 l1_1 a1_2).bind fun t278 => (if t278 = true then (exerguelaw05_DecOrder.j1 kj4 t273 t277 true a0_0 l0_1 a0_2 a1_0 l1_1 a1_2 a2_0 l2_1 a2_2) else (if (l0_1.length : Int) = 0 then (exerguelaw05_DecOrder.j1 kj4 t273 t277 ((l1_1.length : Int) == 0) a0_0 l0_1 a0_2 a1_0 l1_1 a1_2 a2_0 l2_1 a2_2) else (exerguelaw05_DecOrder.j1 kj4 t273 t277 false a0_0 l0_1 a0_2 a1_0 l1_1 a1_2 a2_0 l2_1 a2_2))))) = some r := by rw [if_neg (show ¬ (false = true) by decide)] at H; exact H
        clear H
        have H := H1
        clear H1
        replace H := Option.bind_eq_some_iff.mp H
        obtain ⟨t277, A360, H⟩ := H
        replace H : ((exergueref05_Same.f kj4 a0_0 l0_1 a0_2 a1_0 l1_1 a1_2).bind fun t278 => (if t278 = true then (exerguelaw05_DecOrder.j1 kj4 t273 t277 true a0_0 l0_1 a0_2 a1_0 l1_1 a1_2 a2_0 l2_1 a2_2) else (if (l0_1.length : Int) = 0 then (exerguelaw05_DecOrder.j1 kj4 t273 t277 ((l1_1.length : Int) == 0) a0_0 l0_1 a0_2 a1_0 l1_1 a1_2 a2_0 l2_1 a2_2) else (exerguelaw05_DecOrder.j1 kj4 t273 t277 false a0_0 l0_1 a0_2 a1_0 l1_1 a1_2 a2_0 l2_1 a2_2)))) = some r := H
        have A36 := Aside0.mk A360
        clear A360
        have HC37 := Aside0.mk H
        clear H
        have hnb38 := NB270_271.out
        have hnc38 := NB271_270.out
        have hnb39 := NB270_272.out
        have hnc39 := NB272_270.out
        have hcz40_0 : wc.cell? ⟨gb270, 0, none⟩ = some (.bool a0_0) := (blk_cell BK270.out 0).trans rfl
        have hcz40_1 : wc.cell? ⟨gb270, 1, none⟩ = some (.slice A0_1 l0_1.length c0_1) := (blk_cell BK270.out 1).trans rfl
        have hcz40_2 : wc.cell? ⟨gb270, 2, none⟩ = some (.int .i64 a0_2) := (blk_cell BK270.out 2).trans rfl
        have hfz40_0 := blk_frozen BK270.out 0
        have hfz40_1 := blk_frozen BK270.out 1
        have hfz40_2 := blk_frozen BK270.out 2
        have hnb41 := NB271_272.out
        have hnc41 := NB272_271.out
        have hcz42_0 : wc.cell? ⟨gb271, 0, none⟩ = some (.bool a1_0) := (blk_cell BK271.out 0).trans rfl
        have hcz42_1 : wc.cell? ⟨gb271, 1, none⟩ = some (.slice A1_1 l1_1.length c1_1) := (blk_cell BK271.out 1).trans rfl
        have hcz42_2 : wc.cell? ⟨gb271, 2, none⟩ = some (.int .i64 a1_2) := (blk_cell BK271.out 2).trans rfl
        have hfz42_0 := blk_frozen BK271.out 0
        have hfz42_1 := blk_frozen BK271.out 1
        have hfz42_2 := blk_frozen BK271.out 2
        go_upto_region 5 with (first | ((with_reducible refine gate_callee (f := 17) rfl ?_); refine goesL_ (some 27) rfl rfl Tryd.func17 (by kernel_rfl) rfl #[.agg #[.bool a0_0, .slice A0_1 l0_1.length c0_1, .int .i64 a0_2], .agg #[.bool a1_0, .slice A1_1 l1_1.length c1_1, .int .i64 a1_2]] rfl (by (try simp only [List.map_toArray, List.map_cons, List.map_nil]); first | done | rfl | (simp only [List.length_drop, List.length_take]; rfl)) ?_; (with_reducible refine (dec_Cmp.calls kj4 a0_0 _ _ l0_1 a0_2 a1_0 _ _ l1_1 a1_2 t277 _ ?side1 ?side2 ?side3 ?side4 A36.out).mono ?_); (case side1 => repeat (first | exact (Kd.C_below HR0_1.out HB.out) | (with_reducible refine Kd.C_alloc ?_ _) | (with_reducible refine Kd.C_drewN ?_ _) | (with_reducible refine Kd.C_drew ?_))); (case side2 => exact HC0_1.out); (case side3 => repeat (first | exact (Kd.C_below HR1_1.out HB.out) | (with_reducible refine Kd.C_alloc ?_ _) | (with_reducible refine Kd.C_drewN ?_ _) | (with_reducible refine Kd.C_drew ?_))); (case side4 => exact HC1_1.out); rintro e w43 ⟨rfl, hb⟩; refine ⟨_, rfl, ?_⟩; have n0_ := Aside0.mk (blk_below (g := gb270) (o := .cells #[.bool a0_0, .slice A0_1 l0_1.length c0_1, .int .i64 a0_2] 24 (0, 0)) (by (with_reducible repeat (first | refine blk_drewN ?_ _ | refine blk_drew ?_ | refine blk_alloc ?_ _)); exact BK270.out) hb); have n1_ := Aside0.mk (blk_below (g := gb271) (o := .cells #[.bool a1_0, .slice A1_1 l1_1.length c1_1, .int .i64 a1_2] 24 (0, 0)) (by (with_reducible repeat (first | refine blk_drewN ?_ _ | refine blk_drew ?_ | refine blk_alloc ?_ _)); exact BK271.out) hb); have n2_ := Aside0.mk (blk_below (g := gb272) (o := .cells #[.bool a2_0, .slice A2_1 l2_1.length c2_1, .int .i64 a2_2] 24 (0, 0)) (by (with_reducible repeat (first | refine blk_drewN ?_ _ | refine blk_drew ?_ | refine blk_alloc ?_ _)); exact BK272.out) hb); have n3_ := Aside0.mk (below_step (by repeat (first | (with_reducible first | exact HB.out | apply below_alloc | apply pw_below_drewN | apply below_drew1 | refine below_set ?_ GE270.out | refine below_set ?_ GE271.out | refine below_set ?_ GE272.out) | exact HB.out)) hb); clear BK270; clear BK271; clear BK272; clear HB; have BK270 := n0_; have BK271 := n1_; have BK272 := n2_; have HB := n3_; clear n0_ n1_ n2_ n3_; (try clear hb); (try clear hb2); (try clear hk); (try clear hi)))
        (try simp only [Act.put, List.setIfInBounds_toArray, List.set_cons_zero, List.set_cons_succ])
        go_cut [9] (fun v9 wc => ∃ (kq : Nat) (x9_36 : Bool), v9 = .bool x9_36 ∧ Aside0 (exerguelaw05_DecOrder.j1 kq t273 t277 x9_36 a0_0 l0_1 a0_2 a1_0 l1_1 a1_2 a2_0 l2_1 a2_2 = some r) ∧ Aside0 (kq ≤ kj4) ∧ Aside0 (wc.heap[gb270]? = some (.cells #[.bool a0_0, (.slice A0_1 l0_1.length c0_1), .int .i64 a0_2] 24 (0, 0))) ∧ Aside0 (wc.heap[gb271]? = some (.cells #[.bool a1_0, (.slice A1_1 l1_1.length c1_1), .int .i64 a1_2] 24 (0, 0))) ∧ Aside0 (wc.heap[gb272]? = some (.cells #[.bool a2_0, (.slice A2_1 l2_1.length c2_1), .int .i64 a2_2] 24 (0, 0))) ∧ Aside0 (Below w.heap.size w wc))
        case first =>
          have H := HC37.out
          clear HC37
          replace H := Option.bind_eq_some_iff.mp H
          obtain ⟨t278, A440, H⟩ := H
          replace H : (if t278 = true then (exerguelaw05_DecOrder.j1 kj4 t273 t277 true a0_0 l0_1 a0_2 a1_0 l1_1 a1_2 a2_0 l2_1 a2_2) else (if (l0_1.length : Int) = 0 then (exerguelaw05_DecOrder.j1 kj4 t273 t277 ((l1_1.length : Int) == 0) a0_0 l0_1 a0_2 a1_0 l1_1 a1_2 a2_0 l2_1 a2_2) else (exerguelaw05_DecOrder.j1 kj4 t273 t277 false a0_0 l0_1 a0_2 a1_0 l1_1 a1_2 a2_0 l2_1 a2_2))) = some r := H
          have A44 := Aside0.mk A440
          clear A440
          by_cases c45 : t278 = true
          · subst c45
            have H1 : (exerguelaw05_DecOrder.j1 kj4 t273 t277 true a0_0 l0_1 a0_2 a1_0 l1_1 a1_2 a2_0 l2_1 a2_2) = some r := by rw [if_pos rfl] at H; exact H
            clear H
            have H := H1
            clear H1
            have H' := Aside0.mk H
            clear H
            have hnb46 := NB270_271.out
            have hnc46 := NB271_270.out
            have hnb47 := NB270_272.out
            have hnc47 := NB272_270.out
            have hcz48_0 : w43.cell? ⟨gb270, 0, none⟩ = some (.bool a0_0) := (blk_cell BK270.out 0).trans rfl
            have hcz48_1 : w43.cell? ⟨gb270, 1, none⟩ = some (.slice A0_1 l0_1.length c0_1) := (blk_cell BK270.out 1).trans rfl
            have hcz48_2 : w43.cell? ⟨gb270, 2, none⟩ = some (.int .i64 a0_2) := (blk_cell BK270.out 2).trans rfl
            have hfz48_0 := blk_frozen BK270.out 0
            have hfz48_1 := blk_frozen BK270.out 1
            have hfz48_2 := blk_frozen BK270.out 2
            have hnb49 := NB271_272.out
            have hnc49 := NB272_271.out
            have hcz50_0 : w43.cell? ⟨gb271, 0, none⟩ = some (.bool a1_0) := (blk_cell BK271.out 0).trans rfl
            have hcz50_1 : w43.cell? ⟨gb271, 1, none⟩ = some (.slice A1_1 l1_1.length c1_1) := (blk_cell BK271.out 1).trans rfl
            have hcz50_2 : w43.cell? ⟨gb271, 2, none⟩ = some (.int .i64 a1_2) := (blk_cell BK271.out 2).trans rfl
            have hfz50_0 := blk_frozen BK271.out 0
            have hfz50_1 := blk_frozen BK271.out 1
            have hfz50_2 := blk_frozen BK271.out 2
            go_wp2_with (first | ((with_reducible refine gate_callee (f := 13) rfl ?_); refine goesL_ (some 30) rfl rfl Tryd.func13 (by kernel_rfl) rfl #[.agg #[.bool a0_0, .slice A0_1 l0_1.length c0_1, .int .i64 a0_2], .agg #[.bool a1_0, .slice A1_1 l1_1.length c1_1, .int .i64 a1_2]] rfl (by (try simp only [List.map_toArray, List.map_cons, List.map_nil]); first | done | rfl | (simp only [List.length_drop, List.length_take]; rfl)) ?_; (with_reducible refine (exergueref05_Same.calls kj4 a0_0 _ _ l0_1 a0_2 a1_0 _ _ l1_1 a1_2 true _ ?side1 ?side2 ?side3 ?side4 A44.out).mono ?_); (case side1 => repeat (first | exact (Kd.C_below HR0_1.out HB.out) | (with_reducible refine Kd.C_alloc ?_ _) | (with_reducible refine Kd.C_drewN ?_ _) | (with_reducible refine Kd.C_drew ?_))); (case side2 => exact HC0_1.out); (case side3 => repeat (first | exact (Kd.C_below HR1_1.out HB.out) | (with_reducible refine Kd.C_alloc ?_ _) | (with_reducible refine Kd.C_drewN ?_ _) | (with_reducible refine Kd.C_drew ?_))); (case side4 => exact HC1_1.out); rintro e w51 ⟨rfl, hb⟩; refine ⟨_, rfl, ?_⟩; have n0_ := Aside0.mk (blk_below (g := gb270) (o := .cells #[.bool a0_0, .slice A0_1 l0_1.length c0_1, .int .i64 a0_2] 24 (0, 0)) (by (with_reducible repeat (first | refine blk_drewN ?_ _ | refine blk_drew ?_ | refine blk_alloc ?_ _)); exact BK270.out) hb); have n1_ := Aside0.mk (blk_below (g := gb271) (o := .cells #[.bool a1_0, .slice A1_1 l1_1.length c1_1, .int .i64 a1_2] 24 (0, 0)) (by (with_reducible repeat (first | refine blk_drewN ?_ _ | refine blk_drew ?_ | refine blk_alloc ?_ _)); exact BK271.out) hb); have n2_ := Aside0.mk (blk_below (g := gb272) (o := .cells #[.bool a2_0, .slice A2_1 l2_1.length c2_1, .int .i64 a2_2] 24 (0, 0)) (by (with_reducible repeat (first | refine blk_drewN ?_ _ | refine blk_drew ?_ | refine blk_alloc ?_ _)); exact BK272.out) hb); have n3_ := Aside0.mk (below_step (by repeat (first | (with_reducible first | exact HB.out | apply below_alloc | apply pw_below_drewN | apply below_drew1 | refine below_set ?_ GE270.out | refine below_set ?_ GE271.out | refine below_set ?_ GE272.out) | exact HB.out)) hb); clear BK270; clear BK271; clear BK272; clear HB; have BK270 := n0_; have BK271 := n1_; have BK272 := n2_; have HB := n3_; clear n0_ n1_ n2_ n3_; (try clear hb); (try clear hb2); (try clear hk); (try clear hi)))
            go_meet
            case rel => exact ⟨_, (true), (by first | rfl | (simp; done) | (simp [*]; done)), H', ⟨by have := HJ4.out; first | omega | exact Nat.le_refl _⟩, ⟨by (with_reducible repeat (first | refine blk_drewN ?_ _ | refine blk_drew ?_ | refine blk_alloc ?_ _)); exact BK270.out⟩, ⟨by (with_reducible repeat (first | refine blk_drewN ?_ _ | refine blk_drew ?_ | refine blk_alloc ?_ _)); exact BK271.out⟩, ⟨by (with_reducible repeat (first | refine blk_drewN ?_ _ | refine blk_drew ?_ | refine blk_alloc ?_ _)); exact BK272.out⟩, ⟨by repeat (first | (with_reducible first | exact HB.out | apply below_alloc | apply pw_below_drewN | apply below_drew1 | refine below_set ?_ GE270.out | refine below_set ?_ GE271.out | refine below_set ?_ GE272.out) | exact HB.out)⟩⟩
          · replace c45 := Bool.eq_false_iff.mpr c45
            subst c45
            have H1 : (if (l0_1.length : Int) = 0 then (exerguelaw05_DecOrder.j1 kj4 t273 t277 ((l1_1.length : Int) == 0) a0_0 l0_1 a0_2 a1_0 l1_1 a1_2 a2_0 l2_1 a2_2) else (exerguelaw05_DecOrder.j1 kj4 t273 t277 false a0_0 l0_1 a0_2 a1_0 l1_1 a1_2 a2_0 l2_1 a2_2)) = some r := by rw [if_neg (show ¬ (false = true) by decide)] at H; exact H
            clear H
            have H := H1
            clear H1
            by_cases c52 : (l0_1.length : Int) = 0
            · rw [if_pos c52] at H
              have c52b0 : ((l0_1.length : Int) == 0) = true := beq_iff_eq.mpr c52
              have c52b1 : ((l0_1.length : Int) != 0) = false := bne_eq_false_iff_eq.mpr c52
              clear c52
              (first | rw [c52b0] | (simp only [i64_w, i32_w]; rw [c52b0]) | skip)
              have H' := Aside0.mk H
              clear H
              have hnb53 := NB270_271.out
              have hnc53 := NB271_270.out
              have hnb54 := NB270_272.out
              have hnc54 := NB272_270.out
              have hcz55_0 : w43.cell? ⟨gb270, 0, none⟩ = some (.bool a0_0) := (blk_cell BK270.out 0).trans rfl
              have hcz55_1 : w43.cell? ⟨gb270, 1, none⟩ = some (.slice A0_1 l0_1.length c0_1) := (blk_cell BK270.out 1).trans rfl
              have hcz55_2 : w43.cell? ⟨gb270, 2, none⟩ = some (.int .i64 a0_2) := (blk_cell BK270.out 2).trans rfl
              have hfz55_0 := blk_frozen BK270.out 0
              have hfz55_1 := blk_frozen BK270.out 1
              have hfz55_2 := blk_frozen BK270.out 2
              have hnb56 := NB271_272.out
              have hnc56 := NB272_271.out
              have hcz57_0 : w43.cell? ⟨gb271, 0, none⟩ = some (.bool a1_0) := (blk_cell BK271.out 0).trans rfl
              have hcz57_1 : w43.cell? ⟨gb271, 1, none⟩ = some (.slice A1_1 l1_1.length c1_1) := (blk_cell BK271.out 1).trans rfl
              have hcz57_2 : w43.cell? ⟨gb271, 2, none⟩ = some (.int .i64 a1_2) := (blk_cell BK271.out 2).trans rfl
              have hfz57_0 := blk_frozen BK271.out 0
              have hfz57_1 := blk_frozen BK271.out 1
              have hfz57_2 := blk_frozen BK271.out 2
              go_wp2_with (first | ((with_reducible refine gate_callee (f := 13) rfl ?_); refine goesL_ (some 30) rfl rfl Tryd.func13 (by kernel_rfl) rfl #[.agg #[.bool a0_0, .slice A0_1 l0_1.length c0_1, .int .i64 a0_2], .agg #[.bool a1_0, .slice A1_1 l1_1.length c1_1, .int .i64 a1_2]] rfl (by (try simp only [List.map_toArray, List.map_cons, List.map_nil]); first | done | rfl | (simp only [List.length_drop, List.length_take]; rfl)) ?_; (with_reducible refine (exergueref05_Same.calls kj4 a0_0 _ _ l0_1 a0_2 a1_0 _ _ l1_1 a1_2 false _ ?side1 ?side2 ?side3 ?side4 A44.out).mono ?_); (case side1 => repeat (first | exact (Kd.C_below HR0_1.out HB.out) | (with_reducible refine Kd.C_alloc ?_ _) | (with_reducible refine Kd.C_drewN ?_ _) | (with_reducible refine Kd.C_drew ?_))); (case side2 => exact HC0_1.out); (case side3 => repeat (first | exact (Kd.C_below HR1_1.out HB.out) | (with_reducible refine Kd.C_alloc ?_ _) | (with_reducible refine Kd.C_drewN ?_ _) | (with_reducible refine Kd.C_drew ?_))); (case side4 => exact HC1_1.out); rintro e w58 ⟨rfl, hb⟩; refine ⟨_, rfl, ?_⟩; have n0_ := Aside0.mk (blk_below (g := gb270) (o := .cells #[.bool a0_0, .slice A0_1 l0_1.length c0_1, .int .i64 a0_2] 24 (0, 0)) (by (with_reducible repeat (first | refine blk_drewN ?_ _ | refine blk_drew ?_ | refine blk_alloc ?_ _)); exact BK270.out) hb); have n1_ := Aside0.mk (blk_below (g := gb271) (o := .cells #[.bool a1_0, .slice A1_1 l1_1.length c1_1, .int .i64 a1_2] 24 (0, 0)) (by (with_reducible repeat (first | refine blk_drewN ?_ _ | refine blk_drew ?_ | refine blk_alloc ?_ _)); exact BK271.out) hb); have n2_ := Aside0.mk (blk_below (g := gb272) (o := .cells #[.bool a2_0, .slice A2_1 l2_1.length c2_1, .int .i64 a2_2] 24 (0, 0)) (by (with_reducible repeat (first | refine blk_drewN ?_ _ | refine blk_drew ?_ | refine blk_alloc ?_ _)); exact BK272.out) hb); have n3_ := Aside0.mk (below_step (by repeat (first | (with_reducible first | exact HB.out | apply below_alloc | apply pw_below_drewN | apply below_drew1 | refine below_set ?_ GE270.out | refine below_set ?_ GE271.out | refine below_set ?_ GE272.out) | exact HB.out)) hb); clear BK270; clear BK271; clear BK272; clear HB; have BK270 := n0_; have BK271 := n1_; have BK272 := n2_; have HB := n3_; clear n0_ n1_ n2_ n3_; (try clear hb); (try clear hb2); (try clear hk); (try clear hi); have hcz59_0 : w58.cell? ⟨gb270, 0, none⟩ = some (.bool a0_0) := (blk_cell BK270.out 0).trans rfl; have hcz59_1 : w58.cell? ⟨gb270, 1, none⟩ = some (.slice A0_1 l0_1.length c0_1) := (blk_cell BK270.out 1).trans rfl; have hcz59_2 : w58.cell? ⟨gb270, 2, none⟩ = some (.int .i64 a0_2) := (blk_cell BK270.out 2).trans rfl; have hfz59_0 := blk_frozen BK270.out 0; have hfz59_1 := blk_frozen BK270.out 1; have hfz59_2 := blk_frozen BK270.out 2; have hcz60_0 : w58.cell? ⟨gb271, 0, none⟩ = some (.bool a1_0) := (blk_cell BK271.out 0).trans rfl; have hcz60_1 : w58.cell? ⟨gb271, 1, none⟩ = some (.slice A1_1 l1_1.length c1_1) := (blk_cell BK271.out 1).trans rfl; have hcz60_2 : w58.cell? ⟨gb271, 2, none⟩ = some (.int .i64 a1_2) := (blk_cell BK271.out 2).trans rfl; have hfz60_0 := blk_frozen BK271.out 0; have hfz60_1 := blk_frozen BK271.out 1; have hfz60_2 := blk_frozen BK271.out 2))
              go_meet
              case rel => exact ⟨_, (((l1_1.length : Int) == 0)), (by first | rfl | (simp; done) | (simp [*]; done)), H', ⟨by have := HJ4.out; first | omega | exact Nat.le_refl _⟩, ⟨by (with_reducible repeat (first | refine blk_drewN ?_ _ | refine blk_drew ?_ | refine blk_alloc ?_ _)); exact BK270.out⟩, ⟨by (with_reducible repeat (first | refine blk_drewN ?_ _ | refine blk_drew ?_ | refine blk_alloc ?_ _)); exact BK271.out⟩, ⟨by (with_reducible repeat (first | refine blk_drewN ?_ _ | refine blk_drew ?_ | refine blk_alloc ?_ _)); exact BK272.out⟩, ⟨by repeat (first | (with_reducible first | exact HB.out | apply below_alloc | apply pw_below_drewN | apply below_drew1 | refine below_set ?_ GE270.out | refine below_set ?_ GE271.out | refine below_set ?_ GE272.out) | exact HB.out)⟩⟩
            · rw [if_neg c52] at H
              have c52b0 : ((l0_1.length : Int) == 0) = false := beq_eq_false_iff_ne.mpr c52
              have c52b1 : ((l0_1.length : Int) != 0) = true := bne_iff_ne.mpr c52
              have c52b2 : ¬ (l0_1 = []) := fun h_ => c52 (by rw [h_]; rfl)
              (first | rw [c52b0] | (simp only [i64_w, i32_w]; rw [c52b0]) | skip)
              have H' := Aside0.mk H
              clear H
              have hnb61 := NB270_271.out
              have hnc61 := NB271_270.out
              have hnb62 := NB270_272.out
              have hnc62 := NB272_270.out
              have hcz63_0 : w43.cell? ⟨gb270, 0, none⟩ = some (.bool a0_0) := (blk_cell BK270.out 0).trans rfl
              have hcz63_1 : w43.cell? ⟨gb270, 1, none⟩ = some (.slice A0_1 l0_1.length c0_1) := (blk_cell BK270.out 1).trans rfl
              have hcz63_2 : w43.cell? ⟨gb270, 2, none⟩ = some (.int .i64 a0_2) := (blk_cell BK270.out 2).trans rfl
              have hfz63_0 := blk_frozen BK270.out 0
              have hfz63_1 := blk_frozen BK270.out 1
              have hfz63_2 := blk_frozen BK270.out 2
              have hnb64 := NB271_272.out
              have hnc64 := NB272_271.out
              have hcz65_0 : w43.cell? ⟨gb271, 0, none⟩ = some (.bool a1_0) := (blk_cell BK271.out 0).trans rfl
              have hcz65_1 : w43.cell? ⟨gb271, 1, none⟩ = some (.slice A1_1 l1_1.length c1_1) := (blk_cell BK271.out 1).trans rfl
              have hcz65_2 : w43.cell? ⟨gb271, 2, none⟩ = some (.int .i64 a1_2) := (blk_cell BK271.out 2).trans rfl
              have hfz65_0 := blk_frozen BK271.out 0
              have hfz65_1 := blk_frozen BK271.out 1
              have hfz65_2 := blk_frozen BK271.out 2
              go_wp2_with (first | ((with_reducible refine gate_callee (f := 13) rfl ?_); refine goesL_ (some 30) rfl rfl Tryd.func13 (by kernel_rfl) rfl #[.agg #[.bool a0_0, .slice A0_1 l0_1.length c0_1, .int .i64 a0_2], .agg #[.bool a1_0, .slice A1_1 l1_1.length c1_1, .int .i64 a1_2]] rfl (by (try simp only [List.map_toArray, List.map_cons, List.map_nil]); first | done | rfl | (simp only [List.length_drop, List.length_take]; rfl)) ?_; (with_reducible refine (exergueref05_Same.calls kj4 a0_0 _ _ l0_1 a0_2 a1_0 _ _ l1_1 a1_2 false _ ?side1 ?side2 ?side3 ?side4 A44.out).mono ?_); (case side1 => repeat (first | exact (Kd.C_below HR0_1.out HB.out) | (with_reducible refine Kd.C_alloc ?_ _) | (with_reducible refine Kd.C_drewN ?_ _) | (with_reducible refine Kd.C_drew ?_))); (case side2 => exact HC0_1.out); (case side3 => repeat (first | exact (Kd.C_below HR1_1.out HB.out) | (with_reducible refine Kd.C_alloc ?_ _) | (with_reducible refine Kd.C_drewN ?_ _) | (with_reducible refine Kd.C_drew ?_))); (case side4 => exact HC1_1.out); rintro e w66 ⟨rfl, hb⟩; refine ⟨_, rfl, ?_⟩; have n0_ := Aside0.mk (blk_below (g := gb270) (o := .cells #[.bool a0_0, .slice A0_1 l0_1.length c0_1, .int .i64 a0_2] 24 (0, 0)) (by (with_reducible repeat (first | refine blk_drewN ?_ _ | refine blk_drew ?_ | refine blk_alloc ?_ _)); exact BK270.out) hb); have n1_ := Aside0.mk (blk_below (g := gb271) (o := .cells #[.bool a1_0, .slice A1_1 l1_1.length c1_1, .int .i64 a1_2] 24 (0, 0)) (by (with_reducible repeat (first | refine blk_drewN ?_ _ | refine blk_drew ?_ | refine blk_alloc ?_ _)); exact BK271.out) hb); have n2_ := Aside0.mk (blk_below (g := gb272) (o := .cells #[.bool a2_0, .slice A2_1 l2_1.length c2_1, .int .i64 a2_2] 24 (0, 0)) (by (with_reducible repeat (first | refine blk_drewN ?_ _ | refine blk_drew ?_ | refine blk_alloc ?_ _)); exact BK272.out) hb); have n3_ := Aside0.mk (below_step (by repeat (first | (with_reducible first | exact HB.out | apply below_alloc | apply pw_below_drewN | apply below_drew1 | refine below_set ?_ GE270.out | refine below_set ?_ GE271.out | refine below_set ?_ GE272.out) | exact HB.out)) hb); clear BK270; clear BK271; clear BK272; clear HB; have BK270 := n0_; have BK271 := n1_; have BK272 := n2_; have HB := n3_; clear n0_ n1_ n2_ n3_; (try clear hb); (try clear hb2); (try clear hk); (try clear hi); have hcz67_0 : w66.cell? ⟨gb270, 0, none⟩ = some (.bool a0_0) := (blk_cell BK270.out 0).trans rfl; have hcz67_1 : w66.cell? ⟨gb270, 1, none⟩ = some (.slice A0_1 l0_1.length c0_1) := (blk_cell BK270.out 1).trans rfl; have hcz67_2 : w66.cell? ⟨gb270, 2, none⟩ = some (.int .i64 a0_2) := (blk_cell BK270.out 2).trans rfl; have hfz67_0 := blk_frozen BK270.out 0; have hfz67_1 := blk_frozen BK270.out 1; have hfz67_2 := blk_frozen BK270.out 2))
              go_meet
              case rel => exact ⟨_, (false), (by first | rfl | (simp; done) | (simp [*]; done)), H', ⟨by have := HJ4.out; first | omega | exact Nat.le_refl _⟩, ⟨by (with_reducible repeat (first | refine blk_drewN ?_ _ | refine blk_drew ?_ | refine blk_alloc ?_ _)); exact BK270.out⟩, ⟨by (with_reducible repeat (first | refine blk_drewN ?_ _ | refine blk_drew ?_ | refine blk_alloc ?_ _)); exact BK271.out⟩, ⟨by (with_reducible repeat (first | refine blk_drewN ?_ _ | refine blk_drew ?_ | refine blk_alloc ?_ _)); exact BK272.out⟩, ⟨by repeat (first | (with_reducible first | exact HB.out | apply below_alloc | apply pw_below_drewN | apply below_drew1 | refine below_set ?_ GE270.out | refine below_set ?_ GE271.out | refine below_set ?_ GE272.out) | exact HB.out)⟩⟩
        case rest =>
          clear HC37
          try clear c1
          try clear c2
          try clear p2
          try clear c3
          try clear c4
          try clear c5
          try clear c6
          try clear c10
          try clear c11
          try clear c13
          try clear c14
          try clear c15
          try clear c16
          try clear c17
          try clear c19
          try clear c24
          try clear c25
          try clear c28
          try clear c31
          try clear c32
          try clear c35
          try clear c38
          try clear c39
          try clear c41
          try clear c45
          try clear c46
          try clear c47
          try clear c49
          try clear c52
          try clear c52b0
          try clear c52b1
          try clear c52b2
          try clear c53
          try clear c54
          try clear c56
          try clear c61
          try clear c62
          try clear c64
          try clear hcz17_0
          try clear hcz17_1
          try clear hcz17_2
          try clear hcz20_0
          try clear hcz20_1
          try clear hcz20_2
          try clear hcz22_0
          try clear hcz22_1
          try clear hcz22_2
          try clear hcz26_0
          try clear hcz26_1
          try clear hcz26_2
          try clear hcz29_0
          try clear hcz29_1
          try clear hcz29_2
          try clear hcz33_0
          try clear hcz33_1
          try clear hcz33_2
          try clear hcz40_0
          try clear hcz40_1
          try clear hcz40_2
          try clear hcz42_0
          try clear hcz42_1
          try clear hcz42_2
          try clear hcz48_0
          try clear hcz48_1
          try clear hcz48_2
          try clear hcz50_0
          try clear hcz50_1
          try clear hcz50_2
          try clear hcz55_0
          try clear hcz55_1
          try clear hcz55_2
          try clear hcz57_0
          try clear hcz57_1
          try clear hcz57_2
          try clear hcz59_0
          try clear hcz59_1
          try clear hcz59_2
          try clear hcz60_0
          try clear hcz60_1
          try clear hcz60_2
          try clear hcz63_0
          try clear hcz63_1
          try clear hcz63_2
          try clear hcz65_0
          try clear hcz65_1
          try clear hcz65_2
          try clear hcz67_0
          try clear hcz67_1
          try clear hcz67_2
          try clear hfz17_0
          try clear hfz17_1
          try clear hfz17_2
          try clear hfz20_0
          try clear hfz20_1
          try clear hfz20_2
          try clear hfz22_0
          try clear hfz22_1
          try clear hfz22_2
          try clear hfz26_0
          try clear hfz26_1
          try clear hfz26_2
          try clear hfz29_0
          try clear hfz29_1
          try clear hfz29_2
          try clear hfz33_0
          try clear hfz33_1
          try clear hfz33_2
          try clear hfz40_0
          try clear hfz40_1
          try clear hfz40_2
          try clear hfz42_0
          try clear hfz42_1
          try clear hfz42_2
          try clear hfz48_0
          try clear hfz48_1
          try clear hfz48_2
          try clear hfz50_0
          try clear hfz50_1
          try clear hfz50_2
          try clear hfz55_0
          try clear hfz55_1
          try clear hfz55_2
          try clear hfz57_0
          try clear hfz57_1
          try clear hfz57_2
          try clear hfz59_0
          try clear hfz59_1
          try clear hfz59_2
          try clear hfz60_0
          try clear hfz60_1
          try clear hfz60_2
          try clear hfz63_0
          try clear hfz63_1
          try clear hfz63_2
          try clear hfz65_0
          try clear hfz65_1
          try clear hfz65_2
          try clear hfz67_0
          try clear hfz67_1
          try clear hfz67_2
          try clear p2
          obtain ⟨kq, x9_36, rfl, HA, HJ36, BK270, BK271, BK272, HB⟩ := hcut
          cases kq with
          | zero => exact absurd HA.out (by simp [exerguelaw05_DecOrder.j1])
          | succ kj36 =>
            have H := HA.out
            clear HA
            simp only [exerguelaw05_DecOrder.j1] at H
            have HC68 := Aside0.mk H
            clear H
            go_upto_region 6 with (fail)
            go_cut [62] (fun v62 wc => ∃ (kq : Nat) (x62_67 : Bool), v62 = .bool x62_67 ∧ Aside0 (exerguelaw05_DecOrder.j2 kq t273 t277 x62_67 a0_0 l0_1 a0_2 a1_0 l1_1 a1_2 a2_0 l2_1 a2_2 = some r) ∧ Aside0 (kq ≤ kj36) ∧ Aside0 (wc.heap[gb270]? = some (.cells #[.bool a0_0, (.slice A0_1 l0_1.length c0_1), .int .i64 a0_2] 24 (0, 0))) ∧ Aside0 (wc.heap[gb271]? = some (.cells #[.bool a1_0, (.slice A1_1 l1_1.length c1_1), .int .i64 a1_2] 24 (0, 0))) ∧ Aside0 (wc.heap[gb272]? = some (.cells #[.bool a2_0, (.slice A2_1 l2_1.length c2_1), .int .i64 a2_2] 24 (0, 0))) ∧ Aside0 (Below w.heap.size w wc))
            case first =>
              have H := HC68.out
              clear HC68
              replace H := Option.bind_eq_some_iff.mp H
              obtain ⟨t279, A690, H⟩ := H
              replace H : (if t279 = (wrap64 (-t277)) then (if ((t277 == 0) != x9_36) = true then (exerguelaw05_DecOrder.j2 kj36 t273 t277 true a0_0 l0_1 a0_2 a1_0 l1_1 a1_2 a2_0 l2_1 a2_2) else (if t277 < (-1) then (exerguelaw05_DecOrder.j2 kj36 t273 t277 true a0_0 l0_1 a0_2 a1_0 l1_1 a1_2 a2_0 l2_1 a2_2) else (exerguelaw05_DecOrder.j2 kj36 t273 t277 (decide (t277 > 1)) a0_0 l0_1 a0_2 a1_0 l1_1 a1_2 a2_0 l2_1 a2_2))) else (exerguelaw05_DecOrder.j2 kj36 t273 t277 true a0_0 l0_1 a0_2 a1_0 l1_1 a1_2 a2_0 l2_1 a2_2)) = some r := H
              have A69 := Aside0.mk A690
              clear A690
              by_cases c70 : t279 = (wrap64 (-t277))
              · rw [if_pos c70] at H
                have c70b0 : (t279 == (wrap64 (-t277))) = true := beq_iff_eq.mpr c70
                have c70b1 : (t279 != (wrap64 (-t277))) = false := bne_eq_false_iff_eq.mpr c70
                clear c70
                (first | rw [c70b0] | (simp only [i64_w, i32_w]; rw [c70b0]) | skip)
                by_cases c71 : ((t277 == 0) != x9_36) = true
                · rw [if_pos c71] at H
                  have c71b0 : ((t277 == 0) != x9_36) = true := c71
                  (try (have c71b1 : decide ((t277 == 0) = x9_36) = false := by simpa using c71))
                  (try (have c71b2 : ((t277 == 0) == x9_36) = false := by simpa using c71))
                  (try (have c71b3 : ¬ ((t277 == 0) = x9_36) := by simpa using c71))
                  clear c71
                  have H' := Aside0.mk H
                  clear H
                  have hnb72 := NB271_270.out
                  have hnc72 := NB270_271.out
                  have hnb73 := NB271_272.out
                  have hnc73 := NB272_271.out
                  have hcz74_0 : wc.cell? ⟨gb271, 0, none⟩ = some (.bool a1_0) := (blk_cell BK271.out 0).trans rfl
                  have hcz74_1 : wc.cell? ⟨gb271, 1, none⟩ = some (.slice A1_1 l1_1.length c1_1) := (blk_cell BK271.out 1).trans rfl
                  have hcz74_2 : wc.cell? ⟨gb271, 2, none⟩ = some (.int .i64 a1_2) := (blk_cell BK271.out 2).trans rfl
                  have hfz74_0 := blk_frozen BK271.out 0
                  have hfz74_1 := blk_frozen BK271.out 1
                  have hfz74_2 := blk_frozen BK271.out 2
                  have hnb75 := NB270_272.out
                  have hnc75 := NB272_270.out
                  have hcz76_0 : wc.cell? ⟨gb270, 0, none⟩ = some (.bool a0_0) := (blk_cell BK270.out 0).trans rfl
                  have hcz76_1 : wc.cell? ⟨gb270, 1, none⟩ = some (.slice A0_1 l0_1.length c0_1) := (blk_cell BK270.out 1).trans rfl
                  have hcz76_2 : wc.cell? ⟨gb270, 2, none⟩ = some (.int .i64 a0_2) := (blk_cell BK270.out 2).trans rfl
                  have hfz76_0 := blk_frozen BK270.out 0
                  have hfz76_1 := blk_frozen BK270.out 1
                  have hfz76_2 := blk_frozen BK270.out 2
                  go_wp2_with (first | ((with_reducible refine gate_callee (f := 17) rfl ?_); refine goesL_ (some 45) rfl rfl Tryd.func17 (by kernel_rfl) rfl #[.agg #[.bool a1_0, .slice A1_1 l1_1.length c1_1, .int .i64 a1_2], .agg #[.bool a0_0, .slice A0_1 l0_1.length c0_1, .int .i64 a0_2]] rfl (by (try simp only [List.map_toArray, List.map_cons, List.map_nil]); first | done | rfl | (simp only [List.length_drop, List.length_take]; rfl)) ?_; (with_reducible refine (dec_Cmp.calls kj36 a1_0 _ _ l1_1 a1_2 a0_0 _ _ l0_1 a0_2 t279 _ ?side1 ?side2 ?side3 ?side4 A69.out).mono ?_); (case side1 => repeat (first | exact (Kd.C_below HR1_1.out HB.out) | (with_reducible refine Kd.C_alloc ?_ _) | (with_reducible refine Kd.C_drewN ?_ _) | (with_reducible refine Kd.C_drew ?_))); (case side2 => exact HC1_1.out); (case side3 => repeat (first | exact (Kd.C_below HR0_1.out HB.out) | (with_reducible refine Kd.C_alloc ?_ _) | (with_reducible refine Kd.C_drewN ?_ _) | (with_reducible refine Kd.C_drew ?_))); (case side4 => exact HC0_1.out); rintro e w77 ⟨rfl, hb⟩; refine ⟨_, rfl, ?_⟩; have n0_ := Aside0.mk (blk_below (g := gb270) (o := .cells #[.bool a0_0, .slice A0_1 l0_1.length c0_1, .int .i64 a0_2] 24 (0, 0)) (by (with_reducible repeat (first | refine blk_drewN ?_ _ | refine blk_drew ?_ | refine blk_alloc ?_ _)); exact BK270.out) hb); have n1_ := Aside0.mk (blk_below (g := gb271) (o := .cells #[.bool a1_0, .slice A1_1 l1_1.length c1_1, .int .i64 a1_2] 24 (0, 0)) (by (with_reducible repeat (first | refine blk_drewN ?_ _ | refine blk_drew ?_ | refine blk_alloc ?_ _)); exact BK271.out) hb); have n2_ := Aside0.mk (blk_below (g := gb272) (o := .cells #[.bool a2_0, .slice A2_1 l2_1.length c2_1, .int .i64 a2_2] 24 (0, 0)) (by (with_reducible repeat (first | refine blk_drewN ?_ _ | refine blk_drew ?_ | refine blk_alloc ?_ _)); exact BK272.out) hb); have n3_ := Aside0.mk (below_step (by repeat (first | (with_reducible first | exact HB.out | apply below_alloc | apply pw_below_drewN | apply below_drew1 | refine below_set ?_ GE270.out | refine below_set ?_ GE271.out | refine below_set ?_ GE272.out) | exact HB.out)) hb); clear BK270; clear BK271; clear BK272; clear HB; have BK270 := n0_; have BK271 := n1_; have BK272 := n2_; have HB := n3_; clear n0_ n1_ n2_ n3_; (try clear hb); (try clear hb2); (try clear hk); (try clear hi)))
                  go_meet
                  case rel => exact ⟨_, (true), (by first | rfl | (simp; done) | (simp [*]; done)), H', ⟨by have := HJ4.out; have := HJ36.out; first | omega | exact Nat.le_refl _⟩, ⟨by (with_reducible repeat (first | refine blk_drewN ?_ _ | refine blk_drew ?_ | refine blk_alloc ?_ _)); exact BK270.out⟩, ⟨by (with_reducible repeat (first | refine blk_drewN ?_ _ | refine blk_drew ?_ | refine blk_alloc ?_ _)); exact BK271.out⟩, ⟨by (with_reducible repeat (first | refine blk_drewN ?_ _ | refine blk_drew ?_ | refine blk_alloc ?_ _)); exact BK272.out⟩, ⟨by repeat (first | (with_reducible first | exact HB.out | apply below_alloc | apply pw_below_drewN | apply below_drew1 | refine below_set ?_ GE270.out | refine below_set ?_ GE271.out | refine below_set ?_ GE272.out) | exact HB.out)⟩⟩
                · rw [if_neg c71] at H
                  have c71b0 : ((t277 == 0) != x9_36) = false := by simpa using c71
                  (try (have c71b1 : decide ((t277 == 0) = x9_36) = true := by simpa using c71))
                  (try (have c71b2 : ((t277 == 0) == x9_36) = true := by simpa using c71))
                  clear c71
                  by_cases c78 : t277 < (-1)
                  · rw [if_pos c78] at H
                    have c78b0 : decide (t277 < (-1)) = true := decide_eq_true c78
                    clear c78
                    have H' := Aside0.mk H
                    clear H
                    have hnb79 := NB271_270.out
                    have hnc79 := NB270_271.out
                    have hnb80 := NB271_272.out
                    have hnc80 := NB272_271.out
                    have hcz81_0 : wc.cell? ⟨gb271, 0, none⟩ = some (.bool a1_0) := (blk_cell BK271.out 0).trans rfl
                    have hcz81_1 : wc.cell? ⟨gb271, 1, none⟩ = some (.slice A1_1 l1_1.length c1_1) := (blk_cell BK271.out 1).trans rfl
                    have hcz81_2 : wc.cell? ⟨gb271, 2, none⟩ = some (.int .i64 a1_2) := (blk_cell BK271.out 2).trans rfl
                    have hfz81_0 := blk_frozen BK271.out 0
                    have hfz81_1 := blk_frozen BK271.out 1
                    have hfz81_2 := blk_frozen BK271.out 2
                    have hnb82 := NB270_272.out
                    have hnc82 := NB272_270.out
                    have hcz83_0 : wc.cell? ⟨gb270, 0, none⟩ = some (.bool a0_0) := (blk_cell BK270.out 0).trans rfl
                    have hcz83_1 : wc.cell? ⟨gb270, 1, none⟩ = some (.slice A0_1 l0_1.length c0_1) := (blk_cell BK270.out 1).trans rfl
                    have hcz83_2 : wc.cell? ⟨gb270, 2, none⟩ = some (.int .i64 a0_2) := (blk_cell BK270.out 2).trans rfl
                    have hfz83_0 := blk_frozen BK270.out 0
                    have hfz83_1 := blk_frozen BK270.out 1
                    have hfz83_2 := blk_frozen BK270.out 2
                    go_wp2_with (first | ((with_reducible refine gate_callee (f := 17) rfl ?_); refine goesL_ (some 45) rfl rfl Tryd.func17 (by kernel_rfl) rfl #[.agg #[.bool a1_0, .slice A1_1 l1_1.length c1_1, .int .i64 a1_2], .agg #[.bool a0_0, .slice A0_1 l0_1.length c0_1, .int .i64 a0_2]] rfl (by (try simp only [List.map_toArray, List.map_cons, List.map_nil]); first | done | rfl | (simp only [List.length_drop, List.length_take]; rfl)) ?_; (with_reducible refine (dec_Cmp.calls kj36 a1_0 _ _ l1_1 a1_2 a0_0 _ _ l0_1 a0_2 t279 _ ?side1 ?side2 ?side3 ?side4 A69.out).mono ?_); (case side1 => repeat (first | exact (Kd.C_below HR1_1.out HB.out) | (with_reducible refine Kd.C_alloc ?_ _) | (with_reducible refine Kd.C_drewN ?_ _) | (with_reducible refine Kd.C_drew ?_))); (case side2 => exact HC1_1.out); (case side3 => repeat (first | exact (Kd.C_below HR0_1.out HB.out) | (with_reducible refine Kd.C_alloc ?_ _) | (with_reducible refine Kd.C_drewN ?_ _) | (with_reducible refine Kd.C_drew ?_))); (case side4 => exact HC0_1.out); rintro e w84 ⟨rfl, hb⟩; refine ⟨_, rfl, ?_⟩; have n0_ := Aside0.mk (blk_below (g := gb270) (o := .cells #[.bool a0_0, .slice A0_1 l0_1.length c0_1, .int .i64 a0_2] 24 (0, 0)) (by (with_reducible repeat (first | refine blk_drewN ?_ _ | refine blk_drew ?_ | refine blk_alloc ?_ _)); exact BK270.out) hb); have n1_ := Aside0.mk (blk_below (g := gb271) (o := .cells #[.bool a1_0, .slice A1_1 l1_1.length c1_1, .int .i64 a1_2] 24 (0, 0)) (by (with_reducible repeat (first | refine blk_drewN ?_ _ | refine blk_drew ?_ | refine blk_alloc ?_ _)); exact BK271.out) hb); have n2_ := Aside0.mk (blk_below (g := gb272) (o := .cells #[.bool a2_0, .slice A2_1 l2_1.length c2_1, .int .i64 a2_2] 24 (0, 0)) (by (with_reducible repeat (first | refine blk_drewN ?_ _ | refine blk_drew ?_ | refine blk_alloc ?_ _)); exact BK272.out) hb); have n3_ := Aside0.mk (below_step (by repeat (first | (with_reducible first | exact HB.out | apply below_alloc | apply pw_below_drewN | apply below_drew1 | refine below_set ?_ GE270.out | refine below_set ?_ GE271.out | refine below_set ?_ GE272.out) | exact HB.out)) hb); clear BK270; clear BK271; clear BK272; clear HB; have BK270 := n0_; have BK271 := n1_; have BK272 := n2_; have HB := n3_; clear n0_ n1_ n2_ n3_; (try clear hb); (try clear hb2); (try clear hk); (try clear hi)))
                    go_meet
                    case rel => exact ⟨_, (true), (by first | rfl | (simp; done) | (simp [*]; done)), H', ⟨by have := HJ4.out; have := HJ36.out; first | omega | exact Nat.le_refl _⟩, ⟨by (with_reducible repeat (first | refine blk_drewN ?_ _ | refine blk_drew ?_ | refine blk_alloc ?_ _)); exact BK270.out⟩, ⟨by (with_reducible repeat (first | refine blk_drewN ?_ _ | refine blk_drew ?_ | refine blk_alloc ?_ _)); exact BK271.out⟩, ⟨by (with_reducible repeat (first | refine blk_drewN ?_ _ | refine blk_drew ?_ | refine blk_alloc ?_ _)); exact BK272.out⟩, ⟨by repeat (first | (with_reducible first | exact HB.out | apply below_alloc | apply pw_below_drewN | apply below_drew1 | refine below_set ?_ GE270.out | refine below_set ?_ GE271.out | refine below_set ?_ GE272.out) | exact HB.out)⟩⟩
                  · rw [if_neg c78] at H
                    have c78b0 : decide (t277 < (-1)) = false := decide_eq_false c78
                    clear c78
                    have H' := Aside0.mk H
                    clear H
                    have hnb85 := NB271_270.out
                    have hnc85 := NB270_271.out
                    have hnb86 := NB271_272.out
                    have hnc86 := NB272_271.out
                    have hcz87_0 : wc.cell? ⟨gb271, 0, none⟩ = some (.bool a1_0) := (blk_cell BK271.out 0).trans rfl
                    have hcz87_1 : wc.cell? ⟨gb271, 1, none⟩ = some (.slice A1_1 l1_1.length c1_1) := (blk_cell BK271.out 1).trans rfl
                    have hcz87_2 : wc.cell? ⟨gb271, 2, none⟩ = some (.int .i64 a1_2) := (blk_cell BK271.out 2).trans rfl
                    have hfz87_0 := blk_frozen BK271.out 0
                    have hfz87_1 := blk_frozen BK271.out 1
                    have hfz87_2 := blk_frozen BK271.out 2
                    have hnb88 := NB270_272.out
                    have hnc88 := NB272_270.out
                    have hcz89_0 : wc.cell? ⟨gb270, 0, none⟩ = some (.bool a0_0) := (blk_cell BK270.out 0).trans rfl
                    have hcz89_1 : wc.cell? ⟨gb270, 1, none⟩ = some (.slice A0_1 l0_1.length c0_1) := (blk_cell BK270.out 1).trans rfl
                    have hcz89_2 : wc.cell? ⟨gb270, 2, none⟩ = some (.int .i64 a0_2) := (blk_cell BK270.out 2).trans rfl
                    have hfz89_0 := blk_frozen BK270.out 0
                    have hfz89_1 := blk_frozen BK270.out 1
                    have hfz89_2 := blk_frozen BK270.out 2
                    go_wp2_with (first | ((with_reducible refine gate_callee (f := 17) rfl ?_); refine goesL_ (some 45) rfl rfl Tryd.func17 (by kernel_rfl) rfl #[.agg #[.bool a1_0, .slice A1_1 l1_1.length c1_1, .int .i64 a1_2], .agg #[.bool a0_0, .slice A0_1 l0_1.length c0_1, .int .i64 a0_2]] rfl (by (try simp only [List.map_toArray, List.map_cons, List.map_nil]); first | done | rfl | (simp only [List.length_drop, List.length_take]; rfl)) ?_; (with_reducible refine (dec_Cmp.calls kj36 a1_0 _ _ l1_1 a1_2 a0_0 _ _ l0_1 a0_2 t279 _ ?side1 ?side2 ?side3 ?side4 A69.out).mono ?_); (case side1 => repeat (first | exact (Kd.C_below HR1_1.out HB.out) | (with_reducible refine Kd.C_alloc ?_ _) | (with_reducible refine Kd.C_drewN ?_ _) | (with_reducible refine Kd.C_drew ?_))); (case side2 => exact HC1_1.out); (case side3 => repeat (first | exact (Kd.C_below HR0_1.out HB.out) | (with_reducible refine Kd.C_alloc ?_ _) | (with_reducible refine Kd.C_drewN ?_ _) | (with_reducible refine Kd.C_drew ?_))); (case side4 => exact HC0_1.out); rintro e w90 ⟨rfl, hb⟩; refine ⟨_, rfl, ?_⟩; have n0_ := Aside0.mk (blk_below (g := gb270) (o := .cells #[.bool a0_0, .slice A0_1 l0_1.length c0_1, .int .i64 a0_2] 24 (0, 0)) (by (with_reducible repeat (first | refine blk_drewN ?_ _ | refine blk_drew ?_ | refine blk_alloc ?_ _)); exact BK270.out) hb); have n1_ := Aside0.mk (blk_below (g := gb271) (o := .cells #[.bool a1_0, .slice A1_1 l1_1.length c1_1, .int .i64 a1_2] 24 (0, 0)) (by (with_reducible repeat (first | refine blk_drewN ?_ _ | refine blk_drew ?_ | refine blk_alloc ?_ _)); exact BK271.out) hb); have n2_ := Aside0.mk (blk_below (g := gb272) (o := .cells #[.bool a2_0, .slice A2_1 l2_1.length c2_1, .int .i64 a2_2] 24 (0, 0)) (by (with_reducible repeat (first | refine blk_drewN ?_ _ | refine blk_drew ?_ | refine blk_alloc ?_ _)); exact BK272.out) hb); have n3_ := Aside0.mk (below_step (by repeat (first | (with_reducible first | exact HB.out | apply below_alloc | apply pw_below_drewN | apply below_drew1 | refine below_set ?_ GE270.out | refine below_set ?_ GE271.out | refine below_set ?_ GE272.out) | exact HB.out)) hb); clear BK270; clear BK271; clear BK272; clear HB; have BK270 := n0_; have BK271 := n1_; have BK272 := n2_; have HB := n3_; clear n0_ n1_ n2_ n3_; (try clear hb); (try clear hb2); (try clear hk); (try clear hi)))
                    go_meet
                    case rel => exact ⟨_, (decide (t277 > 1)), (by first | rfl | (simp; done) | (simp [*]; done)), H', ⟨by have := HJ4.out; have := HJ36.out; first | omega | exact Nat.le_refl _⟩, ⟨by (with_reducible repeat (first | refine blk_drewN ?_ _ | refine blk_drew ?_ | refine blk_alloc ?_ _)); exact BK270.out⟩, ⟨by (with_reducible repeat (first | refine blk_drewN ?_ _ | refine blk_drew ?_ | refine blk_alloc ?_ _)); exact BK271.out⟩, ⟨by (with_reducible repeat (first | refine blk_drewN ?_ _ | refine blk_drew ?_ | refine blk_alloc ?_ _)); exact BK272.out⟩, ⟨by repeat (first | (with_reducible first | exact HB.out | apply below_alloc | apply pw_below_drewN | apply below_drew1 | refine below_set ?_ GE270.out | refine below_set ?_ GE271.out | refine below_set ?_ GE272.out) | exact HB.out)⟩⟩
              · rw [if_neg c70] at H
                have c70b0 : (t279 == (wrap64 (-t277))) = false := beq_eq_false_iff_ne.mpr c70
                have c70b1 : (t279 != (wrap64 (-t277))) = true := bne_iff_ne.mpr c70
                (first | rw [c70b0] | (simp only [i64_w, i32_w]; rw [c70b0]) | skip)
                have H' := Aside0.mk H
                clear H
                have hnb91 := NB271_270.out
                have hnc91 := NB270_271.out
                have hnb92 := NB271_272.out
                have hnc92 := NB272_271.out
                have hcz93_0 : wc.cell? ⟨gb271, 0, none⟩ = some (.bool a1_0) := (blk_cell BK271.out 0).trans rfl
                have hcz93_1 : wc.cell? ⟨gb271, 1, none⟩ = some (.slice A1_1 l1_1.length c1_1) := (blk_cell BK271.out 1).trans rfl
                have hcz93_2 : wc.cell? ⟨gb271, 2, none⟩ = some (.int .i64 a1_2) := (blk_cell BK271.out 2).trans rfl
                have hfz93_0 := blk_frozen BK271.out 0
                have hfz93_1 := blk_frozen BK271.out 1
                have hfz93_2 := blk_frozen BK271.out 2
                have hnb94 := NB270_272.out
                have hnc94 := NB272_270.out
                have hcz95_0 : wc.cell? ⟨gb270, 0, none⟩ = some (.bool a0_0) := (blk_cell BK270.out 0).trans rfl
                have hcz95_1 : wc.cell? ⟨gb270, 1, none⟩ = some (.slice A0_1 l0_1.length c0_1) := (blk_cell BK270.out 1).trans rfl
                have hcz95_2 : wc.cell? ⟨gb270, 2, none⟩ = some (.int .i64 a0_2) := (blk_cell BK270.out 2).trans rfl
                have hfz95_0 := blk_frozen BK270.out 0
                have hfz95_1 := blk_frozen BK270.out 1
                have hfz95_2 := blk_frozen BK270.out 2
                go_wp2_with (first | ((with_reducible refine gate_callee (f := 17) rfl ?_); refine goesL_ (some 45) rfl rfl Tryd.func17 (by kernel_rfl) rfl #[.agg #[.bool a1_0, .slice A1_1 l1_1.length c1_1, .int .i64 a1_2], .agg #[.bool a0_0, .slice A0_1 l0_1.length c0_1, .int .i64 a0_2]] rfl (by (try simp only [List.map_toArray, List.map_cons, List.map_nil]); first | done | rfl | (simp only [List.length_drop, List.length_take]; rfl)) ?_; (with_reducible refine (dec_Cmp.calls kj36 a1_0 _ _ l1_1 a1_2 a0_0 _ _ l0_1 a0_2 t279 _ ?side1 ?side2 ?side3 ?side4 A69.out).mono ?_); (case side1 => repeat (first | exact (Kd.C_below HR1_1.out HB.out) | (with_reducible refine Kd.C_alloc ?_ _) | (with_reducible refine Kd.C_drewN ?_ _) | (with_reducible refine Kd.C_drew ?_))); (case side2 => exact HC1_1.out); (case side3 => repeat (first | exact (Kd.C_below HR0_1.out HB.out) | (with_reducible refine Kd.C_alloc ?_ _) | (with_reducible refine Kd.C_drewN ?_ _) | (with_reducible refine Kd.C_drew ?_))); (case side4 => exact HC0_1.out); rintro e w96 ⟨rfl, hb⟩; refine ⟨_, rfl, ?_⟩; have n0_ := Aside0.mk (blk_below (g := gb270) (o := .cells #[.bool a0_0, .slice A0_1 l0_1.length c0_1, .int .i64 a0_2] 24 (0, 0)) (by (with_reducible repeat (first | refine blk_drewN ?_ _ | refine blk_drew ?_ | refine blk_alloc ?_ _)); exact BK270.out) hb); have n1_ := Aside0.mk (blk_below (g := gb271) (o := .cells #[.bool a1_0, .slice A1_1 l1_1.length c1_1, .int .i64 a1_2] 24 (0, 0)) (by (with_reducible repeat (first | refine blk_drewN ?_ _ | refine blk_drew ?_ | refine blk_alloc ?_ _)); exact BK271.out) hb); have n2_ := Aside0.mk (blk_below (g := gb272) (o := .cells #[.bool a2_0, .slice A2_1 l2_1.length c2_1, .int .i64 a2_2] 24 (0, 0)) (by (with_reducible repeat (first | refine blk_drewN ?_ _ | refine blk_drew ?_ | refine blk_alloc ?_ _)); exact BK272.out) hb); have n3_ := Aside0.mk (below_step (by repeat (first | (with_reducible first | exact HB.out | apply below_alloc | apply pw_below_drewN | apply below_drew1 | refine below_set ?_ GE270.out | refine below_set ?_ GE271.out | refine below_set ?_ GE272.out) | exact HB.out)) hb); clear BK270; clear BK271; clear BK272; clear HB; have BK270 := n0_; have BK271 := n1_; have BK272 := n2_; have HB := n3_; clear n0_ n1_ n2_ n3_; (try clear hb); (try clear hb2); (try clear hk); (try clear hi)))
                go_meet
                case rel => exact ⟨_, (true), (by first | rfl | (simp; done) | (simp [*]; done)), H', ⟨by have := HJ4.out; have := HJ36.out; first | omega | exact Nat.le_refl _⟩, ⟨by (with_reducible repeat (first | refine blk_drewN ?_ _ | refine blk_drew ?_ | refine blk_alloc ?_ _)); exact BK270.out⟩, ⟨by (with_reducible repeat (first | refine blk_drewN ?_ _ | refine blk_drew ?_ | refine blk_alloc ?_ _)); exact BK271.out⟩, ⟨by (with_reducible repeat (first | refine blk_drewN ?_ _ | refine blk_drew ?_ | refine blk_alloc ?_ _)); exact BK272.out⟩, ⟨by repeat (first | (with_reducible first | exact HB.out | apply below_alloc | apply pw_below_drewN | apply below_drew1 | refine below_set ?_ GE270.out | refine below_set ?_ GE271.out | refine below_set ?_ GE272.out) | exact HB.out)⟩⟩
            case rest =>
              clear HC68
              try clear c1
              try clear c2
              try clear p2
              try clear c3
              try clear c4
              try clear c5
              try clear c6
              try clear p6
              try clear c7
              try clear c8
              try clear c9
              try clear c10
              try clear c11
              try clear c13
              try clear c14
              try clear c15
              try clear c16
              try clear c17
              try clear c19
              try clear c24
              try clear c25
              try clear c28
              try clear c31
              try clear c32
              try clear c35
              try clear c38
              try clear c39
              try clear c41
              try clear c45
              try clear c46
              try clear c47
              try clear c49
              try clear c52
              try clear c52b0
              try clear c52b1
              try clear c52b2
              try clear c53
              try clear c54
              try clear c56
              try clear c61
              try clear c62
              try clear c64
              try clear p64
              try clear c70
              try clear c70b0
              try clear c70b1
              try clear c71
              try clear c71b0
              try clear c71b1
              try clear c71b2
              try clear c72
              try clear c73
              try clear c75
              try clear c78
              try clear c78b0
              try clear c79
              try clear c80
              try clear c82
              try clear c85
              try clear c86
              try clear c88
              try clear c91
              try clear c92
              try clear c94
              try clear hcz17_0
              try clear hcz17_1
              try clear hcz17_2
              try clear hcz20_0
              try clear hcz20_1
              try clear hcz20_2
              try clear hcz22_0
              try clear hcz22_1
              try clear hcz22_2
              try clear hcz26_0
              try clear hcz26_1
              try clear hcz26_2
              try clear hcz29_0
              try clear hcz29_1
              try clear hcz29_2
              try clear hcz33_0
              try clear hcz33_1
              try clear hcz33_2
              try clear hcz40_0
              try clear hcz40_1
              try clear hcz40_2
              try clear hcz42_0
              try clear hcz42_1
              try clear hcz42_2
              try clear hcz48_0
              try clear hcz48_1
              try clear hcz48_2
              try clear hcz50_0
              try clear hcz50_1
              try clear hcz50_2
              try clear hcz55_0
              try clear hcz55_1
              try clear hcz55_2
              try clear hcz57_0
              try clear hcz57_1
              try clear hcz57_2
              try clear hcz59_0
              try clear hcz59_1
              try clear hcz59_2
              try clear hcz60_0
              try clear hcz60_1
              try clear hcz60_2
              try clear hcz63_0
              try clear hcz63_1
              try clear hcz63_2
              try clear hcz65_0
              try clear hcz65_1
              try clear hcz65_2
              try clear hcz67_0
              try clear hcz67_1
              try clear hcz67_2
              try clear hcz74_0
              try clear hcz74_1
              try clear hcz74_2
              try clear hcz76_0
              try clear hcz76_1
              try clear hcz76_2
              try clear hcz81_0
              try clear hcz81_1
              try clear hcz81_2
              try clear hcz83_0
              try clear hcz83_1
              try clear hcz83_2
              try clear hcz87_0
              try clear hcz87_1
              try clear hcz87_2
              try clear hcz89_0
              try clear hcz89_1
              try clear hcz89_2
              try clear hcz93_0
              try clear hcz93_1
              try clear hcz93_2
              try clear hcz95_0
              try clear hcz95_1
              try clear hcz95_2
              try clear hfz17_0
              try clear hfz17_1
              try clear hfz17_2
              try clear hfz20_0
              try clear hfz20_1
              try clear hfz20_2
              try clear hfz22_0
              try clear hfz22_1
              try clear hfz22_2
              try clear hfz26_0
              try clear hfz26_1
              try clear hfz26_2
              try clear hfz29_0
              try clear hfz29_1
              try clear hfz29_2
              try clear hfz33_0
              try clear hfz33_1
              try clear hfz33_2
              try clear hfz40_0
              try clear hfz40_1
              try clear hfz40_2
              try clear hfz42_0
              try clear hfz42_1
              try clear hfz42_2
              try clear hfz48_0
              try clear hfz48_1
              try clear hfz48_2
              try clear hfz50_0
              try clear hfz50_1
              try clear hfz50_2
              try clear hfz55_0
              try clear hfz55_1
              try clear hfz55_2
              try clear hfz57_0
              try clear hfz57_1
              try clear hfz57_2
              try clear hfz59_0
              try clear hfz59_1
              try clear hfz59_2
              try clear hfz60_0
              try clear hfz60_1
              try clear hfz60_2
              try clear hfz63_0
              try clear hfz63_1
              try clear hfz63_2
              try clear hfz65_0
              try clear hfz65_1
              try clear hfz65_2
              try clear hfz67_0
              try clear hfz67_1
              try clear hfz67_2
              try clear hfz74_0
              try clear hfz74_1
              try clear hfz74_2
              try clear hfz76_0
              try clear hfz76_1
              try clear hfz76_2
              try clear hfz81_0
              try clear hfz81_1
              try clear hfz81_2
              try clear hfz83_0
              try clear hfz83_1
              try clear hfz83_2
              try clear hfz87_0
              try clear hfz87_1
              try clear hfz87_2
              try clear hfz89_0
              try clear hfz89_1
              try clear hfz89_2
              try clear hfz93_0
              try clear hfz93_1
              try clear hfz93_2
              try clear hfz95_0
              try clear hfz95_1
              try clear hfz95_2
              try clear p2
              obtain ⟨kq, x62_67, rfl, HA, HJ67, BK270, BK271, BK272, HB⟩ := hcut
              cases kq with
              | zero => exact absurd HA.out (by simp [exerguelaw05_DecOrder.j2])
              | succ kj67 =>
                have H := HA.out
                clear HA
                simp only [exerguelaw05_DecOrder.j2] at H
                by_cases c97 : x62_67 = true
                · subst c97
                  have H1 : (none) = some r := by rw [if_pos rfl] at H; exact H
                  clear H
                  have H := H1
                  clear H1
                  exact absurd H (by simp)
                · replace c97 := Bool.eq_false_iff.mpr c97
                  subst c97
                  have H1 : (if t273 = true then (if t277 > 0 then (some true) else ((dec_Cmp.f kj67 a1_0 l1_1 a1_2 a2_0 l2_1 a2_2).bind fun t280 => (if t280 > 0 then (some true) else ((dec_Cmp.f kj67 a0_0 l0_1 a0_2 a2_0 l2_1 a2_2).bind fun t281 => (some (decide (t281 ≤ 0))))))) else (none)) = some r := by rw [if_neg (show ¬ (false = true) by decide)] at H; exact H
                  clear H
                  have H := H1
                  clear H1
                  by_cases c98 : t273 = true
                  · subst c98
                    have H1 : (if t277 > 0 then (some true) else ((dec_Cmp.f kj67 a1_0 l1_1 a1_2 a2_0 l2_1 a2_2).bind fun t280 => (if t280 > 0 then (some true) else ((dec_Cmp.f kj67 a0_0 l0_1 a0_2 a2_0 l2_1 a2_2).bind fun t281 => (some (decide (t281 ≤ 0))))))) = some r := by rw [if_pos rfl] at H; exact H
                    clear H
                    have H := H1
                    clear H1
                    by_cases c99 : t277 > 0
                    · rw [if_pos c99] at H
                      have c99b0 : decide (0 < t277) = true := decide_eq_true c99
                      clear c99
                      obtain rfl := Option.some.inj H
                      go_wp2
                      go_ret
                      exact ⟨by first | rfl | (simp [errW_none, errW_some] <;> rfl) | (simp [*, errW_none, errW_some] <;> rfl), by repeat (first | (with_reducible first | exact HB.out | apply below_alloc | apply pw_below_drewN | apply below_drew1 | refine below_set ?_ GE270.out | refine below_set ?_ GE271.out | refine below_set ?_ GE272.out) | exact HB.out)⟩
                    · rw [if_neg c99] at H
                      have c99b0 : decide (0 < t277) = false := decide_eq_false c99
                      clear c99
                      replace H := Option.bind_eq_some_iff.mp H
                      obtain ⟨t280, A1000, H⟩ := H
                      replace H : (if t280 > 0 then (some true) else ((dec_Cmp.f kj67 a0_0 l0_1 a0_2 a2_0 l2_1 a2_2).bind fun t281 => (some (decide (t281 ≤ 0))))) = some r := H
                      have A100 := Aside0.mk A1000
                      clear A1000
                      by_cases c101 : t280 > 0
                      · rw [if_pos c101] at H
                        have c101b0 : decide (0 < t280) = true := decide_eq_true c101
                        clear c101
                        obtain rfl := Option.some.inj H
                        have hnb102 := NB271_270.out
                        have hnc102 := NB270_271.out
                        have hnb103 := NB271_272.out
                        have hnc103 := NB272_271.out
                        have hcz104_0 : wc.cell? ⟨gb271, 0, none⟩ = some (.bool a1_0) := (blk_cell BK271.out 0).trans rfl
                        have hcz104_1 : wc.cell? ⟨gb271, 1, none⟩ = some (.slice A1_1 l1_1.length c1_1) := (blk_cell BK271.out 1).trans rfl
                        have hcz104_2 : wc.cell? ⟨gb271, 2, none⟩ = some (.int .i64 a1_2) := (blk_cell BK271.out 2).trans rfl
                        have hfz104_0 := blk_frozen BK271.out 0
                        have hfz104_1 := blk_frozen BK271.out 1
                        have hfz104_2 := blk_frozen BK271.out 2
                        have hnb105 := NB272_270.out
                        have hnc105 := NB270_272.out
                        have hcz106_0 : wc.cell? ⟨gb272, 0, none⟩ = some (.bool a2_0) := (blk_cell BK272.out 0).trans rfl
                        have hcz106_1 : wc.cell? ⟨gb272, 1, none⟩ = some (.slice A2_1 l2_1.length c2_1) := (blk_cell BK272.out 1).trans rfl
                        have hcz106_2 : wc.cell? ⟨gb272, 2, none⟩ = some (.int .i64 a2_2) := (blk_cell BK272.out 2).trans rfl
                        have hfz106_0 := blk_frozen BK272.out 0
                        have hfz106_1 := blk_frozen BK272.out 1
                        have hfz106_2 := blk_frozen BK272.out 2
                        go_wp2_with (first | (go_at_call 17; (with_reducible refine (dec_Cmp.calls kj67 a1_0 _ _ l1_1 a1_2 a2_0 _ _ l2_1 a2_2 t280 _ ?side1 ?side2 ?side3 ?side4 A100.out).mono ?_); (case side1 => repeat (first | exact (Kd.C_below HR1_1.out HB.out) | (with_reducible refine Kd.C_alloc ?_ _) | (with_reducible refine Kd.C_drewN ?_ _) | (with_reducible refine Kd.C_drew ?_))); (case side2 => exact HC1_1.out); (case side3 => repeat (first | exact (Kd.C_below HR2_1.out HB.out) | (with_reducible refine Kd.C_alloc ?_ _) | (with_reducible refine Kd.C_drewN ?_ _) | (with_reducible refine Kd.C_drew ?_))); (case side4 => exact HC2_1.out); rintro e w107 ⟨rfl, hb⟩; have n0_ := Aside0.mk (blk_below (g := gb270) (o := .cells #[.bool a0_0, .slice A0_1 l0_1.length c0_1, .int .i64 a0_2] 24 (0, 0)) (by (with_reducible repeat (first | refine blk_drewN ?_ _ | refine blk_drew ?_ | refine blk_alloc ?_ _)); exact BK270.out) hb); have n1_ := Aside0.mk (blk_below (g := gb271) (o := .cells #[.bool a1_0, .slice A1_1 l1_1.length c1_1, .int .i64 a1_2] 24 (0, 0)) (by (with_reducible repeat (first | refine blk_drewN ?_ _ | refine blk_drew ?_ | refine blk_alloc ?_ _)); exact BK271.out) hb); have n2_ := Aside0.mk (blk_below (g := gb272) (o := .cells #[.bool a2_0, .slice A2_1 l2_1.length c2_1, .int .i64 a2_2] 24 (0, 0)) (by (with_reducible repeat (first | refine blk_drewN ?_ _ | refine blk_drew ?_ | refine blk_alloc ?_ _)); exact BK272.out) hb); have n3_ := Aside0.mk (below_step (by repeat (first | (with_reducible first | exact HB.out | apply below_alloc | apply pw_below_drewN | apply below_drew1 | refine below_set ?_ GE270.out | refine below_set ?_ GE271.out | refine below_set ?_ GE272.out) | exact HB.out)) hb); clear BK270; clear BK271; clear BK272; clear HB; have BK270 := n0_; have BK271 := n1_; have BK272 := n2_; have HB := n3_; clear n0_ n1_ n2_ n3_; (try clear hb); (try clear hb2); (try clear hk); (try clear hi)))
                        go_ret
                        exact ⟨by first | rfl | (simp [errW_none, errW_some] <;> rfl) | (simp [*, errW_none, errW_some] <;> rfl), by repeat (first | (with_reducible first | exact HB.out | apply below_alloc | apply pw_below_drewN | apply below_drew1 | refine below_set ?_ GE270.out | refine below_set ?_ GE271.out | refine below_set ?_ GE272.out) | exact HB.out)⟩
                      · rw [if_neg c101] at H
                        have c101b0 : decide (0 < t280) = false := decide_eq_false c101
                        clear c101
                        replace H := Option.bind_eq_some_iff.mp H
                        obtain ⟨t281, A1080, H⟩ := H
                        replace H : (some (decide (t281 ≤ 0))) = some r := H
                        have A108 := Aside0.mk A1080
                        clear A1080
                        obtain rfl := Option.some.inj H
                        have hnb109 := NB271_270.out
                        have hnc109 := NB270_271.out
                        have hnb110 := NB271_272.out
                        have hnc110 := NB272_271.out
                        have hcz111_0 : wc.cell? ⟨gb271, 0, none⟩ = some (.bool a1_0) := (blk_cell BK271.out 0).trans rfl
                        have hcz111_1 : wc.cell? ⟨gb271, 1, none⟩ = some (.slice A1_1 l1_1.length c1_1) := (blk_cell BK271.out 1).trans rfl
                        have hcz111_2 : wc.cell? ⟨gb271, 2, none⟩ = some (.int .i64 a1_2) := (blk_cell BK271.out 2).trans rfl
                        have hfz111_0 := blk_frozen BK271.out 0
                        have hfz111_1 := blk_frozen BK271.out 1
                        have hfz111_2 := blk_frozen BK271.out 2
                        have hnb112 := NB272_270.out
                        have hnc112 := NB270_272.out
                        have hcz113_0 : wc.cell? ⟨gb272, 0, none⟩ = some (.bool a2_0) := (blk_cell BK272.out 0).trans rfl
                        have hcz113_1 : wc.cell? ⟨gb272, 1, none⟩ = some (.slice A2_1 l2_1.length c2_1) := (blk_cell BK272.out 1).trans rfl
                        have hcz113_2 : wc.cell? ⟨gb272, 2, none⟩ = some (.int .i64 a2_2) := (blk_cell BK272.out 2).trans rfl
                        have hfz113_0 := blk_frozen BK272.out 0
                        have hfz113_1 := blk_frozen BK272.out 1
                        have hfz113_2 := blk_frozen BK272.out 2
                        go_wp2_with (first | (go_at_call 17; (with_reducible refine (dec_Cmp.calls kj67 a1_0 _ _ l1_1 a1_2 a2_0 _ _ l2_1 a2_2 t280 _ ?side1 ?side2 ?side3 ?side4 A100.out).mono ?_); (case side1 => repeat (first | exact (Kd.C_below HR1_1.out HB.out) | (with_reducible refine Kd.C_alloc ?_ _) | (with_reducible refine Kd.C_drewN ?_ _) | (with_reducible refine Kd.C_drew ?_))); (case side2 => exact HC1_1.out); (case side3 => repeat (first | exact (Kd.C_below HR2_1.out HB.out) | (with_reducible refine Kd.C_alloc ?_ _) | (with_reducible refine Kd.C_drewN ?_ _) | (with_reducible refine Kd.C_drew ?_))); (case side4 => exact HC2_1.out); rintro e w114 ⟨rfl, hb⟩; have n0_ := Aside0.mk (blk_below (g := gb270) (o := .cells #[.bool a0_0, .slice A0_1 l0_1.length c0_1, .int .i64 a0_2] 24 (0, 0)) (by (with_reducible repeat (first | refine blk_drewN ?_ _ | refine blk_drew ?_ | refine blk_alloc ?_ _)); exact BK270.out) hb); have n1_ := Aside0.mk (blk_below (g := gb271) (o := .cells #[.bool a1_0, .slice A1_1 l1_1.length c1_1, .int .i64 a1_2] 24 (0, 0)) (by (with_reducible repeat (first | refine blk_drewN ?_ _ | refine blk_drew ?_ | refine blk_alloc ?_ _)); exact BK271.out) hb); have n2_ := Aside0.mk (blk_below (g := gb272) (o := .cells #[.bool a2_0, .slice A2_1 l2_1.length c2_1, .int .i64 a2_2] 24 (0, 0)) (by (with_reducible repeat (first | refine blk_drewN ?_ _ | refine blk_drew ?_ | refine blk_alloc ?_ _)); exact BK272.out) hb); have n3_ := Aside0.mk (below_step (by repeat (first | (with_reducible first | exact HB.out | apply below_alloc | apply pw_below_drewN | apply below_drew1 | refine below_set ?_ GE270.out | refine below_set ?_ GE271.out | refine below_set ?_ GE272.out) | exact HB.out)) hb); clear BK270; clear BK271; clear BK272; clear HB; have BK270 := n0_; have BK271 := n1_; have BK272 := n2_; have HB := n3_; clear n0_ n1_ n2_ n3_; (try clear hb); (try clear hb2); (try clear hk); (try clear hi); have hcz115_0 : w114.cell? ⟨gb270, 0, none⟩ = some (.bool a0_0) := (blk_cell BK270.out 0).trans rfl; have hcz115_1 : w114.cell? ⟨gb270, 1, none⟩ = some (.slice A0_1 l0_1.length c0_1) := (blk_cell BK270.out 1).trans rfl; have hcz115_2 : w114.cell? ⟨gb270, 2, none⟩ = some (.int .i64 a0_2) := (blk_cell BK270.out 2).trans rfl; have hfz115_0 := blk_frozen BK270.out 0; have hfz115_1 := blk_frozen BK270.out 1; have hfz115_2 := blk_frozen BK270.out 2; have hcz116_0 : w114.cell? ⟨gb272, 0, none⟩ = some (.bool a2_0) := (blk_cell BK272.out 0).trans rfl; have hcz116_1 : w114.cell? ⟨gb272, 1, none⟩ = some (.slice A2_1 l2_1.length c2_1) := (blk_cell BK272.out 1).trans rfl; have hcz116_2 : w114.cell? ⟨gb272, 2, none⟩ = some (.int .i64 a2_2) := (blk_cell BK272.out 2).trans rfl; have hfz116_0 := blk_frozen BK272.out 0; have hfz116_1 := blk_frozen BK272.out 1; have hfz116_2 := blk_frozen BK272.out 2) | (go_at_call 17; (with_reducible refine (dec_Cmp.calls kj67 a0_0 _ _ l0_1 a0_2 a2_0 _ _ l2_1 a2_2 t281 _ ?side1 ?side2 ?side3 ?side4 A108.out).mono ?_); (case side1 => repeat (first | exact (Kd.C_below HR0_1.out HB.out) | (with_reducible refine Kd.C_alloc ?_ _) | (with_reducible refine Kd.C_drewN ?_ _) | (with_reducible refine Kd.C_drew ?_))); (case side2 => exact HC0_1.out); (case side3 => repeat (first | exact (Kd.C_below HR2_1.out HB.out) | (with_reducible refine Kd.C_alloc ?_ _) | (with_reducible refine Kd.C_drewN ?_ _) | (with_reducible refine Kd.C_drew ?_))); (case side4 => exact HC2_1.out); rintro e w117 ⟨rfl, hb⟩; have n0_ := Aside0.mk (blk_below (g := gb270) (o := .cells #[.bool a0_0, .slice A0_1 l0_1.length c0_1, .int .i64 a0_2] 24 (0, 0)) (by (with_reducible repeat (first | refine blk_drewN ?_ _ | refine blk_drew ?_ | refine blk_alloc ?_ _)); exact BK270.out) hb); have n1_ := Aside0.mk (blk_below (g := gb271) (o := .cells #[.bool a1_0, .slice A1_1 l1_1.length c1_1, .int .i64 a1_2] 24 (0, 0)) (by (with_reducible repeat (first | refine blk_drewN ?_ _ | refine blk_drew ?_ | refine blk_alloc ?_ _)); exact BK271.out) hb); have n2_ := Aside0.mk (blk_below (g := gb272) (o := .cells #[.bool a2_0, .slice A2_1 l2_1.length c2_1, .int .i64 a2_2] 24 (0, 0)) (by (with_reducible repeat (first | refine blk_drewN ?_ _ | refine blk_drew ?_ | refine blk_alloc ?_ _)); exact BK272.out) hb); have n3_ := Aside0.mk (below_step (by repeat (first | (with_reducible first | exact HB.out | apply below_alloc | apply pw_below_drewN | apply below_drew1 | refine below_set ?_ GE270.out | refine below_set ?_ GE271.out | refine below_set ?_ GE272.out) | exact HB.out)) hb); clear BK270; clear BK271; clear BK272; clear HB; have BK270 := n0_; have BK271 := n1_; have BK272 := n2_; have HB := n3_; clear n0_ n1_ n2_ n3_; (try clear hb); (try clear hb2); (try clear hk); (try clear hi)))
                        go_ret
                        exact ⟨by first | rfl | (simp [errW_none, errW_some] <;> rfl) | (simp [*, errW_none, errW_some] <;> rfl), by repeat (first | (with_reducible first | exact HB.out | apply below_alloc | apply pw_below_drewN | apply below_drew1 | refine below_set ?_ GE270.out | refine below_set ?_ GE271.out | refine below_set ?_ GE272.out) | exact HB.out)⟩
                  · replace c98 := Bool.eq_false_iff.mpr c98
                    subst c98
                    have H1 : (none) = some r := by rw [if_neg (show ¬ (false = true) by decide)] at H; exact H
                    clear H
                    have H := H1
                    clear H1
                    exact absurd H (by simp)

end Go.Proofs.YtahkamggdbibiaaDoor.PZ
