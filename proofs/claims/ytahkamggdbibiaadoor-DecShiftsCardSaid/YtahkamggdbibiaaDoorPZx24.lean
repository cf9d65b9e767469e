-- made by wip/xprint.py (a program of this session over the kit's print.py). Not trusted: Lean checks it.
import Derived.Test.YtahkamggdbibiaaDoorPZx0
import Derived.Test.YtahkamggdbibiaaDoorPZx3
import Derived.Test.YtahkamggdbibiaaDoorPZx8
import Derived.Test.YtahkamggdbibiaaDoorPZx9
import Derived.Test.YtahkamggdbibiaaDoorPZx15
import Derived.Test.YtahkamggdbibiaaDoorPZx16
import Derived.Test.YtahkamggdbibiaaDoorDecShift
import Derived.Test.YtahkamggdbibiaaDoorGl
namespace Go.Proofs.YtahkamggdbibiaaDoor.PZ
open Go.RowKit Go.Proofs.YtahkamggdbibiaaDoorW.PrintWords Go.Proofs.YtahkamggdbibiaaDoorW.PrintLast Go.Proofs.YtahkamggdbibiaaDoorW.PrintMore
attribute [local go_sem] max2_int min2_int max_two min_two max_three min_three max_four min_four   -- for this text's walks alone
set_option linter.unusedVariables false
set_option linter.unusedSimpArgs false

/-! ### exerguelaw05_DecShifts: function 9 -/
mutual
def exerguelaw05_DecShifts.j0 : Nat → Int → Int → Bool → Bool → Bool → List Int → Int → Bool → List Int → Int → Option (Bool)
  | 0, _, _, _, _, _, _, _, _, _, _ => none
  | k + 1, x5, x6, x7, x34, x336000, x336001, x336002, x337000, x337001, x337002 => if x34 = true then (some x7) else ((dec_Shift.f x336000 x336001 x336002 (wrap64 (x5))).bind fun bt340 => ((dec_Shift.f x337000 x337001 x337002 (wrap64 (x5))).bind fun bt347 => (if bt340.2.2.2 = 0 then (exerguelaw05_DecShifts.j1 k x5 x6 x7 (bt347.2.2.2 != 0) x336000 x336001 x336002 x337000 x337001 x337002 bt340.1 bt340.2.1 bt340.2.2.1 bt347.1 bt347.2.1 bt347.2.2.1) else (exerguelaw05_DecShifts.j1 k x5 x6 x7 true x336000 x336001 x336002 x337000 x337001 x337002 bt340.1 bt340.2.1 bt340.2.2.1 bt347.1 bt347.2.1 bt347.2.2.1))))
def exerguelaw05_DecShifts.j1 : Nat → Int → Int → Bool → Bool → Bool → List Int → Int → Bool → List Int → Int → Bool → List Int → Int → Bool → List Int → Int → Option (Bool)
  | 0, _, _, _, _, _, _, _, _, _, _, _, _, _, _, _, _ => none
  | k + 1, x5, x6, x7, x55, x336000, x336001, x336002, x337000, x337001, x337002, x347000, x347001, x347002, x354000, x354001, x354002 => if x55 = true then (some x7) else ((dec_Shift.f x347000 x347001 x347002 (wrap64 (-(wrap64 (x5))))).bind fun bt354 => ((dec_Shift.f x347000 x347001 x347002 (wrap64 (x6))).bind fun bt361 => ((dec_Shift.f x336000 x336001 x336002 (wrap64 ((wrap64 (x5)) + (wrap64 (x6))))).bind fun bt368 => (if x7 = true then ((exergueref05_Right.f k x347000 x347001 x347002).bind fun t375 => (if t375 = true then (if bt354.2.2.2 = 0 then ((exergueref05_Same.f k bt354.1 bt354.2.1 bt354.2.2.1 x336000 x336001 x336002).bind fun t376 => (if t376 = true then (if bt361.2.2.2 = bt368.2.2.2 then ((exergueref05_Same.f k bt368.1 bt368.2.1 bt368.2.2.1 bt361.1 bt361.2.1 bt361.2.2.1).bind fun t377 => (if t377 = true then ((dec_Cmp.f k x347000 x347001 x347002 x354000 x354001 x354002).bind fun t378 => ((dec_Cmp.f k x336000 x336001 x336002 x337000 x337001 x337002).bind fun t379 => (if t378 = t379 then ((exergueref01_Row.f k x347001 x336001).bind fun t380 => (some t380)) else (none)))) else (none))) else (none)) else (none))) else (none)) else (none))) else (none)))))
end
def exerguelaw05_DecShifts.f (k : Nat) (a0_0 : Bool) (l0_1 : List Int) (a0_2 : Int) (a0_3 : Bool) (l0_4 : List Int) (a0_5 : Int) (a0_6 : Int) (a0_7 : Int) : Option (Bool) := (exerguelaw05_shown.f k).bind fun t337 => ((exergueref05_Right.f k a0_0 l0_1 a0_2).bind fun t338 => (if t338 = true then ((exergueref05_Right.f k a0_3 l0_4 a0_5).bind fun t339 => (exerguelaw05_DecShifts.j0 k a0_6 a0_7 t337 (!t339) a0_0 l0_1 a0_2 a0_3 l0_4 a0_5)) else (exerguelaw05_DecShifts.j0 k a0_6 a0_7 t337 true a0_0 l0_1 a0_2 a0_3 l0_4 a0_5)))
theorem exerguelaw05_DecShifts.mono_l : ∀ k, (∀ y0 y1 y2 y3 y4 y5 y6 y7 y8 y9, LeO (exerguelaw05_DecShifts.j0 k y0 y1 y2 y3 y4 y5 y6 y7 y8 y9) (exerguelaw05_DecShifts.j0 (k + 1) y0 y1 y2 y3 y4 y5 y6 y7 y8 y9)) ∧ (∀ y0 y1 y2 y3 y4 y5 y6 y7 y8 y9 y10 y11 y12 y13 y14 y15, LeO (exerguelaw05_DecShifts.j1 k y0 y1 y2 y3 y4 y5 y6 y7 y8 y9 y10 y11 y12 y13 y14 y15) (exerguelaw05_DecShifts.j1 (k + 1) y0 y1 y2 y3 y4 y5 y6 y7 y8 y9 y10 y11 y12 y13 y14 y15))
  | 0 => ⟨fun _ _ _ _ _ _ _ _ _ _ r h => by simp [exerguelaw05_DecShifts.j0] at h, fun _ _ _ _ _ _ _ _ _ _ _ _ _ _ _ _ r h => by simp [exerguelaw05_DecShifts.j1] at h⟩
  | k + 1 => by
    obtain ⟨ih0, ih1⟩ := exerguelaw05_DecShifts.mono_l k
    refine ⟨?_, ?_⟩
    · intro y0 y1 y2 y3 y4 y5 y6 y7 y8 y9
      unfold exerguelaw05_DecShifts.j0
      repeat' first
      | (with_reducible exact ih0 _ _ _ _ _ _ _ _ _ _)
      | (with_reducible exact ih1 _ _ _ _ _ _ _ _ _ _ _ _ _ _ _ _)
      | (with_reducible exact dec_Cmp.mono _ _ _ _ _ _ _)
      | (with_reducible exact exerguelaw05_shown.mono _)
      | (with_reducible exact exergueref01_Row.mono _ _ _)
      | (with_reducible exact exergueref05_Right.mono _ _ _ _)
      | (with_reducible exact exergueref05_Same.mono _ _ _ _ _ _ _)
      | (with_reducible exact LeO.refl _)
      | (with_reducible exact LeO.none _)
      | (with_reducible refine LeO.ite ?_ ?_)
      | (with_reducible refine LeO.bind ?_ (fun _ => ?_))
      | exact ih0 _ _ _ _ _ _ _ _ _ _
      | exact ih1 _ _ _ _ _ _ _ _ _ _ _ _ _ _ _ _
      | exact dec_Cmp.mono _ _ _ _ _ _ _
      | exact exerguelaw05_shown.mono _
      | exact exergueref01_Row.mono _ _ _
      | exact exergueref05_Right.mono _ _ _ _
      | exact exergueref05_Same.mono _ _ _ _ _ _ _
      | exact LeO.none _
      | refine LeO.ite ?_ ?_
      | refine LeO.bind ?_ (fun _ => ?_)
    · intro y0 y1 y2 y3 y4 y5 y6 y7 y8 y9 y10 y11 y12 y13 y14 y15
      unfold exerguelaw05_DecShifts.j1
      repeat' first
      | (with_reducible exact ih0 _ _ _ _ _ _ _ _ _ _)
      | (with_reducible exact ih1 _ _ _ _ _ _ _ _ _ _ _ _ _ _ _ _)
      | (with_reducible exact dec_Cmp.mono _ _ _ _ _ _ _)
      | (with_reducible exact exerguelaw05_shown.mono _)
      | (with_reducible exact exergueref01_Row.mono _ _ _)
      | (with_reducible exact exergueref05_Right.mono _ _ _ _)
      | (with_reducible exact exergueref05_Same.mono _ _ _ _ _ _ _)
      | (with_reducible exact LeO.refl _)
      | (with_reducible exact LeO.none _)
      | (with_reducible refine LeO.ite ?_ ?_)
      | (with_reducible refine LeO.bind ?_ (fun _ => ?_))
      | exact ih0 _ _ _ _ _ _ _ _ _ _
      | exact ih1 _ _ _ _ _ _ _ _ _ _ _ _ _ _ _ _
      | exact dec_Cmp.mono _ _ _ _ _ _ _
      | exact exerguelaw05_shown.mono _
      | exact exergueref01_Row.mono _ _ _
      | exact exergueref05_Right.mono _ _ _ _
      | exact exergueref05_Same.mono _ _ _ _ _ _ _
      | exact LeO.none _
      | refine LeO.ite ?_ ?_
      | refine LeO.bind ?_ (fun _ => ?_)
theorem exerguelaw05_DecShifts.mono : ∀ a0 a1 a2 a3 a4 a5 a6 a7 k, LeO (exerguelaw05_DecShifts.f k a0 a1 a2 a3 a4 a5 a6 a7) (exerguelaw05_DecShifts.f (k + 1) a0 a1 a2 a3 a4 a5 a6 a7) := by
  intro a0 a1 a2 a3 a4 a5 a6 a7 k
  obtain ⟨ih0, ih1⟩ := exerguelaw05_DecShifts.mono_l k
  unfold exerguelaw05_DecShifts.f
  repeat' first
      | (with_reducible exact ih0 _ _ _ _ _ _ _ _ _ _)
      | (with_reducible exact ih1 _ _ _ _ _ _ _ _ _ _ _ _ _ _ _ _)
      | (with_reducible exact dec_Cmp.mono _ _ _ _ _ _ _)
      | (with_reducible exact exerguelaw05_shown.mono _)
      | (with_reducible exact exergueref01_Row.mono _ _ _)
      | (with_reducible exact exergueref05_Right.mono _ _ _ _)
      | (with_reducible exact exergueref05_Same.mono _ _ _ _ _ _ _)
      | (with_reducible exact LeO.refl _)
      | (with_reducible exact LeO.none _)
      | (with_reducible refine LeO.ite ?_ ?_)
      | (with_reducible refine LeO.bind ?_ (fun _ => ?_))
      | exact ih0 _ _ _ _ _ _ _ _ _ _
      | exact ih1 _ _ _ _ _ _ _ _ _ _ _ _ _ _ _ _
      | exact dec_Cmp.mono _ _ _ _ _ _ _
      | exact exerguelaw05_shown.mono _
      | exact exergueref01_Row.mono _ _ _
      | exact exergueref05_Right.mono _ _ _ _
      | exact exergueref05_Same.mono _ _ _ _ _ _ _
      | exact LeO.none _
      | refine LeO.ite ?_ ?_
      | refine LeO.bind ?_ (fun _ => ?_)
def exerguelaw05_DecShifts.T15 : Bool × List (List Nat × List Nat) := (true, [([], []), ([0], [0]), ([1], [1]), ([2, 1, 1], [1, 2]), ([1, 3], [1, 3]), ([4, 3], [4]), ([5], [5]), ([6, 5], [5, 6]), ([5, 7], [5, 7]), ([8, 5], [8]), ([9], [9]), ([9], [9]), ([10, 11, 9, 9], [9, 10, 11]), ([9, 12], [9, 12]), ([13, 12], [13]), ([14], [14]), ([14], [14]), ([15, 16, 14], [14, 15, 16]), ([14, 17], [14, 17]), ([18, 14], [18]), ([19], [19]), ([19], [19]), ([20, 21, 19, 19], [19, 20, 21]), ([19, 22], [19, 22]), ([23, 22], [23]), ([24], [24]), ([24], [24]), ([25, 26, 24, 24], [24, 25, 26]), ([24], [24]), ([24], [24]), ([28, 29, 27, 24], [24, 28, 29]), ([27, 30, 24], [24, 27, 30]), ([24, 31], [24, 31]), ([32, 30], [32]), ([33], [33]), ([34, 33], [33, 34]), ([33], [33]), ([36, 33], [33, 36]), ([35, 37, 33, 33], [33, 35, 37]), ([33, 38], [33, 38]), ([39, 38, 0, 1, 2, 3, 4, 5, 6, 7, 8, 9, 10, 11, 12, 13, 14, 15, 16, 17, 18, 19, 20, 21, 22, 23, 24, 25, 26, 27, 28, 29, 30, 31, 32, 33, 34, 35, 36, 37, 38, 39], [39])])
def exerguelaw05_DecShifts.B15 : List Nat := [0, 1, 3, 7, 15, 31, 63, 127, 255, 511, 1023, 1023, 4095, 8191, 16383, 32767, 32767, 131071, 262143, 524287, 1048575, 1048575, 4194303, 8388607, 16777215, 33554431, 33554431, 134217727, 33554431, 33554431, 1073741823, 2147483647, 4294967295, 8589934591, 17179869183, 34359738367, 17179869183, 85899345919, 274877906943, 549755813887, 1099511627775]
theorem exerguelaw05_DecShifts.tab15 : rtab .any (opsOf Tryd.f9 15) = exerguelaw05_DecShifts.T15 := by kernel_rfl
theorem exerguelaw05_DecShifts.bits15 : waitsOk exerguelaw05_DecShifts.T15.2 exerguelaw05_DecShifts.B15 = true := by kernel_rfl
set_option maxHeartbeats 8000000 in
set_option maxRecDepth 100000 in
theorem exerguelaw05_DecShifts.calls (k : Nat) (a0_0 : Bool) (A0_1 : Option Addr) (c0_1 : Nat) (l0_1 : List Int) (a0_2 : Int) (a0_3 : Bool) (A0_4 : Option Addr) (c0_4 : Nat) (l0_4 : List Int) (a0_5 : Int) (a0_6 : Int) (a0_7 : Int) (r : Bool) (w : World) (hG : GL w) (hr0_1 : Kd.C (Kd.int .u8) w A0_1 l0_1.length l0_1) (hc0_1 : l0_1.length ≤ c0_1) (hr0_4 : Kd.C (Kd.int .u8) w A0_4 l0_4.length l0_4) (hc0_4 : l0_4.length ≤ c0_4) (h : exerguelaw05_DecShifts.f k a0_0 l0_1 a0_2 a0_3 l0_4 a0_5 a0_6 a0_7 = some r) :
    Calls Tryd.prog 9 #[.agg #[.bool a0_0, .slice A0_1 l0_1.length c0_1, .int .i64 a0_2, .bool a0_3, .slice A0_4 l0_4.length c0_4, .int .i64 a0_5, .int .i16 a0_6, .int .i16 a0_7]] w fun e w' => e = .returned (.bool r) ∧ Below w.heap.size w w' := by
  have hu48 := Tryd.underlying48
  have hu24 := Tryd.underlying24
  have HR0_1 := Aside0.mk hr0_1
  have HC0_1 := Aside0.mk hc0_1
  clear hr0_1 hc0_1
  have HR0_4 := Aside0.mk hr0_4
  have HC0_4 := Aside0.mk hc0_4
  clear hr0_4 hc0_4
  have HB := Aside0.mk (Below.refl w.heap.size w)
  have HG := Aside0.mk hG
  clear hG
  have H : ((exerguelaw05_shown.f k).bind fun t337 => ((exergueref05_Right.f k a0_0 l0_1 a0_2).bind fun t338 => (if t338 = true then ((exergueref05_Right.f k a0_3 l0_4 a0_5).bind fun t339 => (exerguelaw05_DecShifts.j0 k a0_6 a0_7 t337 (!t339) a0_0 l0_1 a0_2 a0_3 l0_4 a0_5)) else (exerguelaw05_DecShifts.j0 k a0_6 a0_7 t337 true a0_0 l0_1 a0_2 a0_3 l0_4 a0_5)))) = some r := h
  clear h
  replace H := Option.bind_eq_some_iff.mp H
  obtain ⟨t337, A20, H⟩ := H
  replace H : ((exergueref05_Right.f k a0_0 l0_1 a0_2).bind fun t338 => (if t338 = true then ((exergueref05_Right.f k a0_3 l0_4 a0_5).bind fun t339 => (exerguelaw05_DecShifts.j0 k a0_6 a0_7 t337 (!t339) a0_0 l0_1 a0_2 a0_3 l0_4 a0_5)) else (exerguelaw05_DecShifts.j0 k a0_6 a0_7 t337 true a0_0 l0_1 a0_2 a0_3 l0_4 a0_5))) = some r := H
  have A2 := Aside0.mk A20
  clear A20
  have HC3 := Aside0.mk H
  clear H
  go_enter Tryd.func9, Tryd.ntmps9
  go_upto_region 6 with (first | ((with_reducible refine gate_dst (N := 1) rfl ?_); refine box_event ?hg (N := 1) ?hd (cs := #[.bool a0_0, .slice A0_1 l0_1.length c0_1, .int .i64 a0_2, .bool a0_3, .slice A0_4 l0_4.length c0_4, .int .i64 a0_5, .int .i16 a0_6, .int .i16 a0_7]) (t := 48) ?hr ?_; (case hd => rfl); (case hg => rfl); (case hr => first | (go_simp; done) | (go_simp; rfl)); intro gb334 hg w4 hbox hb; have n0_ := Aside0.mk (below_step (by repeat (first | (with_reducible first | exact HB.out | apply below_alloc | apply pw_below_drewN | apply below_drew1) | exact HB.out)) hb); have n1_ := Aside0.mk (hbox); have n2_ := Aside0.mk ((by rw [hg]; exact (below_size (by repeat (first | (with_reducible first | exact HB.out | apply below_alloc | apply pw_below_drewN | apply below_drew1) | exact HB.out))) : w.heap.size ≤ gb334)); have n3_ := Aside0.mk ((by rw [hg]; exact (below_size (by repeat (first | (with_reducible first | exact HB.out | apply below_alloc | apply pw_below_drewN | apply below_drew1) | exact HB.out))) : w.heap.size ≤ gb334)); clear HB; have HB := n0_; have BK334 := n1_; have GW334 := n2_; have GE334 := n3_; clear n0_ n1_ n2_ n3_; clear hb hbox hg; have hcz5_0 : w4.cell? ⟨gb334, 0, none⟩ = some (.bool a0_0) := (blk_cell BK334.out 0).trans rfl; have hcz5_1 : w4.cell? ⟨gb334, 1, none⟩ = some (.slice A0_1 l0_1.length c0_1) := (blk_cell BK334.out 1).trans rfl; have hcz5_2 : w4.cell? ⟨gb334, 2, none⟩ = some (.int .i64 a0_2) := (blk_cell BK334.out 2).trans rfl; have hcz5_3 : w4.cell? ⟨gb334, 3, none⟩ = some (.bool a0_3) := (blk_cell BK334.out 3).trans rfl; have hcz5_4 : w4.cell? ⟨gb334, 4, none⟩ = some (.slice A0_4 l0_4.length c0_4) := (blk_cell BK334.out 4).trans rfl; have hcz5_5 : w4.cell? ⟨gb334, 5, none⟩ = some (.int .i64 a0_5) := (blk_cell BK334.out 5).trans rfl; have hcz5_6 : w4.cell? ⟨gb334, 6, none⟩ = some (.int .i16 a0_6) := (blk_cell BK334.out 6).trans rfl; have hcz5_7 : w4.cell? ⟨gb334, 7, none⟩ = some (.int .i16 a0_7) := (blk_cell BK334.out 7).trans rfl; have hfz5_0 := blk_frozen BK334.out 0; have hfz5_1 := blk_frozen BK334.out 1; have hfz5_2 := blk_frozen BK334.out 2; have hfz5_3 := blk_frozen BK334.out 3; have hfz5_4 := blk_frozen BK334.out 4; have hfz5_5 := blk_frozen BK334.out 5; have hfz5_6 := blk_frozen BK334.out 6; have hfz5_7 := blk_frozen BK334.out 7) | ((with_reducible refine gate_dst (N := 3) rfl ?_); refine box_event ?hg (N := 3) ?hd (cs := #[.bool false, .slice none 0 0, .int .i64 0]) (t := 24) ?hr ?_; (case hd => rfl); (case hg => rfl); (case hr => first | (go_simp; done) | (go_simp; rfl)); intro gb335 hg w6 hbox hb; have n0_ := Aside0.mk (blk_below (g := gb334) (o := .cells #[.bool a0_0, .slice A0_1 l0_1.length c0_1, .int .i64 a0_2, .bool a0_3, .slice A0_4 l0_4.length c0_4, .int .i64 a0_5, .int .i16 a0_6, .int .i16 a0_7] 48 (0, 0)) (by (with_reducible repeat (first | refine blk_drewN ?_ _ | refine blk_drew ?_ | refine blk_alloc ?_ _)); exact BK334.out) hb); have n1_ := Aside0.mk (below_step (by repeat (first | (with_reducible first | exact HB.out | apply below_alloc | apply pw_below_drewN | apply below_drew1 | refine below_set ?_ GE334.out) | exact HB.out)) hb); have n2_ := Aside0.mk (hbox); have n3_ := Aside0.mk ((by rw [hg]; exact (below_size (by repeat (first | (with_reducible first | exact HB.out | apply below_alloc | apply pw_below_drewN | apply below_drew1 | refine below_set ?_ GE334.out) | exact HB.out))) : w.heap.size ≤ gb335)); have n4_ := Aside0.mk ((by rw [hg]; exact (below_size (by repeat (first | (with_reducible first | exact HB.out | apply below_alloc | apply pw_below_drewN | apply below_drew1 | refine below_set ?_ GE334.out) | exact HB.out))) : w.heap.size ≤ gb335)); have n5_ := Aside0.mk ((by rw [hg]; exact Nat.ne_of_lt (blk_lt (g := gb334) (o := .cells #[.bool a0_0, .slice A0_1 l0_1.length c0_1, .int .i64 a0_2, .bool a0_3, .slice A0_4 l0_4.length c0_4, .int .i64 a0_5, .int .i16 a0_6, .int .i16 a0_7] 48 (0, 0)) (by (with_reducible repeat (first | refine blk_drewN ?_ _ | refine blk_drew ?_ | refine blk_alloc ?_ _)); exact BK334.out)) : gb334 ≠ gb335)); have n6_ := Aside0.mk ((by rw [hg]; exact Nat.ne_of_gt (blk_lt (g := gb334) (o := .cells #[.bool a0_0, .slice A0_1 l0_1.length c0_1, .int .i64 a0_2, .bool a0_3, .slice A0_4 l0_4.length c0_4, .int .i64 a0_5, .int .i16 a0_6, .int .i16 a0_7] 48 (0, 0)) (by (with_reducible repeat (first | refine blk_drewN ?_ _ | refine blk_drew ?_ | refine blk_alloc ?_ _)); exact BK334.out)) : gb335 ≠ gb334)); clear BK334; clear HB; have BK334 := n0_; have HB := n1_; have BK335 := n2_; have GW335 := n3_; have GE335 := n4_; have NB334_335 := n5_; have NB335_334 := n6_; clear n0_ n1_ n2_ n3_ n4_ n5_ n6_; clear hb hbox hg; have hnb7 := NB335_334.out; have hnc7 := NB334_335.out; have hcz8_0 : w6.cell? ⟨gb335, 0, none⟩ = some (.bool false) := (blk_cell BK335.out 0).trans rfl; have hcz8_1 : w6.cell? ⟨gb335, 1, none⟩ = some (.slice none 0 0) := (blk_cell BK335.out 1).trans rfl; have hcz8_2 : w6.cell? ⟨gb335, 2, none⟩ = some (.int .i64 0) := (blk_cell BK335.out 2).trans rfl; have hfz8_0 := blk_frozen BK335.out 0; have hfz8_1 := blk_frozen BK335.out 1; have hfz8_2 := blk_frozen BK335.out 2; have hcz9_0 : w6.cell? ⟨gb334, 0, none⟩ = some (.bool a0_0) := (blk_cell BK334.out 0).trans rfl; have hcz9_1 : w6.cell? ⟨gb334, 1, none⟩ = some (.slice A0_1 l0_1.length c0_1) := (blk_cell BK334.out 1).trans rfl; have hcz9_2 : w6.cell? ⟨gb334, 2, none⟩ = some (.int .i64 a0_2) := (blk_cell BK334.out 2).trans rfl; have hcz9_3 : w6.cell? ⟨gb334, 3, none⟩ = some (.bool a0_3) := (blk_cell BK334.out 3).trans rfl; have hcz9_4 : w6.cell? ⟨gb334, 4, none⟩ = some (.slice A0_4 l0_4.length c0_4) := (blk_cell BK334.out 4).trans rfl; have hcz9_5 : w6.cell? ⟨gb334, 5, none⟩ = some (.int .i64 a0_5) := (blk_cell BK334.out 5).trans rfl; have hcz9_6 : w6.cell? ⟨gb334, 6, none⟩ = some (.int .i16 a0_6) := (blk_cell BK334.out 6).trans rfl; have hcz9_7 : w6.cell? ⟨gb334, 7, none⟩ = some (.int .i16 a0_7) := (blk_cell BK334.out 7).trans rfl; have hfz9_0 := blk_frozen BK334.out 0; have hfz9_1 := blk_frozen BK334.out 1; have hfz9_2 := blk_frozen BK334.out 2; have hfz9_3 := blk_frozen BK334.out 3; have hfz9_4 := blk_frozen BK334.out 4; have hfz9_5 := blk_frozen BK334.out 5; have hfz9_6 := blk_frozen BK334.out 6; have hfz9_7 := blk_frozen BK334.out 7) | ((with_reducible refine gate_dst (N := 4) rfl ?_); refine box_event ?hg (N := 4) ?hd (cs := #[.bool false, .slice none 0 0, .int .i64 0]) (t := 24) ?hr ?_; (case hd => rfl); (case hg => rfl); (case hr => first | (go_simp; done) | (go_simp; rfl)); intro gb336 hg w10 hbox hb; have n0_ := Aside0.mk (blk_below (g := gb334) (o := .cells #[.bool a0_0, .slice A0_1 l0_1.length c0_1, .int .i64 a0_2, .bool a0_3, .slice A0_4 l0_4.length c0_4, .int .i64 a0_5, .int .i16 a0_6, .int .i16 a0_7] 48 (0, 0)) (by (with_reducible repeat (first | refine blk_drewN ?_ _ | refine blk_drew ?_ | refine blk_alloc ?_ _)); refine blk_far ?_ NB334_335.out _; (with_reducible repeat (first | refine blk_drewN ?_ _ | refine blk_drew ?_ | refine blk_alloc ?_ _)); refine blk_far ?_ NB334_335.out _; (with_reducible repeat (first | refine blk_drewN ?_ _ | refine blk_drew ?_ | refine blk_alloc ?_ _)); refine blk_far ?_ NB334_335.out _; (with_reducible repeat (first | refine blk_drewN ?_ _ | refine blk_drew ?_ | refine blk_alloc ?_ _)); exact BK334.out) hb); have n1_ := Aside0.mk (blk_below (g := gb335) (o := .cells #[.bool a0_0, .slice A0_1 l0_1.length c0_1, .int .i64 a0_2] 24 (0, 0)) (by (with_reducible repeat (first | refine blk_drewN ?_ _ | refine blk_drew ?_ | refine blk_alloc ?_ _)); refine blk_put (cs := #[.bool a0_0, .slice A0_1 l0_1.length c0_1, .int .i64 0]) ?_ 2 _ rfl; (with_reducible repeat (first | refine blk_drewN ?_ _ | refine blk_drew ?_ | refine blk_alloc ?_ _)); refine blk_put (cs := #[.bool a0_0, .slice none 0 0, .int .i64 0]) ?_ 1 _ rfl; (with_reducible repeat (first | refine blk_drewN ?_ _ | refine blk_drew ?_ | refine blk_alloc ?_ _)); refine blk_put (cs := #[.bool false, .slice none 0 0, .int .i64 0]) ?_ 0 _ rfl; (with_reducible repeat (first | refine blk_drewN ?_ _ | refine blk_drew ?_ | refine blk_alloc ?_ _)); exact BK335.out) hb); have n2_ := Aside0.mk (below_step (by repeat (first | (with_reducible first | exact HB.out | apply below_alloc | apply pw_below_drewN | apply below_drew1 | refine below_set ?_ GE334.out | refine below_set ?_ GE335.out) | exact HB.out)) hb); have n3_ := Aside0.mk (hbox); have n4_ := Aside0.mk ((by rw [hg]; exact (below_size (by repeat (first | (with_reducible first | exact HB.out | apply below_alloc | apply pw_below_drewN | apply below_drew1 | refine below_set ?_ GE334.out | refine below_set ?_ GE335.out) | exact HB.out))) : w.heap.size ≤ gb336)); have n5_ := Aside0.mk ((by rw [hg]; exact (below_size (by repeat (first | (with_reducible first | exact HB.out | apply below_alloc | apply pw_below_drewN | apply below_drew1 | refine below_set ?_ GE334.out | refine below_set ?_ GE335.out) | exact HB.out))) : w.heap.size ≤ gb336)); have n6_ := Aside0.mk ((by rw [hg]; exact Nat.ne_of_lt (blk_lt (g := gb334) (o := .cells #[.bool a0_0, .slice A0_1 l0_1.length c0_1, .int .i64 a0_2, .bool a0_3, .slice A0_4 l0_4.length c0_4, .int .i64 a0_5, .int .i16 a0_6, .int .i16 a0_7] 48 (0, 0)) (by (with_reducible repeat (first | refine blk_drewN ?_ _ | refine blk_drew ?_ | refine blk_alloc ?_ _)); refine blk_far ?_ NB334_335.out _; (with_reducible repeat (first | refine blk_drewN ?_ _ | refine blk_drew ?_ | refine blk_alloc ?_ _)); refine blk_far ?_ NB334_335.out _; (with_reducible repeat (first | refine blk_drewN ?_ _ | refine blk_drew ?_ | refine blk_alloc ?_ _)); refine blk_far ?_ NB334_335.out _; (with_reducible repeat (first | refine blk_drewN ?_ _ | refine blk_drew ?_ | refine blk_alloc ?_ _)); exact BK334.out)) : gb334 ≠ gb336)); have n7_ := Aside0.mk ((by rw [hg]; exact Nat.ne_of_gt (blk_lt (g := gb334) (o := .cells #[.bool a0_0, .slice A0_1 l0_1.length c0_1, .int .i64 a0_2, .bool a0_3, .slice A0_4 l0_4.length c0_4, .int .i64 a0_5, .int .i16 a0_6, .int .i16 a0_7] 48 (0, 0)) (by (with_reducible repeat (first | refine blk_drewN ?_ _ | refine blk_drew ?_ | refine blk_alloc ?_ _)); refine blk_far ?_ NB334_335.out _; (with_reducible repeat (first | refine blk_drewN ?_ _ | refine blk_drew ?_ | refine blk_alloc ?_ _)); refine blk_far ?_ NB334_335.out _; (with_reducible repeat (first | refine blk_drewN ?_ _ | refine blk_drew ?_ | refine blk_alloc ?_ _)); refine blk_far ?_ NB334_335.out _; (with_reducible repeat (first | refine blk_drewN ?_ _ | refine blk_drew ?_ | refine blk_alloc ?_ _)); exact BK334.out)) : gb336 ≠ gb334)); have n8_ := Aside0.mk ((by rw [hg]; exact Nat.ne_of_lt (blk_lt (g := gb335) (o := .cells #[.bool a0_0, .slice A0_1 l0_1.length c0_1, .int .i64 a0_2] 24 (0, 0)) (by (with_reducible repeat (first | refine blk_drewN ?_ _ | refine blk_drew ?_ | refine blk_alloc ?_ _)); refine blk_put (cs := #[.bool a0_0, .slice A0_1 l0_1.length c0_1, .int .i64 0]) ?_ 2 _ rfl; (with_reducible repeat (first | refine blk_drewN ?_ _ | refine blk_drew ?_ | refine blk_alloc ?_ _)); refine blk_put (cs := #[.bool a0_0, .slice none 0 0, .int .i64 0]) ?_ 1 _ rfl; (with_reducible repeat (first | refine blk_drewN ?_ _ | refine blk_drew ?_ | refine blk_alloc ?_ _)); refine blk_put (cs := #[.bool false, .slice none 0 0, .int .i64 0]) ?_ 0 _ rfl; (with_reducible repeat (first | refine blk_drewN ?_ _ | refine blk_drew ?_ | refine blk_alloc ?_ _)); exact BK335.out)) : gb335 ≠ gb336)); have n9_ := Aside0.mk ((by rw [hg]; exact Nat.ne_of_gt (blk_lt (g := gb335) (o := .cells #[.bool a0_0, .slice A0_1 l0_1.length c0_1, .int .i64 a0_2] 24 (0, 0)) (by (with_reducible repeat (first | refine blk_drewN ?_ _ | refine blk_drew ?_ | refine blk_alloc ?_ _)); refine blk_put (cs := #[.bool a0_0, .slice A0_1 l0_1.length c0_1, .int .i64 0]) ?_ 2 _ rfl; (with_reducible repeat (first | refine blk_drewN ?_ _ | refine blk_drew ?_ | refine blk_alloc ?_ _)); refine blk_put (cs := #[.bool a0_0, .slice none 0 0, .int .i64 0]) ?_ 1 _ rfl; (with_reducible repeat (first | refine blk_drewN ?_ _ | refine blk_drew ?_ | refine blk_alloc ?_ _)); refine blk_put (cs := #[.bool false, .slice none 0 0, .int .i64 0]) ?_ 0 _ rfl; (with_reducible repeat (first | refine blk_drewN ?_ _ | refine blk_drew ?_ | refine blk_alloc ?_ _)); exact BK335.out)) : gb336 ≠ gb335)); clear BK334; clear BK335; clear HB; have BK334 := n0_; have BK335 := n1_; have HB := n2_; have BK336 := n3_; have GW336 := n4_; have GE336 := n5_; have NB334_336 := n6_; have NB336_334 := n7_; have NB335_336 := n8_; have NB336_335 := n9_; clear n0_ n1_ n2_ n3_ n4_ n5_ n6_ n7_ n8_ n9_; clear hb hbox hg; have hnb11 := NB336_334.out; have hnc11 := NB334_336.out; have hnb12 := NB336_335.out; have hnc12 := NB335_336.out; have hcz13_0 : w10.cell? ⟨gb336, 0, none⟩ = some (.bool false) := (blk_cell BK336.out 0).trans rfl; have hcz13_1 : w10.cell? ⟨gb336, 1, none⟩ = some (.slice none 0 0) := (blk_cell BK336.out 1).trans rfl; have hcz13_2 : w10.cell? ⟨gb336, 2, none⟩ = some (.int .i64 0) := (blk_cell BK336.out 2).trans rfl; have hfz13_0 := blk_frozen BK336.out 0; have hfz13_1 := blk_frozen BK336.out 1; have hfz13_2 := blk_frozen BK336.out 2; have hcz14_0 : w10.cell? ⟨gb334, 0, none⟩ = some (.bool a0_0) := (blk_cell BK334.out 0).trans rfl; have hcz14_1 : w10.cell? ⟨gb334, 1, none⟩ = some (.slice A0_1 l0_1.length c0_1) := (blk_cell BK334.out 1).trans rfl; have hcz14_2 : w10.cell? ⟨gb334, 2, none⟩ = some (.int .i64 a0_2) := (blk_cell BK334.out 2).trans rfl; have hcz14_3 : w10.cell? ⟨gb334, 3, none⟩ = some (.bool a0_3) := (blk_cell BK334.out 3).trans rfl; have hcz14_4 : w10.cell? ⟨gb334, 4, none⟩ = some (.slice A0_4 l0_4.length c0_4) := (blk_cell BK334.out 4).trans rfl; have hcz14_5 : w10.cell? ⟨gb334, 5, none⟩ = some (.int .i64 a0_5) := (blk_cell BK334.out 5).trans rfl; have hcz14_6 : w10.cell? ⟨gb334, 6, none⟩ = some (.int .i16 a0_6) := (blk_cell BK334.out 6).trans rfl; have hcz14_7 : w10.cell? ⟨gb334, 7, none⟩ = some (.int .i16 a0_7) := (blk_cell BK334.out 7).trans rfl; have hfz14_0 := blk_frozen BK334.out 0; have hfz14_1 := blk_frozen BK334.out 1; have hfz14_2 := blk_frozen BK334.out 2; have hfz14_3 := blk_frozen BK334.out 3; have hfz14_4 := blk_frozen BK334.out 4; have hfz14_5 := blk_frozen BK334.out 5; have hfz14_6 := blk_frozen BK334.out 6; have hfz14_7 := blk_frozen BK334.out 7) | ((with_reducible refine gate_callee (f := 10) rfl ?_); refine goesL_ (some 26) rfl rfl Tryd.func10 (by kernel_rfl) rfl #[] rfl (by (try simp only [List.map_toArray, List.map_cons, List.map_nil]); first | done | rfl | (simp only [List.length_drop, List.length_take]; rfl)) ?_; (with_reducible refine (exerguelaw05_shown.calls k  t337 _ ?side1 A2.out).mono ?_); (case side1 => refine GL.below HG.out ?_; repeat (first | (with_reducible first | exact HB.out | apply below_alloc | apply pw_below_drewN | apply below_drew1 | refine below_set ?_ GE334.out | refine below_set ?_ GE335.out | refine below_set ?_ GE336.out) | exact HB.out)); rintro e w15 ⟨rfl, hb⟩; refine ⟨_, rfl, ?_⟩; have n0_ := Aside0.mk (blk_below (g := gb334) (o := .cells #[.bool a0_0, .slice A0_1 l0_1.length c0_1, .int .i64 a0_2, .bool a0_3, .slice A0_4 l0_4.length c0_4, .int .i64 a0_5, .int .i16 a0_6, .int .i16 a0_7] 48 (0, 0)) (by (with_reducible repeat (first | refine blk_drewN ?_ _ | refine blk_drew ?_ | refine blk_alloc ?_ _)); refine blk_far ?_ NB334_336.out _; (with_reducible repeat (first | refine blk_drewN ?_ _ | refine blk_drew ?_ | refine blk_alloc ?_ _)); refine blk_far ?_ NB334_336.out _; (with_reducible repeat (first | refine blk_drewN ?_ _ | refine blk_drew ?_ | refine blk_alloc ?_ _)); refine blk_far ?_ NB334_336.out _; (with_reducible repeat (first | refine blk_drewN ?_ _ | refine blk_drew ?_ | refine blk_alloc ?_ _)); exact BK334.out) hb); have n1_ := Aside0.mk (blk_below (g := gb335) (o := .cells #[.bool a0_0, .slice A0_1 l0_1.length c0_1, .int .i64 a0_2] 24 (0, 0)) (by (with_reducible repeat (first | refine blk_drewN ?_ _ | refine blk_drew ?_ | refine blk_alloc ?_ _)); refine blk_far ?_ NB335_336.out _; (with_reducible repeat (first | refine blk_drewN ?_ _ | refine blk_drew ?_ | refine blk_alloc ?_ _)); refine blk_far ?_ NB335_336.out _; (with_reducible repeat (first | refine blk_drewN ?_ _ | refine blk_drew ?_ | refine blk_alloc ?_ _)); refine blk_far ?_ NB335_336.out _; (with_reducible repeat (first | refine blk_drewN ?_ _ | refine blk_drew ?_ | refine blk_alloc ?_ _)); exact BK335.out) hb); have n2_ := Aside0.mk (blk_below (g := gb336) (o := .cells #[.bool a0_3, .slice A0_4 l0_4.length c0_4, .int .i64 a0_5] 24 (0, 0)) (by (with_reducible repeat (first | refine blk_drewN ?_ _ | refine blk_drew ?_ | refine blk_alloc ?_ _)); refine blk_put (cs := #[.bool a0_3, .slice A0_4 l0_4.length c0_4, .int .i64 0]) ?_ 2 _ rfl; (with_reducible repeat (first | refine blk_drewN ?_ _ | refine blk_drew ?_ | refine blk_alloc ?_ _)); refine blk_put (cs := #[.bool a0_3, .slice none 0 0, .int .i64 0]) ?_ 1 _ rfl; (with_reducible repeat (first | refine blk_drewN ?_ _ | refine blk_drew ?_ | refine blk_alloc ?_ _)); refine blk_put (cs := #[.bool false, .slice none 0 0, .int .i64 0]) ?_ 0 _ rfl; (with_reducible repeat (first | refine blk_drewN ?_ _ | refine blk_drew ?_ | refine blk_alloc ?_ _)); exact BK336.out) hb); have n3_ := Aside0.mk (below_step (by repeat (first | (with_reducible first | exact HB.out | apply below_alloc | apply pw_below_drewN | apply below_drew1 | refine below_set ?_ GE334.out | refine below_set ?_ GE335.out | refine below_set ?_ GE336.out) | exact HB.out)) hb); clear BK334; clear BK335; clear BK336; clear HB; have BK334 := n0_; have BK335 := n1_; have BK336 := n2_; have HB := n3_; clear n0_ n1_ n2_ n3_; (try clear hb); (try clear hb2); (try clear hk); (try clear hi)))
  (try simp only [Act.put, List.setIfInBounds_toArray, List.set_cons_zero, List.set_cons_succ])
  go_cut [34] (fun v34 wc => ∃ (kq : Nat) (x34_2 : Bool), v34 = .bool x34_2 ∧ Aside0 (exerguelaw05_DecShifts.j0 kq a0_6 a0_7 t337 x34_2 a0_0 l0_1 a0_2 a0_3 l0_4 a0_5 = some r) ∧ Aside0 (kq ≤ k) ∧ Aside0 (wc.heap[gb334]? = some (.cells #[.bool a0_0, (.slice A0_1 l0_1.length c0_1), .int .i64 a0_2, .bool a0_3, (.slice A0_4 l0_4.length c0_4), .int .i64 a0_5, .int .i16 a0_6, .int .i16 a0_7] 48 (0, 0))) ∧ Aside0 (wc.heap[gb335]? = some (.cells #[.bool a0_0, (.slice A0_1 l0_1.length c0_1), .int .i64 a0_2] 24 (0, 0))) ∧ Aside0 (wc.heap[gb336]? = some (.cells #[.bool a0_3, (.slice A0_4 l0_4.length c0_4), .int .i64 a0_5] 24 (0, 0))) ∧ Aside0 (Below w.heap.size w wc))
  case first =>
    have H := HC3.out
    clear HC3
    replace H := Option.bind_eq_some_iff.mp H
    obtain ⟨t338, A160, H⟩ := H
    replace H : (if t338 = true then ((exergueref05_Right.f k a0_3 l0_4 a0_5).bind fun t339 => (exerguelaw05_DecShifts.j0 k a0_6 a0_7 t337 (!t339) a0_0 l0_1 a0_2 a0_3 l0_4 a0_5)) else (exerguelaw05_DecShifts.j0 k a0_6 a0_7 t337 true a0_0 l0_1 a0_2 a0_3 l0_4 a0_5)) = some r := H
    have A16 := Aside0.mk A160
    clear A160
    by_cases c17 : t338 = true
    · subst c17
      have H1 : ((exergueref05_Right.f k a0_3 l0_4 a0_5).bind fun t339 => (exerguelaw05_DecShifts.j0 k a0_6 a0_7 t337 (!t339) a0_0 l0_1 a0_2 a0_3 l0_4 a0_5)) = some r := by rw [if_pos rfl] at H; exact H
      clear H
      have H := H1
      clear H1
      replace H := Option.bind_eq_some_iff.mp H
      obtain ⟨t339, A180, H⟩ := H
      replace H : (exerguelaw05_DecShifts.j0 k a0_6 a0_7 t337 (!t339) a0_0 l0_1 a0_2 a0_3 l0_4 a0_5) = some r := H
      have A18 := Aside0.mk A180
      clear A180
      have H' := Aside0.mk H
      clear H
      have hnb19 := NB335_334.out
      have hnc19 := NB334_335.out
      have hnb20 := NB335_336.out
      have hnc20 := NB336_335.out
      have hcz21_0 : w15.cell? ⟨gb335, 0, none⟩ = some (.bool a0_0) := (blk_cell BK335.out 0).trans rfl
      have hcz21_1 : w15.cell? ⟨gb335, 1, none⟩ = some (.slice A0_1 l0_1.length c0_1) := (blk_cell BK335.out 1).trans rfl
      have hcz21_2 : w15.cell? ⟨gb335, 2, none⟩ = some (.int .i64 a0_2) := (blk_cell BK335.out 2).trans rfl
      have hfz21_0 := blk_frozen BK335.out 0
      have hfz21_1 := blk_frozen BK335.out 1
      have hfz21_2 := blk_frozen BK335.out 2
      go_wp2_with (first | ((with_reducible refine gate_callee (f := 14) rfl ?_); refine goesL_ (some 28) rfl rfl Tryd.func14 (by kernel_rfl) rfl #[.agg #[.bool a0_0, .slice A0_1 l0_1.length c0_1, .int .i64 a0_2]] rfl (by (try simp only [List.map_toArray, List.map_cons, List.map_nil]); first | done | rfl | (simp only [List.length_drop, List.length_take]; rfl)) ?_; (with_reducible refine (exergueref05_Right.calls k a0_0 _ _ l0_1 a0_2 true _ ?side1 ?side2 A16.out).mono ?_); (case side1 => repeat (first | exact (Kd.C_below HR0_1.out HB.out) | (with_reducible refine Kd.C_alloc ?_ _) | (with_reducible refine Kd.C_drewN ?_ _) | (with_reducible refine Kd.C_drew ?_))); (case side2 => exact HC0_1.out); rintro e w22 ⟨rfl, hb⟩; refine ⟨_, rfl, ?_⟩; have n0_ := Aside0.mk (blk_below (g := gb334) (o := .cells #[.bool a0_0, .slice A0_1 l0_1.length c0_1, .int .i64 a0_2, .bool a0_3, .slice A0_4 l0_4.length c0_4, .int .i64 a0_5, .int .i16 a0_6, .int .i16 a0_7] 48 (0, 0)) (by (with_reducible repeat (first | refine blk_drewN ?_ _ | refine blk_drew ?_ | refine blk_alloc ?_ _)); exact BK334.out) hb); have n1_ := Aside0.mk (blk_below (g := gb335) (o := .cells #[.bool a0_0, .slice A0_1 l0_1.length c0_1, .int .i64 a0_2] 24 (0, 0)) (by (with_reducible repeat (first | refine blk_drewN ?_ _ | refine blk_drew ?_ | refine blk_alloc ?_ _)); exact BK335.out) hb); have n2_ := Aside0.mk (blk_below (g := gb336) (o := .cells #[.bool a0_3, .slice A0_4 l0_4.length c0_4, .int .i64 a0_5] 24 (0, 0)) (by (with_reducible repeat (first | refine blk_drewN ?_ _ | refine blk_drew ?_ | refine blk_alloc ?_ _)); exact BK336.out) hb); have n3_ := Aside0.mk (below_step (by repeat (first | (with_reducible first | exact HB.out | apply below_alloc | apply pw_below_drewN | apply below_drew1 | refine below_set ?_ GE334.out | refine below_set ?_ GE335.out | refine below_set ?_ GE336.out) | exact HB.out)) hb); clear BK334; clear BK335; clear BK336; clear HB; have BK334 := n0_; have BK335 := n1_; have BK336 := n2_; have HB := n3_; clear n0_ n1_ n2_ n3_; (try clear hb); (try clear hb2); (try clear hk); (try clear hi); have hnb23 := NB336_334.out; have hnc23 := NB334_336.out; have hcz24_0 : w22.cell? ⟨gb336, 0, none⟩ = some (.bool a0_3) := (blk_cell BK336.out 0).trans rfl; have hcz24_1 : w22.cell? ⟨gb336, 1, none⟩ = some (.slice A0_4 l0_4.length c0_4) := (blk_cell BK336.out 1).trans rfl; have hcz24_2 : w22.cell? ⟨gb336, 2, none⟩ = some (.int .i64 a0_5) := (blk_cell BK336.out 2).trans rfl; have hfz24_0 := blk_frozen BK336.out 0; have hfz24_1 := blk_frozen BK336.out 1; have hfz24_2 := blk_frozen BK336.out 2) | (go_at_call 14; (with_reducible refine (exergueref05_Right.calls k a0_3 _ _ l0_4 a0_5 t339 _ ?side1 ?side2 A18.out).mono ?_); (case side1 => repeat (first | exact (Kd.C_below HR0_4.out HB.out) | (with_reducible refine Kd.C_alloc ?_ _) | (with_reducible refine Kd.C_drewN ?_ _) | (with_reducible refine Kd.C_drew ?_))); (case side2 => exact HC0_4.out); rintro e w25 ⟨rfl, hb⟩; have n0_ := Aside0.mk (blk_below (g := gb334) (o := .cells #[.bool a0_0, .slice A0_1 l0_1.length c0_1, .int .i64 a0_2, .bool a0_3, .slice A0_4 l0_4.length c0_4, .int .i64 a0_5, .int .i16 a0_6, .int .i16 a0_7] 48 (0, 0)) (by (with_reducible repeat (first | refine blk_drewN ?_ _ | refine blk_drew ?_ | refine blk_alloc ?_ _)); exact BK334.out) hb); have n1_ := Aside0.mk (blk_below (g := gb335) (o := .cells #[.bool a0_0, .slice A0_1 l0_1.length c0_1, .int .i64 a0_2] 24 (0, 0)) (by (with_reducible repeat (first | refine blk_drewN ?_ _ | refine blk_drew ?_ | refine blk_alloc ?_ _)); exact BK335.out) hb); have n2_ := Aside0.mk (blk_below (g := gb336) (o := .cells #[.bool a0_3, .slice A0_4 l0_4.length c0_4, .int .i64 a0_5] 24 (0, 0)) (by (with_reducible repeat (first | refine blk_drewN ?_ _ | refine blk_drew ?_ | refine blk_alloc ?_ _)); exact BK336.out) hb); have n3_ := Aside0.mk (below_step (by repeat (first | (with_reducible first | exact HB.out | apply below_alloc | apply pw_below_drewN | apply below_drew1 | refine below_set ?_ GE334.out | refine below_set ?_ GE335.out | refine below_set ?_ GE336.out) | exact HB.out)) hb); clear BK334; clear BK335; clear BK336; clear HB; have BK334 := n0_; have BK335 := n1_; have BK336 := n2_; have HB := n3_; clear n0_ n1_ n2_ n3_; (try clear hb); (try clear hb2); (try clear hk); (try clear hi)))
      go_meet
      case rel => exact ⟨_, (!t339), (by first | rfl | (simp; done) | (simp [*]; done)), H', ⟨by first | omega | exact Nat.le_refl _⟩, ⟨by (with_reducible repeat (first | refine blk_drewN ?_ _ | refine blk_drew ?_ | refine blk_alloc ?_ _)); exact BK334.out⟩, ⟨by (with_reducible repeat (first | refine blk_drewN ?_ _ | refine blk_drew ?_ | refine blk_alloc ?_ _)); exact BK335.out⟩, ⟨by (with_reducible repeat (first | refine blk_drewN ?_ _ | refine blk_drew ?_ | refine blk_alloc ?_ _)); exact BK336.out⟩, ⟨by repeat (first | (with_reducible first | exact HB.out | apply below_alloc | apply pw_below_drewN | apply below_drew1 | refine below_set ?_ GE334.out | refine below_set ?_ GE335.out | refine below_set ?_ GE336.out) | exact HB.out)⟩⟩
    · replace c17 := Bool.eq_false_iff.mpr c17
      subst c17
      have H1 : (exerguelaw05_DecShifts.j0 k a0_6 a0_7 t337 true a0_0 l0_1 a0_2 a0_3 l0_4 a0_5) = some r := by rw [if_neg (show ¬ (false = true) by decide)] at H; exact H
      clear H
      have H := H1
      clear H1
      have H' := Aside0.mk H
      clear H
      have hnb26 := NB335_334.out
      have hnc26 := NB334_335.out
      have hnb27 := NB335_336.out
      have hnc27 := NB336_335.out
      have hcz28_0 : w15.cell? ⟨gb335, 0, none⟩ = some (.bool a0_0) := (blk_cell BK335.out 0).trans rfl
      have hcz28_1 : w15.cell? ⟨gb335, 1, none⟩ = some (.slice A0_1 l0_1.length c0_1) := (blk_cell BK335.out 1).trans rfl
      have hcz28_2 : w15.cell? ⟨gb335, 2, none⟩ = some (.int .i64 a0_2) := (blk_cell BK335.out 2).trans rfl
      have hfz28_0 := blk_frozen BK335.out 0
      have hfz28_1 := blk_frozen BK335.out 1
      have hfz28_2 := blk_frozen BK335.out 2
      go_wp2_with (first | ((with_reducible refine gate_callee (f := 14) rfl ?_); refine goesL_ (some 28) rfl rfl Tryd.func14 (by kernel_rfl) rfl #[.agg #[.bool a0_0, .slice A0_1 l0_1.length c0_1, .int .i64 a0_2]] rfl (by (try simp only [List.map_toArray, List.map_cons, List.map_nil]); first | done | rfl | (simp only [List.length_drop, List.length_take]; rfl)) ?_; (with_reducible refine (exergueref05_Right.calls k a0_0 _ _ l0_1 a0_2 false _ ?side1 ?side2 A16.out).mono ?_); (case side1 => repeat (first | exact (Kd.C_below HR0_1.out HB.out) | (with_reducible refine Kd.C_alloc ?_ _) | (with_reducible refine Kd.C_drewN ?_ _) | (with_reducible refine Kd.C_drew ?_))); (case side2 => exact HC0_1.out); rintro e w29 ⟨rfl, hb⟩; refine ⟨_, rfl, ?_⟩; have n0_ := Aside0.mk (blk_below (g := gb334) (o := .cells #[.bool a0_0, .slice A0_1 l0_1.length c0_1, .int .i64 a0_2, .bool a0_3, .slice A0_4 l0_4.length c0_4, .int .i64 a0_5, .int .i16 a0_6, .int .i16 a0_7] 48 (0, 0)) (by (with_reducible repeat (first | refine blk_drewN ?_ _ | refine blk_drew ?_ | refine blk_alloc ?_ _)); exact BK334.out) hb); have n1_ := Aside0.mk (blk_below (g := gb335) (o := .cells #[.bool a0_0, .slice A0_1 l0_1.length c0_1, .int .i64 a0_2] 24 (0, 0)) (by (with_reducible repeat (first | refine blk_drewN ?_ _ | refine blk_drew ?_ | refine blk_alloc ?_ _)); exact BK335.out) hb); have n2_ := Aside0.mk (blk_below (g := gb336) (o := .cells #[.bool a0_3, .slice A0_4 l0_4.length c0_4, .int .i64 a0_5] 24 (0, 0)) (by (with_reducible repeat (first | refine blk_drewN ?_ _ | refine blk_drew ?_ | refine blk_alloc ?_ _)); exact BK336.out) hb); have n3_ := Aside0.mk (below_step (by repeat (first | (with_reducible first | exact HB.out | apply below_alloc | apply pw_below_drewN | apply below_drew1 | refine below_set ?_ GE334.out | refine below_set ?_ GE335.out | refine below_set ?_ GE336.out) | exact HB.out)) hb); clear BK334; clear BK335; clear BK336; clear HB; have BK334 := n0_; have BK335 := n1_; have BK336 := n2_; have HB := n3_; clear n0_ n1_ n2_ n3_; (try clear hb); (try clear hb2); (try clear hk); (try clear hi)))
      go_meet
      case rel => exact ⟨_, (true), (by first | rfl | (simp; done) | (simp [*]; done)), H', ⟨by first | omega | exact Nat.le_refl _⟩, ⟨by (with_reducible repeat (first | refine blk_drewN ?_ _ | refine blk_drew ?_ | refine blk_alloc ?_ _)); exact BK334.out⟩, ⟨by (with_reducible repeat (first | refine blk_drewN ?_ _ | refine blk_drew ?_ | refine blk_alloc ?_ _)); exact BK335.out⟩, ⟨by (with_reducible repeat (first | refine blk_drewN ?_ _ | refine blk_drew ?_ | refine blk_alloc ?_ _)); exact BK336.out⟩, ⟨by repeat (first | (with_reducible first | exact HB.out | apply below_alloc | apply pw_below_drewN | apply below_drew1 | refine below_set ?_ GE334.out | refine below_set ?_ GE335.out | refine below_set ?_ GE336.out) | exact HB.out)⟩⟩
  case rest =>
    clear HC3
    try clear c1
    try clear c2
    try clear p2
    try clear c7
    try clear c9
    try clear c10
    try clear c11
    try clear c12
    try clear c14
    try clear c17
    try clear c19
    try clear c20
    try clear c23
    try clear c26
    try clear c27
    try clear hcz13_0
    try clear hcz13_1
    try clear hcz13_2
    try clear hcz14_0
    try clear hcz14_1
    try clear hcz14_2
    try clear hcz14_3
    try clear hcz14_4
    try clear hcz14_5
    try clear hcz14_6
    try clear hcz14_7
    try clear hcz21_0
    try clear hcz21_1
    try clear hcz21_2
    try clear hcz24_0
    try clear hcz24_1
    try clear hcz24_2
    try clear hcz28_0
    try clear hcz28_1
    try clear hcz28_2
    try clear hcz5_0
    try clear hcz5_1
    try clear hcz5_2
    try clear hcz5_3
    try clear hcz5_4
    try clear hcz5_5
    try clear hcz5_6
    try clear hcz5_7
    try clear hcz8_0
    try clear hcz8_1
    try clear hcz8_2
    try clear hcz9_0
    try clear hcz9_1
    try clear hcz9_2
    try clear hcz9_3
    try clear hcz9_4
    try clear hcz9_5
    try clear hcz9_6
    try clear hcz9_7
    try clear hfz13_0
    try clear hfz13_1
    try clear hfz13_2
    try clear hfz14_0
    try clear hfz14_1
    try clear hfz14_2
    try clear hfz14_3
    try clear hfz14_4
    try clear hfz14_5
    try clear hfz14_6
    try clear hfz14_7
    try clear hfz21_0
    try clear hfz21_1
    try clear hfz21_2
    try clear hfz24_0
    try clear hfz24_1
    try clear hfz24_2
    try clear hfz28_0
    try clear hfz28_1
    try clear hfz28_2
    try clear hfz5_0
    try clear hfz5_1
    try clear hfz5_2
    try clear hfz5_3
    try clear hfz5_4
    try clear hfz5_5
    try clear hfz5_6
    try clear hfz5_7
    try clear hfz8_0
    try clear hfz8_1
    try clear hfz8_2
    try clear hfz9_0
    try clear hfz9_1
    try clear hfz9_2
    try clear hfz9_3
    try clear hfz9_4
    try clear hfz9_5
    try clear hfz9_6
    try clear hfz9_7
    obtain ⟨kq, x34_2, rfl, HA, HJ2, BK334, BK335, BK336, HB⟩ := hcut
    cases kq with
    | zero => exact absurd HA.out (by simp [exerguelaw05_DecShifts.j0])
    | succ kj2 =>
      have H := HA.out
      clear HA
      simp only [exerguelaw05_DecShifts.j0] at H
      by_cases c30 : x34_2 = true
      · subst c30
        have H1 : (some t337) = some r := by rw [if_pos rfl] at H; exact H
        clear H
        have H := H1
        clear H1
        obtain rfl := Option.some.inj H
        go_wp2
        go_ret
        exact ⟨by first | rfl | (simp [errW_none, errW_some] <;> rfl) | (simp [*, errW_none, errW_some] <;> rfl), by repeat (first | (with_reducible first | exact HB.out | apply below_alloc | apply pw_below_drewN | apply below_drew1 | refine below_set ?_ GE334.out | refine below_set ?_ GE335.out | refine below_set ?_ GE336.out) | exact HB.out)⟩
      · replace c30 := Bool.eq_false_iff.mpr c30
        subst c30
        have H1 : ((dec_Shift.f a0_0 l0_1 a0_2 (wrap64 (a0_6))).bind fun bt340 => ((dec_Shift.f a0_3 l0_4 a0_5 (wrap64 (a0_6))).bind fun bt347 => (if bt340.2.2.2 = 0 then (exerguelaw05_DecShifts.j1 kj2 a0_6 a0_7 t337 (bt347.2.2.2 != 0) a0_0 l0_1 a0_2 a0_3 l0_4 a0_5 bt340.1 bt340.2.1 bt340.2.2.1 bt347.1 bt347.2.1 bt347.2.2.1) else (exerguelaw05_DecShifts.j1 kj2 a0_6 a0_7 t337 true a0_0 l0_1 a0_2 a0_3 l0_4 a0_5 bt340.1 bt340.2.1 bt340.2.2.1 bt347.1 bt347.2.1 bt347.2.2.1)))) = some r := by rw [if_neg (show ¬ (false = true) by decide)] at H; exact H
        clear H
        have H := H1
        clear H1
        replace H := Option.bind_eq_some_iff.mp H
        obtain ⟨⟨t340, t341, t344, t345⟩, A310, H⟩ := H
        replace H : ((dec_Shift.f a0_3 l0_4 a0_5 (wrap64 (a0_6))).bind fun bt347 => (if t345 = 0 then (exerguelaw05_DecShifts.j1 kj2 a0_6 a0_7 t337 (bt347.2.2.2 != 0) a0_0 l0_1 a0_2 a0_3 l0_4 a0_5 t340 t341 t344 bt347.1 bt347.2.1 bt347.2.2.1) else (exerguelaw05_DecShifts.j1 kj2 a0_6 a0_7 t337 true a0_0 l0_1 a0_2 a0_3 l0_4 a0_5 t340 t341 t344 bt347.1 bt347.2.1 bt347.2.2.1))) = some r := H
        have A31 := Aside0.mk A310
        clear A310
        replace H := Option.bind_eq_some_iff.mp H
        obtain ⟨⟨t347, t348, t351, t352⟩, A320, H⟩ := H
        replace H : (if t345 = 0 then (exerguelaw05_DecShifts.j1 kj2 a0_6 a0_7 t337 (t352 != 0) a0_0 l0_1 a0_2 a0_3 l0_4 a0_5 t340 t341 t344 t347 t348 t351) else (exerguelaw05_DecShifts.j1 kj2 a0_6 a0_7 t337 true a0_0 l0_1 a0_2 a0_3 l0_4 a0_5 t340 t341 t344 t347 t348 t351)) = some r := H
        have A32 := Aside0.mk A320
        clear A320
        have HC33 := Aside0.mk H
        clear H
        have hnb34 := NB335_334.out
        have hnc34 := NB334_335.out
        have hnb35 := NB335_336.out
        have hnc35 := NB336_335.out
        have hcz36_0 : wc.cell? ⟨gb335, 0, none⟩ = some (.bool a0_0) := (blk_cell BK335.out 0).trans rfl
        have hcz36_1 : wc.cell? ⟨gb335, 1, none⟩ = some (.slice A0_1 l0_1.length c0_1) := (blk_cell BK335.out 1).trans rfl
        have hcz36_2 : wc.cell? ⟨gb335, 2, none⟩ = some (.int .i64 a0_2) := (blk_cell BK335.out 2).trans rfl
        have hfz36_0 := blk_frozen BK335.out 0
        have hfz36_1 := blk_frozen BK335.out 1
        have hfz36_2 := blk_frozen BK335.out 2
        go_upto_region 10 with (first | ((with_reducible refine gate_callee (f := 22) rfl ?_); refine goesL_ (some 40) rfl rfl Tryd.func22 (by kernel_rfl) rfl #[.agg #[.bool a0_0, .slice A0_1 l0_1.length c0_1, .int .i64 a0_2], .int .i64 (wrap64 (a0_6))] rfl (by (try simp only [List.map_toArray, List.map_cons, List.map_nil]); first | done | rfl | (simp only [List.length_drop, List.length_take]; rfl)) ?_; (with_reducible refine (dec_Shift.calls a0_0 (fun k_ => k_ < w.heap.size) _ _ l0_1 a0_2 (wrap64 (a0_6)) t340 t341 t344 t345 _ ?side1 A31.out).mono ?_); (case side1 => exact Kd.V_mk HC0_1.out (Kd.F_below (Kd.C_F (Kd.heap_int .u8) HR0_1.out) (by repeat (first | (with_reducible first | exact HB.out | apply below_alloc | apply pw_below_drewN | apply below_drew1 | refine below_set ?_ GE334.out | refine below_set ?_ GE335.out | refine below_set ?_ GE336.out) | exact HB.out)))); rintro e w37 ⟨v342, rfl, ho0, hb⟩; refine ⟨_, rfl, ?_⟩; have n0_ := Aside0.mk (Kd.V_lower (Kd.V_mono (ok' := fun k_ => k_ ≠ gb334 ∧ k_ ≠ gb335 ∧ k_ ≠ gb336) ho0 (fun k_ hk_ => ⟨Or.elim hk_ (fun hs_ => fun e_ => Nat.not_le.2 hs_ (by rw [e_]; exact GW334.out)) (fun hn_ => (Kd.freshB (g := gb334) (o := .cells #[.bool a0_0, .slice A0_1 l0_1.length c0_1, .int .i64 a0_2, .bool a0_3, .slice A0_4 l0_4.length c0_4, .int .i64 a0_5, .int .i16 a0_6, .int .i16 a0_7] 48 (0, 0)) (by (with_reducible repeat (first | refine blk_drewN ?_ _ | refine blk_drew ?_ | refine blk_alloc ?_ _)); exact BK334.out) k_ hn_)), Or.elim hk_ (fun hs_ => fun e_ => Nat.not_le.2 hs_ (by rw [e_]; exact GW335.out)) (fun hn_ => (Kd.freshB (g := gb335) (o := .cells #[.bool a0_0, .slice A0_1 l0_1.length c0_1, .int .i64 a0_2] 24 (0, 0)) (by (with_reducible repeat (first | refine blk_drewN ?_ _ | refine blk_drew ?_ | refine blk_alloc ?_ _)); exact BK335.out) k_ hn_)), Or.elim hk_ (fun hs_ => fun e_ => Nat.not_le.2 hs_ (by rw [e_]; exact GW336.out)) (fun hn_ => (Kd.freshB (g := gb336) (o := .cells #[.bool a0_3, .slice A0_4 l0_4.length c0_4, .int .i64 a0_5] 24 (0, 0)) (by (with_reducible repeat (first | refine blk_drewN ?_ _ | refine blk_drew ?_ | refine blk_alloc ?_ _)); exact BK336.out) k_ hn_))⟩)) (below_size (by repeat (first | (with_reducible first | exact HB.out | apply below_alloc | apply pw_below_drewN | apply below_drew1 | refine below_set ?_ GE334.out | refine below_set ?_ GE335.out | refine below_set ?_ GE336.out) | exact HB.out)))); have n1_ := Aside0.mk (blk_below (g := gb334) (o := .cells #[.bool a0_0, .slice A0_1 l0_1.length c0_1, .int .i64 a0_2, .bool a0_3, .slice A0_4 l0_4.length c0_4, .int .i64 a0_5, .int .i16 a0_6, .int .i16 a0_7] 48 (0, 0)) (by (with_reducible repeat (first | refine blk_drewN ?_ _ | refine blk_drew ?_ | refine blk_alloc ?_ _)); exact BK334.out) hb); have n2_ := Aside0.mk (blk_below (g := gb335) (o := .cells #[.bool a0_0, .slice A0_1 l0_1.length c0_1, .int .i64 a0_2] 24 (0, 0)) (by (with_reducible repeat (first | refine blk_drewN ?_ _ | refine blk_drew ?_ | refine blk_alloc ?_ _)); exact BK335.out) hb); have n3_ := Aside0.mk (blk_below (g := gb336) (o := .cells #[.bool a0_3, .slice A0_4 l0_4.length c0_4, .int .i64 a0_5] 24 (0, 0)) (by (with_reducible repeat (first | refine blk_drewN ?_ _ | refine blk_drew ?_ | refine blk_alloc ?_ _)); exact BK336.out) hb); have n4_ := Aside0.mk (below_step (by repeat (first | (with_reducible first | exact HB.out | apply below_alloc | apply pw_below_drewN | apply below_drew1 | refine below_set ?_ GE334.out | refine below_set ?_ GE335.out | refine below_set ?_ GE336.out) | exact HB.out)) hb); clear BK334; clear BK335; clear BK336; clear HB; have HO343 := n0_; have BK334 := n1_; have BK335 := n2_; have BK336 := n3_; have HB := n4_; clear n0_ n1_ n2_ n3_ n4_; (try clear hb); (try clear hb2); (try clear hk); (try clear hi); (try clear ho0)) | ((with_reducible refine gate_dst (N := 8) rfl ?_); refine box_event ?hg (N := 8) ?hd (cs := #[.bool false, .slice none 0 0, .int .i64 0]) (t := 24) ?hr ?_; (case hd => rfl); (case hg => rfl); (case hr => first | (go_simp; done) | (go_simp; rfl)); intro gb346 hg w38 hbox hb; have n0_ := Aside0.mk (Kd.V_below (Kd.V_elderB (by (with_reducible repeat (first | apply Kd.V_alloc | apply Kd.V_drewN | apply Kd.V_drew)); exact HO343.out) gb346 (Nat.le_of_eq hg.symm)) hb); have n1_ := Aside0.mk (blk_below (g := gb334) (o := .cells #[.bool a0_0, .slice A0_1 l0_1.length c0_1, .int .i64 a0_2, .bool a0_3, .slice A0_4 l0_4.length c0_4, .int .i64 a0_5, .int .i16 a0_6, .int .i16 a0_7] 48 (0, 0)) (by (with_reducible repeat (first | refine blk_drewN ?_ _ | refine blk_drew ?_ | refine blk_alloc ?_ _)); exact BK334.out) hb); have n2_ := Aside0.mk (blk_below (g := gb335) (o := .cells #[.bool a0_0, .slice A0_1 l0_1.length c0_1, .int .i64 a0_2] 24 (0, 0)) (by (with_reducible repeat (first | refine blk_drewN ?_ _ | refine blk_drew ?_ | refine blk_alloc ?_ _)); exact BK335.out) hb); have n3_ := Aside0.mk (blk_below (g := gb336) (o := .cells #[.bool a0_3, .slice A0_4 l0_4.length c0_4, .int .i64 a0_5] 24 (0, 0)) (by (with_reducible repeat (first | refine blk_drewN ?_ _ | refine blk_drew ?_ | refine blk_alloc ?_ _)); exact BK336.out) hb); have n4_ := Aside0.mk (below_step (by repeat (first | (with_reducible first | exact HB.out | apply below_alloc | apply pw_below_drewN | apply below_drew1 | refine below_set ?_ GE334.out | refine below_set ?_ GE335.out | refine below_set ?_ GE336.out) | exact HB.out)) hb); have n5_ := Aside0.mk (hbox); have n6_ := Aside0.mk ((by rw [hg]; exact (below_size (by repeat (first | (with_reducible first | exact HB.out | apply below_alloc | apply pw_below_drewN | apply below_drew1 | refine below_set ?_ GE334.out | refine below_set ?_ GE335.out | refine below_set ?_ GE336.out) | exact HB.out))) : w.heap.size ≤ gb346)); have n7_ := Aside0.mk ((by rw [hg]; exact (below_size (by repeat (first | (with_reducible first | exact HB.out | apply below_alloc | apply pw_below_drewN | apply below_drew1 | refine below_set ?_ GE334.out | refine below_set ?_ GE335.out | refine below_set ?_ GE336.out) | exact HB.out))) : w.heap.size ≤ gb346)); have n8_ := Aside0.mk ((by rw [hg]; exact Nat.ne_of_lt (blk_lt (g := gb334) (o := .cells #[.bool a0_0, .slice A0_1 l0_1.length c0_1, .int .i64 a0_2, .bool a0_3, .slice A0_4 l0_4.length c0_4, .int .i64 a0_5, .int .i16 a0_6, .int .i16 a0_7] 48 (0, 0)) (by (with_reducible repeat (first | refine blk_drewN ?_ _ | refine blk_drew ?_ | refine blk_alloc ?_ _)); exact BK334.out)) : gb334 ≠ gb346)); have n9_ := Aside0.mk ((by rw [hg]; exact Nat.ne_of_gt (blk_lt (g := gb334) (o := .cells #[.bool a0_0, .slice A0_1 l0_1.length c0_1, .int .i64 a0_2, .bool a0_3, .slice A0_4 l0_4.length c0_4, .int .i64 a0_5, .int .i16 a0_6, .int .i16 a0_7] 48 (0, 0)) (by (with_reducible repeat (first | refine blk_drewN ?_ _ | refine blk_drew ?_ | refine blk_alloc ?_ _)); exact BK334.out)) : gb346 ≠ gb334)); have n10_ := Aside0.mk ((by rw [hg]; exact Nat.ne_of_lt (blk_lt (g := gb335) (o := .cells #[.bool a0_0, .slice A0_1 l0_1.length c0_1, .int .i64 a0_2] 24 (0, 0)) (by (with_reducible repeat (first | refine blk_drewN ?_ _ | refine blk_drew ?_ | refine blk_alloc ?_ _)); exact BK335.out)) : gb335 ≠ gb346)); have n11_ := Aside0.mk ((by rw [hg]; exact Nat.ne_of_gt (blk_lt (g := gb335) (o := .cells #[.bool a0_0, .slice A0_1 l0_1.length c0_1, .int .i64 a0_2] 24 (0, 0)) (by (with_reducible repeat (first | refine blk_drewN ?_ _ | refine blk_drew ?_ | refine blk_alloc ?_ _)); exact BK335.out)) : gb346 ≠ gb335)); have n12_ := Aside0.mk ((by rw [hg]; exact Nat.ne_of_lt (blk_lt (g := gb336) (o := .cells #[.bool a0_3, .slice A0_4 l0_4.length c0_4, .int .i64 a0_5] 24 (0, 0)) (by (with_reducible repeat (first | refine blk_drewN ?_ _ | refine blk_drew ?_ | refine blk_alloc ?_ _)); exact BK336.out)) : gb336 ≠ gb346)); have n13_ := Aside0.mk ((by rw [hg]; exact Nat.ne_of_gt (blk_lt (g := gb336) (o := .cells #[.bool a0_3, .slice A0_4 l0_4.length c0_4, .int .i64 a0_5] 24 (0, 0)) (by (with_reducible repeat (first | refine blk_drewN ?_ _ | refine blk_drew ?_ | refine blk_alloc ?_ _)); exact BK336.out)) : gb346 ≠ gb336)); clear HO343; clear BK334; clear BK335; clear BK336; clear HB; have HO343 := n0_; have BK334 := n1_; have BK335 := n2_; have BK336 := n3_; have HB := n4_; have BK346 := n5_; have GW346 := n6_; have GE346 := n7_; have NB334_346 := n8_; have NB346_334 := n9_; have NB335_346 := n10_; have NB346_335 := n11_; have NB336_346 := n12_; have NB346_336 := n13_; clear n0_ n1_ n2_ n3_ n4_ n5_ n6_ n7_ n8_ n9_ n10_ n11_ n12_ n13_; clear hb hbox hg; have hnb39 := NB346_334.out; have hnc39 := NB334_346.out; have hnb40 := NB346_335.out; have hnc40 := NB335_346.out; have hnb41 := NB346_336.out; have hnc41 := NB336_346.out; have hcz42_0 : w38.cell? ⟨gb346, 0, none⟩ = some (.bool false) := (blk_cell BK346.out 0).trans rfl; have hcz42_1 : w38.cell? ⟨gb346, 1, none⟩ = some (.slice none 0 0) := (blk_cell BK346.out 1).trans rfl; have hcz42_2 : w38.cell? ⟨gb346, 2, none⟩ = some (.int .i64 0) := (blk_cell BK346.out 2).trans rfl; have hfz42_0 := blk_frozen BK346.out 0; have hfz42_1 := blk_frozen BK346.out 1; have hfz42_2 := blk_frozen BK346.out 2; obtain ⟨Ao43, co43, eo43⟩ := Kd.V_slice HO343.out; subst eo43) | ((with_reducible refine gate_store (t := 24) (p := 8) rfl ?_); refine store_event (t := 24) (p := 8) (v := ?vo_w44) (w1 := (((w38.setCell ⟨gb346, 0, none⟩ (.bool t340)).setCell ⟨gb346, 1, none⟩ (.slice Ao43 t341.length co43)).setCell ⟨gb346, 2, none⟩ (.int .i64 t344))) ?hg ?ho ?hn ?hr ?_; (case ho => rfl); (case hg => rfl); (case hn => rfl); (case hr => first | (go_simp; done) | (go_simp; rfl)); intro w44 hw; have n0_ : Aside0 (Kd.V (Kd.int .u8) 5 w44 w.heap.size (fun k_ => k_ ≠ gb334 ∧ k_ ≠ gb335 ∧ k_ ≠ gb336 ∧ k_ ≠ gb346) (.slice Ao43 t341.length co43) t341) := ⟨(by rw [hw]; exact (by (with_reducible repeat (first | apply Kd.V_alloc | apply Kd.V_drewN | apply Kd.V_drew)); exact Kd.V_mono (Kd.V_far (p := ⟨gb346, 2, none⟩) (Kd.V_far (p := ⟨gb346, 1, none⟩) (Kd.V_far (p := ⟨gb346, 0, none⟩) (Kd.V_mono HO343.out (fun k_ hk => (⟨hk, hk.2⟩ : _ ∧ k_ ≠ gb346))) (fun _ hk => hk.2) (.bool t340)) (fun _ hk => hk.2) (.slice Ao43 t341.length co43)) (fun _ hk => hk.2) (.int .i64 t344)) (fun _ hk => ⟨hk.1.1.1, ⟨hk.1.1.2.1, ⟨hk.1.1.2.2, hk.1.2⟩⟩⟩)))⟩; have n1_ : Aside0 (w44.heap[gb334]? = some (.cells #[.bool a0_0, .slice A0_1 l0_1.length c0_1, .int .i64 a0_2, .bool a0_3, .slice A0_4 l0_4.length c0_4, .int .i64 a0_5, .int .i16 a0_6, .int .i16 a0_7] 48 (0, 0))) := ⟨(by rw [hw]; exact (by (with_reducible repeat (first | refine blk_drewN ?_ _ | refine blk_drew ?_ | refine blk_alloc ?_ _)); refine blk_far ?_ NB334_346.out _; (with_reducible repeat (first | refine blk_drewN ?_ _ | refine blk_drew ?_ | refine blk_alloc ?_ _)); refine blk_far ?_ NB334_346.out _; (with_reducible repeat (first | refine blk_drewN ?_ _ | refine blk_drew ?_ | refine blk_alloc ?_ _)); refine blk_far ?_ NB334_346.out _; (with_reducible repeat (first | refine blk_drewN ?_ _ | refine blk_drew ?_ | refine blk_alloc ?_ _)); exact BK334.out))⟩; have n2_ : Aside0 (w44.heap[gb335]? = some (.cells #[.bool a0_0, .slice A0_1 l0_1.length c0_1, .int .i64 a0_2] 24 (0, 0))) := ⟨(by rw [hw]; exact (by (with_reducible repeat (first | refine blk_drewN ?_ _ | refine blk_drew ?_ | refine blk_alloc ?_ _)); refine blk_far ?_ NB335_346.out _; (with_reducible repeat (first | refine blk_drewN ?_ _ | refine blk_drew ?_ | refine blk_alloc ?_ _)); refine blk_far ?_ NB335_346.out _; (with_reducible repeat (first | refine blk_drewN ?_ _ | refine blk_drew ?_ | refine blk_alloc ?_ _)); refine blk_far ?_ NB335_346.out _; (with_reducible repeat (first | refine blk_drewN ?_ _ | refine blk_drew ?_ | refine blk_alloc ?_ _)); exact BK335.out))⟩; have n3_ : Aside0 (w44.heap[gb336]? = some (.cells #[.bool a0_3, .slice A0_4 l0_4.length c0_4, .int .i64 a0_5] 24 (0, 0))) := ⟨(by rw [hw]; exact (by (with_reducible repeat (first | refine blk_drewN ?_ _ | refine blk_drew ?_ | refine blk_alloc ?_ _)); refine blk_far ?_ NB336_346.out _; (with_reducible repeat (first | refine blk_drewN ?_ _ | refine blk_drew ?_ | refine blk_alloc ?_ _)); refine blk_far ?_ NB336_346.out _; (with_reducible repeat (first | refine blk_drewN ?_ _ | refine blk_drew ?_ | refine blk_alloc ?_ _)); refine blk_far ?_ NB336_346.out _; (with_reducible repeat (first | refine blk_drewN ?_ _ | refine blk_drew ?_ | refine blk_alloc ?_ _)); exact BK336.out))⟩; have n4_ : Aside0 (w44.heap[gb346]? = some (.cells #[.bool t340, .slice Ao43 t341.length co43, .int .i64 t344] 24 (0, 0))) := ⟨(by rw [hw]; exact (by (with_reducible repeat (first | refine blk_drewN ?_ _ | refine blk_drew ?_ | refine blk_alloc ?_ _)); refine blk_put (cs := #[.bool t340, .slice Ao43 t341.length co43, .int .i64 0]) ?_ 2 _ rfl; (with_reducible repeat (first | refine blk_drewN ?_ _ | refine blk_drew ?_ | refine blk_alloc ?_ _)); refine blk_put (cs := #[.bool t340, .slice none 0 0, .int .i64 0]) ?_ 1 _ rfl; (with_reducible repeat (first | refine blk_drewN ?_ _ | refine blk_drew ?_ | refine blk_alloc ?_ _)); refine blk_put (cs := #[.bool false, .slice none 0 0, .int .i64 0]) ?_ 0 _ rfl; (with_reducible repeat (first | refine blk_drewN ?_ _ | refine blk_drew ?_ | refine blk_alloc ?_ _)); exact BK346.out))⟩; have n5_ : Aside0 (Below w.heap.size w w44) := ⟨(by rw [hw]; exact (by repeat (first | (with_reducible first | exact HB.out | apply below_alloc | apply pw_below_drewN | apply below_drew1 | refine below_set ?_ GE334.out | refine below_set ?_ GE335.out | refine below_set ?_ GE336.out | refine below_set ?_ GE346.out) | exact HB.out)))⟩; clear hw; clear HO343; clear BK334; clear BK335; clear BK336; clear BK346; clear HB; have HO343 := n0_; have BK334 := n1_; have BK335 := n2_; have BK336 := n3_; have BK346 := n4_; have HB := n5_; clear n0_ n1_ n2_ n3_ n4_ n5_; have hnb45 := NB336_334.out; have hnc45 := NB334_336.out; have hcz46_0 : w44.cell? ⟨gb336, 0, none⟩ = some (.bool a0_3) := (blk_cell BK336.out 0).trans rfl; have hcz46_1 : w44.cell? ⟨gb336, 1, none⟩ = some (.slice A0_4 l0_4.length c0_4) := (blk_cell BK336.out 1).trans rfl; have hcz46_2 : w44.cell? ⟨gb336, 2, none⟩ = some (.int .i64 a0_5) := (blk_cell BK336.out 2).trans rfl; have hfz46_0 := blk_frozen BK336.out 0; have hfz46_1 := blk_frozen BK336.out 1; have hfz46_2 := blk_frozen BK336.out 2) | ((with_reducible refine gate_callee (f := 22) rfl ?_); refine goesL_ (some 47) rfl rfl Tryd.func22 (by kernel_rfl) rfl #[.agg #[.bool a0_3, .slice A0_4 l0_4.length c0_4, .int .i64 a0_5], .int .i64 (wrap64 (a0_6))] rfl (by (try simp only [List.map_toArray, List.map_cons, List.map_nil]); first | done | rfl | (simp only [List.length_drop, List.length_take]; rfl)) ?_; (with_reducible refine (dec_Shift.calls a0_3 (fun k_ => k_ < w.heap.size) _ _ l0_4 a0_5 (wrap64 (a0_6)) t347 t348 t351 t352 _ ?side1 A32.out).mono ?_); (case side1 => exact Kd.V_mk HC0_4.out (Kd.F_below (Kd.C_F (Kd.heap_int .u8) HR0_4.out) (by repeat (first | (with_reducible first | exact HB.out | apply below_alloc | apply pw_below_drewN | apply below_drew1 | refine below_set ?_ GE334.out | refine below_set ?_ GE335.out | refine below_set ?_ GE336.out | refine below_set ?_ GE346.out) | exact HB.out)))); rintro e w47 ⟨v349, rfl, ho0, hb⟩; refine ⟨_, rfl, ?_⟩; have n0_ := Aside0.mk (Kd.V_below (by (with_reducible repeat (first | apply Kd.V_alloc | apply Kd.V_drewN | apply Kd.V_drew)); exact HO343.out) hb); have n1_ := Aside0.mk (Kd.V_lower (Kd.V_mono (ok' := fun k_ => k_ ≠ gb334 ∧ k_ ≠ gb335 ∧ k_ ≠ gb336 ∧ k_ ≠ gb346) ho0 (fun k_ hk_ => ⟨Or.elim hk_ (fun hs_ => fun e_ => Nat.not_le.2 hs_ (by rw [e_]; exact GW334.out)) (fun hn_ => (Kd.freshB (g := gb334) (o := .cells #[.bool a0_0, .slice A0_1 l0_1.length c0_1, .int .i64 a0_2, .bool a0_3, .slice A0_4 l0_4.length c0_4, .int .i64 a0_5, .int .i16 a0_6, .int .i16 a0_7] 48 (0, 0)) (by (with_reducible repeat (first | refine blk_drewN ?_ _ | refine blk_drew ?_ | refine blk_alloc ?_ _)); exact BK334.out) k_ hn_)), Or.elim hk_ (fun hs_ => fun e_ => Nat.not_le.2 hs_ (by rw [e_]; exact GW335.out)) (fun hn_ => (Kd.freshB (g := gb335) (o := .cells #[.bool a0_0, .slice A0_1 l0_1.length c0_1, .int .i64 a0_2] 24 (0, 0)) (by (with_reducible repeat (first | refine blk_drewN ?_ _ | refine blk_drew ?_ | refine blk_alloc ?_ _)); exact BK335.out) k_ hn_)), Or.elim hk_ (fun hs_ => fun e_ => Nat.not_le.2 hs_ (by rw [e_]; exact GW336.out)) (fun hn_ => (Kd.freshB (g := gb336) (o := .cells #[.bool a0_3, .slice A0_4 l0_4.length c0_4, .int .i64 a0_5] 24 (0, 0)) (by (with_reducible repeat (first | refine blk_drewN ?_ _ | refine blk_drew ?_ | refine blk_alloc ?_ _)); exact BK336.out) k_ hn_)), Or.elim hk_ (fun hs_ => fun e_ => Nat.not_le.2 hs_ (by rw [e_]; exact GW346.out)) (fun hn_ => (Kd.freshB (g := gb346) (o := .cells #[.bool t340, .slice Ao43 t341.length co43, .int .i64 t344] 24 (0, 0)) (by (with_reducible repeat (first | refine blk_drewN ?_ _ | refine blk_drew ?_ | refine blk_alloc ?_ _)); exact BK346.out) k_ hn_))⟩)) (below_size (by repeat (first | (with_reducible first | exact HB.out | apply below_alloc | apply pw_below_drewN | apply below_drew1 | refine below_set ?_ GE334.out | refine below_set ?_ GE335.out | refine below_set ?_ GE336.out | refine below_set ?_ GE346.out) | exact HB.out)))); have n2_ := Aside0.mk (blk_below (g := gb334) (o := .cells #[.bool a0_0, .slice A0_1 l0_1.length c0_1, .int .i64 a0_2, .bool a0_3, .slice A0_4 l0_4.length c0_4, .int .i64 a0_5, .int .i16 a0_6, .int .i16 a0_7] 48 (0, 0)) (by (with_reducible repeat (first | refine blk_drewN ?_ _ | refine blk_drew ?_ | refine blk_alloc ?_ _)); exact BK334.out) hb); have n3_ := Aside0.mk (blk_below (g := gb335) (o := .cells #[.bool a0_0, .slice A0_1 l0_1.length c0_1, .int .i64 a0_2] 24 (0, 0)) (by (with_reducible repeat (first | refine blk_drewN ?_ _ | refine blk_drew ?_ | refine blk_alloc ?_ _)); exact BK335.out) hb); have n4_ := Aside0.mk (blk_below (g := gb336) (o := .cells #[.bool a0_3, .slice A0_4 l0_4.length c0_4, .int .i64 a0_5] 24 (0, 0)) (by (with_reducible repeat (first | refine blk_drewN ?_ _ | refine blk_drew ?_ | refine blk_alloc ?_ _)); exact BK336.out) hb); have n5_ := Aside0.mk (blk_below (g := gb346) (o := .cells #[.bool t340, .slice Ao43 t341.length co43, .int .i64 t344] 24 (0, 0)) (by (with_reducible repeat (first | refine blk_drewN ?_ _ | refine blk_drew ?_ | refine blk_alloc ?_ _)); exact BK346.out) hb); have n6_ := Aside0.mk (below_step (by repeat (first | (with_reducible first | exact HB.out | apply below_alloc | apply pw_below_drewN | apply below_drew1 | refine below_set ?_ GE334.out | refine below_set ?_ GE335.out | refine below_set ?_ GE336.out | refine below_set ?_ GE346.out) | exact HB.out)) hb); clear HO343; clear BK334; clear BK335; clear BK336; clear BK346; clear HB; have HO343 := n0_; have HO350 := n1_; have BK334 := n2_; have BK335 := n3_; have BK336 := n4_; have BK346 := n5_; have HB := n6_; clear n0_ n1_ n2_ n3_ n4_ n5_ n6_; (try clear hb); (try clear hb2); (try clear hk); (try clear hi); (try clear ho0)) | ((with_reducible refine gate_dst (N := 10) rfl ?_); refine box_event ?hg (N := 10) ?hd (cs := #[.bool false, .slice none 0 0, .int .i64 0]) (t := 24) ?hr ?_; (case hd => rfl); (case hg => rfl); (case hr => first | (go_simp; done) | (go_simp; rfl)); intro gb353 hg w48 hbox hb; have n0_ := Aside0.mk (Kd.V_below (Kd.V_elderB (by (with_reducible repeat (first | apply Kd.V_alloc | apply Kd.V_drewN | apply Kd.V_drew)); exact HO343.out) gb353 (Nat.le_of_eq hg.symm)) hb); have n1_ := Aside0.mk (Kd.V_below (Kd.V_elderB (by (with_reducible repeat (first | apply Kd.V_alloc | apply Kd.V_drewN | apply Kd.V_drew)); exact HO350.out) gb353 (Nat.le_of_eq hg.symm)) hb); have n2_ := Aside0.mk (blk_below (g := gb334) (o := .cells #[.bool a0_0, .slice A0_1 l0_1.length c0_1, .int .i64 a0_2, .bool a0_3, .slice A0_4 l0_4.length c0_4, .int .i64 a0_5, .int .i16 a0_6, .int .i16 a0_7] 48 (0, 0)) (by (with_reducible repeat (first | refine blk_drewN ?_ _ | refine blk_drew ?_ | refine blk_alloc ?_ _)); exact BK334.out) hb); have n3_ := Aside0.mk (blk_below (g := gb335) (o := .cells #[.bool a0_0, .slice A0_1 l0_1.length c0_1, .int .i64 a0_2] 24 (0, 0)) (by (with_reducible repeat (first | refine blk_drewN ?_ _ | refine blk_drew ?_ | refine blk_alloc ?_ _)); exact BK335.out) hb); have n4_ := Aside0.mk (blk_below (g := gb336) (o := .cells #[.bool a0_3, .slice A0_4 l0_4.length c0_4, .int .i64 a0_5] 24 (0, 0)) (by (with_reducible repeat (first | refine blk_drewN ?_ _ | refine blk_drew ?_ | refine blk_alloc ?_ _)); exact BK336.out) hb); have n5_ := Aside0.mk (blk_below (g := gb346) (o := .cells #[.bool t340, .slice Ao43 t341.length co43, .int .i64 t344] 24 (0, 0)) (by (with_reducible repeat (first | refine blk_drewN ?_ _ | refine blk_drew ?_ | refine blk_alloc ?_ _)); exact BK346.out) hb); have n6_ := Aside0.mk (below_step (by repeat (first | (with_reducible first | exact HB.out | apply below_alloc | apply pw_below_drewN | apply below_drew1 | refine below_set ?_ GE334.out | refine below_set ?_ GE335.out | refine below_set ?_ GE336.out | refine below_set ?_ GE346.out) | exact HB.out)) hb); have n7_ := Aside0.mk (hbox); have n8_ := Aside0.mk ((by rw [hg]; exact (below_size (by repeat (first | (with_reducible first | exact HB.out | apply below_alloc | apply pw_below_drewN | apply below_drew1 | refine below_set ?_ GE334.out | refine below_set ?_ GE335.out | refine below_set ?_ GE336.out | refine below_set ?_ GE346.out) | exact HB.out))) : w.heap.size ≤ gb353)); have n9_ := Aside0.mk ((by rw [hg]; exact (below_size (by repeat (first | (with_reducible first | exact HB.out | apply below_alloc | apply pw_below_drewN | apply below_drew1 | refine below_set ?_ GE334.out | refine below_set ?_ GE335.out | refine below_set ?_ GE336.out | refine below_set ?_ GE346.out) | exact HB.out))) : w.heap.size ≤ gb353)); have n10_ := Aside0.mk ((by rw [hg]; exact Nat.ne_of_lt (blk_lt (g := gb334) (o := .cells #[.bool a0_0, .slice A0_1 l0_1.length c0_1, .int .i64 a0_2, .bool a0_3, .slice A0_4 l0_4.length c0_4, .int .i64 a0_5, .int .i16 a0_6, .int .i16 a0_7] 48 (0, 0)) (by (with_reducible repeat (first | refine blk_drewN ?_ _ | refine blk_drew ?_ | refine blk_alloc ?_ _)); exact BK334.out)) : gb334 ≠ gb353)); have n11_ := Aside0.mk ((by rw [hg]; exact Nat.ne_of_gt (blk_lt (g := gb334) (o := .cells #[.bool a0_0, .slice A0_1 l0_1.length c0_1, .int .i64 a0_2, .bool a0_3, .slice A0_4 l0_4.length c0_4, .int .i64 a0_5, .int .i16 a0_6, .int .i16 a0_7] 48 (0, 0)) (by (with_reducible repeat (first | refine blk_drewN ?_ _ | refine blk_drew ?_ | refine blk_alloc ?_ _)); exact BK334.out)) : gb353 ≠ gb334)); have n12_ := Aside0.mk ((by rw [hg]; exact Nat.ne_of_lt (blk_lt (g := gb335) (o := .cells #[.bool a0_0, .slice A0_1 l0_1.length c0_1, .int .i64 a0_2] 24 (0, 0)) (by (with_reducible repeat (first | refine blk_drewN ?_ _ | refine blk_drew ?_ | refine blk_alloc ?_ _)); exact BK335.out)) : gb335 ≠ gb353)); have n13_ := Aside0.mk ((by rw [hg]; exact Nat.ne_of_gt (blk_lt (g := gb335) (o := .cells #[.bool a0_0, .slice A0_1 l0_1.length c0_1, .int .i64 a0_2] 24 (0, 0)) (by (with_reducible repeat (first | refine blk_drewN ?_ _ | refine blk_drew ?_ | refine blk_alloc ?_ _)); exact BK335.out)) : gb353 ≠ gb335)); have n14_ := Aside0.mk ((by rw [hg]; exact Nat.ne_of_lt (blk_lt (g := gb336) (o := .cells #[.bool a0_3, .slice A0_4 l0_4.length c0_4, .int .i64 a0_5] 24 (0, 0)) (by (with_reducible repeat (first | refine blk_drewN ?_ _ | refine blk_drew ?_ | refine blk_alloc ?_ _)); exact BK336.out)) : gb336 ≠ gb353)); have n15_ := Aside0.mk ((by rw [hg]; exact Nat.ne_of_gt (blk_lt (g := gb336) (o := .cells #[.bool a0_3, .slice A0_4 l0_4.length c0_4, .int .i64 a0_5] 24 (0, 0)) (by (with_reducible repeat (first | refine blk_drewN ?_ _ | refine blk_drew ?_ | refine blk_alloc ?_ _)); exact BK336.out)) : gb353 ≠ gb336)); have n16_ := Aside0.mk ((by rw [hg]; exact Nat.ne_of_lt (blk_lt (g := gb346) (o := .cells #[.bool t340, .slice Ao43 t341.length co43, .int .i64 t344] 24 (0, 0)) (by (with_reducible repeat (first | refine blk_drewN ?_ _ | refine blk_drew ?_ | refine blk_alloc ?_ _)); exact BK346.out)) : gb346 ≠ gb353)); have n17_ := Aside0.mk ((by rw [hg]; exact Nat.ne_of_gt (blk_lt (g := gb346) (o := .cells #[.bool t340, .slice Ao43 t341.length co43, .int .i64 t344] 24 (0, 0)) (by (with_reducible repeat (first | refine blk_drewN ?_ _ | refine blk_drew ?_ | refine blk_alloc ?_ _)); exact BK346.out)) : gb353 ≠ gb346)); clear HO343; clear HO350; clear BK334; clear BK335; clear BK336; clear BK346; clear HB; have HO343 := n0_; have HO350 := n1_; have BK334 := n2_; have BK335 := n3_; have BK336 := n4_; have BK346 := n5_; have HB := n6_; have BK353 := n7_; have GW353 := n8_; have GE353 := n9_; have NB334_353 := n10_; have NB353_334 := n11_; have NB335_353 := n12_; have NB353_335 := n13_; have NB336_353 := n14_; have NB353_336 := n15_; have NB346_353 := n16_; have NB353_346 := n17_; clear n0_ n1_ n2_ n3_ n4_ n5_ n6_ n7_ n8_ n9_ n10_ n11_ n12_ n13_ n14_ n15_ n16_ n17_; clear hb hbox hg; have hnb49 := NB353_334.out; have hnc49 := NB334_353.out; have hnb50 := NB353_335.out; have hnc50 := NB335_353.out; have hnb51 := NB353_336.out; have hnc51 := NB336_353.out; have hnb52 := NB353_346.out; have hnc52 := NB346_353.out; have hcz53_0 : w48.cell? ⟨gb353, 0, none⟩ = some (.bool false) := (blk_cell BK353.out 0).trans rfl; have hcz53_1 : w48.cell? ⟨gb353, 1, none⟩ = some (.slice none 0 0) := (blk_cell BK353.out 1).trans rfl; have hcz53_2 : w48.cell? ⟨gb353, 2, none⟩ = some (.int .i64 0) := (blk_cell BK353.out 2).trans rfl; have hfz53_0 := blk_frozen BK353.out 0; have hfz53_1 := blk_frozen BK353.out 1; have hfz53_2 := blk_frozen BK353.out 2; obtain ⟨Ao54, co54, eo54⟩ := Kd.V_slice HO350.out; subst eo54))
        (try simp only [Act.put, List.setIfInBounds_toArray, List.set_cons_zero, List.set_cons_succ])
        go_cut [55] (fun v55 wc => ∃ (kq : Nat) (x55_32 : Bool), v55 = .bool x55_32 ∧ Aside0 (exerguelaw05_DecShifts.j1 kq a0_6 a0_7 t337 x55_32 a0_0 l0_1 a0_2 a0_3 l0_4 a0_5 t340 t341 t344 t347 t348 t351 = some r) ∧ Aside0 (kq ≤ kj2) ∧ Aside0 (Kd.V (Kd.int .u8) 5 wc w.heap.size (fun k_ => k_ ≠ gb334 ∧ k_ ≠ gb335 ∧ k_ ≠ gb336 ∧ k_ ≠ gb346 ∧ k_ ≠ gb353) (.slice Ao43 t341.length co43) t341) ∧ Aside0 (Kd.V (Kd.int .u8) 5 wc w.heap.size (fun k_ => k_ ≠ gb334 ∧ k_ ≠ gb335 ∧ k_ ≠ gb336 ∧ k_ ≠ gb346 ∧ k_ ≠ gb353) (.slice Ao54 t348.length co54) t348) ∧ Aside0 (wc.heap[gb334]? = some (.cells #[.bool a0_0, (.slice A0_1 l0_1.length c0_1), .int .i64 a0_2, .bool a0_3, (.slice A0_4 l0_4.length c0_4), .int .i64 a0_5, .int .i16 a0_6, .int .i16 a0_7] 48 (0, 0))) ∧ Aside0 (wc.heap[gb335]? = some (.cells #[.bool a0_0, (.slice A0_1 l0_1.length c0_1), .int .i64 a0_2] 24 (0, 0))) ∧ Aside0 (wc.heap[gb336]? = some (.cells #[.bool a0_3, (.slice A0_4 l0_4.length c0_4), .int .i64 a0_5] 24 (0, 0))) ∧ Aside0 (wc.heap[gb346]? = some (.cells #[.bool t340, (.slice Ao43 t341.length co43), .int .i64 t344] 24 (0, 0))) ∧ Aside0 (wc.heap[gb353]? = some (.cells #[.bool t347, (.slice Ao54 t348.length co54), .int .i64 t351] 24 (0, 0))) ∧ Aside0 (Below w.heap.size w wc))
        case first =>
          have H := HC33.out
          clear HC33
          by_cases c55 : t345 = 0
          · rw [if_pos c55] at H
            have c55b0 : (t345 == 0) = true := beq_iff_eq.mpr c55
            have c55b1 : (t345 != 0) = false := bne_eq_false_iff_eq.mpr c55
            clear c55
            (first | rw [c55b0] | (simp only [i64_w, i32_w]; rw [c55b0]) | skip)
            have H' := Aside0.mk H
            clear H
            go_wp2
            go_meet
            case rel => exact ⟨_, ((t352 != 0)), (by first | rfl | (simp; done) | (simp [*]; done)), H', ⟨by have := HJ2.out; first | omega | exact Nat.le_refl _⟩, ⟨by (with_reducible repeat (first | apply Kd.V_alloc | apply Kd.V_drewN | apply Kd.V_drew)); exact Kd.V_mono (Kd.V_far (p := ⟨gb353, 2, none⟩) (Kd.V_far (p := ⟨gb353, 1, none⟩) (Kd.V_far (p := ⟨gb353, 0, none⟩) (Kd.V_mono HO343.out (fun k_ hk => (⟨hk, hk.2⟩ : _ ∧ k_ ≠ gb353))) (fun _ hk => hk.2) (.bool t347)) (fun _ hk => hk.2) (.slice Ao54 t348.length co54)) (fun _ hk => hk.2) (.int .i64 t351)) (fun _ hk => ⟨hk.1.1.1, ⟨hk.1.1.2.1, ⟨hk.1.1.2.2.1, ⟨hk.1.1.2.2.2, hk.1.2⟩⟩⟩⟩)⟩, ⟨by (with_reducible repeat (first | apply Kd.V_alloc | apply Kd.V_drewN | apply Kd.V_drew)); exact Kd.V_mono (Kd.V_far (p := ⟨gb353, 2, none⟩) (Kd.V_far (p := ⟨gb353, 1, none⟩) (Kd.V_far (p := ⟨gb353, 0, none⟩) (Kd.V_mono HO350.out (fun k_ hk => (⟨hk, hk.2⟩ : _ ∧ k_ ≠ gb353))) (fun _ hk => hk.2) (.bool t347)) (fun _ hk => hk.2) (.slice Ao54 t348.length co54)) (fun _ hk => hk.2) (.int .i64 t351)) (fun _ hk => ⟨hk.1.1.1, ⟨hk.1.1.2.1, ⟨hk.1.1.2.2.1, ⟨hk.1.1.2.2.2, hk.1.2⟩⟩⟩⟩)⟩, ⟨by (with_reducible repeat (first | refine blk_drewN ?_ _ | refine blk_drew ?_ | refine blk_alloc ?_ _)); refine blk_far ?_ NB334_353.out _; (with_reducible repeat (first | refine blk_drewN ?_ _ | refine blk_drew ?_ | refine blk_alloc ?_ _)); refine blk_far ?_ NB334_353.out _; (with_reducible repeat (first | refine blk_drewN ?_ _ | refine blk_drew ?_ | refine blk_alloc ?_ _)); refine blk_far ?_ NB334_353.out _; (with_reducible repeat (first | refine blk_drewN ?_ _ | refine blk_drew ?_ | refine blk_alloc ?_ _)); exact BK334.out⟩, ⟨by (with_reducible repeat (first | refine blk_drewN ?_ _ | refine blk_drew ?_ | refine blk_alloc ?_ _)); refine blk_far ?_ NB335_353.out _; (with_reducible repeat (first | refine blk_drewN ?_ _ | refine blk_drew ?_ | refine blk_alloc ?_ _)); refine blk_far ?_ NB335_353.out _; (with_reducible repeat (first | refine blk_drewN ?_ _ | refine blk_drew ?_ | refine blk_alloc ?_ _)); refine blk_far ?_ NB335_353.out _; (with_reducible repeat (first | refine blk_drewN ?_ _ | refine blk_drew ?_ | refine blk_alloc ?_ _)); exact BK335.out⟩, ⟨by (with_reducible repeat (first | refine blk_drewN ?_ _ | refine blk_drew ?_ | refine blk_alloc ?_ _)); refine blk_far ?_ NB336_353.out _; (with_reducible repeat (first | refine blk_drewN ?_ _ | refine blk_drew ?_ | refine blk_alloc ?_ _)); refine blk_far ?_ NB336_353.out _; (with_reducible repeat (first | refine blk_drewN ?_ _ | refine blk_drew ?_ | refine blk_alloc ?_ _)); refine blk_far ?_ NB336_353.out _; (with_reducible repeat (first | refine blk_drewN ?_ _ | refine blk_drew ?_ | refine blk_alloc ?_ _)); exact BK336.out⟩, ⟨by (with_reducible repeat (first | refine blk_drewN ?_ _ | refine blk_drew ?_ | refine blk_alloc ?_ _)); refine blk_far ?_ NB346_353.out _; (with_reducible repeat (first | refine blk_drewN ?_ _ | refine blk_drew ?_ | refine blk_alloc ?_ _)); refine blk_far ?_ NB346_353.out _; (with_reducible repeat (first | refine blk_drewN ?_ _ | refine blk_drew ?_ | refine blk_alloc ?_ _)); refine blk_far ?_ NB346_353.out _; (with_reducible repeat (first | refine blk_drewN ?_ _ | refine blk_drew ?_ | refine blk_alloc ?_ _)); exact BK346.out⟩, ⟨by (with_reducible repeat (first | refine blk_drewN ?_ _ | refine blk_drew ?_ | refine blk_alloc ?_ _)); refine blk_put (cs := #[.bool t347, .slice Ao54 t348.length co54, .int .i64 0]) ?_ 2 _ rfl; (with_reducible repeat (first | refine blk_drewN ?_ _ | refine blk_drew ?_ | refine blk_alloc ?_ _)); refine blk_put (cs := #[.bool t347, .slice none 0 0, .int .i64 0]) ?_ 1 _ rfl; (with_reducible repeat (first | refine blk_drewN ?_ _ | refine blk_drew ?_ | refine blk_alloc ?_ _)); refine blk_put (cs := #[.bool false, .slice none 0 0, .int .i64 0]) ?_ 0 _ rfl; (with_reducible repeat (first | refine blk_drewN ?_ _ | refine blk_drew ?_ | refine blk_alloc ?_ _)); exact BK353.out⟩, ⟨by repeat (first | (with_reducible first | exact HB.out | apply below_alloc | apply pw_below_drewN | apply below_drew1 | refine below_set ?_ GE334.out | refine below_set ?_ GE335.out | refine below_set ?_ GE336.out | refine below_set ?_ GE346.out | refine below_set ?_ GE353.out) | exact HB.out)⟩⟩
          · rw [if_neg c55] at H
            have c55b0 : (t345 == 0) = false := beq_eq_false_iff_ne.mpr c55
            have c55b1 : (t345 != 0) = true := bne_iff_ne.mpr c55
            (first | rw [c55b0] | (simp only [i64_w, i32_w]; rw [c55b0]) | skip)
            have H' := Aside0.mk H
            clear H
            go_wp2
            go_meet
            case rel => exact ⟨_, (true), (by first | rfl | (simp; done) | (simp [*]; done)), H', ⟨by have := HJ2.out; first | omega | exact Nat.le_refl _⟩, ⟨by (with_reducible repeat (first | apply Kd.V_alloc | apply Kd.V_drewN | apply Kd.V_drew)); exact Kd.V_mono (Kd.V_far (p := ⟨gb353, 2, none⟩) (Kd.V_far (p := ⟨gb353, 1, none⟩) (Kd.V_far (p := ⟨gb353, 0, none⟩) (Kd.V_mono HO343.out (fun k_ hk => (⟨hk, hk.2⟩ : _ ∧ k_ ≠ gb353))) (fun _ hk => hk.2) (.bool t347)) (fun _ hk => hk.2) (.slice Ao54 t348.length co54)) (fun _ hk => hk.2) (.int .i64 t351)) (fun _ hk => ⟨hk.1.1.1, ⟨hk.1.1.2.1, ⟨hk.1.1.2.2.1, ⟨hk.1.1.2.2.2, hk.1.2⟩⟩⟩⟩)⟩, ⟨by (with_reducible repeat (first | apply Kd.V_alloc | apply Kd.V_drewN | apply Kd.V_drew)); exact Kd.V_mono (Kd.V_far (p := ⟨gb353, 2, none⟩) (Kd.V_far (p := ⟨gb353, 1, none⟩) (Kd.V_far (p := ⟨gb353, 0, none⟩) (Kd.V_mono HO350.out (fun k_ hk => (⟨hk, hk.2⟩ : _ ∧ k_ ≠ gb353))) (fun _ hk => hk.2) (.bool t347)) (fun _ hk => hk.2) (.slice Ao54 t348.length co54)) (fun _ hk => hk.2) (.int .i64 t351)) (fun _ hk => ⟨hk.1.1.1, ⟨hk.1.1.2.1, ⟨hk.1.1.2.2.1, ⟨hk.1.1.2.2.2, hk.1.2⟩⟩⟩⟩)⟩, ⟨by (with_reducible repeat (first | refine blk_drewN ?_ _ | refine blk_drew ?_ | refine blk_alloc ?_ _)); refine blk_far ?_ NB334_353.out _; (with_reducible repeat (first | refine blk_drewN ?_ _ | refine blk_drew ?_ | refine blk_alloc ?_ _)); refine blk_far ?_ NB334_353.out _; (with_reducible repeat (first | refine blk_drewN ?_ _ | refine blk_drew ?_ | refine blk_alloc ?_ _)); refine blk_far ?_ NB334_353.out _; (with_reducible repeat (first | refine blk_drewN ?_ _ | refine blk_drew ?_ | refine blk_alloc ?_ _)); exact BK334.out⟩, ⟨by (with_reducible repeat (first | refine blk_drewN ?_ _ | refine blk_drew ?_ | refine blk_alloc ?_ _)); refine blk_far ?_ NB335_353.out _; (with_reducible repeat (first | refine blk_drewN ?_ _ | refine blk_drew ?_ | refine blk_alloc ?_ _)); refine blk_far ?_ NB335_353.out _; (with_reducible repeat (first | refine blk_drewN ?_ _ | refine blk_drew ?_ | refine blk_alloc ?_ _)); refine blk_far ?_ NB335_353.out _; (with_reducible repeat (first | refine blk_drewN ?_ _ | refine blk_drew ?_ | refine blk_alloc ?_ _)); exact BK335.out⟩, ⟨by (with_reducible repeat (first | refine blk_drewN ?_ _ | refine blk_drew ?_ | refine blk_alloc ?_ _)); refine blk_far ?_ NB336_353.out _; (with_reducible repeat (first | refine blk_drewN ?_ _ | refine blk_drew ?_ | refine blk_alloc ?_ _)); refine blk_far ?_ NB336_353.out _; (with_reducible repeat (first | refine blk_drewN ?_ _ | refine blk_drew ?_ | refine blk_alloc ?_ _)); refine blk_far ?_ NB336_353.out _; (with_reducible repeat (first | refine blk_drewN ?_ _ | refine blk_drew ?_ | refine blk_alloc ?_ _)); exact BK336.out⟩, ⟨by (with_reducible repeat (first | refine blk_drewN ?_ _ | refine blk_drew ?_ | refine blk_alloc ?_ _)); refine blk_far ?_ NB346_353.out _; (with_reducible repeat (first | refine blk_drewN ?_ _ | refine blk_drew ?_ | refine blk_alloc ?_ _)); refine blk_far ?_ NB346_353.out _; (with_reducible repeat (first | refine blk_drewN ?_ _ | refine blk_drew ?_ | refine blk_alloc ?_ _)); refine blk_far ?_ NB346_353.out _; (with_reducible repeat (first | refine blk_drewN ?_ _ | refine blk_drew ?_ | refine blk_alloc ?_ _)); exact BK346.out⟩, ⟨by (with_reducible repeat (first | refine blk_drewN ?_ _ | refine blk_drew ?_ | refine blk_alloc ?_ _)); refine blk_put (cs := #[.bool t347, .slice Ao54 t348.length co54, .int .i64 0]) ?_ 2 _ rfl; (with_reducible repeat (first | refine blk_drewN ?_ _ | refine blk_drew ?_ | refine blk_alloc ?_ _)); refine blk_put (cs := #[.bool t347, .slice none 0 0, .int .i64 0]) ?_ 1 _ rfl; (with_reducible repeat (first | refine blk_drewN ?_ _ | refine blk_drew ?_ | refine blk_alloc ?_ _)); refine blk_put (cs := #[.bool false, .slice none 0 0, .int .i64 0]) ?_ 0 _ rfl; (with_reducible repeat (first | refine blk_drewN ?_ _ | refine blk_drew ?_ | refine blk_alloc ?_ _)); exact BK353.out⟩, ⟨by repeat (first | (with_reducible first | exact HB.out | apply below_alloc | apply pw_below_drewN | apply below_drew1 | refine below_set ?_ GE334.out | refine below_set ?_ GE335.out | refine below_set ?_ GE336.out | refine below_set ?_ GE346.out | refine below_set ?_ GE353.out) | exact HB.out)⟩⟩
        case rest =>
          clear HC33
          try clear c1
          try clear c2
          try clear p2
          try clear c3
          try clear c4
          try clear c5
          try clear p6
          try clear c7
          try clear c9
          try clear c10
          try clear c11
          try clear c12
          try clear c14
          try clear c17
          try clear c19
          try clear c20
          try clear c22
          try clear c23
          try clear c26
          try clear c27
          try clear c30
          try clear c34
          try clear c35
          try clear c39
          try clear c40
          try clear c41
          try clear c45
          try clear c49
          try clear c50
          try clear c51
          try clear c52
          try clear c55
          try clear c55b0
          try clear c55b1
          try clear hcz13_0
          try clear hcz13_1
          try clear hcz13_2
          try clear hcz14_0
          try clear hcz14_1
          try clear hcz14_2
          try clear hcz14_3
          try clear hcz14_4
          try clear hcz14_5
          try clear hcz14_6
          try clear hcz14_7
          try clear hcz21_0
          try clear hcz21_1
          try clear hcz21_2
          try clear hcz24_0
          try clear hcz24_1
          try clear hcz24_2
          try clear hcz28_0
          try clear hcz28_1
          try clear hcz28_2
          try clear hcz36_0
          try clear hcz36_1
          try clear hcz36_2
          try clear hcz42_0
          try clear hcz42_1
          try clear hcz42_2
          try clear hcz46_0
          try clear hcz46_1
          try clear hcz46_2
          try clear hcz53_0
          try clear hcz53_1
          try clear hcz53_2
          try clear hcz5_0
          try clear hcz5_1
          try clear hcz5_2
          try clear hcz5_3
          try clear hcz5_4
          try clear hcz5_5
          try clear hcz5_6
          try clear hcz5_7
          try clear hcz8_0
          try clear hcz8_1
          try clear hcz8_2
          try clear hcz9_0
          try clear hcz9_1
          try clear hcz9_2
          try clear hcz9_3
          try clear hcz9_4
          try clear hcz9_5
          try clear hcz9_6
          try clear hcz9_7
          try clear hfz13_0
          try clear hfz13_1
          try clear hfz13_2
          try clear hfz14_0
          try clear hfz14_1
          try clear hfz14_2
          try clear hfz14_3
          try clear hfz14_4
          try clear hfz14_5
          try clear hfz14_6
          try clear hfz14_7
          try clear hfz21_0
          try clear hfz21_1
          try clear hfz21_2
          try clear hfz24_0
          try clear hfz24_1
          try clear hfz24_2
          try clear hfz28_0
          try clear hfz28_1
          try clear hfz28_2
          try clear hfz36_0
          try clear hfz36_1
          try clear hfz36_2
          try clear hfz42_0
          try clear hfz42_1
          try clear hfz42_2
          try clear hfz46_0
          try clear hfz46_1
          try clear hfz46_2
          try clear hfz53_0
          try clear hfz53_1
          try clear hfz53_2
          try clear hfz5_0
          try clear hfz5_1
          try clear hfz5_2
          try clear hfz5_3
          try clear hfz5_4
          try clear hfz5_5
          try clear hfz5_6
          try clear hfz5_7
          try clear hfz8_0
          try clear hfz8_1
          try clear hfz8_2
          try clear hfz9_0
          try clear hfz9_1
          try clear hfz9_2
          try clear hfz9_3
          try clear hfz9_4
          try clear hfz9_5
          try clear hfz9_6
          try clear hfz9_7
          try clear p2
          obtain ⟨kq, x55_32, rfl, HA, HJ32, HO_347001, HO_354001, BK334, BK335, BK336, BK346, BK353, HB⟩ := hcut
          cases kq with
          | zero => exact absurd HA.out (by simp [exerguelaw05_DecShifts.j1])
          | succ kj32 =>
            have H := HA.out
            clear HA
            simp only [exerguelaw05_DecShifts.j1] at H
            by_cases c56 : x55_32 = true
            · subst c56
              have H1 : (some t337) = some r := by rw [if_pos rfl] at H; exact H
              clear H
              have H := H1
              clear H1
              obtain rfl := Option.some.inj H
              go_wp2
              go_ret
              exact ⟨by first | rfl | (simp [errW_none, errW_some] <;> rfl) | (simp [*, errW_none, errW_some] <;> rfl), by repeat (first | (with_reducible first | exact HB.out | apply below_alloc | apply pw_below_drewN | apply below_drew1 | refine below_set ?_ GE334.out | refine below_set ?_ GE335.out | refine below_set ?_ GE336.out | refine below_set ?_ GE346.out | refine below_set ?_ GE353.out) | exact HB.out)⟩
            · replace c56 := Bool.eq_false_iff.mpr c56
              subst c56
              have H1 : ((dec_Shift.f t340 t341 t344 (wrap64 (-(wrap64 (a0_6))))).bind fun bt354 => ((dec_Shift.f t340 t341 t344 (wrap64 (a0_7))).bind fun bt361 => ((dec_Shift.f a0_0 l0_1 a0_2 (wrap64 ((wrap64 (a0_6)) + (wrap64 (a0_7))))).bind fun bt368 => (if t337 = true then ((exergueref05_Right.f kj32 t340 t341 t344).bind fun t375 => (if t375 = true then (if bt354.2.2.2 = 0 then ((exergueref05_Same.f kj32 bt354.1 bt354.2.1 bt354.2.2.1 a0_0 l0_1 a0_2).bind fun t376 => (if t376 = true then (if bt361.2.2.2 = bt368.2.2.2 then ((exergueref05_Same.f kj32 bt368.1 bt368.2.1 bt368.2.2.1 bt361.1 bt361.2.1 bt361.2.2.1).bind fun t377 => (if t377 = true then ((dec_Cmp.f kj32 t340 t341 t344 t347 t348 t351).bind fun t378 => ((dec_Cmp.f kj32 a0_0 l0_1 a0_2 a0_3 l0_4 a0_5).bind fun t379 => (if t378 = t379 then ((exergueref01_Row.f kj32 t341 l0_1).bind fun t380 => (some t380)) else (none)))) else (none))) else (none)) else (none))) else (none)) else (none))) else (none))))) = some r := by rw [if_neg (show ¬ (false = true) by decide)] at H; exact H
              clear H
              have H := H1
              clear H1
              replace H := Option.bind_eq_some_iff.mp H
              obtain ⟨⟨t354, t355, t358, t359⟩, A570, H⟩ := H
              replace H : ((dec_Shift.f t340 t341 t344 (wrap64 (a0_7))).bind fun bt361 => ((dec_Shift.f a0_0 l0_1 a0_2 (wrap64 ((wrap64 (a0_6)) + (wrap64 (a0_7))))).bind fun bt368 => (if t337 = true then ((exergueref05_Right.f kj32 t340 t341 t344).bind fun t375 => (if t375 = true then (if t359 = 0 then ((exergueref05_Same.f kj32 t354 t355 t358 a0_0 l0_1 a0_2).bind fun t376 => (if t376 = true then (if bt361.2.2.2 = bt368.2.2.2 then ((exergueref05_Same.f kj32 bt368.1 bt368.2.1 bt368.2.2.1 bt361.1 bt361.2.1 bt361.2.2.1).bind fun t377 => (if t377 = true then ((dec_Cmp.f kj32 t340 t341 t344 t347 t348 t351).bind fun t378 => ((dec_Cmp.f kj32 a0_0 l0_1 a0_2 a0_3 l0_4 a0_5).bind fun t379 => (if t378 = t379 then ((exergueref01_Row.f kj32 t341 l0_1).bind fun t380 => (some t380)) else (none)))) else (none))) else (none)) else (none))) else (none)) else (none))) else (none)))) = some r := H
              have A57 := Aside0.mk A570
              clear A570
              replace H := Option.bind_eq_some_iff.mp H
              obtain ⟨⟨t361, t362, t365, t366⟩, A580, H⟩ := H
              replace H : ((dec_Shift.f a0_0 l0_1 a0_2 (wrap64 ((wrap64 (a0_6)) + (wrap64 (a0_7))))).bind fun bt368 => (if t337 = true then ((exergueref05_Right.f kj32 t340 t341 t344).bind fun t375 => (if t375 = true then (if t359 = 0 then ((exergueref05_Same.f kj32 t354 t355 t358 a0_0 l0_1 a0_2).bind fun t376 => (if t376 = true then (if t366 = bt368.2.2.2 then ((exergueref05_Same.f kj32 bt368.1 bt368.2.1 bt368.2.2.1 t361 t362 t365).bind fun t377 => (if t377 = true then ((dec_Cmp.f kj32 t340 t341 t344 t347 t348 t351).bind fun t378 => ((dec_Cmp.f kj32 a0_0 l0_1 a0_2 a0_3 l0_4 a0_5).bind fun t379 => (if t378 = t379 then ((exergueref01_Row.f kj32 t341 l0_1).bind fun t380 => (some t380)) else (none)))) else (none))) else (none)) else (none))) else (none)) else (none))) else (none))) = some r := H
              have A58 := Aside0.mk A580
              clear A580
              replace H := Option.bind_eq_some_iff.mp H
              obtain ⟨⟨t368, t369, t372, t373⟩, A590, H⟩ := H
              replace H : (if t337 = true then ((exergueref05_Right.f kj32 t340 t341 t344).bind fun t375 => (if t375 = true then (if t359 = 0 then ((exergueref05_Same.f kj32 t354 t355 t358 a0_0 l0_1 a0_2).bind fun t376 => (if t376 = true then (if t366 = t373 then ((exergueref05_Same.f kj32 t368 t369 t372 t361 t362 t365).bind fun t377 => (if t377 = true then ((dec_Cmp.f kj32 t340 t341 t344 t347 t348 t351).bind fun t378 => ((dec_Cmp.f kj32 a0_0 l0_1 a0_2 a0_3 l0_4 a0_5).bind fun t379 => (if t378 = t379 then ((exergueref01_Row.f kj32 t341 l0_1).bind fun t380 => (some t380)) else (none)))) else (none))) else (none)) else (none))) else (none)) else (none))) else (none)) = some r := H
              have A59 := Aside0.mk A590
              clear A590
              by_cases c60 : t337 = true
              · subst c60
                have H1 : ((exergueref05_Right.f kj32 t340 t341 t344).bind fun t375 => (if t375 = true then (if t359 = 0 then ((exergueref05_Same.f kj32 t354 t355 t358 a0_0 l0_1 a0_2).bind fun t376 => (if t376 = true then (if t366 = t373 then ((exergueref05_Same.f kj32 t368 t369 t372 t361 t362 t365).bind fun t377 => (if t377 = true then ((dec_Cmp.f kj32 t340 t341 t344 t347 t348 t351).bind fun t378 => ((dec_Cmp.f kj32 a0_0 l0_1 a0_2 a0_3 l0_4 a0_5).bind fun t379 => (if t378 = t379 then ((exergueref01_Row.f kj32 t341 l0_1).bind fun t380 => (some t380)) else (none)))) else (none))) else (none)) else (none))) else (none)) else (none))) = some r := by rw [if_pos rfl] at H; exact H
                clear H
                have H := H1
                clear H1
                replace H := Option.bind_eq_some_iff.mp H
                obtain ⟨t375, A610, H⟩ := H
                replace H : (if t375 = true then (if t359 = 0 then ((exergueref05_Same.f kj32 t354 t355 t358 a0_0 l0_1 a0_2).bind fun t376 => (if t376 = true then (if t366 = t373 then ((exergueref05_Same.f kj32 t368 t369 t372 t361 t362 t365).bind fun t377 => (if t377 = true then ((dec_Cmp.f kj32 t340 t341 t344 t347 t348 t351).bind fun t378 => ((dec_Cmp.f kj32 a0_0 l0_1 a0_2 a0_3 l0_4 a0_5).bind fun t379 => (if t378 = t379 then ((exergueref01_Row.f kj32 t341 l0_1).bind fun t380 => (some t380)) else (none)))) else (none))) else (none)) else (none))) else (none)) else (none)) = some r := H
                have A61 := Aside0.mk A610
                clear A610
                by_cases c62 : t375 = true
                · subst c62
                  have H1 : (if t359 = 0 then ((exergueref05_Same.f kj32 t354 t355 t358 a0_0 l0_1 a0_2).bind fun t376 => (if t376 = true then (if t366 = t373 then ((exergueref05_Same.f kj32 t368 t369 t372 t361 t362 t365).bind fun t377 => (if t377 = true then ((dec_Cmp.f kj32 t340 t341 t344 t347 t348 t351).bind fun t378 => ((dec_Cmp.f kj32 a0_0 l0_1 a0_2 a0_3 l0_4 a0_5).bind fun t379 => (if t378 = t379 then ((exergueref01_Row.f kj32 t341 l0_1).bind fun t380 => (some t380)) else (none)))) else (none))) else (none)) else (none))) else (none)) = some r := by rw [if_pos rfl] at H; exact H
                  clear H
                  have H := H1
                  clear H1
                  by_cases c63 : t359 = 0
                  · rw [if_pos c63] at H
                    have c63b0 : (t359 == 0) = true := beq_iff_eq.mpr c63
                    have c63b1 : (t359 != 0) = false := bne_eq_false_iff_eq.mpr c63
                    clear c63
                    replace H := Option.bind_eq_some_iff.mp H
                    obtain ⟨t376, A640, H⟩ := H
                    replace H : (if t376 = true then (if t366 = t373 then ((exergueref05_Same.f kj32 t368 t369 t372 t361 t362 t365).bind fun t377 => (if t377 = true then ((dec_Cmp.f kj32 t340 t341 t344 t347 t348 t351).bind fun t378 => ((dec_Cmp.f kj32 a0_0 l0_1 a0_2 a0_3 l0_4 a0_5).bind fun t379 => (if t378 = t379 then ((exergueref01_Row.f kj32 t341 l0_1).bind fun t380 => (some t380)) else (none)))) else (none))) else (none)) else (none)) = some r := H
                    have A64 := Aside0.mk A640
                    clear A640
                    by_cases c65 : t376 = true
                    · subst c65
                      have H1 : (if t366 = t373 then ((exergueref05_Same.f kj32 t368 t369 t372 t361 t362 t365).bind fun t377 => (if t377 = true then ((dec_Cmp.f kj32 t340 t341 t344 t347 t348 t351).bind fun t378 => ((dec_Cmp.f kj32 a0_0 l0_1 a0_2 a0_3 l0_4 a0_5).bind fun t379 => (if t378 = t379 then ((exergueref01_Row.f kj32 t341 l0_1).bind fun t380 => (some t380)) else (none)))) else (none))) else (none)) = some r := by rw [if_pos rfl] at H; exact H
                      clear H
                      have H := H1
                      clear H1
                      by_cases c66 : t366 = t373
                      · rw [if_pos c66] at H
                        have c66b0 : (t366 == t373) = true := beq_iff_eq.mpr c66
                        have c66b1 : (t366 != t373) = false := bne_eq_false_iff_eq.mpr c66
                        clear c66
                        replace H := Option.bind_eq_some_iff.mp H
                        obtain ⟨t377, A670, H⟩ := H
                        replace H : (if t377 = true then ((dec_Cmp.f kj32 t340 t341 t344 t347 t348 t351).bind fun t378 => ((dec_Cmp.f kj32 a0_0 l0_1 a0_2 a0_3 l0_4 a0_5).bind fun t379 => (if t378 = t379 then ((exergueref01_Row.f kj32 t341 l0_1).bind fun t380 => (some t380)) else (none)))) else (none)) = some r := H
                        have A67 := Aside0.mk A670
                        clear A670
                        by_cases c68 : t377 = true
                        · subst c68
                          have H1 : ((dec_Cmp.f kj32 t340 t341 t344 t347 t348 t351).bind fun t378 => ((dec_Cmp.f kj32 a0_0 l0_1 a0_2 a0_3 l0_4 a0_5).bind fun t379 => (if t378 = t379 then ((exergueref01_Row.f kj32 t341 l0_1).bind fun t380 => (some t380)) else (none)))) = some r := by rw [if_pos rfl] at H; exact H
                          clear H
                          have H := H1
                          clear H1
                          replace H := Option.bind_eq_some_iff.mp H
                          obtain ⟨t378, A690, H⟩ := H
                          replace H : ((dec_Cmp.f kj32 a0_0 l0_1 a0_2 a0_3 l0_4 a0_5).bind fun t379 => (if t378 = t379 then ((exergueref01_Row.f kj32 t341 l0_1).bind fun t380 => (some t380)) else (none))) = some r := H
                          have A69 := Aside0.mk A690
                          clear A690
                          replace H := Option.bind_eq_some_iff.mp H
                          obtain ⟨t379, A700, H⟩ := H
                          replace H : (if t378 = t379 then ((exergueref01_Row.f kj32 t341 l0_1).bind fun t380 => (some t380)) else (none)) = some r := H
                          have A70 := Aside0.mk A700
                          clear A700
                          by_cases c71 : t378 = t379
                          · rw [if_pos c71] at H
                            have c71b0 : (t378 == t379) = true := beq_iff_eq.mpr c71
                            have c71b1 : (t378 != t379) = false := bne_eq_false_iff_eq.mpr c71
                            clear c71
                            replace H := Option.bind_eq_some_iff.mp H
                            obtain ⟨t380, A720, H⟩ := H
                            replace H : (some t380) = some r := H
                            have A72 := Aside0.mk A720
                            clear A720
                            obtain rfl := Option.some.inj H
                            have hnb73 := NB346_334.out
                            have hnc73 := NB334_346.out
                            have hnb74 := NB346_335.out
                            have hnc74 := NB335_346.out
                            have hnb75 := NB346_336.out
                            have hnc75 := NB336_346.out
                            have hnb76 := NB346_353.out
                            have hnc76 := NB353_346.out
                            have hcz77_0 : wc.cell? ⟨gb346, 0, none⟩ = some (.bool t340) := (blk_cell BK346.out 0).trans rfl
                            have hcz77_1 : wc.cell? ⟨gb346, 1, none⟩ = some (.slice Ao43 t341.length co43) := (blk_cell BK346.out 1).trans rfl
                            have hcz77_2 : wc.cell? ⟨gb346, 2, none⟩ = some (.int .i64 t344) := (blk_cell BK346.out 2).trans rfl
                            have hfz77_0 := blk_frozen BK346.out 0
                            have hfz77_1 := blk_frozen BK346.out 1
                            have hfz77_2 := blk_frozen BK346.out 2
                            try go_wp2_with (first | ((with_reducible refine gate_callee (f := 22) rfl ?_); refine goesL_ (some 62) rfl rfl Tryd.func22 (by kernel_rfl) rfl #[.agg #[.bool t340, .slice Ao43 t341.length co43, .int .i64 t344], .int .i64 (wrap64 (-(wrap64 (a0_6))))] rfl (by (try simp only [List.map_toArray, List.map_cons, List.map_nil]); first | done | rfl | (simp only [List.length_drop, List.length_take]; rfl)) ?_; (with_reducible refine (dec_Shift.calls t340 (fun k_ => (k_ ≠ gb334 ∧ (k_ ≠ gb335 ∧ (k_ ≠ gb336 ∧ (k_ ≠ gb346 ∧ k_ ≠ gb353))))) _ _ t341 t344 (wrap64 (-(wrap64 (a0_6)))) t354 t355 t358 t359 _ ?side1 A57.out).mono ?_); (case side1 => exact HO_347001.out); rintro e w78 ⟨v356, rfl, ho0, hb⟩; refine ⟨_, rfl, ?_⟩; have n0_ := Aside0.mk (Kd.V_below (by (with_reducible repeat (first | apply Kd.V_alloc | apply Kd.V_drewN | apply Kd.V_drew)); exact HO_347001.out) hb); have n1_ := Aside0.mk (Kd.V_below (by (with_reducible repeat (first | apply Kd.V_alloc | apply Kd.V_drewN | apply Kd.V_drew)); exact HO_354001.out) hb); have n2_ := Aside0.mk (Kd.V_lower (Kd.V_mono (ok' := fun k_ => k_ ≠ gb334 ∧ k_ ≠ gb335 ∧ k_ ≠ gb336 ∧ k_ ≠ gb346 ∧ k_ ≠ gb353) ho0 (fun k_ hk_ => ⟨Or.elim hk_ (fun hs_ => hs_.1) (fun hn_ => (Kd.freshB (g := gb334) (o := .cells #[.bool a0_0, .slice A0_1 l0_1.length c0_1, .int .i64 a0_2, .bool a0_3, .slice A0_4 l0_4.length c0_4, .int .i64 a0_5, .int .i16 a0_6, .int .i16 a0_7] 48 (0, 0)) (by (with_reducible repeat (first | refine blk_drewN ?_ _ | refine blk_drew ?_ | refine blk_alloc ?_ _)); exact BK334.out) k_ hn_)), Or.elim hk_ (fun hs_ => hs_.2.1) (fun hn_ => (Kd.freshB (g := gb335) (o := .cells #[.bool a0_0, .slice A0_1 l0_1.length c0_1, .int .i64 a0_2] 24 (0, 0)) (by (with_reducible repeat (first | refine blk_drewN ?_ _ | refine blk_drew ?_ | refine blk_alloc ?_ _)); exact BK335.out) k_ hn_)), Or.elim hk_ (fun hs_ => hs_.2.2.1) (fun hn_ => (Kd.freshB (g := gb336) (o := .cells #[.bool a0_3, .slice A0_4 l0_4.length c0_4, .int .i64 a0_5] 24 (0, 0)) (by (with_reducible repeat (first | refine blk_drewN ?_ _ | refine blk_drew ?_ | refine blk_alloc ?_ _)); exact BK336.out) k_ hn_)), Or.elim hk_ (fun hs_ => hs_.2.2.2.1) (fun hn_ => (Kd.freshB (g := gb346) (o := .cells #[.bool t340, .slice Ao43 t341.length co43, .int .i64 t344] 24 (0, 0)) (by (with_reducible repeat (first | refine blk_drewN ?_ _ | refine blk_drew ?_ | refine blk_alloc ?_ _)); exact BK346.out) k_ hn_)), Or.elim hk_ (fun hs_ => hs_.2.2.2.2) (fun hn_ => (Kd.freshB (g := gb353) (o := .cells #[.bool t347, .slice Ao54 t348.length co54, .int .i64 t351] 24 (0, 0)) (by (with_reducible repeat (first | refine blk_drewN ?_ _ | refine blk_drew ?_ | refine blk_alloc ?_ _)); exact BK353.out) k_ hn_))⟩)) (below_size (by repeat (first | (with_reducible first | exact HB.out | apply below_alloc | apply pw_below_drewN | apply below_drew1 | refine below_set ?_ GE334.out | refine below_set ?_ GE335.out | refine below_set ?_ GE336.out | refine below_set ?_ GE346.out | refine below_set ?_ GE353.out) | exact HB.out)))); have n3_ := Aside0.mk (blk_below (g := gb334) (o := .cells #[.bool a0_0, .slice A0_1 l0_1.length c0_1, .int .i64 a0_2, .bool a0_3, .slice A0_4 l0_4.length c0_4, .int .i64 a0_5, .int .i16 a0_6, .int .i16 a0_7] 48 (0, 0)) (by (with_reducible repeat (first | refine blk_drewN ?_ _ | refine blk_drew ?_ | refine blk_alloc ?_ _)); exact BK334.out) hb); have n4_ := Aside0.mk (blk_below (g := gb335) (o := .cells #[.bool a0_0, .slice A0_1 l0_1.length c0_1, .int .i64 a0_2] 24 (0, 0)) (by (with_reducible repeat (first | refine blk_drewN ?_ _ | refine blk_drew ?_ | refine blk_alloc ?_ _)); exact BK335.out) hb); have n5_ := Aside0.mk (blk_below (g := gb336) (o := .cells #[.bool a0_3, .slice A0_4 l0_4.length c0_4, .int .i64 a0_5] 24 (0, 0)) (by (with_reducible repeat (first | refine blk_drewN ?_ _ | refine blk_drew ?_ | refine blk_alloc ?_ _)); exact BK336.out) hb); have n6_ := Aside0.mk (blk_below (g := gb346) (o := .cells #[.bool t340, .slice Ao43 t341.length co43, .int .i64 t344] 24 (0, 0)) (by (with_reducible repeat (first | refine blk_drewN ?_ _ | refine blk_drew ?_ | refine blk_alloc ?_ _)); exact BK346.out) hb); have n7_ := Aside0.mk (blk_below (g := gb353) (o := .cells #[.bool t347, .slice Ao54 t348.length co54, .int .i64 t351] 24 (0, 0)) (by (with_reducible repeat (first | refine blk_drewN ?_ _ | refine blk_drew ?_ | refine blk_alloc ?_ _)); exact BK353.out) hb); have n8_ := Aside0.mk (below_step (by repeat (first | (with_reducible first | exact HB.out | apply below_alloc | apply pw_below_drewN | apply below_drew1 | refine below_set ?_ GE334.out | refine below_set ?_ GE335.out | refine below_set ?_ GE336.out | refine below_set ?_ GE346.out | refine below_set ?_ GE353.out) | exact HB.out)) hb); clear HO_347001; clear HO_354001; clear BK334; clear BK335; clear BK336; clear BK346; clear BK353; clear HB; have HO_347001 := n0_; have HO_354001 := n1_; have HO357 := n2_; have BK334 := n3_; have BK335 := n4_; have BK336 := n5_; have BK346 := n6_; have BK353 := n7_; have HB := n8_; clear n0_ n1_ n2_ n3_ n4_ n5_ n6_ n7_ n8_; (try clear hb); (try clear hb2); (try clear hk); (try clear hi); (try clear ho0)) | ((with_reducible refine gate_dst (N := 12) rfl ?_); refine box_event ?hg (N := 12) ?hd (cs := #[.bool false, .slice none 0 0, .int .i64 0]) (t := 24) ?hr ?_; (case hd => rfl); (case hg => rfl); (case hr => first | (go_simp; done) | (go_simp; rfl)); intro gb360 hg w79 hbox hb; have n0_ := Aside0.mk (Kd.V_below (Kd.V_elderB (by (with_reducible repeat (first | apply Kd.V_alloc | apply Kd.V_drewN | apply Kd.V_drew)); exact HO_347001.out) gb360 (Nat.le_of_eq hg.symm)) hb); have n1_ := Aside0.mk (Kd.V_below (Kd.V_elderB (by (with_reducible repeat (first | apply Kd.V_alloc | apply Kd.V_drewN | apply Kd.V_drew)); exact HO_354001.out) gb360 (Nat.le_of_eq hg.symm)) hb); have n2_ := Aside0.mk (Kd.V_below (Kd.V_elderB (by (with_reducible repeat (first | apply Kd.V_alloc | apply Kd.V_drewN | apply Kd.V_drew)); exact HO357.out) gb360 (Nat.le_of_eq hg.symm)) hb); have n3_ := Aside0.mk (blk_below (g := gb334) (o := .cells #[.bool a0_0, .slice A0_1 l0_1.length c0_1, .int .i64 a0_2, .bool a0_3, .slice A0_4 l0_4.length c0_4, .int .i64 a0_5, .int .i16 a0_6, .int .i16 a0_7] 48 (0, 0)) (by (with_reducible repeat (first | refine blk_drewN ?_ _ | refine blk_drew ?_ | refine blk_alloc ?_ _)); exact BK334.out) hb); have n4_ := Aside0.mk (blk_below (g := gb335) (o := .cells #[.bool a0_0, .slice A0_1 l0_1.length c0_1, .int .i64 a0_2] 24 (0, 0)) (by (with_reducible repeat (first | refine blk_drewN ?_ _ | refine blk_drew ?_ | refine blk_alloc ?_ _)); exact BK335.out) hb); have n5_ := Aside0.mk (blk_below (g := gb336) (o := .cells #[.bool a0_3, .slice A0_4 l0_4.length c0_4, .int .i64 a0_5] 24 (0, 0)) (by (with_reducible repeat (first | refine blk_drewN ?_ _ | refine blk_drew ?_ | refine blk_alloc ?_ _)); exact BK336.out) hb); have n6_ := Aside0.mk (blk_below (g := gb346) (o := .cells #[.bool t340, .slice Ao43 t341.length co43, .int .i64 t344] 24 (0, 0)) (by (with_reducible repeat (first | refine blk_drewN ?_ _ | refine blk_drew ?_ | refine blk_alloc ?_ _)); exact BK346.out) hb); have n7_ := Aside0.mk (blk_below (g := gb353) (o := .cells #[.bool t347, .slice Ao54 t348.length co54, .int .i64 t351] 24 (0, 0)) (by (with_reducible repeat (first | refine blk_drewN ?_ _ | refine blk_drew ?_ | refine blk_alloc ?_ _)); exact BK353.out) hb); have n8_ := Aside0.mk (below_step (by repeat (first | (with_reducible first | exact HB.out | apply below_alloc | apply pw_below_drewN | apply below_drew1 | refine below_set ?_ GE334.out | refine below_set ?_ GE335.out | refine below_set ?_ GE336.out | refine below_set ?_ GE346.out | refine below_set ?_ GE353.out) | exact HB.out)) hb); have n9_ := Aside0.mk (hbox); have n10_ := Aside0.mk ((by rw [hg]; exact (below_size (by repeat (first | (with_reducible first | exact HB.out | apply below_alloc | apply pw_below_drewN | apply below_drew1 | refine below_set ?_ GE334.out | refine below_set ?_ GE335.out | refine below_set ?_ GE336.out | refine below_set ?_ GE346.out | refine below_set ?_ GE353.out) | exact HB.out))) : w.heap.size ≤ gb360)); have n11_ := Aside0.mk ((by rw [hg]; exact (below_size (by repeat (first | (with_reducible first | exact HB.out | apply below_alloc | apply pw_below_drewN | apply below_drew1 | refine below_set ?_ GE334.out | refine below_set ?_ GE335.out | refine below_set ?_ GE336.out | refine below_set ?_ GE346.out | refine below_set ?_ GE353.out) | exact HB.out))) : w.heap.size ≤ gb360)); have n12_ := Aside0.mk ((by rw [hg]; exact Nat.ne_of_lt (blk_lt (g := gb334) (o := .cells #[.bool a0_0, .slice A0_1 l0_1.length c0_1, .int .i64 a0_2, .bool a0_3, .slice A0_4 l0_4.length c0_4, .int .i64 a0_5, .int .i16 a0_6, .int .i16 a0_7] 48 (0, 0)) (by (with_reducible repeat (first | refine blk_drewN ?_ _ | refine blk_drew ?_ | refine blk_alloc ?_ _)); exact BK334.out)) : gb334 ≠ gb360)); have n13_ := Aside0.mk ((by rw [hg]; exact Nat.ne_of_gt (blk_lt (g := gb334) (o := .cells #[.bool a0_0, .slice A0_1 l0_1.length c0_1, .int .i64 a0_2, .bool a0_3, .slice A0_4 l0_4.length c0_4, .int .i64 a0_5, .int .i16 a0_6, .int .i16 a0_7] 48 (0, 0)) (by (with_reducible repeat (first | refine blk_drewN ?_ _ | refine blk_drew ?_ | refine blk_alloc ?_ _)); exact BK334.out)) : gb360 ≠ gb334)); have n14_ := Aside0.mk ((by rw [hg]; exact Nat.ne_of_lt (blk_lt (g := gb335) (o := .cells #[.bool a0_0, .slice A0_1 l0_1.length c0_1, .int .i64 a0_2] 24 (0, 0)) (by (with_reducible repeat (first | refine blk_drewN ?_ _ | refine blk_drew ?_ | refine blk_alloc ?_ _)); exact BK335.out)) : gb335 ≠ gb360)); have n15_ := Aside0.mk ((by rw [hg]; exact Nat.ne_of_gt (blk_lt (g := gb335) (o := .cells #[.bool a0_0, .slice A0_1 l0_1.length c0_1, .int .i64 a0_2] 24 (0, 0)) (by (with_reducible repeat (first | refine blk_drewN ?_ _ | refine blk_drew ?_ | refine blk_alloc ?_ _)); exact BK335.out)) : gb360 ≠ gb335)); have n16_ := Aside0.mk ((by rw [hg]; exact Nat.ne_of_lt (blk_lt (g := gb336) (o := .cells #[.bool a0_3, .slice A0_4 l0_4.length c0_4, .int .i64 a0_5] 24 (0, 0)) (by (with_reducible repeat (first | refine blk_drewN ?_ _ | refine blk_drew ?_ | refine blk_alloc ?_ _)); exact BK336.out)) : gb336 ≠ gb360)); have n17_ := Aside0.mk ((by rw [hg]; exact Nat.ne_of_gt (blk_lt (g := gb336) (o := .cells #[.bool a0_3, .slice A0_4 l0_4.length c0_4, .int .i64 a0_5] 24 (0, 0)) (by (with_reducible repeat (first | refine blk_drewN ?_ _ | refine blk_drew ?_ | refine blk_alloc ?_ _)); exact BK336.out)) : gb360 ≠ gb336)); have n18_ := Aside0.mk ((by rw [hg]; exact Nat.ne_of_lt (blk_lt (g := gb346) (o := .cells #[.bool t340, .slice Ao43 t341.length co43, .int .i64 t344] 24 (0, 0)) (by (with_reducible repeat (first | refine blk_drewN ?_ _ | refine blk_drew ?_ | refine blk_alloc ?_ _)); exact BK346.out)) : gb346 ≠ gb360)); have n19_ := Aside0.mk ((by rw [hg]; exact Nat.ne_of_gt (blk_lt (g := gb346) (o := .cells #[.bool t340, .slice Ao43 t341.length co43, .int .i64 t344] 24 (0, 0)) (by (with_reducible repeat (first | refine blk_drewN ?_ _ | refine blk_drew ?_ | refine blk_alloc ?_ _)); exact BK346.out)) : gb360 ≠ gb346)); have n20_ := Aside0.mk ((by rw [hg]; exact Nat.ne_of_lt (blk_lt (g := gb353) (o := .cells #[.bool t347, .slice Ao54 t348.length co54, .int .i64 t351] 24 (0, 0)) (by (with_reducible repeat (first | refine blk_drewN ?_ _ | refine blk_drew ?_ | refine blk_alloc ?_ _)); exact BK353.out)) : gb353 ≠ gb360)); have n21_ := Aside0.mk ((by rw [hg]; exact Nat.ne_of_gt (blk_lt (g := gb353) (o := .cells #[.bool t347, .slice Ao54 t348.length co54, .int .i64 t351] 24 (0, 0)) (by (with_reducible repeat (first | refine blk_drewN ?_ _ | refine blk_drew ?_ | refine blk_alloc ?_ _)); exact BK353.out)) : gb360 ≠ gb353)); clear HO_347001; clear HO_354001; clear HO357; clear BK334; clear BK335; clear BK336; clear BK346; clear BK353; clear HB; have HO_347001 := n0_; have HO_354001 := n1_; have HO357 := n2_; have BK334 := n3_; have BK335 := n4_; have BK336 := n5_; have BK346 := n6_; have BK353 := n7_; have HB := n8_; have BK360 := n9_; have GW360 := n10_; have GE360 := n11_; have NB334_360 := n12_; have NB360_334 := n13_; have NB335_360 := n14_; have NB360_335 := n15_; have NB336_360 := n16_; have NB360_336 := n17_; have NB346_360 := n18_; have NB360_346 := n19_; have NB353_360 := n20_; have NB360_353 := n21_; clear n0_ n1_ n2_ n3_ n4_ n5_ n6_ n7_ n8_ n9_ n10_ n11_ n12_ n13_ n14_ n15_ n16_ n17_ n18_ n19_ n20_ n21_; clear hb hbox hg; have hnb80 := NB360_334.out; have hnc80 := NB334_360.out; have hnb81 := NB360_335.out; have hnc81 := NB335_360.out; have hnb82 := NB360_336.out; have hnc82 := NB336_360.out; have hnb83 := NB360_346.out; have hnc83 := NB346_360.out; have hnb84 := NB360_353.out; have hnc84 := NB353_360.out; have hcz85_0 : w79.cell? ⟨gb360, 0, none⟩ = some (.bool false) := (blk_cell BK360.out 0).trans rfl; have hcz85_1 : w79.cell? ⟨gb360, 1, none⟩ = some (.slice none 0 0) := (blk_cell BK360.out 1).trans rfl; have hcz85_2 : w79.cell? ⟨gb360, 2, none⟩ = some (.int .i64 0) := (blk_cell BK360.out 2).trans rfl; have hfz85_0 := blk_frozen BK360.out 0; have hfz85_1 := blk_frozen BK360.out 1; have hfz85_2 := blk_frozen BK360.out 2; obtain ⟨Ao86, co86, eo86⟩ := Kd.V_slice HO357.out; subst eo86) | ((with_reducible refine gate_store (t := 24) (p := 12) rfl ?_); refine store_event (t := 24) (p := 12) (v := ?vo_w87) (w1 := (((w79.setCell ⟨gb360, 0, none⟩ (.bool t354)).setCell ⟨gb360, 1, none⟩ (.slice Ao86 t355.length co86)).setCell ⟨gb360, 2, none⟩ (.int .i64 t358))) ?hg ?ho ?hn ?hr ?_; (case ho => rfl); (case hg => rfl); (case hn => rfl); (case hr => first | (go_simp; done) | (go_simp; rfl)); intro w87 hw; have n0_ : Aside0 (Kd.V (Kd.int .u8) 5 w87 w.heap.size (fun k_ => k_ ≠ gb334 ∧ k_ ≠ gb335 ∧ k_ ≠ gb336 ∧ k_ ≠ gb346 ∧ k_ ≠ gb353 ∧ k_ ≠ gb360) (.slice Ao43 t341.length co43) t341) := ⟨(by rw [hw]; exact (by (with_reducible repeat (first | apply Kd.V_alloc | apply Kd.V_drewN | apply Kd.V_drew)); exact Kd.V_mono (Kd.V_far (p := ⟨gb360, 2, none⟩) (Kd.V_far (p := ⟨gb360, 1, none⟩) (Kd.V_far (p := ⟨gb360, 0, none⟩) (Kd.V_mono HO_347001.out (fun k_ hk => (⟨hk, hk.2⟩ : _ ∧ k_ ≠ gb360))) (fun _ hk => hk.2) (.bool t354)) (fun _ hk => hk.2) (.slice Ao86 t355.length co86)) (fun _ hk => hk.2) (.int .i64 t358)) (fun _ hk => ⟨hk.1.1.1, ⟨hk.1.1.2.1, ⟨hk.1.1.2.2.1, ⟨hk.1.1.2.2.2.1, ⟨hk.1.1.2.2.2.2, hk.1.2⟩⟩⟩⟩⟩)))⟩; have n1_ : Aside0 (Kd.V (Kd.int .u8) 5 w87 w.heap.size (fun k_ => k_ ≠ gb334 ∧ k_ ≠ gb335 ∧ k_ ≠ gb336 ∧ k_ ≠ gb346 ∧ k_ ≠ gb353 ∧ k_ ≠ gb360) (.slice Ao54 t348.length co54) t348) := ⟨(by rw [hw]; exact (by (with_reducible repeat (first | apply Kd.V_alloc | apply Kd.V_drewN | apply Kd.V_drew)); exact Kd.V_mono (Kd.V_far (p := ⟨gb360, 2, none⟩) (Kd.V_far (p := ⟨gb360, 1, none⟩) (Kd.V_far (p := ⟨gb360, 0, none⟩) (Kd.V_mono HO_354001.out (fun k_ hk => (⟨hk, hk.2⟩ : _ ∧ k_ ≠ gb360))) (fun _ hk => hk.2) (.bool t354)) (fun _ hk => hk.2) (.slice Ao86 t355.length co86)) (fun _ hk => hk.2) (.int .i64 t358)) (fun _ hk => ⟨hk.1.1.1, ⟨hk.1.1.2.1, ⟨hk.1.1.2.2.1, ⟨hk.1.1.2.2.2.1, ⟨hk.1.1.2.2.2.2, hk.1.2⟩⟩⟩⟩⟩)))⟩; have n2_ : Aside0 (Kd.V (Kd.int .u8) 5 w87 w.heap.size (fun k_ => k_ ≠ gb334 ∧ k_ ≠ gb335 ∧ k_ ≠ gb336 ∧ k_ ≠ gb346 ∧ k_ ≠ gb353 ∧ k_ ≠ gb360) (.slice Ao86 t355.length co86) t355) := ⟨(by rw [hw]; exact (by (with_reducible repeat (first | apply Kd.V_alloc | apply Kd.V_drewN | apply Kd.V_drew)); exact Kd.V_mono (Kd.V_far (p := ⟨gb360, 2, none⟩) (Kd.V_far (p := ⟨gb360, 1, none⟩) (Kd.V_far (p := ⟨gb360, 0, none⟩) (Kd.V_mono HO357.out (fun k_ hk => (⟨hk, hk.2⟩ : _ ∧ k_ ≠ gb360))) (fun _ hk => hk.2) (.bool t354)) (fun _ hk => hk.2) (.slice Ao86 t355.length co86)) (fun _ hk => hk.2) (.int .i64 t358)) (fun _ hk => ⟨hk.1.1.1, ⟨hk.1.1.2.1, ⟨hk.1.1.2.2.1, ⟨hk.1.1.2.2.2.1, ⟨hk.1.1.2.2.2.2, hk.1.2⟩⟩⟩⟩⟩)))⟩; have n3_ : Aside0 (w87.heap[gb334]? = some (.cells #[.bool a0_0, .slice A0_1 l0_1.length c0_1, .int .i64 a0_2, .bool a0_3, .slice A0_4 l0_4.length c0_4, .int .i64 a0_5, .int .i16 a0_6, .int .i16 a0_7] 48 (0, 0))) := ⟨(by rw [hw]; exact (by (with_reducible repeat (first | refine blk_drewN ?_ _ | refine blk_drew ?_ | refine blk_alloc ?_ _)); refine blk_far ?_ NB334_360.out _; (with_reducible repeat (first | refine blk_drewN ?_ _ | refine blk_drew ?_ | refine blk_alloc ?_ _)); refine blk_far ?_ NB334_360.out _; (with_reducible repeat (first | refine blk_drewN ?_ _ | refine blk_drew ?_ | refine blk_alloc ?_ _)); refine blk_far ?_ NB334_360.out _; (with_reducible repeat (first | refine blk_drewN ?_ _ | refine blk_drew ?_ | refine blk_alloc ?_ _)); exact BK334.out))⟩; have n4_ : Aside0 (w87.heap[gb335]? = some (.cells #[.bool a0_0, .slice A0_1 l0_1.length c0_1, .int .i64 a0_2] 24 (0, 0))) := ⟨(by rw [hw]; exact (by (with_reducible repeat (first | refine blk_drewN ?_ _ | refine blk_drew ?_ | refine blk_alloc ?_ _)); refine blk_far ?_ NB335_360.out _; (with_reducible repeat (first | refine blk_drewN ?_ _ | refine blk_drew ?_ | refine blk_alloc ?_ _)); refine blk_far ?_ NB335_360.out _; (with_reducible repeat (first | refine blk_drewN ?_ _ | refine blk_drew ?_ | refine blk_alloc ?_ _)); refine blk_far ?_ NB335_360.out _; (with_reducible repeat (first | refine blk_drewN ?_ _ | refine blk_drew ?_ | refine blk_alloc ?_ _)); exact BK335.out))⟩; have n5_ : Aside0 (w87.heap[gb336]? = some (.cells #[.bool a0_3, .slice A0_4 l0_4.length c0_4, .int .i64 a0_5] 24 (0, 0))) := ⟨(by rw [hw]; exact (by (with_reducible repeat (first | refine blk_drewN ?_ _ | refine blk_drew ?_ | refine blk_alloc ?_ _)); refine blk_far ?_ NB336_360.out _; (with_reducible repeat (first | refine blk_drewN ?_ _ | refine blk_drew ?_ | refine blk_alloc ?_ _)); refine blk_far ?_ NB336_360.out _; (with_reducible repeat (first | refine blk_drewN ?_ _ | refine blk_drew ?_ | refine blk_alloc ?_ _)); refine blk_far ?_ NB336_360.out _; (with_reducible repeat (first | refine blk_drewN ?_ _ | refine blk_drew ?_ | refine blk_alloc ?_ _)); exact BK336.out))⟩; have n6_ : Aside0 (w87.heap[gb346]? = some (.cells #[.bool t340, .slice Ao43 t341.length co43, .int .i64 t344] 24 (0, 0))) := ⟨(by rw [hw]; exact (by (with_reducible repeat (first | refine blk_drewN ?_ _ | refine blk_drew ?_ | refine blk_alloc ?_ _)); refine blk_far ?_ NB346_360.out _; (with_reducible repeat (first | refine blk_drewN ?_ _ | refine blk_drew ?_ | refine blk_alloc ?_ _)); refine blk_far ?_ NB346_360.out _; (with_reducible repeat (first | refine blk_drewN ?_ _ | refine blk_drew ?_ | refine blk_alloc ?_ _)); refine blk_far ?_ NB346_360.out _; (with_reducible repeat (first | refine blk_drewN ?_ _ | refine blk_drew ?_ | refine blk_alloc ?_ _)); exact BK346.out))⟩; have n7_ : Aside0 (w87.heap[gb353]? = some (.cells #[.bool t347, .slice Ao54 t348.length co54, .int .i64 t351] 24 (0, 0))) := ⟨(by rw [hw]; exact (by (with_reducible repeat (first | refine blk_drewN ?_ _ | refine blk_drew ?_ | refine blk_alloc ?_ _)); refine blk_far ?_ NB353_360.out _; (with_reducible repeat (first | refine blk_drewN ?_ _ | refine blk_drew ?_ | refine blk_alloc ?_ _)); refine blk_far ?_ NB353_360.out _; (with_reducible repeat (first | refine blk_drewN ?_ _ | refine blk_drew ?_ | refine blk_alloc ?_ _)); refine blk_far ?_ NB353_360.out _; (with_reducible repeat (first | refine blk_drewN ?_ _ | refine blk_drew ?_ | refine blk_alloc ?_ _)); exact BK353.out))⟩; have n8_ : Aside0 (w87.heap[gb360]? = some (.cells #[.bool t354, .slice Ao86 t355.length co86, .int .i64 t358] 24 (0, 0))) := ⟨(by rw [hw]; exact (by (with_reducible repeat (first | refine blk_drewN ?_ _ | refine blk_drew ?_ | refine blk_alloc ?_ _)); refine blk_put (cs := #[.bool t354, .slice Ao86 t355.length co86, .int .i64 0]) ?_ 2 _ rfl; (with_reducible repeat (first | refine blk_drewN ?_ _ | refine blk_drew ?_ | refine blk_alloc ?_ _)); refine blk_put (cs := #[.bool t354, .slice none 0 0, .int .i64 0]) ?_ 1 _ rfl; (with_reducible repeat (first | refine blk_drewN ?_ _ | refine blk_drew ?_ | refine blk_alloc ?_ _)); refine blk_put (cs := #[.bool false, .slice none 0 0, .int .i64 0]) ?_ 0 _ rfl; (with_reducible repeat (first | refine blk_drewN ?_ _ | refine blk_drew ?_ | refine blk_alloc ?_ _)); exact BK360.out))⟩; have n9_ : Aside0 (Below w.heap.size w w87) := ⟨(by rw [hw]; exact (by repeat (first | (with_reducible first | exact HB.out | apply below_alloc | apply pw_below_drewN | apply below_drew1 | refine below_set ?_ GE334.out | refine below_set ?_ GE335.out | refine below_set ?_ GE336.out | refine below_set ?_ GE346.out | refine below_set ?_ GE353.out | refine below_set ?_ GE360.out) | exact HB.out)))⟩; clear hw; clear HO_347001; clear HO_354001; clear HO357; clear BK334; clear BK335; clear BK336; clear BK346; clear BK353; clear BK360; clear HB; have HO_347001 := n0_; have HO_354001 := n1_; have HO357 := n2_; have BK334 := n3_; have BK335 := n4_; have BK336 := n5_; have BK346 := n6_; have BK353 := n7_; have BK360 := n8_; have HB := n9_; clear n0_ n1_ n2_ n3_ n4_ n5_ n6_ n7_ n8_ n9_; have hcz88_0 : w87.cell? ⟨gb346, 0, none⟩ = some (.bool t340) := (blk_cell BK346.out 0).trans rfl; have hcz88_1 : w87.cell? ⟨gb346, 1, none⟩ = some (.slice Ao43 t341.length co43) := (blk_cell BK346.out 1).trans rfl; have hcz88_2 : w87.cell? ⟨gb346, 2, none⟩ = some (.int .i64 t344) := (blk_cell BK346.out 2).trans rfl; have hfz88_0 := blk_frozen BK346.out 0; have hfz88_1 := blk_frozen BK346.out 1; have hfz88_2 := blk_frozen BK346.out 2) | ((with_reducible refine gate_callee (f := 22) rfl ?_); refine goesL_ (some 69) rfl rfl Tryd.func22 (by kernel_rfl) rfl #[.agg #[.bool t340, .slice Ao43 t341.length co43, .int .i64 t344], .int .i64 (wrap64 (a0_7))] rfl (by (try simp only [List.map_toArray, List.map_cons, List.map_nil]); first | done | rfl | (simp only [List.length_drop, List.length_take]; rfl)) ?_; (with_reducible refine (dec_Shift.calls t340 (fun k_ => (k_ ≠ gb334 ∧ (k_ ≠ gb335 ∧ (k_ ≠ gb336 ∧ (k_ ≠ gb346 ∧ (k_ ≠ gb353 ∧ k_ ≠ gb360)))))) _ _ t341 t344 (wrap64 (a0_7)) t361 t362 t365 t366 _ ?side1 A58.out).mono ?_); (case side1 => exact HO_347001.out); rintro e w89 ⟨v363, rfl, ho0, hb⟩; refine ⟨_, rfl, ?_⟩; have n0_ := Aside0.mk (Kd.V_below (by (with_reducible repeat (first | apply Kd.V_alloc | apply Kd.V_drewN | apply Kd.V_drew)); exact HO_347001.out) hb); have n1_ := Aside0.mk (Kd.V_below (by (with_reducible repeat (first | apply Kd.V_alloc | apply Kd.V_drewN | apply Kd.V_drew)); exact HO_354001.out) hb); have n2_ := Aside0.mk (Kd.V_below (by (with_reducible repeat (first | apply Kd.V_alloc | apply Kd.V_drewN | apply Kd.V_drew)); exact HO357.out) hb); have n3_ := Aside0.mk (Kd.V_lower (Kd.V_mono (ok' := fun k_ => k_ ≠ gb334 ∧ k_ ≠ gb335 ∧ k_ ≠ gb336 ∧ k_ ≠ gb346 ∧ k_ ≠ gb353 ∧ k_ ≠ gb360) ho0 (fun k_ hk_ => ⟨Or.elim hk_ (fun hs_ => hs_.1) (fun hn_ => (Kd.freshB (g := gb334) (o := .cells #[.bool a0_0, .slice A0_1 l0_1.length c0_1, .int .i64 a0_2, .bool a0_3, .slice A0_4 l0_4.length c0_4, .int .i64 a0_5, .int .i16 a0_6, .int .i16 a0_7] 48 (0, 0)) (by (with_reducible repeat (first | refine blk_drewN ?_ _ | refine blk_drew ?_ | refine blk_alloc ?_ _)); exact BK334.out) k_ hn_)), Or.elim hk_ (fun hs_ => hs_.2.1) (fun hn_ => (Kd.freshB (g := gb335) (o := .cells #[.bool a0_0, .slice A0_1 l0_1.length c0_1, .int .i64 a0_2] 24 (0, 0)) (by (with_reducible repeat (first | refine blk_drewN ?_ _ | refine blk_drew ?_ | refine blk_alloc ?_ _)); exact BK335.out) k_ hn_)), Or.elim hk_ (fun hs_ => hs_.2.2.1) (fun hn_ => (Kd.freshB (g := gb336) (o := .cells #[.bool a0_3, .slice A0_4 l0_4.length c0_4, .int .i64 a0_5] 24 (0, 0)) (by (with_reducible repeat (first | refine blk_drewN ?_ _ | refine blk_drew ?_ | refine blk_alloc ?_ _)); exact BK336.out) k_ hn_)), Or.elim hk_ (fun hs_ => hs_.2.2.2.1) (fun hn_ => (Kd.freshB (g := gb346) (o := .cells #[.bool t340, .slice Ao43 t341.length co43, .int .i64 t344] 24 (0, 0)) (by (with_reducible repeat (first | refine blk_drewN ?_ _ | refine blk_drew ?_ | refine blk_alloc ?_ _)); exact BK346.out) k_ hn_)), Or.elim hk_ (fun hs_ => hs_.2.2.2.2.1) (fun hn_ => (Kd.freshB (g := gb353) (o := .cells #[.bool t347, .slice Ao54 t348.length co54, .int .i64 t351] 24 (0, 0)) (by (with_reducible repeat (first | refine blk_drewN ?_ _ | refine blk_drew ?_ | refine blk_alloc ?_ _)); exact BK353.out) k_ hn_)), Or.elim hk_ (fun hs_ => hs_.2.2.2.2.2) (fun hn_ => (Kd.freshB (g := gb360) (o := .cells #[.bool t354, .slice Ao86 t355.length co86, .int .i64 t358] 24 (0, 0)) (by (with_reducible repeat (first | refine blk_drewN ?_ _ | refine blk_drew ?_ | refine blk_alloc ?_ _)); exact BK360.out) k_ hn_))⟩)) (below_size (by repeat (first | (with_reducible first | exact HB.out | apply below_alloc | apply pw_below_drewN | apply below_drew1 | refine below_set ?_ GE334.out | refine below_set ?_ GE335.out | refine below_set ?_ GE336.out | refine below_set ?_ GE346.out | refine below_set ?_ GE353.out | refine below_set ?_ GE360.out) | exact HB.out)))); have n4_ := Aside0.mk (blk_below (g := gb334) (o := .cells #[.bool a0_0, .slice A0_1 l0_1.length c0_1, .int .i64 a0_2, .bool a0_3, .slice A0_4 l0_4.length c0_4, .int .i64 a0_5, .int .i16 a0_6, .int .i16 a0_7] 48 (0, 0)) (by (with_reducible repeat (first | refine blk_drewN ?_ _ | refine blk_drew ?_ | refine blk_alloc ?_ _)); exact BK334.out) hb); have n5_ := Aside0.mk (blk_below (g := gb335) (o := .cells #[.bool a0_0, .slice A0_1 l0_1.length c0_1, .int .i64 a0_2] 24 (0, 0)) (by (with_reducible repeat (first | refine blk_drewN ?_ _ | refine blk_drew ?_ | refine blk_alloc ?_ _)); exact BK335.out) hb); have n6_ := Aside0.mk (blk_below (g := gb336) (o := .cells #[.bool a0_3, .slice A0_4 l0_4.length c0_4, .int .i64 a0_5] 24 (0, 0)) (by (with_reducible repeat (first | refine blk_drewN ?_ _ | refine blk_drew ?_ | refine blk_alloc ?_ _)); exact BK336.out) hb); have n7_ := Aside0.mk (blk_below (g := gb346) (o := .cells #[.bool t340, .slice Ao43 t341.length co43, .int .i64 t344] 24 (0, 0)) (by (with_reducible repeat (first | refine blk_drewN ?_ _ | refine blk_drew ?_ | refine blk_alloc ?_ _)); exact BK346.out) hb); have n8_ := Aside0.mk (blk_below (g := gb353) (o := .cells #[.bool t347, .slice Ao54 t348.length co54, .int .i64 t351] 24 (0, 0)) (by (with_reducible repeat (first | refine blk_drewN ?_ _ | refine blk_drew ?_ | refine blk_alloc ?_ _)); exact BK353.out) hb); have n9_ := Aside0.mk (blk_below (g := gb360) (o := .cells #[.bool t354, .slice Ao86 t355.length co86, .int .i64 t358] 24 (0, 0)) (by (with_reducible repeat (first | refine blk_drewN ?_ _ | refine blk_drew ?_ | refine blk_alloc ?_ _)); exact BK360.out) hb); have n10_ := Aside0.mk (below_step (by repeat (first | (with_reducible first | exact HB.out | apply below_alloc | apply pw_below_drewN | apply below_drew1 | refine below_set ?_ GE334.out | refine below_set ?_ GE335.out | refine below_set ?_ GE336.out | refine below_set ?_ GE346.out | refine below_set ?_ GE353.out | refine below_set ?_ GE360.out) | exact HB.out)) hb); clear HO_347001; clear HO_354001; clear HO357; clear BK334; clear BK335; clear BK336; clear BK346; clear BK353; clear BK360; clear HB; have HO_347001 := n0_; have HO_354001 := n1_; have HO357 := n2_; have HO364 := n3_; have BK334 := n4_; have BK335 := n5_; have BK336 := n6_; have BK346 := n7_; have BK353 := n8_; have BK360 := n9_; have HB := n10_; clear n0_ n1_ n2_ n3_ n4_ n5_ n6_ n7_ n8_ n9_ n10_; (try clear hb); (try clear hb2); (try clear hk); (try clear hi); (try clear ho0)) | ((with_reducible refine gate_dst (N := 14) rfl ?_); refine box_event ?hg (N := 14) ?hd (cs := #[.bool false, .slice none 0 0, .int .i64 0]) (t := 24) ?hr ?_; (case hd => rfl); (case hg => rfl); (case hr => first | (go_simp; done) | (go_simp; rfl)); intro gb367 hg w90 hbox hb; have n0_ := Aside0.mk (Kd.V_below (Kd.V_elderB (by (with_reducible repeat (first | apply Kd.V_alloc | apply Kd.V_drewN | apply Kd.V_drew)); exact HO_347001.out) gb367 (Nat.le_of_eq hg.symm)) hb); have n1_ := Aside0.mk (Kd.V_below (Kd.V_elderB (by (with_reducible repeat (first | apply Kd.V_alloc | apply Kd.V_drewN | apply Kd.V_drew)); exact HO_354001.out) gb367 (Nat.le_of_eq hg.symm)) hb); have n2_ := Aside0.mk (Kd.V_below (Kd.V_elderB (by (with_reducible repeat (first | apply Kd.V_alloc | apply Kd.V_drewN | apply Kd.V_drew)); exact HO357.out) gb367 (Nat.le_of_eq hg.symm)) hb); have n3_ := Aside0.mk (Kd.V_below (Kd.V_elderB (by (with_reducible repeat (first | apply Kd.V_alloc | apply Kd.V_drewN | apply Kd.V_drew)); exact HO364.out) gb367 (Nat.le_of_eq hg.symm)) hb); have n4_ := Aside0.mk (blk_below (g := gb334) (o := .cells #[.bool a0_0, .slice A0_1 l0_1.length c0_1, .int .i64 a0_2, .bool a0_3, .slice A0_4 l0_4.length c0_4, .int .i64 a0_5, .int .i16 a0_6, .int .i16 a0_7] 48 (0, 0)) (by (with_reducible repeat (first | refine blk_drewN ?_ _ | refine blk_drew ?_ | refine blk_alloc ?_ _)); exact BK334.out) hb); have n5_ := Aside0.mk (blk_below (g := gb335) (o := .cells #[.bool a0_0, .slice A0_1 l0_1.length c0_1, .int .i64 a0_2] 24 (0, 0)) (by (with_reducible repeat (first | refine blk_drewN ?_ _ | refine blk_drew ?_ | refine blk_alloc ?_ _)); exact BK335.out) hb); have n6_ := Aside0.mk (blk_below (g := gb336) (o := .cells #[.bool a0_3, .slice A0_4 l0_4.length c0_4, .int .i64 a0_5] 24 (0, 0)) (by (with_reducible repeat (first | refine blk_drewN ?_ _ | refine blk_drew ?_ | refine blk_alloc ?_ _)); exact BK336.out) hb); have n7_ := Aside0.mk (blk_below (g := gb346) (o := .cells #[.bool t340, .slice Ao43 t341.length co43, .int .i64 t344] 24 (0, 0)) (by (with_reducible repeat (first | refine blk_drewN ?_ _ | refine blk_drew ?_ | refine blk_alloc ?_ _)); exact BK346.out) hb); have n8_ := Aside0.mk (blk_below (g := gb353) (o := .cells #[.bool t347, .slice Ao54 t348.length co54, .int .i64 t351] 24 (0, 0)) (by (with_reducible repeat (first | refine blk_drewN ?_ _ | refine blk_drew ?_ | refine blk_alloc ?_ _)); exact BK353.out) hb); have n9_ := Aside0.mk (blk_below (g := gb360) (o := .cells #[.bool t354, .slice Ao86 t355.length co86, .int .i64 t358] 24 (0, 0)) (by (with_reducible repeat (first | refine blk_drewN ?_ _ | refine blk_drew ?_ | refine blk_alloc ?_ _)); exact BK360.out) hb); have n10_ := Aside0.mk (below_step (by repeat (first | (with_reducible first | exact HB.out | apply below_alloc | apply pw_below_drewN | apply below_drew1 | refine below_set ?_ GE334.out | refine below_set ?_ GE335.out | refine below_set ?_ GE336.out | refine below_set ?_ GE346.out | refine below_set ?_ GE353.out | refine below_set ?_ GE360.out) | exact HB.out)) hb); have n11_ := Aside0.mk (hbox); have n12_ := Aside0.mk ((by rw [hg]; exact (below_size (by repeat (first | (with_reducible first | exact HB.out | apply below_alloc | apply pw_below_drewN | apply below_drew1 | refine below_set ?_ GE334.out | refine below_set ?_ GE335.out | refine below_set ?_ GE336.out | refine below_set ?_ GE346.out | refine below_set ?_ GE353.out | refine below_set ?_ GE360.out) | exact HB.out))) : w.heap.size ≤ gb367)); have n13_ := Aside0.mk ((by rw [hg]; exact (below_size (by repeat (first | (with_reducible first | exact HB.out | apply below_alloc | apply pw_below_drewN | apply below_drew1 | refine below_set ?_ GE334.out | refine below_set ?_ GE335.out | refine below_set ?_ GE336.out | refine below_set ?_ GE346.out | refine below_set ?_ GE353.out | refine below_set ?_ GE360.out) | exact HB.out))) : w.heap.size ≤ gb367)); have n14_ := Aside0.mk ((by rw [hg]; exact Nat.ne_of_lt (blk_lt (g := gb334) (o := .cells #[.bool a0_0, .slice A0_1 l0_1.length c0_1, .int .i64 a0_2, .bool a0_3, .slice A0_4 l0_4.length c0_4, .int .i64 a0_5, .int .i16 a0_6, .int .i16 a0_7] 48 (0, 0)) (by (with_reducible repeat (first | refine blk_drewN ?_ _ | refine blk_drew ?_ | refine blk_alloc ?_ _)); exact BK334.out)) : gb334 ≠ gb367)); have n15_ := Aside0.mk ((by rw [hg]; exact Nat.ne_of_gt (blk_lt (g := gb334) (o := .cells #[.bool a0_0, .slice A0_1 l0_1.length c0_1, .int .i64 a0_2, .bool a0_3, .slice A0_4 l0_4.length c0_4, .int .i64 a0_5, .int .i16 a0_6, .int .i16 a0_7] 48 (0, 0)) (by (with_reducible repeat (first | refine blk_drewN ?_ _ | refine blk_drew ?_ | refine blk_alloc ?_ _)); exact BK334.out)) : gb367 ≠ gb334)); have n16_ := Aside0.mk ((by rw [hg]; exact Nat.ne_of_lt (blk_lt (g := gb335) (o := .cells #[.bool a0_0, .slice A0_1 l0_1.length c0_1, .int .i64 a0_2] 24 (0, 0)) (by (with_reducible repeat (first | refine blk_drewN ?_ _ | refine blk_drew ?_ | refine blk_alloc ?_ _)); exact BK335.out)) : gb335 ≠ gb367)); have n17_ := Aside0.mk ((by rw [hg]; exact Nat.ne_of_gt (blk_lt (g := gb335) (o := .cells #[.bool a0_0, .slice A0_1 l0_1.length c0_1, .int .i64 a0_2] 24 (0, 0)) (by (with_reducible repeat (first | refine blk_drewN ?_ _ | refine blk_drew ?_ | refine blk_alloc ?_ _)); exact BK335.out)) : gb367 ≠ gb335)); have n18_ := Aside0.mk ((by rw [hg]; exact Nat.ne_of_lt (blk_lt (g := gb336) (o := .cells #[.bool a0_3, .slice A0_4 l0_4.length c0_4, .int .i64 a0_5] 24 (0, 0)) (by (with_reducible repeat (first | refine blk_drewN ?_ _ | refine blk_drew ?_ | refine blk_alloc ?_ _)); exact BK336.out)) : gb336 ≠ gb367)); have n19_ := Aside0.mk ((by rw [hg]; exact Nat.ne_of_gt (blk_lt (g := gb336) (o := .cells #[.bool a0_3, .slice A0_4 l0_4.length c0_4, .int .i64 a0_5] 24 (0, 0)) (by (with_reducible repeat (first | refine blk_drewN ?_ _ | refine blk_drew ?_ | refine blk_alloc ?_ _)); exact BK336.out)) : gb367 ≠ gb336)); have n20_ := Aside0.mk ((by rw [hg]; exact Nat.ne_of_lt (blk_lt (g := gb346) (o := .cells #[.bool t340, .slice Ao43 t341.length co43, .int .i64 t344] 24 (0, 0)) (by (with_reducible repeat (first | refine blk_drewN ?_ _ | refine blk_drew ?_ | refine blk_alloc ?_ _)); exact BK346.out)) : gb346 ≠ gb367)); have n21_ := Aside0.mk ((by rw [hg]; exact Nat.ne_of_gt (blk_lt (g := gb346) (o := .cells #[.bool t340, .slice Ao43 t341.length co43, .int .i64 t344] 24 (0, 0)) (by (with_reducible repeat (first | refine blk_drewN ?_ _ | refine blk_drew ?_ | refine blk_alloc ?_ _)); exact BK346.out)) : gb367 ≠ gb346)); have n22_ := Aside0.mk ((by rw [hg]; exact Nat.ne_of_lt (blk_lt (g := gb353) (o := .cells #[.bool t347, .slice Ao54 t348.length co54, .int .i64 t351] 24 (0, 0)) (by (with_reducible repeat (first | refine blk_drewN ?_ _ | refine blk_drew ?_ | refine blk_alloc ?_ _)); exact BK353.out)) : gb353 ≠ gb367)); have n23_ := Aside0.mk ((by rw [hg]; exact Nat.ne_of_gt (blk_lt (g := gb353) (o := .cells #[.bool t347, .slice Ao54 t348.length co54, .int .i64 t351] 24 (0, 0)) (by (with_reducible repeat (first | refine blk_drewN ?_ _ | refine blk_drew ?_ | refine blk_alloc ?_ _)); exact BK353.out)) : gb367 ≠ gb353)); have n24_ := Aside0.mk ((by rw [hg]; exact Nat.ne_of_lt (blk_lt (g := gb360) (o := .cells #[.bool t354, .slice Ao86 t355.length co86, .int .i64 t358] 24 (0, 0)) (by (with_reducible repeat (first | refine blk_drewN ?_ _ | refine blk_drew ?_ | refine blk_alloc ?_ _)); exact BK360.out)) : gb360 ≠ gb367)); have n25_ := Aside0.mk ((by rw [hg]; exact Nat.ne_of_gt (blk_lt (g := gb360) (o := .cells #[.bool t354, .slice Ao86 t355.length co86, .int .i64 t358] 24 (0, 0)) (by (with_reducible repeat (first | refine blk_drewN ?_ _ | refine blk_drew ?_ | refine blk_alloc ?_ _)); exact BK360.out)) : gb367 ≠ gb360)); clear HO_347001; clear HO_354001; clear HO357; clear HO364; clear BK334; clear BK335; clear BK336; clear BK346; clear BK353; clear BK360; clear HB; have HO_347001 := n0_; have HO_354001 := n1_; have HO357 := n2_; have HO364 := n3_; have BK334 := n4_; have BK335 := n5_; have BK336 := n6_; have BK346 := n7_; have BK353 := n8_; have BK360 := n9_; have HB := n10_; have BK367 := n11_; have GW367 := n12_; have GE367 := n13_; have NB334_367 := n14_; have NB367_334 := n15_; have NB335_367 := n16_; have NB367_335 := n17_; have NB336_367 := n18_; have NB367_336 := n19_; have NB346_367 := n20_; have NB367_346 := n21_; have NB353_367 := n22_; have NB367_353 := n23_; have NB360_367 := n24_; have NB367_360 := n25_; clear n0_ n1_ n2_ n3_ n4_ n5_ n6_ n7_ n8_ n9_ n10_ n11_ n12_ n13_ n14_ n15_ n16_ n17_ n18_ n19_ n20_ n21_ n22_ n23_ n24_ n25_; clear hb hbox hg; have hnb91 := NB367_334.out; have hnc91 := NB334_367.out; have hnb92 := NB367_335.out; have hnc92 := NB335_367.out; have hnb93 := NB367_336.out; have hnc93 := NB336_367.out; have hnb94 := NB367_346.out; have hnc94 := NB346_367.out; have hnb95 := NB367_353.out; have hnc95 := NB353_367.out; have hnb96 := NB367_360.out; have hnc96 := NB360_367.out; have hcz97_0 : w90.cell? ⟨gb367, 0, none⟩ = some (.bool false) := (blk_cell BK367.out 0).trans rfl; have hcz97_1 : w90.cell? ⟨gb367, 1, none⟩ = some (.slice none 0 0) := (blk_cell BK367.out 1).trans rfl; have hcz97_2 : w90.cell? ⟨gb367, 2, none⟩ = some (.int .i64 0) := (blk_cell BK367.out 2).trans rfl; have hfz97_0 := blk_frozen BK367.out 0; have hfz97_1 := blk_frozen BK367.out 1; have hfz97_2 := blk_frozen BK367.out 2; obtain ⟨Ao98, co98, eo98⟩ := Kd.V_slice HO364.out; subst eo98) | ((with_reducible refine gate_store (t := 24) (p := 14) rfl ?_); refine store_event (t := 24) (p := 14) (v := ?vo_w99) (w1 := (((w90.setCell ⟨gb367, 0, none⟩ (.bool t361)).setCell ⟨gb367, 1, none⟩ (.slice Ao98 t362.length co98)).setCell ⟨gb367, 2, none⟩ (.int .i64 t365))) ?hg ?ho ?hn ?hr ?_; (case ho => rfl); (case hg => rfl); (case hn => rfl); (case hr => first | (go_simp; done) | (go_simp; rfl)); intro w99 hw; have n0_ : Aside0 (Kd.V (Kd.int .u8) 5 w99 w.heap.size (fun k_ => k_ ≠ gb334 ∧ k_ ≠ gb335 ∧ k_ ≠ gb336 ∧ k_ ≠ gb346 ∧ k_ ≠ gb353 ∧ k_ ≠ gb360 ∧ k_ ≠ gb367) (.slice Ao43 t341.length co43) t341) := ⟨(by rw [hw]; exact (by (with_reducible repeat (first | apply Kd.V_alloc | apply Kd.V_drewN | apply Kd.V_drew)); exact Kd.V_mono (Kd.V_far (p := ⟨gb367, 2, none⟩) (Kd.V_far (p := ⟨gb367, 1, none⟩) (Kd.V_far (p := ⟨gb367, 0, none⟩) (Kd.V_mono HO_347001.out (fun k_ hk => (⟨hk, hk.2⟩ : _ ∧ k_ ≠ gb367))) (fun _ hk => hk.2) (.bool t361)) (fun _ hk => hk.2) (.slice Ao98 t362.length co98)) (fun _ hk => hk.2) (.int .i64 t365)) (fun _ hk => ⟨hk.1.1.1, ⟨hk.1.1.2.1, ⟨hk.1.1.2.2.1, ⟨hk.1.1.2.2.2.1, ⟨hk.1.1.2.2.2.2.1, ⟨hk.1.1.2.2.2.2.2, hk.1.2⟩⟩⟩⟩⟩⟩)))⟩; have n1_ : Aside0 (Kd.V (Kd.int .u8) 5 w99 w.heap.size (fun k_ => k_ ≠ gb334 ∧ k_ ≠ gb335 ∧ k_ ≠ gb336 ∧ k_ ≠ gb346 ∧ k_ ≠ gb353 ∧ k_ ≠ gb360 ∧ k_ ≠ gb367) (.slice Ao54 t348.length co54) t348) := ⟨(by rw [hw]; exact (by (with_reducible repeat (first | apply Kd.V_alloc | apply Kd.V_drewN | apply Kd.V_drew)); exact Kd.V_mono (Kd.V_far (p := ⟨gb367, 2, none⟩) (Kd.V_far (p := ⟨gb367, 1, none⟩) (Kd.V_far (p := ⟨gb367, 0, none⟩) (Kd.V_mono HO_354001.out (fun k_ hk => (⟨hk, hk.2⟩ : _ ∧ k_ ≠ gb367))) (fun _ hk => hk.2) (.bool t361)) (fun _ hk => hk.2) (.slice Ao98 t362.length co98)) (fun _ hk => hk.2) (.int .i64 t365)) (fun _ hk => ⟨hk.1.1.1, ⟨hk.1.1.2.1, ⟨hk.1.1.2.2.1, ⟨hk.1.1.2.2.2.1, ⟨hk.1.1.2.2.2.2.1, ⟨hk.1.1.2.2.2.2.2, hk.1.2⟩⟩⟩⟩⟩⟩)))⟩; have n2_ : Aside0 (Kd.V (Kd.int .u8) 5 w99 w.heap.size (fun k_ => k_ ≠ gb334 ∧ k_ ≠ gb335 ∧ k_ ≠ gb336 ∧ k_ ≠ gb346 ∧ k_ ≠ gb353 ∧ k_ ≠ gb360 ∧ k_ ≠ gb367) (.slice Ao86 t355.length co86) t355) := ⟨(by rw [hw]; exact (by (with_reducible repeat (first | apply Kd.V_alloc | apply Kd.V_drewN | apply Kd.V_drew)); exact Kd.V_mono (Kd.V_far (p := ⟨gb367, 2, none⟩) (Kd.V_far (p := ⟨gb367, 1, none⟩) (Kd.V_far (p := ⟨gb367, 0, none⟩) (Kd.V_mono HO357.out (fun k_ hk => (⟨hk, hk.2⟩ : _ ∧ k_ ≠ gb367))) (fun _ hk => hk.2) (.bool t361)) (fun _ hk => hk.2) (.slice Ao98 t362.length co98)) (fun _ hk => hk.2) (.int .i64 t365)) (fun _ hk => ⟨hk.1.1.1, ⟨hk.1.1.2.1, ⟨hk.1.1.2.2.1, ⟨hk.1.1.2.2.2.1, ⟨hk.1.1.2.2.2.2.1, ⟨hk.1.1.2.2.2.2.2, hk.1.2⟩⟩⟩⟩⟩⟩)))⟩; have n3_ : Aside0 (Kd.V (Kd.int .u8) 5 w99 w.heap.size (fun k_ => k_ ≠ gb334 ∧ k_ ≠ gb335 ∧ k_ ≠ gb336 ∧ k_ ≠ gb346 ∧ k_ ≠ gb353 ∧ k_ ≠ gb360 ∧ k_ ≠ gb367) (.slice Ao98 t362.length co98) t362) := ⟨(by rw [hw]; exact (by (with_reducible repeat (first | apply Kd.V_alloc | apply Kd.V_drewN | apply Kd.V_drew)); exact Kd.V_mono (Kd.V_far (p := ⟨gb367, 2, none⟩) (Kd.V_far (p := ⟨gb367, 1, none⟩) (Kd.V_far (p := ⟨gb367, 0, none⟩) (Kd.V_mono HO364.out (fun k_ hk => (⟨hk, hk.2⟩ : _ ∧ k_ ≠ gb367))) (fun _ hk => hk.2) (.bool t361)) (fun _ hk => hk.2) (.slice Ao98 t362.length co98)) (fun _ hk => hk.2) (.int .i64 t365)) (fun _ hk => ⟨hk.1.1.1, ⟨hk.1.1.2.1, ⟨hk.1.1.2.2.1, ⟨hk.1.1.2.2.2.1, ⟨hk.1.1.2.2.2.2.1, ⟨hk.1.1.2.2.2.2.2, hk.1.2⟩⟩⟩⟩⟩⟩)))⟩; have n4_ : Aside0 (w99.heap[gb334]? = some (.cells #[.bool a0_0, .slice A0_1 l0_1.length c0_1, .int .i64 a0_2, .bool a0_3, .slice A0_4 l0_4.length c0_4, .int .i64 a0_5, .int .i16 a0_6, .int .i16 a0_7] 48 (0, 0))) := ⟨(by rw [hw]; exact (by (with_reducible repeat (first | refine blk_drewN ?_ _ | refine blk_drew ?_ | refine blk_alloc ?_ _)); refine blk_far ?_ NB334_367.out _; (with_reducible repeat (first | refine blk_drewN ?_ _ | refine blk_drew ?_ | refine blk_alloc ?_ _)); refine blk_far ?_ NB334_367.out _; (with_reducible repeat (first | refine blk_drewN ?_ _ | refine blk_drew ?_ | refine blk_alloc ?_ _)); refine blk_far ?_ NB334_367.out _; (with_reducible repeat (first | refine blk_drewN ?_ _ | refine blk_drew ?_ | refine blk_alloc ?_ _)); exact BK334.out))⟩; have n5_ : Aside0 (w99.heap[gb335]? = some (.cells #[.bool a0_0, .slice A0_1 l0_1.length c0_1, .int .i64 a0_2] 24 (0, 0))) := ⟨(by rw [hw]; exact (by (with_reducible repeat (first | refine blk_drewN ?_ _ | refine blk_drew ?_ | refine blk_alloc ?_ _)); refine blk_far ?_ NB335_367.out _; (with_reducible repeat (first | refine blk_drewN ?_ _ | refine blk_drew ?_ | refine blk_alloc ?_ _)); refine blk_far ?_ NB335_367.out _; (with_reducible repeat (first | refine blk_drewN ?_ _ | refine blk_drew ?_ | refine blk_alloc ?_ _)); refine blk_far ?_ NB335_367.out _; (with_reducible repeat (first | refine blk_drewN ?_ _ | refine blk_drew ?_ | refine blk_alloc ?_ _)); exact BK335.out))⟩; have n6_ : Aside0 (w99.heap[gb336]? = some (.cells #[.bool a0_3, .slice A0_4 l0_4.length c0_4, .int .i64 a0_5] 24 (0, 0))) := ⟨(by rw [hw]; exact (by (with_reducible repeat (first | refine blk_drewN ?_ _ | refine blk_drew ?_ | refine blk_alloc ?_ _)); refine blk_far ?_ NB336_367.out _; (with_reducible repeat (first | refine blk_drewN ?_ _ | refine blk_drew ?_ | refine blk_alloc ?_ _)); refine blk_far ?_ NB336_367.out _; (with_reducible repeat (first | refine blk_drewN ?_ _ | refine blk_drew ?_ | refine blk_alloc ?_ _)); refine blk_far ?_ NB336_367.out _; (with_reducible repeat (first | refine blk_drewN ?_ _ | refine blk_drew ?_ | refine blk_alloc ?_ _)); exact BK336.out))⟩; have n7_ : Aside0 (w99.heap[gb346]? = some (.cells #[.bool t340, .slice Ao43 t341.length co43, .int .i64 t344] 24 (0, 0))) := ⟨(by rw [hw]; exact (by (with_reducible repeat (first | refine blk_drewN ?_ _ | refine blk_drew ?_ | refine blk_alloc ?_ _)); refine blk_far ?_ NB346_367.out _; (with_reducible repeat (first | refine blk_drewN ?_ _ | refine blk_drew ?_ | refine blk_alloc ?_ _)); refine blk_far ?_ NB346_367.out _; (with_reducible repeat (first | refine blk_drewN ?_ _ | refine blk_drew ?_ | refine blk_alloc ?_ _)); refine blk_far ?_ NB346_367.out _; (with_reducible repeat (first | refine blk_drewN ?_ _ | refine blk_drew ?_ | refine blk_alloc ?_ _)); exact BK346.out))⟩; have n8_ : Aside0 (w99.heap[gb353]? = some (.cells #[.bool t347, .slice Ao54 t348.length co54, .int .i64 t351] 24 (0, 0))) := ⟨(by rw [hw]; exact (by (with_reducible repeat (first | refine blk_drewN ?_ _ | refine blk_drew ?_ | refine blk_alloc ?_ _)); refine blk_far ?_ NB353_367.out _; (with_reducible repeat (first | refine blk_drewN ?_ _ | refine blk_drew ?_ | refine blk_alloc ?_ _)); refine blk_far ?_ NB353_367.out _; (with_reducible repeat (first | refine blk_drewN ?_ _ | refine blk_drew ?_ | refine blk_alloc ?_ _)); refine blk_far ?_ NB353_367.out _; (with_reducible repeat (first | refine blk_drewN ?_ _ | refine blk_drew ?_ | refine blk_alloc ?_ _)); exact BK353.out))⟩; have n9_ : Aside0 (w99.heap[gb360]? = some (.cells #[.bool t354, .slice Ao86 t355.length co86, .int .i64 t358] 24 (0, 0))) := ⟨(by rw [hw]; exact (by (with_reducible repeat (first | refine blk_drewN ?_ _ | refine blk_drew ?_ | refine blk_alloc ?_ _)); refine blk_far ?_ NB360_367.out _; (with_reducible repeat (first | refine blk_drewN ?_ _ | refine blk_drew ?_ | refine blk_alloc ?_ _)); refine blk_far ?_ NB360_367.out _; (with_reducible repeat (first | refine blk_drewN ?_ _ | refine blk_drew ?_ | refine blk_alloc ?_ _)); refine blk_far ?_ NB360_367.out _; (with_reducible repeat (first | refine blk_drewN ?_ _ | refine blk_drew ?_ | refine blk_alloc ?_ _)); exact BK360.out))⟩; have n10_ : Aside0 (w99.heap[gb367]? = some (.cells #[.bool t361, .slice Ao98 t362.length co98, .int .i64 t365] 24 (0, 0))) := ⟨(by rw [hw]; exact (by (with_reducible repeat (first | refine blk_drewN ?_ _ | refine blk_drew ?_ | refine blk_alloc ?_ _)); refine blk_put (cs := #[.bool t361, .slice Ao98 t362.length co98, .int .i64 0]) ?_ 2 _ rfl; (with_reducible repeat (first | refine blk_drewN ?_ _ | refine blk_drew ?_ | refine blk_alloc ?_ _)); refine blk_put (cs := #[.bool t361, .slice none 0 0, .int .i64 0]) ?_ 1 _ rfl; (with_reducible repeat (first | refine blk_drewN ?_ _ | refine blk_drew ?_ | refine blk_alloc ?_ _)); refine blk_put (cs := #[.bool false, .slice none 0 0, .int .i64 0]) ?_ 0 _ rfl; (with_reducible repeat (first | refine blk_drewN ?_ _ | refine blk_drew ?_ | refine blk_alloc ?_ _)); exact BK367.out))⟩; have n11_ : Aside0 (Below w.heap.size w w99) := ⟨(by rw [hw]; exact (by repeat (first | (with_reducible first | exact HB.out | apply below_alloc | apply pw_below_drewN | apply below_drew1 | refine below_set ?_ GE334.out | refine below_set ?_ GE335.out | refine below_set ?_ GE336.out | refine below_set ?_ GE346.out | refine below_set ?_ GE353.out | refine below_set ?_ GE360.out | refine below_set ?_ GE367.out) | exact HB.out)))⟩; clear hw; clear HO_347001; clear HO_354001; clear HO357; clear HO364; clear BK334; clear BK335; clear BK336; clear BK346; clear BK353; clear BK360; clear BK367; clear HB; have HO_347001 := n0_; have HO_354001 := n1_; have HO357 := n2_; have HO364 := n3_; have BK334 := n4_; have BK335 := n5_; have BK336 := n6_; have BK346 := n7_; have BK353 := n8_; have BK360 := n9_; have BK367 := n10_; have HB := n11_; clear n0_ n1_ n2_ n3_ n4_ n5_ n6_ n7_ n8_ n9_ n10_ n11_; have hnb100 := NB335_334.out; have hnc100 := NB334_335.out; have hnb101 := NB335_336.out; have hnc101 := NB336_335.out; have hnb102 := NB335_353.out; have hnc102 := NB353_335.out; have hcz103_0 : w99.cell? ⟨gb335, 0, none⟩ = some (.bool a0_0) := (blk_cell BK335.out 0).trans rfl; have hcz103_1 : w99.cell? ⟨gb335, 1, none⟩ = some (.slice A0_1 l0_1.length c0_1) := (blk_cell BK335.out 1).trans rfl; have hcz103_2 : w99.cell? ⟨gb335, 2, none⟩ = some (.int .i64 a0_2) := (blk_cell BK335.out 2).trans rfl; have hfz103_0 := blk_frozen BK335.out 0; have hfz103_1 := blk_frozen BK335.out 1; have hfz103_2 := blk_frozen BK335.out 2) | ((with_reducible refine gate_callee (f := 22) rfl ?_); refine goesL_ (some 79) rfl rfl Tryd.func22 (by kernel_rfl) rfl #[.agg #[.bool a0_0, .slice A0_1 l0_1.length c0_1, .int .i64 a0_2], .int .i64 (wrap64 ((wrap64 (a0_6)) + (wrap64 (a0_7))))] rfl (by (try simp only [List.map_toArray, List.map_cons, List.map_nil]); first | done | rfl | (simp only [List.length_drop, List.length_take]; rfl)) ?_; (with_reducible refine (dec_Shift.calls a0_0 (fun k_ => k_ < w.heap.size) _ _ l0_1 a0_2 (wrap64 ((wrap64 (a0_6)) + (wrap64 (a0_7)))) t368 t369 t372 t373 _ ?side1 A59.out).mono ?_); (case side1 => exact Kd.V_mk HC0_1.out (Kd.F_below (Kd.C_F (Kd.heap_int .u8) HR0_1.out) (by repeat (first | (with_reducible first | exact HB.out | apply below_alloc | apply pw_below_drewN | apply below_drew1 | refine below_set ?_ GE334.out | refine below_set ?_ GE335.out | refine below_set ?_ GE336.out | refine below_set ?_ GE346.out | refine below_set ?_ GE353.out | refine below_set ?_ GE360.out | refine below_set ?_ GE367.out) | exact HB.out)))); rintro e w104 ⟨v370, rfl, ho0, hb⟩; refine ⟨_, rfl, ?_⟩; have n0_ := Aside0.mk (Kd.V_below (by (with_reducible repeat (first | apply Kd.V_alloc | apply Kd.V_drewN | apply Kd.V_drew)); exact HO_347001.out) hb); have n1_ := Aside0.mk (Kd.V_below (by (with_reducible repeat (first | apply Kd.V_alloc | apply Kd.V_drewN | apply Kd.V_drew)); exact HO_354001.out) hb); have n2_ := Aside0.mk (Kd.V_below (by (with_reducible repeat (first | apply Kd.V_alloc | apply Kd.V_drewN | apply Kd.V_drew)); exact HO357.out) hb); have n3_ := Aside0.mk (Kd.V_below (by (with_reducible repeat (first | apply Kd.V_alloc | apply Kd.V_drewN | apply Kd.V_drew)); exact HO364.out) hb); have n4_ := Aside0.mk (Kd.V_lower (Kd.V_mono (ok' := fun k_ => k_ ≠ gb334 ∧ k_ ≠ gb335 ∧ k_ ≠ gb336 ∧ k_ ≠ gb346 ∧ k_ ≠ gb353 ∧ k_ ≠ gb360 ∧ k_ ≠ gb367) ho0 (fun k_ hk_ => ⟨Or.elim hk_ (fun hs_ => fun e_ => Nat.not_le.2 hs_ (by rw [e_]; exact GW334.out)) (fun hn_ => (Kd.freshB (g := gb334) (o := .cells #[.bool a0_0, .slice A0_1 l0_1.length c0_1, .int .i64 a0_2, .bool a0_3, .slice A0_4 l0_4.length c0_4, .int .i64 a0_5, .int .i16 a0_6, .int .i16 a0_7] 48 (0, 0)) (by (with_reducible repeat (first | refine blk_drewN ?_ _ | refine blk_drew ?_ | refine blk_alloc ?_ _)); exact BK334.out) k_ hn_)), Or.elim hk_ (fun hs_ => fun e_ => Nat.not_le.2 hs_ (by rw [e_]; exact GW335.out)) (fun hn_ => (Kd.freshB (g := gb335) (o := .cells #[.bool a0_0, .slice A0_1 l0_1.length c0_1, .int .i64 a0_2] 24 (0, 0)) (by (with_reducible repeat (first | refine blk_drewN ?_ _ | refine blk_drew ?_ | refine blk_alloc ?_ _)); exact BK335.out) k_ hn_)), Or.elim hk_ (fun hs_ => fun e_ => Nat.not_le.2 hs_ (by rw [e_]; exact GW336.out)) (fun hn_ => (Kd.freshB (g := gb336) (o := .cells #[.bool a0_3, .slice A0_4 l0_4.length c0_4, .int .i64 a0_5] 24 (0, 0)) (by (with_reducible repeat (first | refine blk_drewN ?_ _ | refine blk_drew ?_ | refine blk_alloc ?_ _)); exact BK336.out) k_ hn_)), Or.elim hk_ (fun hs_ => fun e_ => Nat.not_le.2 hs_ (by rw [e_]; exact GW346.out)) (fun hn_ => (Kd.freshB (g := gb346) (o := .cells #[.bool t340, .slice Ao43 t341.length co43, .int .i64 t344] 24 (0, 0)) (by (with_reducible repeat (first | refine blk_drewN ?_ _ | refine blk_drew ?_ | refine blk_alloc ?_ _)); exact BK346.out) k_ hn_)), Or.elim hk_ (fun hs_ => fun e_ => Nat.not_le.2 hs_ (by rw [e_]; exact GW353.out)) (fun hn_ => (Kd.freshB (g := gb353) (o := .cells #[.bool t347, .slice Ao54 t348.length co54, .int .i64 t351] 24 (0, 0)) (by (with_reducible repeat (first | refine blk_drewN ?_ _ | refine blk_drew ?_ | refine blk_alloc ?_ _)); exact BK353.out) k_ hn_)), Or.elim hk_ (fun hs_ => fun e_ => Nat.not_le.2 hs_ (by rw [e_]; exact GW360.out)) (fun hn_ => (Kd.freshB (g := gb360) (o := .cells #[.bool t354, .slice Ao86 t355.length co86, .int .i64 t358] 24 (0, 0)) (by (with_reducible repeat (first | refine blk_drewN ?_ _ | refine blk_drew ?_ | refine blk_alloc ?_ _)); exact BK360.out) k_ hn_)), Or.elim hk_ (fun hs_ => fun e_ => Nat.not_le.2 hs_ (by rw [e_]; exact GW367.out)) (fun hn_ => (Kd.freshB (g := gb367) (o := .cells #[.bool t361, .slice Ao98 t362.length co98, .int .i64 t365] 24 (0, 0)) (by (with_reducible repeat (first | refine blk_drewN ?_ _ | refine blk_drew ?_ | refine blk_alloc ?_ _)); exact BK367.out) k_ hn_))⟩)) (below_size (by repeat (first | (with_reducible first | exact HB.out | apply below_alloc | apply pw_below_drewN | apply below_drew1 | refine below_set ?_ GE334.out | refine below_set ?_ GE335.out | refine below_set ?_ GE336.out | refine below_set ?_ GE346.out | refine below_set ?_ GE353.out | refine below_set ?_ GE360.out | refine below_set ?_ GE367.out) | exact HB.out)))); have n5_ := Aside0.mk (blk_below (g := gb334) (o := .cells #[.bool a0_0, .slice A0_1 l0_1.length c0_1, .int .i64 a0_2, .bool a0_3, .slice A0_4 l0_4.length c0_4, .int .i64 a0_5, .int .i16 a0_6, .int .i16 a0_7] 48 (0, 0)) (by (with_reducible repeat (first | refine blk_drewN ?_ _ | refine blk_drew ?_ | refine blk_alloc ?_ _)); exact BK334.out) hb); have n6_ := Aside0.mk (blk_below (g := gb335) (o := .cells #[.bool a0_0, .slice A0_1 l0_1.length c0_1, .int .i64 a0_2] 24 (0, 0)) (by (with_reducible repeat (first | refine blk_drewN ?_ _ | refine blk_drew ?_ | refine blk_alloc ?_ _)); exact BK335.out) hb); have n7_ := Aside0.mk (blk_below (g := gb336) (o := .cells #[.bool a0_3, .slice A0_4 l0_4.length c0_4, .int .i64 a0_5] 24 (0, 0)) (by (with_reducible repeat (first | refine blk_drewN ?_ _ | refine blk_drew ?_ | refine blk_alloc ?_ _)); exact BK336.out) hb); have n8_ := Aside0.mk (blk_below (g := gb346) (o := .cells #[.bool t340, .slice Ao43 t341.length co43, .int .i64 t344] 24 (0, 0)) (by (with_reducible repeat (first | refine blk_drewN ?_ _ | refine blk_drew ?_ | refine blk_alloc ?_ _)); exact BK346.out) hb); have n9_ := Aside0.mk (blk_below (g := gb353) (o := .cells #[.bool t347, .slice Ao54 t348.length co54, .int .i64 t351] 24 (0, 0)) (by (with_reducible repeat (first | refine blk_drewN ?_ _ | refine blk_drew ?_ | refine blk_alloc ?_ _)); exact BK353.out) hb); have n10_ := Aside0.mk (blk_below (g := gb360) (o := .cells #[.bool t354, .slice Ao86 t355.length co86, .int .i64 t358] 24 (0, 0)) (by (with_reducible repeat (first | refine blk_drewN ?_ _ | refine blk_drew ?_ | refine blk_alloc ?_ _)); exact BK360.out) hb); have n11_ := Aside0.mk (blk_below (g := gb367) (o := .cells #[.bool t361, .slice Ao98 t362.length co98, .int .i64 t365] 24 (0, 0)) (by (with_reducible repeat (first | refine blk_drewN ?_ _ | refine blk_drew ?_ | refine blk_alloc ?_ _)); exact BK367.out) hb); have n12_ := Aside0.mk (below_step (by repeat (first | (with_reducible first | exact HB.out | apply below_alloc | apply pw_below_drewN | apply below_drew1 | refine below_set ?_ GE334.out | refine below_set ?_ GE335.out | refine below_set ?_ GE336.out | refine below_set ?_ GE346.out | refine below_set ?_ GE353.out | refine below_set ?_ GE360.out | refine below_set ?_ GE367.out) | exact HB.out)) hb); clear HO_347001; clear HO_354001; clear HO357; clear HO364; clear BK334; clear BK335; clear BK336; clear BK346; clear BK353; clear BK360; clear BK367; clear HB; have HO_347001 := n0_; have HO_354001 := n1_; have HO357 := n2_; have HO364 := n3_; have HO371 := n4_; have BK334 := n5_; have BK335 := n6_; have BK336 := n7_; have BK346 := n8_; have BK353 := n9_; have BK360 := n10_; have BK367 := n11_; have HB := n12_; clear n0_ n1_ n2_ n3_ n4_ n5_ n6_ n7_ n8_ n9_ n10_ n11_ n12_; (try clear hb); (try clear hb2); (try clear hk); (try clear hi); (try clear ho0)) | ((with_reducible refine gate_dst (N := 16) rfl ?_); refine box_event ?hg (N := 16) ?hd (cs := #[.bool false, .slice none 0 0, .int .i64 0]) (t := 24) ?hr ?_; (case hd => rfl); (case hg => rfl); (case hr => first | (go_simp; done) | (go_simp; rfl)); intro gb374 hg w105 hbox hb; have n0_ := Aside0.mk (Kd.V_below (Kd.V_elderB (by (with_reducible repeat (first | apply Kd.V_alloc | apply Kd.V_drewN | apply Kd.V_drew)); exact HO_347001.out) gb374 (Nat.le_of_eq hg.symm)) hb); have n1_ := Aside0.mk (Kd.V_below (Kd.V_elderB (by (with_reducible repeat (first | apply Kd.V_alloc | apply Kd.V_drewN | apply Kd.V_drew)); exact HO_354001.out) gb374 (Nat.le_of_eq hg.symm)) hb); have n2_ := Aside0.mk (Kd.V_below (Kd.V_elderB (by (with_reducible repeat (first | apply Kd.V_alloc | apply Kd.V_drewN | apply Kd.V_drew)); exact HO357.out) gb374 (Nat.le_of_eq hg.symm)) hb); have n3_ := Aside0.mk (Kd.V_below (Kd.V_elderB (by (with_reducible repeat (first | apply Kd.V_alloc | apply Kd.V_drewN | apply Kd.V_drew)); exact HO364.out) gb374 (Nat.le_of_eq hg.symm)) hb); have n4_ := Aside0.mk (Kd.V_below (Kd.V_elderB (by (with_reducible repeat (first | apply Kd.V_alloc | apply Kd.V_drewN | apply Kd.V_drew)); exact HO371.out) gb374 (Nat.le_of_eq hg.symm)) hb); have n5_ := Aside0.mk (blk_below (g := gb334) (o := .cells #[.bool a0_0, .slice A0_1 l0_1.length c0_1, .int .i64 a0_2, .bool a0_3, .slice A0_4 l0_4.length c0_4, .int .i64 a0_5, .int .i16 a0_6, .int .i16 a0_7] 48 (0, 0)) (by (with_reducible repeat (first | refine blk_drewN ?_ _ | refine blk_drew ?_ | refine blk_alloc ?_ _)); exact BK334.out) hb); have n6_ := Aside0.mk (blk_below (g := gb335) (o := .cells #[.bool a0_0, .slice A0_1 l0_1.length c0_1, .int .i64 a0_2] 24 (0, 0)) (by (with_reducible repeat (first | refine blk_drewN ?_ _ | refine blk_drew ?_ | refine blk_alloc ?_ _)); exact BK335.out) hb); have n7_ := Aside0.mk (blk_below (g := gb336) (o := .cells #[.bool a0_3, .slice A0_4 l0_4.length c0_4, .int .i64 a0_5] 24 (0, 0)) (by (with_reducible repeat (first | refine blk_drewN ?_ _ | refine blk_drew ?_ | refine blk_alloc ?_ _)); exact BK336.out) hb); have n8_ := Aside0.mk (blk_below (g := gb346) (o := .cells #[.bool t340, .slice Ao43 t341.length co43, .int .i64 t344] 24 (0, 0)) (by (with_reducible repeat (first | refine blk_drewN ?_ _ | refine blk_drew ?_ | refine blk_alloc ?_ _)); exact BK346.out) hb); have n9_ := Aside0.mk (blk_below (g := gb353) (o := .cells #[.bool t347, .slice Ao54 t348.length co54, .int .i64 t351] 24 (0, 0)) (by (with_reducible repeat (first | refine blk_drewN ?_ _ | refine blk_drew ?_ | refine blk_alloc ?_ _)); exact BK353.out) hb); have n10_ := Aside0.mk (blk_below (g := gb360) (o := .cells #[.bool t354, .slice Ao86 t355.length co86, .int .i64 t358] 24 (0, 0)) (by (with_reducible repeat (first | refine blk_drewN ?_ _ | refine blk_drew ?_ | refine blk_alloc ?_ _)); exact BK360.out) hb); have n11_ := Aside0.mk (blk_below (g := gb367) (o := .cells #[.bool t361, .slice Ao98 t362.length co98, .int .i64 t365] 24 (0, 0)) (by (with_reducible repeat (first | refine blk_drewN ?_ _ | refine blk_drew ?_ | refine blk_alloc ?_ _)); exact BK367.out) hb); have n12_ := Aside0.mk (below_step (by repeat (first | (with_reducible first | exact HB.out | apply below_alloc | apply pw_below_drewN | apply below_drew1 | refine below_set ?_ GE334.out | refine below_set ?_ GE335.out | refine below_set ?_ GE336.out | refine below_set ?_ GE346.out | refine below_set ?_ GE353.out | refine below_set ?_ GE360.out | refine below_set ?_ GE367.out) | exact HB.out)) hb); have n13_ := Aside0.mk (hbox); have n14_ := Aside0.mk ((by rw [hg]; exact (below_size (by repeat (first | (with_reducible first | exact HB.out | apply below_alloc | apply pw_below_drewN | apply below_drew1 | refine below_set ?_ GE334.out | refine below_set ?_ GE335.out | refine below_set ?_ GE336.out | refine below_set ?_ GE346.out | refine below_set ?_ GE353.out | refine below_set ?_ GE360.out | refine below_set ?_ GE367.out) | exact HB.out))) : w.heap.size ≤ gb374)); have n15_ := Aside0.mk ((by rw [hg]; exact (below_size (by repeat (first | (with_reducible first | exact HB.out | apply below_alloc | apply pw_below_drewN | apply below_drew1 | refine below_set ?_ GE334.out | refine below_set ?_ GE335.out | refine below_set ?_ GE336.out | refine below_set ?_ GE346.out | refine below_set ?_ GE353.out | refine below_set ?_ GE360.out | refine below_set ?_ GE367.out) | exact HB.out))) : w.heap.size ≤ gb374)); have n16_ := Aside0.mk ((by rw [hg]; exact Nat.ne_of_lt (blk_lt (g := gb334) (o := .cells #[.bool a0_0, .slice A0_1 l0_1.length c0_1, .int .i64 a0_2, .bool a0_3, .slice A0_4 l0_4.length c0_4, .int .i64 a0_5, .int .i16 a0_6, .int .i16 a0_7] 48 (0, 0)) (by (with_reducible repeat (first | refine blk_drewN ?_ _ | refine blk_drew ?_ | refine blk_alloc ?_ _)); exact BK334.out)) : gb334 ≠ gb374)); have n17_ := Aside0.mk ((by rw [hg]; exact Nat.ne_of_gt (blk_lt (g := gb334) (o := .cells #[.bool a0_0, .slice A0_1 l0_1.length c0_1, .int .i64 a0_2, .bool a0_3, .slice A0_4 l0_4.length c0_4, .int .i64 a0_5, .int .i16 a0_6, .int .i16 a0_7] 48 (0, 0)) (by (with_reducible repeat (first | refine blk_drewN ?_ _ | refine blk_drew ?_ | refine blk_alloc ?_ _)); exact BK334.out)) : gb374 ≠ gb334)); have n18_ := Aside0.mk ((by rw [hg]; exact Nat.ne_of_lt (blk_lt (g := gb335) (o := .cells #[.bool a0_0, .slice A0_1 l0_1.length c0_1, .int .i64 a0_2] 24 (0, 0)) (by (with_reducible repeat (first | refine blk_drewN ?_ _ | refine blk_drew ?_ | refine blk_alloc ?_ _)); exact BK335.out)) : gb335 ≠ gb374)); have n19_ := Aside0.mk ((by rw [hg]; exact Nat.ne_of_gt (blk_lt (g := gb335) (o := .cells #[.bool a0_0, .slice A0_1 l0_1.length c0_1, .int .i64 a0_2] 24 (0, 0)) (by (with_reducible repeat (first | refine blk_drewN ?_ _ | refine blk_drew ?_ | refine blk_alloc ?_ _)); exact BK335.out)) : gb374 ≠ gb335)); have n20_ := Aside0.mk ((by rw [hg]; exact Nat.ne_of_lt (blk_lt (g := gb336) (o := .cells #[.bool a0_3, .slice A0_4 l0_4.length c0_4, .int .i64 a0_5] 24 (0, 0)) (by (with_reducible repeat (first | refine blk_drewN ?_ _ | refine blk_drew ?_ | refine blk_alloc ?_ _)); exact BK336.out)) : gb336 ≠ gb374)); have n21_ := Aside0.mk ((by rw [hg]; exact Nat.ne_of_gt (blk_lt (g := gb336) (o := .cells #[.bool a0_3, .slice A0_4 l0_4.length c0_4, .int .i64 a0_5] 24 (0, 0)) (by (with_reducible repeat (first | refine blk_drewN ?_ _ | refine blk_drew ?_ | refine blk_alloc ?_ _)); exact BK336.out)) : gb374 ≠ gb336)); have n22_ := Aside0.mk ((by rw [hg]; exact Nat.ne_of_lt (blk_lt (g := gb346) (o := .cells #[.bool t340, .slice Ao43 t341.length co43, .int .i64 t344] 24 (0, 0)) (by (with_reducible repeat (first | refine blk_drewN ?_ _ | refine blk_drew ?_ | refine blk_alloc ?_ _)); exact BK346.out)) : gb346 ≠ gb374)); have n23_ := Aside0.mk ((by rw [hg]; exact Nat.ne_of_gt (blk_lt (g := gb346) (o := .cells #[.bool t340, .slice Ao43 t341.length co43, .int .i64 t344] 24 (0, 0)) (by (with_reducible repeat (first | refine blk_drewN ?_ _ | refine blk_drew ?_ | refine blk_alloc ?_ _)); exact BK346.out)) : gb374 ≠ gb346)); have n24_ := Aside0.mk ((by rw [hg]; exact Nat.ne_of_lt (blk_lt (g := gb353) (o := .cells #[.bool t347, .slice Ao54 t348.length co54, .int .i64 t351] 24 (0, 0)) (by (with_reducible repeat (first | refine blk_drewN ?_ _ | refine blk_drew ?_ | refine blk_alloc ?_ _)); exact BK353.out)) : gb353 ≠ gb374)); have n25_ := Aside0.mk ((by rw [hg]; exact Nat.ne_of_gt (blk_lt (g := gb353) (o := .cells #[.bool t347, .slice Ao54 t348.length co54, .int .i64 t351] 24 (0, 0)) (by (with_reducible repeat (first | refine blk_drewN ?_ _ | refine blk_drew ?_ | refine blk_alloc ?_ _)); exact BK353.out)) : gb374 ≠ gb353)); have n26_ := Aside0.mk ((by rw [hg]; exact Nat.ne_of_lt (blk_lt (g := gb360) (o := .cells #[.bool t354, .slice Ao86 t355.length co86, .int .i64 t358] 24 (0, 0)) (by (with_reducible repeat (first | refine blk_drewN ?_ _ | refine blk_drew ?_ | refine blk_alloc ?_ _)); exact BK360.out)) : gb360 ≠ gb374)); have n27_ := Aside0.mk ((by rw [hg]; exact Nat.ne_of_gt (blk_lt (g := gb360) (o := .cells #[.bool t354, .slice Ao86 t355.length co86, .int .i64 t358] 24 (0, 0)) (by (with_reducible repeat (first | refine blk_drewN ?_ _ | refine blk_drew ?_ | refine blk_alloc ?_ _)); exact BK360.out)) : gb374 ≠ gb360)); have n28_ := Aside0.mk ((by rw [hg]; exact Nat.ne_of_lt (blk_lt (g := gb367) (o := .cells #[.bool t361, .slice Ao98 t362.length co98, .int .i64 t365] 24 (0, 0)) (by (with_reducible repeat (first | refine blk_drewN ?_ _ | refine blk_drew ?_ | refine blk_alloc ?_ _)); exact BK367.out)) : gb367 ≠ gb374)); have n29_ := Aside0.mk ((by rw [hg]; exact Nat.ne_of_gt (blk_lt (g := gb367) (o := .cells #[.bool t361, .slice Ao98 t362.length co98, .int .i64 t365] 24 (0, 0)) (by (with_reducible repeat (first | refine blk_drewN ?_ _ | refine blk_drew ?_ | refine blk_alloc ?_ _)); exact BK367.out)) : gb374 ≠ gb367)); clear HO_347001; clear HO_354001; clear HO357; clear HO364; clear HO371; clear BK334; clear BK335; clear BK336; clear BK346; clear BK353; clear BK360; clear BK367; clear HB; have HO_347001 := n0_; have HO_354001 := n1_; have HO357 := n2_; have HO364 := n3_; have HO371 := n4_; have BK334 := n5_; have BK335 := n6_; have BK336 := n7_; have BK346 := n8_; have BK353 := n9_; have BK360 := n10_; have BK367 := n11_; have HB := n12_; have BK374 := n13_; have GW374 := n14_; have GE374 := n15_; have NB334_374 := n16_; have NB374_334 := n17_; have NB335_374 := n18_; have NB374_335 := n19_; have NB336_374 := n20_; have NB374_336 := n21_; have NB346_374 := n22_; have NB374_346 := n23_; have NB353_374 := n24_; have NB374_353 := n25_; have NB360_374 := n26_; have NB374_360 := n27_; have NB367_374 := n28_; have NB374_367 := n29_; clear n0_ n1_ n2_ n3_ n4_ n5_ n6_ n7_ n8_ n9_ n10_ n11_ n12_ n13_ n14_ n15_ n16_ n17_ n18_ n19_ n20_ n21_ n22_ n23_ n24_ n25_ n26_ n27_ n28_ n29_; clear hb hbox hg; have hnb106 := NB374_334.out; have hnc106 := NB334_374.out; have hnb107 := NB374_335.out; have hnc107 := NB335_374.out; have hnb108 := NB374_336.out; have hnc108 := NB336_374.out; have hnb109 := NB374_346.out; have hnc109 := NB346_374.out; have hnb110 := NB374_353.out; have hnc110 := NB353_374.out; have hnb111 := NB374_360.out; have hnc111 := NB360_374.out; have hnb112 := NB374_367.out; have hnc112 := NB367_374.out; have hcz113_0 : w105.cell? ⟨gb374, 0, none⟩ = some (.bool false) := (blk_cell BK374.out 0).trans rfl; have hcz113_1 : w105.cell? ⟨gb374, 1, none⟩ = some (.slice none 0 0) := (blk_cell BK374.out 1).trans rfl; have hcz113_2 : w105.cell? ⟨gb374, 2, none⟩ = some (.int .i64 0) := (blk_cell BK374.out 2).trans rfl; have hfz113_0 := blk_frozen BK374.out 0; have hfz113_1 := blk_frozen BK374.out 1; have hfz113_2 := blk_frozen BK374.out 2; obtain ⟨Ao114, co114, eo114⟩ := Kd.V_slice HO371.out; subst eo114))
                            have n0_ : Aside0 (Kd.V (Kd.int .u8) 5 (((w105.setCell ⟨gb374, 0, none⟩ (.bool t368)).setCell ⟨gb374, 1, none⟩ (.slice Ao114 t369.length co114)).setCell ⟨gb374, 2, none⟩ (.int .i64 t372)) w.heap.size (fun k_ => k_ ≠ gb334 ∧ k_ ≠ gb335 ∧ k_ ≠ gb336 ∧ k_ ≠ gb346 ∧ k_ ≠ gb353 ∧ k_ ≠ gb360 ∧ k_ ≠ gb367 ∧ k_ ≠ gb374) (.slice Ao43 t341.length co43) t341) := ⟨by (with_reducible repeat (first | apply Kd.V_alloc | apply Kd.V_drewN | apply Kd.V_drew)); exact Kd.V_mono (Kd.V_far (p := ⟨gb374, 2, none⟩) (Kd.V_far (p := ⟨gb374, 1, none⟩) (Kd.V_far (p := ⟨gb374, 0, none⟩) (Kd.V_mono HO_347001.out (fun k_ hk => (⟨hk, hk.2⟩ : _ ∧ k_ ≠ gb374))) (fun _ hk => hk.2) (.bool t368)) (fun _ hk => hk.2) (.slice Ao114 t369.length co114)) (fun _ hk => hk.2) (.int .i64 t372)) (fun _ hk => ⟨hk.1.1.1, ⟨hk.1.1.2.1, ⟨hk.1.1.2.2.1, ⟨hk.1.1.2.2.2.1, ⟨hk.1.1.2.2.2.2.1, ⟨hk.1.1.2.2.2.2.2.1, ⟨hk.1.1.2.2.2.2.2.2, hk.1.2⟩⟩⟩⟩⟩⟩⟩)⟩
                            have n1_ : Aside0 (Kd.V (Kd.int .u8) 5 (((w105.setCell ⟨gb374, 0, none⟩ (.bool t368)).setCell ⟨gb374, 1, none⟩ (.slice Ao114 t369.length co114)).setCell ⟨gb374, 2, none⟩ (.int .i64 t372)) w.heap.size (fun k_ => k_ ≠ gb334 ∧ k_ ≠ gb335 ∧ k_ ≠ gb336 ∧ k_ ≠ gb346 ∧ k_ ≠ gb353 ∧ k_ ≠ gb360 ∧ k_ ≠ gb367 ∧ k_ ≠ gb374) (.slice Ao54 t348.length co54) t348) := ⟨by (with_reducible repeat (first | apply Kd.V_alloc | apply Kd.V_drewN | apply Kd.V_drew)); exact Kd.V_mono (Kd.V_far (p := ⟨gb374, 2, none⟩) (Kd.V_far (p := ⟨gb374, 1, none⟩) (Kd.V_far (p := ⟨gb374, 0, none⟩) (Kd.V_mono HO_354001.out (fun k_ hk => (⟨hk, hk.2⟩ : _ ∧ k_ ≠ gb374))) (fun _ hk => hk.2) (.bool t368)) (fun _ hk => hk.2) (.slice Ao114 t369.length co114)) (fun _ hk => hk.2) (.int .i64 t372)) (fun _ hk => ⟨hk.1.1.1, ⟨hk.1.1.2.1, ⟨hk.1.1.2.2.1, ⟨hk.1.1.2.2.2.1, ⟨hk.1.1.2.2.2.2.1, ⟨hk.1.1.2.2.2.2.2.1, ⟨hk.1.1.2.2.2.2.2.2, hk.1.2⟩⟩⟩⟩⟩⟩⟩)⟩
                            have n2_ : Aside0 (Kd.V (Kd.int .u8) 5 (((w105.setCell ⟨gb374, 0, none⟩ (.bool t368)).setCell ⟨gb374, 1, none⟩ (.slice Ao114 t369.length co114)).setCell ⟨gb374, 2, none⟩ (.int .i64 t372)) w.heap.size (fun k_ => k_ ≠ gb334 ∧ k_ ≠ gb335 ∧ k_ ≠ gb336 ∧ k_ ≠ gb346 ∧ k_ ≠ gb353 ∧ k_ ≠ gb360 ∧ k_ ≠ gb367 ∧ k_ ≠ gb374) (.slice Ao86 t355.length co86) t355) := ⟨by (with_reducible repeat (first | apply Kd.V_alloc | apply Kd.V_drewN | apply Kd.V_drew)); exact Kd.V_mono (Kd.V_far (p := ⟨gb374, 2, none⟩) (Kd.V_far (p := ⟨gb374, 1, none⟩) (Kd.V_far (p := ⟨gb374, 0, none⟩) (Kd.V_mono HO357.out (fun k_ hk => (⟨hk, hk.2⟩ : _ ∧ k_ ≠ gb374))) (fun _ hk => hk.2) (.bool t368)) (fun _ hk => hk.2) (.slice Ao114 t369.length co114)) (fun _ hk => hk.2) (.int .i64 t372)) (fun _ hk => ⟨hk.1.1.1, ⟨hk.1.1.2.1, ⟨hk.1.1.2.2.1, ⟨hk.1.1.2.2.2.1, ⟨hk.1.1.2.2.2.2.1, ⟨hk.1.1.2.2.2.2.2.1, ⟨hk.1.1.2.2.2.2.2.2, hk.1.2⟩⟩⟩⟩⟩⟩⟩)⟩
                            have n3_ : Aside0 (Kd.V (Kd.int .u8) 5 (((w105.setCell ⟨gb374, 0, none⟩ (.bool t368)).setCell ⟨gb374, 1, none⟩ (.slice Ao114 t369.length co114)).setCell ⟨gb374, 2, none⟩ (.int .i64 t372)) w.heap.size (fun k_ => k_ ≠ gb334 ∧ k_ ≠ gb335 ∧ k_ ≠ gb336 ∧ k_ ≠ gb346 ∧ k_ ≠ gb353 ∧ k_ ≠ gb360 ∧ k_ ≠ gb367 ∧ k_ ≠ gb374) (.slice Ao98 t362.length co98) t362) := ⟨by (with_reducible repeat (first | apply Kd.V_alloc | apply Kd.V_drewN | apply Kd.V_drew)); exact Kd.V_mono (Kd.V_far (p := ⟨gb374, 2, none⟩) (Kd.V_far (p := ⟨gb374, 1, none⟩) (Kd.V_far (p := ⟨gb374, 0, none⟩) (Kd.V_mono HO364.out (fun k_ hk => (⟨hk, hk.2⟩ : _ ∧ k_ ≠ gb374))) (fun _ hk => hk.2) (.bool t368)) (fun _ hk => hk.2) (.slice Ao114 t369.length co114)) (fun _ hk => hk.2) (.int .i64 t372)) (fun _ hk => ⟨hk.1.1.1, ⟨hk.1.1.2.1, ⟨hk.1.1.2.2.1, ⟨hk.1.1.2.2.2.1, ⟨hk.1.1.2.2.2.2.1, ⟨hk.1.1.2.2.2.2.2.1, ⟨hk.1.1.2.2.2.2.2.2, hk.1.2⟩⟩⟩⟩⟩⟩⟩)⟩
                            have n4_ : Aside0 (Kd.V (Kd.int .u8) 5 (((w105.setCell ⟨gb374, 0, none⟩ (.bool t368)).setCell ⟨gb374, 1, none⟩ (.slice Ao114 t369.length co114)).setCell ⟨gb374, 2, none⟩ (.int .i64 t372)) w.heap.size (fun k_ => k_ ≠ gb334 ∧ k_ ≠ gb335 ∧ k_ ≠ gb336 ∧ k_ ≠ gb346 ∧ k_ ≠ gb353 ∧ k_ ≠ gb360 ∧ k_ ≠ gb367 ∧ k_ ≠ gb374) (.slice Ao114 t369.length co114) t369) := ⟨by (with_reducible repeat (first | apply Kd.V_alloc | apply Kd.V_drewN | apply Kd.V_drew)); exact Kd.V_mono (Kd.V_far (p := ⟨gb374, 2, none⟩) (Kd.V_far (p := ⟨gb374, 1, none⟩) (Kd.V_far (p := ⟨gb374, 0, none⟩) (Kd.V_mono HO371.out (fun k_ hk => (⟨hk, hk.2⟩ : _ ∧ k_ ≠ gb374))) (fun _ hk => hk.2) (.bool t368)) (fun _ hk => hk.2) (.slice Ao114 t369.length co114)) (fun _ hk => hk.2) (.int .i64 t372)) (fun _ hk => ⟨hk.1.1.1, ⟨hk.1.1.2.1, ⟨hk.1.1.2.2.1, ⟨hk.1.1.2.2.2.1, ⟨hk.1.1.2.2.2.2.1, ⟨hk.1.1.2.2.2.2.2.1, ⟨hk.1.1.2.2.2.2.2.2, hk.1.2⟩⟩⟩⟩⟩⟩⟩)⟩
                            have n5_ : Aside0 ((((w105.setCell ⟨gb374, 0, none⟩ (.bool t368)).setCell ⟨gb374, 1, none⟩ (.slice Ao114 t369.length co114)).setCell ⟨gb374, 2, none⟩ (.int .i64 t372)).heap[gb334]? = some (.cells #[.bool a0_0, .slice A0_1 l0_1.length c0_1, .int .i64 a0_2, .bool a0_3, .slice A0_4 l0_4.length c0_4, .int .i64 a0_5, .int .i16 a0_6, .int .i16 a0_7] 48 (0, 0))) := ⟨by (with_reducible repeat (first | refine blk_drewN ?_ _ | refine blk_drew ?_ | refine blk_alloc ?_ _)); refine blk_far ?_ NB334_374.out _; (with_reducible repeat (first | refine blk_drewN ?_ _ | refine blk_drew ?_ | refine blk_alloc ?_ _)); refine blk_far ?_ NB334_374.out _; (with_reducible repeat (first | refine blk_drewN ?_ _ | refine blk_drew ?_ | refine blk_alloc ?_ _)); refine blk_far ?_ NB334_374.out _; (with_reducible repeat (first | refine blk_drewN ?_ _ | refine blk_drew ?_ | refine blk_alloc ?_ _)); exact BK334.out⟩
                            have n6_ : Aside0 ((((w105.setCell ⟨gb374, 0, none⟩ (.bool t368)).setCell ⟨gb374, 1, none⟩ (.slice Ao114 t369.length co114)).setCell ⟨gb374, 2, none⟩ (.int .i64 t372)).heap[gb335]? = some (.cells #[.bool a0_0, .slice A0_1 l0_1.length c0_1, .int .i64 a0_2] 24 (0, 0))) := ⟨by (with_reducible repeat (first | refine blk_drewN ?_ _ | refine blk_drew ?_ | refine blk_alloc ?_ _)); refine blk_far ?_ NB335_374.out _; (with_reducible repeat (first | refine blk_drewN ?_ _ | refine blk_drew ?_ | refine blk_alloc ?_ _)); refine blk_far ?_ NB335_374.out _; (with_reducible repeat (first | refine blk_drewN ?_ _ | refine blk_drew ?_ | refine blk_alloc ?_ _)); refine blk_far ?_ NB335_374.out _; (with_reducible repeat (first | refine blk_drewN ?_ _ | refine blk_drew ?_ | refine blk_alloc ?_ _)); exact BK335.out⟩
                            have n7_ : Aside0 ((((w105.setCell ⟨gb374, 0, none⟩ (.bool t368)).setCell ⟨gb374, 1, none⟩ (.slice Ao114 t369.length co114)).setCell ⟨gb374, 2, none⟩ (.int .i64 t372)).heap[gb336]? = some (.cells #[.bool a0_3, .slice A0_4 l0_4.length c0_4, .int .i64 a0_5] 24 (0, 0))) := ⟨by (with_reducible repeat (first | refine blk_drewN ?_ _ | refine blk_drew ?_ | refine blk_alloc ?_ _)); refine blk_far ?_ NB336_374.out _; (with_reducible repeat (first | refine blk_drewN ?_ _ | refine blk_drew ?_ | refine blk_alloc ?_ _)); refine blk_far ?_ NB336_374.out _; (with_reducible repeat (first | refine blk_drewN ?_ _ | refine blk_drew ?_ | refine blk_alloc ?_ _)); refine blk_far ?_ NB336_374.out _; (with_reducible repeat (first | refine blk_drewN ?_ _ | refine blk_drew ?_ | refine blk_alloc ?_ _)); exact BK336.out⟩
                            have n8_ : Aside0 ((((w105.setCell ⟨gb374, 0, none⟩ (.bool t368)).setCell ⟨gb374, 1, none⟩ (.slice Ao114 t369.length co114)).setCell ⟨gb374, 2, none⟩ (.int .i64 t372)).heap[gb346]? = some (.cells #[.bool t340, .slice Ao43 t341.length co43, .int .i64 t344] 24 (0, 0))) := ⟨by (with_reducible repeat (first | refine blk_drewN ?_ _ | refine blk_drew ?_ | refine blk_alloc ?_ _)); refine blk_far ?_ NB346_374.out _; (with_reducible repeat (first | refine blk_drewN ?_ _ | refine blk_drew ?_ | refine blk_alloc ?_ _)); refine blk_far ?_ NB346_374.out _; (with_reducible repeat (first | refine blk_drewN ?_ _ | refine blk_drew ?_ | refine blk_alloc ?_ _)); refine blk_far ?_ NB346_374.out _; (with_reducible repeat (first | refine blk_drewN ?_ _ | refine blk_drew ?_ | refine blk_alloc ?_ _)); exact BK346.out⟩
                            have n9_ : Aside0 ((((w105.setCell ⟨gb374, 0, none⟩ (.bool t368)).setCell ⟨gb374, 1, none⟩ (.slice Ao114 t369.length co114)).setCell ⟨gb374, 2, none⟩ (.int .i64 t372)).heap[gb353]? = some (.cells #[.bool t347, .slice Ao54 t348.length co54, .int .i64 t351] 24 (0, 0))) := ⟨by (with_reducible repeat (first | refine blk_drewN ?_ _ | refine blk_drew ?_ | refine blk_alloc ?_ _)); refine blk_far ?_ NB353_374.out _; (with_reducible repeat (first | refine blk_drewN ?_ _ | refine blk_drew ?_ | refine blk_alloc ?_ _)); refine blk_far ?_ NB353_374.out _; (with_reducible repeat (first | refine blk_drewN ?_ _ | refine blk_drew ?_ | refine blk_alloc ?_ _)); refine blk_far ?_ NB353_374.out _; (with_reducible repeat (first | refine blk_drewN ?_ _ | refine blk_drew ?_ | refine blk_alloc ?_ _)); exact BK353.out⟩
                            have n10_ : Aside0 ((((w105.setCell ⟨gb374, 0, none⟩ (.bool t368)).setCell ⟨gb374, 1, none⟩ (.slice Ao114 t369.length co114)).setCell ⟨gb374, 2, none⟩ (.int .i64 t372)).heap[gb360]? = some (.cells #[.bool t354, .slice Ao86 t355.length co86, .int .i64 t358] 24 (0, 0))) := ⟨by (with_reducible repeat (first | refine blk_drewN ?_ _ | refine blk_drew ?_ | refine blk_alloc ?_ _)); refine blk_far ?_ NB360_374.out _; (with_reducible repeat (first | refine blk_drewN ?_ _ | refine blk_drew ?_ | refine blk_alloc ?_ _)); refine blk_far ?_ NB360_374.out _; (with_reducible repeat (first | refine blk_drewN ?_ _ | refine blk_drew ?_ | refine blk_alloc ?_ _)); refine blk_far ?_ NB360_374.out _; (with_reducible repeat (first | refine blk_drewN ?_ _ | refine blk_drew ?_ | refine blk_alloc ?_ _)); exact BK360.out⟩
                            have n11_ : Aside0 ((((w105.setCell ⟨gb374, 0, none⟩ (.bool t368)).setCell ⟨gb374, 1, none⟩ (.slice Ao114 t369.length co114)).setCell ⟨gb374, 2, none⟩ (.int .i64 t372)).heap[gb367]? = some (.cells #[.bool t361, .slice Ao98 t362.length co98, .int .i64 t365] 24 (0, 0))) := ⟨by (with_reducible repeat (first | refine blk_drewN ?_ _ | refine blk_drew ?_ | refine blk_alloc ?_ _)); refine blk_far ?_ NB367_374.out _; (with_reducible repeat (first | refine blk_drewN ?_ _ | refine blk_drew ?_ | refine blk_alloc ?_ _)); refine blk_far ?_ NB367_374.out _; (with_reducible repeat (first | refine blk_drewN ?_ _ | refine blk_drew ?_ | refine blk_alloc ?_ _)); refine blk_far ?_ NB367_374.out _; (with_reducible repeat (first | refine blk_drewN ?_ _ | refine blk_drew ?_ | refine blk_alloc ?_ _)); exact BK367.out⟩
                            have n12_ : Aside0 ((((w105.setCell ⟨gb374, 0, none⟩ (.bool t368)).setCell ⟨gb374, 1, none⟩ (.slice Ao114 t369.length co114)).setCell ⟨gb374, 2, none⟩ (.int .i64 t372)).heap[gb374]? = some (.cells #[.bool t368, .slice Ao114 t369.length co114, .int .i64 t372] 24 (0, 0))) := ⟨by (with_reducible repeat (first | refine blk_drewN ?_ _ | refine blk_drew ?_ | refine blk_alloc ?_ _)); refine blk_put (cs := #[.bool t368, .slice Ao114 t369.length co114, .int .i64 0]) ?_ 2 _ rfl; (with_reducible repeat (first | refine blk_drewN ?_ _ | refine blk_drew ?_ | refine blk_alloc ?_ _)); refine blk_put (cs := #[.bool t368, .slice none 0 0, .int .i64 0]) ?_ 1 _ rfl; (with_reducible repeat (first | refine blk_drewN ?_ _ | refine blk_drew ?_ | refine blk_alloc ?_ _)); refine blk_put (cs := #[.bool false, .slice none 0 0, .int .i64 0]) ?_ 0 _ rfl; (with_reducible repeat (first | refine blk_drewN ?_ _ | refine blk_drew ?_ | refine blk_alloc ?_ _)); exact BK374.out⟩
                            have n13_ : Aside0 (Below w.heap.size w (((w105.setCell ⟨gb374, 0, none⟩ (.bool t368)).setCell ⟨gb374, 1, none⟩ (.slice Ao114 t369.length co114)).setCell ⟨gb374, 2, none⟩ (.int .i64 t372))) := ⟨by repeat (first | (with_reducible first | exact HB.out | apply below_alloc | apply pw_below_drewN | apply below_drew1 | refine below_set ?_ GE334.out | refine below_set ?_ GE335.out | refine below_set ?_ GE336.out | refine below_set ?_ GE346.out | refine below_set ?_ GE353.out | refine below_set ?_ GE360.out | refine below_set ?_ GE367.out | refine below_set ?_ GE374.out) | exact HB.out)⟩
                            (try clear HO_347001)
                            (try clear HO_354001)
                            (try clear HO357)
                            (try clear HO364)
                            (try clear HO371)
                            (try clear BK334)
                            (try clear BK335)
                            (try clear BK336)
                            (try clear BK346)
                            (try clear BK353)
                            (try clear BK360)
                            (try clear BK367)
                            (try clear BK374)
                            (try clear HB)
                            generalize (((w105.setCell ⟨gb374, 0, none⟩ (.bool t368)).setCell ⟨gb374, 1, none⟩ (.slice Ao114 t369.length co114)).setCell ⟨gb374, 2, none⟩ (.int .i64 t372)) = w115 at n0_ n1_ n2_ n3_ n4_ n5_ n6_ n7_ n8_ n9_ n10_ n11_ n12_ n13_ ⊢
                            have HO_347001 := n0_
                            have HO_354001 := n1_
                            have HO357 := n2_
                            have HO364 := n3_
                            have HO371 := n4_
                            have BK334 := n5_
                            have BK335 := n6_
                            have BK336 := n7_
                            have BK346 := n8_
                            have BK353 := n9_
                            have BK360 := n10_
                            have BK367 := n11_
                            have BK374 := n12_
                            have HB := n13_
                            clear n0_ n1_ n2_ n3_ n4_ n5_ n6_ n7_ n8_ n9_ n10_ n11_ n12_ n13_
                            have n0_ := Aside0.mk (Kd.V_drew HO_347001.out)
                            have n1_ := Aside0.mk (Kd.V_drew HO_354001.out)
                            have n2_ := Aside0.mk (Kd.V_drew HO357.out)
                            have n3_ := Aside0.mk (Kd.V_drew HO364.out)
                            have n4_ := Aside0.mk (Kd.V_drew HO371.out)
                            have n5_ := Aside0.mk (blk_drew BK334.out)
                            have n6_ := Aside0.mk (blk_drew BK335.out)
                            have n7_ := Aside0.mk (blk_drew BK336.out)
                            have n8_ := Aside0.mk (blk_drew BK346.out)
                            have n9_ := Aside0.mk (blk_drew BK353.out)
                            have n10_ := Aside0.mk (blk_drew BK360.out)
                            have n11_ := Aside0.mk (blk_drew BK367.out)
                            have n12_ := Aside0.mk (blk_drew BK374.out)
                            have n13_ := Aside0.mk (below_drew1 HB.out)
                            clear HO_347001
                            clear HO_354001
                            clear HO357
                            clear HO364
                            clear HO371
                            clear BK334
                            clear BK335
                            clear BK336
                            clear BK346
                            clear BK353
                            clear BK360
                            clear BK367
                            clear BK374
                            clear HB
                            have HO_347001 := n0_
                            have HO_354001 := n1_
                            have HO357 := n2_
                            have HO364 := n3_
                            have HO371 := n4_
                            have BK334 := n5_
                            have BK335 := n6_
                            have BK336 := n7_
                            have BK346 := n8_
                            have BK353 := n9_
                            have BK360 := n10_
                            have BK367 := n11_
                            have BK374 := n12_
                            have HB := n13_
                            clear n0_ n1_ n2_ n3_ n4_ n5_ n6_ n7_ n8_ n9_ n10_ n11_ n12_ n13_
                            refine start_ (n := 41) (S := fun w' => w'.cell? ⟨gb346, 0, none⟩ = some (.bool t340) ∧ w'.cell? ⟨gb346, 1, none⟩ = some (.slice Ao43 t341.length co43) ∧ w'.cell? ⟨gb346, 2, none⟩ = some (.int .i64 t344) ∧ w'.cell? ⟨gb360, 0, none⟩ = some (.bool t354) ∧ w'.cell? ⟨gb360, 1, none⟩ = some (.slice Ao86 t355.length co86) ∧ w'.cell? ⟨gb360, 2, none⟩ = some (.int .i64 t358) ∧ w'.cell? ⟨gb335, 0, none⟩ = some (.bool a0_0) ∧ w'.cell? ⟨gb335, 1, none⟩ = some (.slice A0_1 l0_1.length c0_1) ∧ w'.cell? ⟨gb335, 2, none⟩ = some (.int .i64 a0_2) ∧ w'.cell? ⟨gb374, 0, none⟩ = some (.bool t368) ∧ w'.cell? ⟨gb374, 1, none⟩ = some (.slice Ao114 t369.length co114) ∧ w'.cell? ⟨gb374, 2, none⟩ = some (.int .i64 t372) ∧ w'.cell? ⟨gb367, 0, none⟩ = some (.bool t361) ∧ w'.cell? ⟨gb367, 1, none⟩ = some (.slice Ao98 t362.length co98) ∧ w'.cell? ⟨gb367, 2, none⟩ = some (.int .i64 t365) ∧ w'.cell? ⟨gb353, 0, none⟩ = some (.bool t347) ∧ w'.cell? ⟨gb353, 1, none⟩ = some (.slice Ao54 t348.length co54) ∧ w'.cell? ⟨gb353, 2, none⟩ = some (.int .i64 t351) ∧ w'.cell? ⟨gb336, 0, none⟩ = some (.bool a0_3) ∧ w'.cell? ⟨gb336, 1, none⟩ = some (.slice A0_4 l0_4.length c0_4) ∧ w'.cell? ⟨gb336, 2, none⟩ = some (.int .i64 a0_5)) (ds := []) #[false, false, false, false, false, false, false, false, false, false, false, false, false, false, false, false, false, false, false, false, false, false, false, false, false, false, false, false, false, false, false, false, false, false, false, false, false, false, false, false, false] (by kernel_rfl) rfl rfl ⟨(blk_cell BK346.out 0).trans rfl, (blk_cell BK346.out 1).trans rfl, (blk_cell BK346.out 2).trans rfl, (blk_cell BK360.out 0).trans rfl, (blk_cell BK360.out 1).trans rfl, (blk_cell BK360.out 2).trans rfl, (blk_cell BK335.out 0).trans rfl, (blk_cell BK335.out 1).trans rfl, (blk_cell BK335.out 2).trans rfl, (blk_cell BK374.out 0).trans rfl, (blk_cell BK374.out 1).trans rfl, (blk_cell BK374.out 2).trans rfl, (blk_cell BK367.out 0).trans rfl, (blk_cell BK367.out 1).trans rfl, (blk_cell BK367.out 2).trans rfl, (blk_cell BK353.out 0).trans rfl, (blk_cell BK353.out 1).trans rfl, (blk_cell BK353.out 2).trans rfl, (blk_cell BK336.out 0).trans rfl, (blk_cell BK336.out 1).trans rfl, (blk_cell BK336.out 2).trans rfl⟩ (fun hHeld => ?_); refine with_tabW exerguelaw05_DecShifts.tab15 exerguelaw05_DecShifts.bits15 (fun HT_ HW_ => ?_)
                            generalize w115.drew = w116 at HO_347001 HO_354001 HO357 HO364 HO371 BK334 BK335 BK336 BK346 BK353 BK360 BK367 BK374 HB hHeld ⊢
                            refine pure_ (i := 0) (N := some 82) (v := ?_) (a' := ?_) #[true, false, false, false, false, false, false, false, false, false, false, false, false, false, false, false, false, false, false, false, false, false, false, false, false, false, false, false, false, false, false, false, false, false, false, false, false, false, false, false, false] rfl rfl (any_of HT_.out (by kernel_rfl)) (fun _ _ _ h => h) (Or.inl ⟨by rfl, ?_⟩) ?_ ?_
                            rotate_left
                            · intro w'
                              go_simp
                              with_reducible rfl
                            rotate_left
                            · simp only [Act.put, List.setIfInBounds_toArray, List.set_cons_zero, List.set_cons_succ, i64_w, i32_w]
                              rfl
                            refine pure_ (i := 1) (N := some 83) (v := ?_) (a' := ?_) #[true, true, false, false, false, false, false, false, false, false, false, false, false, false, false, false, false, false, false, false, false, false, false, false, false, false, false, false, false, false, false, false, false, false, false, false, false, false, false, false, false] rfl rfl (any_of HT_.out (by kernel_rfl)) (fun _ _ _ h => h) (Or.inl ⟨by rfl, ?_⟩) ?_ ?_
                            rotate_left
                            · intro w'
                              go_simp
                              with_reducible rfl
                            rotate_left
                            · simp only [Act.put, List.setIfInBounds_toArray, List.set_cons_zero, List.set_cons_succ, i64_w, i32_w]
                              rfl
                            refine take_ (i := 2) (N := some 84) (v := ?_) (a' := ?_) #[true, true, true, false, false, false, false, false, false, false, false, false, false, false, false, false, false, false, false, false, false, false, false, false, false, false, false, false, false, false, false, false, false, false, false, false, false, false, false, false, false] rfl rfl (take_ofW HT_.out HW_.out (by kernel_rfl)) (fun _ _ _ h => h) (Or.inl ⟨by rfl, ?_⟩) hHeld ?_ ?_
                            rotate_left
                            · rintro w' ⟨s0, s1, s2, s3, s4, s5, s6, s7, s8, s9, s10, s11, s12, s13, s14, s15, s16, s17, s18, s19, s20⟩
                              go_simp
                              with_reducible rfl
                            rotate_left
                            · simp only [Act.put, List.setIfInBounds_toArray, List.set_cons_zero, List.set_cons_succ, i64_w, i32_w]
                              rfl
                            refine one_ (i := 3) (N := some 85) #[true, true, true, true, false, false, false, false, false, false, false, false, false, false, false, false, false, false, false, false, false, false, false, false, false, false, false, false, false, false, false, false, false, false, false, false, false, false, false, false, false] rfl rfl (one_of HT_.out (by kernel_rfl)) (by decide) (fun K hK => ?_)
                            refine goes_ Tryd.func14 (by kernel_rfl) rfl #[.agg #[.bool t340, .slice Ao43 t341.length co43, .int .i64 t344]] (by rfl) rfl rfl (by (try simp only [List.map_toArray, List.map_cons, List.map_nil]); first | done | rfl | (simp only [List.length_drop, List.length_take]; rfl)) ?_
                            with_reducible refine (exergueref05_Right.calls kj32 t340 _ _ t341 t344 true _ ?side1 ?side2 A61.out).mono ?_
                            (case side1 => repeat (first | exact (Kd.V_reads' HO_347001.out).2.2 | (with_reducible refine Kd.C_alloc ?_ _) | (with_reducible refine Kd.C_drewN ?_ _) | (with_reducible refine Kd.C_drew ?_)))
                            (case side2 => exact (Kd.V_reads' HO_347001.out).2.1)
                            rintro e w117 ⟨rfl, hb⟩
                            refine ⟨_, rfl, ?_⟩
                            have n0_ := Aside0.mk (Kd.V_below (by (with_reducible repeat (first | apply Kd.V_alloc | apply Kd.V_drewN | apply Kd.V_drew)); exact HO_347001.out) hb)
                            have n1_ := Aside0.mk (Kd.V_below (by (with_reducible repeat (first | apply Kd.V_alloc | apply Kd.V_drewN | apply Kd.V_drew)); exact HO_354001.out) hb)
                            have n2_ := Aside0.mk (Kd.V_below (by (with_reducible repeat (first | apply Kd.V_alloc | apply Kd.V_drewN | apply Kd.V_drew)); exact HO357.out) hb)
                            have n3_ := Aside0.mk (Kd.V_below (by (with_reducible repeat (first | apply Kd.V_alloc | apply Kd.V_drewN | apply Kd.V_drew)); exact HO364.out) hb)
                            have n4_ := Aside0.mk (Kd.V_below (by (with_reducible repeat (first | apply Kd.V_alloc | apply Kd.V_drewN | apply Kd.V_drew)); exact HO371.out) hb)
                            have n5_ := Aside0.mk (blk_below (g := gb334) (o := .cells #[.bool a0_0, .slice A0_1 l0_1.length c0_1, .int .i64 a0_2, .bool a0_3, .slice A0_4 l0_4.length c0_4, .int .i64 a0_5, .int .i16 a0_6, .int .i16 a0_7] 48 (0, 0)) (by (with_reducible repeat (first | refine blk_drewN ?_ _ | refine blk_drew ?_ | refine blk_alloc ?_ _)); exact BK334.out) hb)
                            have n6_ := Aside0.mk (blk_below (g := gb335) (o := .cells #[.bool a0_0, .slice A0_1 l0_1.length c0_1, .int .i64 a0_2] 24 (0, 0)) (by (with_reducible repeat (first | refine blk_drewN ?_ _ | refine blk_drew ?_ | refine blk_alloc ?_ _)); exact BK335.out) hb)
                            have n7_ := Aside0.mk (blk_below (g := gb336) (o := .cells #[.bool a0_3, .slice A0_4 l0_4.length c0_4, .int .i64 a0_5] 24 (0, 0)) (by (with_reducible repeat (first | refine blk_drewN ?_ _ | refine blk_drew ?_ | refine blk_alloc ?_ _)); exact BK336.out) hb)
                            have n8_ := Aside0.mk (blk_below (g := gb346) (o := .cells #[.bool t340, .slice Ao43 t341.length co43, .int .i64 t344] 24 (0, 0)) (by (with_reducible repeat (first | refine blk_drewN ?_ _ | refine blk_drew ?_ | refine blk_alloc ?_ _)); exact BK346.out) hb)
                            have n9_ := Aside0.mk (blk_below (g := gb353) (o := .cells #[.bool t347, .slice Ao54 t348.length co54, .int .i64 t351] 24 (0, 0)) (by (with_reducible repeat (first | refine blk_drewN ?_ _ | refine blk_drew ?_ | refine blk_alloc ?_ _)); exact BK353.out) hb)
                            have n10_ := Aside0.mk (blk_below (g := gb360) (o := .cells #[.bool t354, .slice Ao86 t355.length co86, .int .i64 t358] 24 (0, 0)) (by (with_reducible repeat (first | refine blk_drewN ?_ _ | refine blk_drew ?_ | refine blk_alloc ?_ _)); exact BK360.out) hb)
                            have n11_ := Aside0.mk (blk_below (g := gb367) (o := .cells #[.bool t361, .slice Ao98 t362.length co98, .int .i64 t365] 24 (0, 0)) (by (with_reducible repeat (first | refine blk_drewN ?_ _ | refine blk_drew ?_ | refine blk_alloc ?_ _)); exact BK367.out) hb)
                            have n12_ := Aside0.mk (blk_below (g := gb374) (o := .cells #[.bool t368, .slice Ao114 t369.length co114, .int .i64 t372] 24 (0, 0)) (by (with_reducible repeat (first | refine blk_drewN ?_ _ | refine blk_drew ?_ | refine blk_alloc ?_ _)); exact BK374.out) hb)
                            have n13_ := Aside0.mk (below_step (by repeat (first | (with_reducible first | exact HB.out | apply below_alloc | apply pw_below_drewN | apply below_drew1 | refine below_set ?_ GE334.out | refine below_set ?_ GE335.out | refine below_set ?_ GE336.out | refine below_set ?_ GE346.out | refine below_set ?_ GE353.out | refine below_set ?_ GE360.out | refine below_set ?_ GE367.out | refine below_set ?_ GE374.out) | exact HB.out)) hb)
                            clear HO_347001
                            clear HO_354001
                            clear HO357
                            clear HO364
                            clear HO371
                            clear BK334
                            clear BK335
                            clear BK336
                            clear BK346
                            clear BK353
                            clear BK360
                            clear BK367
                            clear BK374
                            clear HB
                            have HO_347001 := n0_
                            have HO_354001 := n1_
                            have HO357 := n2_
                            have HO364 := n3_
                            have HO371 := n4_
                            have BK334 := n5_
                            have BK335 := n6_
                            have BK336 := n7_
                            have BK346 := n8_
                            have BK353 := n9_
                            have BK360 := n10_
                            have BK367 := n11_
                            have BK374 := n12_
                            have HB := n13_
                            clear n0_ n1_ n2_ n3_ n4_ n5_ n6_ n7_ n8_ n9_ n10_ n11_ n12_ n13_
                            (try clear hb)
                            (try clear hb2)
                            (try clear hk)
                            (try clear hi)
                            refine hK.out _ _ ⟨(blk_cell BK346.out 0).trans rfl, (blk_cell BK346.out 1).trans rfl, (blk_cell BK346.out 2).trans rfl, (blk_cell BK360.out 0).trans rfl, (blk_cell BK360.out 1).trans rfl, (blk_cell BK360.out 2).trans rfl, (blk_cell BK335.out 0).trans rfl, (blk_cell BK335.out 1).trans rfl, (blk_cell BK335.out 2).trans rfl, (blk_cell BK374.out 0).trans rfl, (blk_cell BK374.out 1).trans rfl, (blk_cell BK374.out 2).trans rfl, (blk_cell BK367.out 0).trans rfl, (blk_cell BK367.out 1).trans rfl, (blk_cell BK367.out 2).trans rfl, (blk_cell BK353.out 0).trans rfl, (blk_cell BK353.out 1).trans rfl, (blk_cell BK353.out 2).trans rfl, (blk_cell BK336.out 0).trans rfl, (blk_cell BK336.out 1).trans rfl, (blk_cell BK336.out 2).trans rfl⟩ (fun hHeld => ?_)
                            clear hK K
                            refine norm_ (a' := ?_) ?_ ?_
                            rotate_left
                            · show Act.put _ (some 85) _ = _
                              simp only [Act.put, List.setIfInBounds_toArray, List.set_cons_zero, List.set_cons_succ, i64_w, i32_w]
                              rfl
                            refine pure_ (i := 4) (N := some 86) (v := ?_) (a' := ?_) #[true, true, true, true, true, false, false, false, false, false, false, false, false, false, false, false, false, false, false, false, false, false, false, false, false, false, false, false, false, false, false, false, false, false, false, false, false, false, false, false, false] rfl rfl (any_of HT_.out (by kernel_rfl)) (fun _ _ _ h => h) (Or.inl ⟨by rfl, ?_⟩) ?_ ?_
                            rotate_left
                            · intro w'
                              go_simp
                              with_reducible rfl
                            rotate_left
                            · simp only [Act.put, List.setIfInBounds_toArray, List.set_cons_zero, List.set_cons_succ, i64_w, i32_w]
                              rfl
                            refine pure_ (i := 5) (N := some 87) (v := ?_) (a' := ?_) #[true, true, true, true, true, true, false, false, false, false, false, false, false, false, false, false, false, false, false, false, false, false, false, false, false, false, false, false, false, false, false, false, false, false, false, false, false, false, false, false, false] rfl rfl (any_of HT_.out (by kernel_rfl)) (fun _ _ _ h => h) (Or.inl ⟨by rfl, ?_⟩) ?_ ?_
                            rotate_left
                            · intro w'
                              go_simp
                              with_reducible rfl
                            rotate_left
                            · simp only [Act.put, List.setIfInBounds_toArray, List.set_cons_zero, List.set_cons_succ, i64_w, i32_w]
                              rfl
                            refine pure_ (i := 6) (N := some 88) (v := ?_) (a' := ?_) #[true, true, true, true, true, true, true, false, false, false, false, false, false, false, false, false, false, false, false, false, false, false, false, false, false, false, false, false, false, false, false, false, false, false, false, false, false, false, false, false, false] rfl rfl (any_of HT_.out (by kernel_rfl)) (fun _ _ _ h => h) (Or.inl ⟨by rfl, ?_⟩) ?_ ?_
                            rotate_left
                            · intro w'
                              go_simp
                              with_reducible rfl
                            rotate_left
                            · simp only [Act.put, List.setIfInBounds_toArray, List.set_cons_zero, List.set_cons_succ, i64_w, i32_w]
                              rfl
                            refine pure_ (i := 7) (N := some 89) (v := ?_) (a' := ?_) #[true, true, true, true, true, true, true, true, false, false, false, false, false, false, false, false, false, false, false, false, false, false, false, false, false, false, false, false, false, false, false, false, false, false, false, false, false, false, false, false, false] rfl rfl (any_of HT_.out (by kernel_rfl)) (fun _ _ _ h => h) (Or.inl ⟨by rfl, ?_⟩) ?_ ?_
                            rotate_left
                            · intro w'
                              go_simp
                              with_reducible rfl
                            rotate_left
                            · simp only [Act.put, List.setIfInBounds_toArray, List.set_cons_zero, List.set_cons_succ, i64_w, i32_w]
                              rfl
                            refine pure_ (i := 8) (N := some 90) (v := ?_) (a' := ?_) #[true, true, true, true, true, true, true, true, true, false, false, false, false, false, false, false, false, false, false, false, false, false, false, false, false, false, false, false, false, false, false, false, false, false, false, false, false, false, false, false, false] rfl rfl (any_of HT_.out (by kernel_rfl)) (fun _ _ _ h => h) (Or.inl ⟨by rfl, ?_⟩) ?_ ?_
                            rotate_left
                            · intro w'
                              go_simp
                              with_reducible rfl
                            rotate_left
                            · simp only [Act.put, List.setIfInBounds_toArray, List.set_cons_zero, List.set_cons_succ, i64_w, i32_w]
                              rfl
                            refine pure_ (i := 9) (N := some 91) (v := ?_) (a' := ?_) #[true, true, true, true, true, true, true, true, true, true, false, false, false, false, false, false, false, false, false, false, false, false, false, false, false, false, false, false, false, false, false, false, false, false, false, false, false, false, false, false, false] rfl rfl (any_of HT_.out (by kernel_rfl)) (fun _ _ _ h => h) (Or.inl ⟨by rfl, ?_⟩) ?_ ?_
                            rotate_left
                            · intro w'
                              go_simp
                              with_reducible rfl
                            rotate_left
                            · simp only [Act.put, List.setIfInBounds_toArray, List.set_cons_zero, List.set_cons_succ, i64_w, i32_w]
                              rfl
                            refine take_ (i := 10) (N := some 92) (v := ?_) (a' := ?_) #[true, true, true, true, true, true, true, true, true, true, true, false, false, false, false, false, false, false, false, false, false, false, false, false, false, false, false, false, false, false, false, false, false, false, false, false, false, false, false, false, false] rfl rfl (take_ofW HT_.out HW_.out (by kernel_rfl)) (fun _ _ _ h => h) (Or.inl ⟨by rfl, ?_⟩) hHeld ?_ ?_
                            rotate_left
                            · rintro w' ⟨s0, s1, s2, s3, s4, s5, s6, s7, s8, s9, s10, s11, s12, s13, s14, s15, s16, s17, s18, s19, s20⟩
                              go_simp
                              with_reducible rfl
                            rotate_left
                            · simp only [Act.put, List.setIfInBounds_toArray, List.set_cons_zero, List.set_cons_succ, i64_w, i32_w]
                              rfl
                            refine take_ (i := 11) (N := some 93) (v := ?_) (a' := ?_) #[true, true, true, true, true, true, true, true, true, true, true, true, false, false, false, false, false, false, false, false, false, false, false, false, false, false, false, false, false, false, false, false, false, false, false, false, false, false, false, false, false] rfl rfl (take_ofW HT_.out HW_.out (by kernel_rfl)) (fun _ _ _ h => h) (Or.inl ⟨by rfl, ?_⟩) hHeld ?_ ?_
                            rotate_left
                            · rintro w' ⟨s0, s1, s2, s3, s4, s5, s6, s7, s8, s9, s10, s11, s12, s13, s14, s15, s16, s17, s18, s19, s20⟩
                              go_simp
                              with_reducible rfl
                            rotate_left
                            · simp only [Act.put, List.setIfInBounds_toArray, List.set_cons_zero, List.set_cons_succ, i64_w, i32_w]
                              rfl
                            refine one_ (i := 12) (N := some 94) #[true, true, true, true, true, true, true, true, true, true, true, true, true, false, false, false, false, false, false, false, false, false, false, false, false, false, false, false, false, false, false, false, false, false, false, false, false, false, false, false, false] rfl rfl (one_of HT_.out (by kernel_rfl)) (by decide) (fun K hK => ?_)
                            refine goes_ Tryd.func13 (by kernel_rfl) rfl #[.agg #[.bool t354, .slice Ao86 t355.length co86, .int .i64 t358], .agg #[.bool a0_0, .slice A0_1 l0_1.length c0_1, .int .i64 a0_2]] (by rfl) rfl rfl (by (try simp only [List.map_toArray, List.map_cons, List.map_nil]); first | done | rfl | (simp only [List.length_drop, List.length_take]; rfl)) ?_
                            with_reducible refine (exergueref05_Same.calls kj32 t354 _ _ t355 t358 a0_0 _ _ l0_1 a0_2 true _ ?side1 ?side2 ?side3 ?side4 A64.out).mono ?_
                            (case side1 => repeat (first | exact (Kd.V_reads' HO357.out).2.2 | (with_reducible refine Kd.C_alloc ?_ _) | (with_reducible refine Kd.C_drewN ?_ _) | (with_reducible refine Kd.C_drew ?_)))
                            (case side2 => exact (Kd.V_reads' HO357.out).2.1)
                            (case side3 => repeat (first | exact (Kd.C_below HR0_1.out HB.out) | (with_reducible refine Kd.C_alloc ?_ _) | (with_reducible refine Kd.C_drewN ?_ _) | (with_reducible refine Kd.C_drew ?_)))
                            (case side4 => exact HC0_1.out)
                            rintro e w118 ⟨rfl, hb⟩
                            refine ⟨_, rfl, ?_⟩
                            have n0_ := Aside0.mk (Kd.V_below (by (with_reducible repeat (first | apply Kd.V_alloc | apply Kd.V_drewN | apply Kd.V_drew)); exact HO_347001.out) hb)
                            have n1_ := Aside0.mk (Kd.V_below (by (with_reducible repeat (first | apply Kd.V_alloc | apply Kd.V_drewN | apply Kd.V_drew)); exact HO_354001.out) hb)
                            have n2_ := Aside0.mk (Kd.V_below (by (with_reducible repeat (first | apply Kd.V_alloc | apply Kd.V_drewN | apply Kd.V_drew)); exact HO357.out) hb)
                            have n3_ := Aside0.mk (Kd.V_below (by (with_reducible repeat (first | apply Kd.V_alloc | apply Kd.V_drewN | apply Kd.V_drew)); exact HO364.out) hb)
                            have n4_ := Aside0.mk (Kd.V_below (by (with_reducible repeat (first | apply Kd.V_alloc | apply Kd.V_drewN | apply Kd.V_drew)); exact HO371.out) hb)
                            have n5_ := Aside0.mk (blk_below (g := gb334) (o := .cells #[.bool a0_0, .slice A0_1 l0_1.length c0_1, .int .i64 a0_2, .bool a0_3, .slice A0_4 l0_4.length c0_4, .int .i64 a0_5, .int .i16 a0_6, .int .i16 a0_7] 48 (0, 0)) (by (with_reducible repeat (first | refine blk_drewN ?_ _ | refine blk_drew ?_ | refine blk_alloc ?_ _)); exact BK334.out) hb)
                            have n6_ := Aside0.mk (blk_below (g := gb335) (o := .cells #[.bool a0_0, .slice A0_1 l0_1.length c0_1, .int .i64 a0_2] 24 (0, 0)) (by (with_reducible repeat (first | refine blk_drewN ?_ _ | refine blk_drew ?_ | refine blk_alloc ?_ _)); exact BK335.out) hb)
                            have n7_ := Aside0.mk (blk_below (g := gb336) (o := .cells #[.bool a0_3, .slice A0_4 l0_4.length c0_4, .int .i64 a0_5] 24 (0, 0)) (by (with_reducible repeat (first | refine blk_drewN ?_ _ | refine blk_drew ?_ | refine blk_alloc ?_ _)); exact BK336.out) hb)
                            have n8_ := Aside0.mk (blk_below (g := gb346) (o := .cells #[.bool t340, .slice Ao43 t341.length co43, .int .i64 t344] 24 (0, 0)) (by (with_reducible repeat (first | refine blk_drewN ?_ _ | refine blk_drew ?_ | refine blk_alloc ?_ _)); exact BK346.out) hb)
                            have n9_ := Aside0.mk (blk_below (g := gb353) (o := .cells #[.bool t347, .slice Ao54 t348.length co54, .int .i64 t351] 24 (0, 0)) (by (with_reducible repeat (first | refine blk_drewN ?_ _ | refine blk_drew ?_ | refine blk_alloc ?_ _)); exact BK353.out) hb)
                            have n10_ := Aside0.mk (blk_below (g := gb360) (o := .cells #[.bool t354, .slice Ao86 t355.length co86, .int .i64 t358] 24 (0, 0)) (by (with_reducible repeat (first | refine blk_drewN ?_ _ | refine blk_drew ?_ | refine blk_alloc ?_ _)); exact BK360.out) hb)
                            have n11_ := Aside0.mk (blk_below (g := gb367) (o := .cells #[.bool t361, .slice Ao98 t362.length co98, .int .i64 t365] 24 (0, 0)) (by (with_reducible repeat (first | refine blk_drewN ?_ _ | refine blk_drew ?_ | refine blk_alloc ?_ _)); exact BK367.out) hb)
                            have n12_ := Aside0.mk (blk_below (g := gb374) (o := .cells #[.bool t368, .slice Ao114 t369.length co114, .int .i64 t372] 24 (0, 0)) (by (with_reducible repeat (first | refine blk_drewN ?_ _ | refine blk_drew ?_ | refine blk_alloc ?_ _)); exact BK374.out) hb)
                            have n13_ := Aside0.mk (below_step (by repeat (first | (with_reducible first | exact HB.out | apply below_alloc | apply pw_below_drewN | apply below_drew1 | refine below_set ?_ GE334.out | refine below_set ?_ GE335.out | refine below_set ?_ GE336.out | refine below_set ?_ GE346.out | refine below_set ?_ GE353.out | refine below_set ?_ GE360.out | refine below_set ?_ GE367.out | refine below_set ?_ GE374.out) | exact HB.out)) hb)
                            clear HO_347001
                            clear HO_354001
                            clear HO357
                            clear HO364
                            clear HO371
                            clear BK334
                            clear BK335
                            clear BK336
                            clear BK346
                            clear BK353
                            clear BK360
                            clear BK367
                            clear BK374
                            clear HB
                            have HO_347001 := n0_
                            have HO_354001 := n1_
                            have HO357 := n2_
                            have HO364 := n3_
                            have HO371 := n4_
                            have BK334 := n5_
                            have BK335 := n6_
                            have BK336 := n7_
                            have BK346 := n8_
                            have BK353 := n9_
                            have BK360 := n10_
                            have BK367 := n11_
                            have BK374 := n12_
                            have HB := n13_
                            clear n0_ n1_ n2_ n3_ n4_ n5_ n6_ n7_ n8_ n9_ n10_ n11_ n12_ n13_
                            (try clear hb)
                            (try clear hb2)
                            (try clear hk)
                            (try clear hi)
                            refine hK.out _ _ ⟨(blk_cell BK346.out 0).trans rfl, (blk_cell BK346.out 1).trans rfl, (blk_cell BK346.out 2).trans rfl, (blk_cell BK360.out 0).trans rfl, (blk_cell BK360.out 1).trans rfl, (blk_cell BK360.out 2).trans rfl, (blk_cell BK335.out 0).trans rfl, (blk_cell BK335.out 1).trans rfl, (blk_cell BK335.out 2).trans rfl, (blk_cell BK374.out 0).trans rfl, (blk_cell BK374.out 1).trans rfl, (blk_cell BK374.out 2).trans rfl, (blk_cell BK367.out 0).trans rfl, (blk_cell BK367.out 1).trans rfl, (blk_cell BK367.out 2).trans rfl, (blk_cell BK353.out 0).trans rfl, (blk_cell BK353.out 1).trans rfl, (blk_cell BK353.out 2).trans rfl, (blk_cell BK336.out 0).trans rfl, (blk_cell BK336.out 1).trans rfl, (blk_cell BK336.out 2).trans rfl⟩ (fun hHeld => ?_)
                            clear hK K
                            refine norm_ (a' := ?_) ?_ ?_
                            rotate_left
                            · show Act.put _ (some 94) _ = _
                              simp only [Act.put, List.setIfInBounds_toArray, List.set_cons_zero, List.set_cons_succ, i64_w, i32_w]
                              rfl
                            refine pure_ (i := 13) (N := some 95) (v := ?_) (a' := ?_) #[true, true, true, true, true, true, true, true, true, true, true, true, true, true, false, false, false, false, false, false, false, false, false, false, false, false, false, false, false, false, false, false, false, false, false, false, false, false, false, false, false] rfl rfl (any_of HT_.out (by kernel_rfl)) (fun _ _ _ h => h) (Or.inl ⟨by rfl, ?_⟩) ?_ ?_
                            rotate_left
                            · intro w'
                              go_simp
                              with_reducible rfl
                            rotate_left
                            · simp only [Act.put, List.setIfInBounds_toArray, List.set_cons_zero, List.set_cons_succ, i64_w, i32_w]
                              rfl
                            refine pure_ (i := 14) (N := some 96) (v := ?_) (a' := ?_) #[true, true, true, true, true, true, true, true, true, true, true, true, true, true, true, false, false, false, false, false, false, false, false, false, false, false, false, false, false, false, false, false, false, false, false, false, false, false, false, false, false] rfl rfl (any_of HT_.out (by kernel_rfl)) (fun _ _ _ h => h) (Or.inl ⟨by rfl, ?_⟩) ?_ ?_
                            rotate_left
                            · intro w'
                              go_simp
                              with_reducible rfl
                            rotate_left
                            · simp only [Act.put, List.setIfInBounds_toArray, List.set_cons_zero, List.set_cons_succ, i64_w, i32_w]
                              rfl
                            refine pure_ (i := 15) (N := some 97) (v := ?_) (a' := ?_) #[true, true, true, true, true, true, true, true, true, true, true, true, true, true, true, true, false, false, false, false, false, false, false, false, false, false, false, false, false, false, false, false, false, false, false, false, false, false, false, false, false] rfl rfl (any_of HT_.out (by kernel_rfl)) (fun _ _ _ h => h) (Or.inl ⟨by rfl, ?_⟩) ?_ ?_
                            rotate_left
                            · intro w'
                              go_simp
                              with_reducible rfl
                            rotate_left
                            · simp only [Act.put, List.setIfInBounds_toArray, List.set_cons_zero, List.set_cons_succ, i64_w, i32_w]
                              rfl
                            refine pure_ (i := 16) (N := some 98) (v := ?_) (a' := ?_) #[true, true, true, true, true, true, true, true, true, true, true, true, true, true, true, true, true, false, false, false, false, false, false, false, false, false, false, false, false, false, false, false, false, false, false, false, false, false, false, false, false] rfl rfl (any_of HT_.out (by kernel_rfl)) (fun _ _ _ h => h) (Or.inl ⟨by rfl, ?_⟩) ?_ ?_
                            rotate_left
                            · intro w'
                              go_simp
                              with_reducible rfl
                            rotate_left
                            · simp only [Act.put, List.setIfInBounds_toArray, List.set_cons_zero, List.set_cons_succ, i64_w, i32_w]
                              rfl
                            refine pure_ (i := 17) (N := some 99) (v := ?_) (a' := ?_) #[true, true, true, true, true, true, true, true, true, true, true, true, true, true, true, true, true, true, false, false, false, false, false, false, false, false, false, false, false, false, false, false, false, false, false, false, false, false, false, false, false] rfl rfl (any_of HT_.out (by kernel_rfl)) (fun _ _ _ h => h) (Or.inl ⟨by rfl, ?_⟩) ?_ ?_
                            rotate_left
                            · intro w'
                              go_simp
                              with_reducible rfl
                            rotate_left
                            · simp only [Act.put, List.setIfInBounds_toArray, List.set_cons_zero, List.set_cons_succ, i64_w, i32_w]
                              rfl
                            refine pure_ (i := 18) (N := some 100) (v := ?_) (a' := ?_) #[true, true, true, true, true, true, true, true, true, true, true, true, true, true, true, true, true, true, true, false, false, false, false, false, false, false, false, false, false, false, false, false, false, false, false, false, false, false, false, false, false] rfl rfl (any_of HT_.out (by kernel_rfl)) (fun _ _ _ h => h) (Or.inl ⟨by rfl, ?_⟩) ?_ ?_
                            rotate_left
                            · intro w'
                              go_simp
                              with_reducible rfl
                            rotate_left
                            · simp only [Act.put, List.setIfInBounds_toArray, List.set_cons_zero, List.set_cons_succ, i64_w, i32_w]
                              rfl
                            refine pure_ (i := 19) (N := some 101) (v := ?_) (a' := ?_) #[true, true, true, true, true, true, true, true, true, true, true, true, true, true, true, true, true, true, true, true, false, false, false, false, false, false, false, false, false, false, false, false, false, false, false, false, false, false, false, false, false] rfl rfl (any_of HT_.out (by kernel_rfl)) (fun _ _ _ h => h) (Or.inl ⟨by rfl, ?_⟩) ?_ ?_
                            rotate_left
                            · intro w'
                              go_simp
                              with_reducible rfl
                            rotate_left
                            · simp only [Act.put, List.setIfInBounds_toArray, List.set_cons_zero, List.set_cons_succ, i64_w, i32_w]
                              rfl
                            refine take_ (i := 20) (N := some 102) (v := ?_) (a' := ?_) #[true, true, true, true, true, true, true, true, true, true, true, true, true, true, true, true, true, true, true, true, true, false, false, false, false, false, false, false, false, false, false, false, false, false, false, false, false, false, false, false, false] rfl rfl (take_ofW HT_.out HW_.out (by kernel_rfl)) (fun _ _ _ h => h) (Or.inl ⟨by rfl, ?_⟩) hHeld ?_ ?_
                            rotate_left
                            · rintro w' ⟨s0, s1, s2, s3, s4, s5, s6, s7, s8, s9, s10, s11, s12, s13, s14, s15, s16, s17, s18, s19, s20⟩
                              go_simp
                              with_reducible rfl
                            rotate_left
                            · simp only [Act.put, List.setIfInBounds_toArray, List.set_cons_zero, List.set_cons_succ, i64_w, i32_w]
                              rfl
                            refine take_ (i := 21) (N := some 103) (v := ?_) (a' := ?_) #[true, true, true, true, true, true, true, true, true, true, true, true, true, true, true, true, true, true, true, true, true, true, false, false, false, false, false, false, false, false, false, false, false, false, false, false, false, false, false, false, false] rfl rfl (take_ofW HT_.out HW_.out (by kernel_rfl)) (fun _ _ _ h => h) (Or.inl ⟨by rfl, ?_⟩) hHeld ?_ ?_
                            rotate_left
                            · rintro w' ⟨s0, s1, s2, s3, s4, s5, s6, s7, s8, s9, s10, s11, s12, s13, s14, s15, s16, s17, s18, s19, s20⟩
                              go_simp
                              with_reducible rfl
                            rotate_left
                            · simp only [Act.put, List.setIfInBounds_toArray, List.set_cons_zero, List.set_cons_succ, i64_w, i32_w]
                              rfl
                            refine one_ (i := 22) (N := some 104) #[true, true, true, true, true, true, true, true, true, true, true, true, true, true, true, true, true, true, true, true, true, true, true, false, false, false, false, false, false, false, false, false, false, false, false, false, false, false, false, false, false] rfl rfl (one_of HT_.out (by kernel_rfl)) (by decide) (fun K hK => ?_)
                            refine goes_ Tryd.func13 (by kernel_rfl) rfl #[.agg #[.bool t368, .slice Ao114 t369.length co114, .int .i64 t372], .agg #[.bool t361, .slice Ao98 t362.length co98, .int .i64 t365]] (by rfl) rfl rfl (by (try simp only [List.map_toArray, List.map_cons, List.map_nil]); first | done | rfl | (simp only [List.length_drop, List.length_take]; rfl)) ?_
                            with_reducible refine (exergueref05_Same.calls kj32 t368 _ _ t369 t372 t361 _ _ t362 t365 true _ ?side1 ?side2 ?side3 ?side4 A67.out).mono ?_
                            (case side1 => repeat (first | exact (Kd.V_reads' HO371.out).2.2 | (with_reducible refine Kd.C_alloc ?_ _) | (with_reducible refine Kd.C_drewN ?_ _) | (with_reducible refine Kd.C_drew ?_)))
                            (case side2 => exact (Kd.V_reads' HO371.out).2.1)
                            (case side3 => repeat (first | exact (Kd.V_reads' HO364.out).2.2 | (with_reducible refine Kd.C_alloc ?_ _) | (with_reducible refine Kd.C_drewN ?_ _) | (with_reducible refine Kd.C_drew ?_)))
                            (case side4 => exact (Kd.V_reads' HO364.out).2.1)
                            rintro e w119 ⟨rfl, hb⟩
                            refine ⟨_, rfl, ?_⟩
                            have n0_ := Aside0.mk (Kd.V_below (by (with_reducible repeat (first | apply Kd.V_alloc | apply Kd.V_drewN | apply Kd.V_drew)); exact HO_347001.out) hb)
                            have n1_ := Aside0.mk (Kd.V_below (by (with_reducible repeat (first | apply Kd.V_alloc | apply Kd.V_drewN | apply Kd.V_drew)); exact HO_354001.out) hb)
                            have n2_ := Aside0.mk (Kd.V_below (by (with_reducible repeat (first | apply Kd.V_alloc | apply Kd.V_drewN | apply Kd.V_drew)); exact HO357.out) hb)
                            have n3_ := Aside0.mk (Kd.V_below (by (with_reducible repeat (first | apply Kd.V_alloc | apply Kd.V_drewN | apply Kd.V_drew)); exact HO364.out) hb)
                            have n4_ := Aside0.mk (Kd.V_below (by (with_reducible repeat (first | apply Kd.V_alloc | apply Kd.V_drewN | apply Kd.V_drew)); exact HO371.out) hb)
                            have n5_ := Aside0.mk (blk_below (g := gb334) (o := .cells #[.bool a0_0, .slice A0_1 l0_1.length c0_1, .int .i64 a0_2, .bool a0_3, .slice A0_4 l0_4.length c0_4, .int .i64 a0_5, .int .i16 a0_6, .int .i16 a0_7] 48 (0, 0)) (by (with_reducible repeat (first | refine blk_drewN ?_ _ | refine blk_drew ?_ | refine blk_alloc ?_ _)); exact BK334.out) hb)
                            have n6_ := Aside0.mk (blk_below (g := gb335) (o := .cells #[.bool a0_0, .slice A0_1 l0_1.length c0_1, .int .i64 a0_2] 24 (0, 0)) (by (with_reducible repeat (first | refine blk_drewN ?_ _ | refine blk_drew ?_ | refine blk_alloc ?_ _)); exact BK335.out) hb)
                            have n7_ := Aside0.mk (blk_below (g := gb336) (o := .cells #[.bool a0_3, .slice A0_4 l0_4.length c0_4, .int .i64 a0_5] 24 (0, 0)) (by (with_reducible repeat (first | refine blk_drewN ?_ _ | refine blk_drew ?_ | refine blk_alloc ?_ _)); exact BK336.out) hb)
                            have n8_ := Aside0.mk (blk_below (g := gb346) (o := .cells #[.bool t340, .slice Ao43 t341.length co43, .int .i64 t344] 24 (0, 0)) (by (with_reducible repeat (first | refine blk_drewN ?_ _ | refine blk_drew ?_ | refine blk_alloc ?_ _)); exact BK346.out) hb)
                            have n9_ := Aside0.mk (blk_below (g := gb353) (o := .cells #[.bool t347, .slice Ao54 t348.length co54, .int .i64 t351] 24 (0, 0)) (by (with_reducible repeat (first | refine blk_drewN ?_ _ | refine blk_drew ?_ | refine blk_alloc ?_ _)); exact BK353.out) hb)
                            have n10_ := Aside0.mk (blk_below (g := gb360) (o := .cells #[.bool t354, .slice Ao86 t355.length co86, .int .i64 t358] 24 (0, 0)) (by (with_reducible repeat (first | refine blk_drewN ?_ _ | refine blk_drew ?_ | refine blk_alloc ?_ _)); exact BK360.out) hb)
                            have n11_ := Aside0.mk (blk_below (g := gb367) (o := .cells #[.bool t361, .slice Ao98 t362.length co98, .int .i64 t365] 24 (0, 0)) (by (with_reducible repeat (first | refine blk_drewN ?_ _ | refine blk_drew ?_ | refine blk_alloc ?_ _)); exact BK367.out) hb)
                            have n12_ := Aside0.mk (blk_below (g := gb374) (o := .cells #[.bool t368, .slice Ao114 t369.length co114, .int .i64 t372] 24 (0, 0)) (by (with_reducible repeat (first | refine blk_drewN ?_ _ | refine blk_drew ?_ | refine blk_alloc ?_ _)); exact BK374.out) hb)
                            have n13_ := Aside0.mk (below_step (by repeat (first | (with_reducible first | exact HB.out | apply below_alloc | apply pw_below_drewN | apply below_drew1 | refine below_set ?_ GE334.out | refine below_set ?_ GE335.out | refine below_set ?_ GE336.out | refine below_set ?_ GE346.out | refine below_set ?_ GE353.out | refine below_set ?_ GE360.out | refine below_set ?_ GE367.out | refine below_set ?_ GE374.out) | exact HB.out)) hb)
                            clear HO_347001
                            clear HO_354001
                            clear HO357
                            clear HO364
                            clear HO371
                            clear BK334
                            clear BK335
                            clear BK336
                            clear BK346
                            clear BK353
                            clear BK360
                            clear BK367
                            clear BK374
                            clear HB
                            have HO_347001 := n0_
                            have HO_354001 := n1_
                            have HO357 := n2_
                            have HO364 := n3_
                            have HO371 := n4_
                            have BK334 := n5_
                            have BK335 := n6_
                            have BK336 := n7_
                            have BK346 := n8_
                            have BK353 := n9_
                            have BK360 := n10_
                            have BK367 := n11_
                            have BK374 := n12_
                            have HB := n13_
                            clear n0_ n1_ n2_ n3_ n4_ n5_ n6_ n7_ n8_ n9_ n10_ n11_ n12_ n13_
                            (try clear hb)
                            (try clear hb2)
                            (try clear hk)
                            (try clear hi)
                            refine hK.out _ _ ⟨(blk_cell BK346.out 0).trans rfl, (blk_cell BK346.out 1).trans rfl, (blk_cell BK346.out 2).trans rfl, (blk_cell BK360.out 0).trans rfl, (blk_cell BK360.out 1).trans rfl, (blk_cell BK360.out 2).trans rfl, (blk_cell BK335.out 0).trans rfl, (blk_cell BK335.out 1).trans rfl, (blk_cell BK335.out 2).trans rfl, (blk_cell BK374.out 0).trans rfl, (blk_cell BK374.out 1).trans rfl, (blk_cell BK374.out 2).trans rfl, (blk_cell BK367.out 0).trans rfl, (blk_cell BK367.out 1).trans rfl, (blk_cell BK367.out 2).trans rfl, (blk_cell BK353.out 0).trans rfl, (blk_cell BK353.out 1).trans rfl, (blk_cell BK353.out 2).trans rfl, (blk_cell BK336.out 0).trans rfl, (blk_cell BK336.out 1).trans rfl, (blk_cell BK336.out 2).trans rfl⟩ (fun hHeld => ?_)
                            clear hK K
                            refine norm_ (a' := ?_) ?_ ?_
                            rotate_left
                            · show Act.put _ (some 104) _ = _
                              simp only [Act.put, List.setIfInBounds_toArray, List.set_cons_zero, List.set_cons_succ, i64_w, i32_w]
                              rfl
                            refine pure_ (i := 23) (N := some 105) (v := ?_) (a' := ?_) #[true, true, true, true, true, true, true, true, true, true, true, true, true, true, true, true, true, true, true, true, true, true, true, true, false, false, false, false, false, false, false, false, false, false, false, false, false, false, false, false, false] rfl rfl (any_of HT_.out (by kernel_rfl)) (fun _ _ _ h => h) (Or.inl ⟨by rfl, ?_⟩) ?_ ?_
                            rotate_left
                            · intro w'
                              go_simp
                              with_reducible rfl
                            rotate_left
                            · simp only [Act.put, List.setIfInBounds_toArray, List.set_cons_zero, List.set_cons_succ, i64_w, i32_w]
                              rfl
                            refine pure_ (i := 24) (N := some 106) (v := ?_) (a' := ?_) #[true, true, true, true, true, true, true, true, true, true, true, true, true, true, true, true, true, true, true, true, true, true, true, true, true, false, false, false, false, false, false, false, false, false, false, false, false, false, false, false, false] rfl rfl (any_of HT_.out (by kernel_rfl)) (fun _ _ _ h => h) (Or.inl ⟨by rfl, ?_⟩) ?_ ?_
                            rotate_left
                            · intro w'
                              go_simp
                              with_reducible rfl
                            rotate_left
                            · simp only [Act.put, List.setIfInBounds_toArray, List.set_cons_zero, List.set_cons_succ, i64_w, i32_w]
                              rfl
                            refine take_ (i := 25) (N := some 107) (v := ?_) (a' := ?_) #[true, true, true, true, true, true, true, true, true, true, true, true, true, true, true, true, true, true, true, true, true, true, true, true, true, true, false, false, false, false, false, false, false, false, false, false, false, false, false, false, false] rfl rfl (take_ofW HT_.out HW_.out (by kernel_rfl)) (fun _ _ _ h => h) (Or.inl ⟨by rfl, ?_⟩) hHeld ?_ ?_
                            rotate_left
                            · rintro w' ⟨s0, s1, s2, s3, s4, s5, s6, s7, s8, s9, s10, s11, s12, s13, s14, s15, s16, s17, s18, s19, s20⟩
                              go_simp
                              with_reducible rfl
                            rotate_left
                            · simp only [Act.put, List.setIfInBounds_toArray, List.set_cons_zero, List.set_cons_succ, i64_w, i32_w]
                              rfl
                            refine take_ (i := 26) (N := some 108) (v := ?_) (a' := ?_) #[true, true, true, true, true, true, true, true, true, true, true, true, true, true, true, true, true, true, true, true, true, true, true, true, true, true, true, false, false, false, false, false, false, false, false, false, false, false, false, false, false] rfl rfl (take_ofW HT_.out HW_.out (by kernel_rfl)) (fun _ _ _ h => h) (Or.inl ⟨by rfl, ?_⟩) hHeld ?_ ?_
                            rotate_left
                            · rintro w' ⟨s0, s1, s2, s3, s4, s5, s6, s7, s8, s9, s10, s11, s12, s13, s14, s15, s16, s17, s18, s19, s20⟩
                              go_simp
                              with_reducible rfl
                            rotate_left
                            · simp only [Act.put, List.setIfInBounds_toArray, List.set_cons_zero, List.set_cons_succ, i64_w, i32_w]
                              rfl
                            refine take_ (i := 28) (N := some 110) (v := ?_) (a' := ?_) #[true, true, true, true, true, true, true, true, true, true, true, true, true, true, true, true, true, true, true, true, true, true, true, true, true, true, true, false, true, false, false, false, false, false, false, false, false, false, false, false, false] rfl rfl (take_ofW HT_.out HW_.out (by kernel_rfl)) (fun _ _ _ h => h) (Or.inl ⟨by rfl, ?_⟩) hHeld ?_ ?_
                            rotate_left
                            · rintro w' ⟨s0, s1, s2, s3, s4, s5, s6, s7, s8, s9, s10, s11, s12, s13, s14, s15, s16, s17, s18, s19, s20⟩
                              go_simp
                              with_reducible rfl
                            rotate_left
                            · simp only [Act.put, List.setIfInBounds_toArray, List.set_cons_zero, List.set_cons_succ, i64_w, i32_w]
                              rfl
                            refine take_ (i := 29) (N := some 111) (v := ?_) (a' := ?_) #[true, true, true, true, true, true, true, true, true, true, true, true, true, true, true, true, true, true, true, true, true, true, true, true, true, true, true, false, true, true, false, false, false, false, false, false, false, false, false, false, false] rfl rfl (take_ofW HT_.out HW_.out (by kernel_rfl)) (fun _ _ _ h => h) (Or.inl ⟨by rfl, ?_⟩) hHeld ?_ ?_
                            rotate_left
                            · rintro w' ⟨s0, s1, s2, s3, s4, s5, s6, s7, s8, s9, s10, s11, s12, s13, s14, s15, s16, s17, s18, s19, s20⟩
                              go_simp
                              with_reducible rfl
                            rotate_left
                            · simp only [Act.put, List.setIfInBounds_toArray, List.set_cons_zero, List.set_cons_succ, i64_w, i32_w]
                              rfl
                            refine one_ (i := 27) (N := some 109) #[true, true, true, true, true, true, true, true, true, true, true, true, true, true, true, true, true, true, true, true, true, true, true, true, true, true, true, true, true, true, false, false, false, false, false, false, false, false, false, false, false] rfl rfl (one_of HT_.out (by kernel_rfl)) (by decide) (fun K hK => ?_)
                            refine goes_ Tryd.func17 (by kernel_rfl) rfl #[.agg #[.bool t340, .slice Ao43 t341.length co43, .int .i64 t344], .agg #[.bool t347, .slice Ao54 t348.length co54, .int .i64 t351]] (by rfl) rfl rfl (by (try simp only [List.map_toArray, List.map_cons, List.map_nil]); first | done | rfl | (simp only [List.length_drop, List.length_take]; rfl)) ?_
                            with_reducible refine (dec_Cmp.calls kj32 t340 _ _ t341 t344 t347 _ _ t348 t351 t378 _ ?side1 ?side2 ?side3 ?side4 A69.out).mono ?_
                            (case side1 => repeat (first | exact (Kd.V_reads' HO_347001.out).2.2 | (with_reducible refine Kd.C_alloc ?_ _) | (with_reducible refine Kd.C_drewN ?_ _) | (with_reducible refine Kd.C_drew ?_)))
                            (case side2 => exact (Kd.V_reads' HO_347001.out).2.1)
                            (case side3 => repeat (first | exact (Kd.V_reads' HO_354001.out).2.2 | (with_reducible refine Kd.C_alloc ?_ _) | (with_reducible refine Kd.C_drewN ?_ _) | (with_reducible refine Kd.C_drew ?_)))
                            (case side4 => exact (Kd.V_reads' HO_354001.out).2.1)
                            rintro e w120 ⟨rfl, hb⟩
                            refine ⟨_, rfl, ?_⟩
                            have n0_ := Aside0.mk (Kd.V_below (by (with_reducible repeat (first | apply Kd.V_alloc | apply Kd.V_drewN | apply Kd.V_drew)); exact HO_347001.out) hb)
                            have n1_ := Aside0.mk (Kd.V_below (by (with_reducible repeat (first | apply Kd.V_alloc | apply Kd.V_drewN | apply Kd.V_drew)); exact HO_354001.out) hb)
                            have n2_ := Aside0.mk (Kd.V_below (by (with_reducible repeat (first | apply Kd.V_alloc | apply Kd.V_drewN | apply Kd.V_drew)); exact HO357.out) hb)
                            have n3_ := Aside0.mk (Kd.V_below (by (with_reducible repeat (first | apply Kd.V_alloc | apply Kd.V_drewN | apply Kd.V_drew)); exact HO364.out) hb)
                            have n4_ := Aside0.mk (Kd.V_below (by (with_reducible repeat (first | apply Kd.V_alloc | apply Kd.V_drewN | apply Kd.V_drew)); exact HO371.out) hb)
                            have n5_ := Aside0.mk (blk_below (g := gb334) (o := .cells #[.bool a0_0, .slice A0_1 l0_1.length c0_1, .int .i64 a0_2, .bool a0_3, .slice A0_4 l0_4.length c0_4, .int .i64 a0_5, .int .i16 a0_6, .int .i16 a0_7] 48 (0, 0)) (by (with_reducible repeat (first | refine blk_drewN ?_ _ | refine blk_drew ?_ | refine blk_alloc ?_ _)); exact BK334.out) hb)
                            have n6_ := Aside0.mk (blk_below (g := gb335) (o := .cells #[.bool a0_0, .slice A0_1 l0_1.length c0_1, .int .i64 a0_2] 24 (0, 0)) (by (with_reducible repeat (first | refine blk_drewN ?_ _ | refine blk_drew ?_ | refine blk_alloc ?_ _)); exact BK335.out) hb)
                            have n7_ := Aside0.mk (blk_below (g := gb336) (o := .cells #[.bool a0_3, .slice A0_4 l0_4.length c0_4, .int .i64 a0_5] 24 (0, 0)) (by (with_reducible repeat (first | refine blk_drewN ?_ _ | refine blk_drew ?_ | refine blk_alloc ?_ _)); exact BK336.out) hb)
                            have n8_ := Aside0.mk (blk_below (g := gb346) (o := .cells #[.bool t340, .slice Ao43 t341.length co43, .int .i64 t344] 24 (0, 0)) (by (with_reducible repeat (first | refine blk_drewN ?_ _ | refine blk_drew ?_ | refine blk_alloc ?_ _)); exact BK346.out) hb)
                            have n9_ := Aside0.mk (blk_below (g := gb353) (o := .cells #[.bool t347, .slice Ao54 t348.length co54, .int .i64 t351] 24 (0, 0)) (by (with_reducible repeat (first | refine blk_drewN ?_ _ | refine blk_drew ?_ | refine blk_alloc ?_ _)); exact BK353.out) hb)
                            have n10_ := Aside0.mk (blk_below (g := gb360) (o := .cells #[.bool t354, .slice Ao86 t355.length co86, .int .i64 t358] 24 (0, 0)) (by (with_reducible repeat (first | refine blk_drewN ?_ _ | refine blk_drew ?_ | refine blk_alloc ?_ _)); exact BK360.out) hb)
                            have n11_ := Aside0.mk (blk_below (g := gb367) (o := .cells #[.bool t361, .slice Ao98 t362.length co98, .int .i64 t365] 24 (0, 0)) (by (with_reducible repeat (first | refine blk_drewN ?_ _ | refine blk_drew ?_ | refine blk_alloc ?_ _)); exact BK367.out) hb)
                            have n12_ := Aside0.mk (blk_below (g := gb374) (o := .cells #[.bool t368, .slice Ao114 t369.length co114, .int .i64 t372] 24 (0, 0)) (by (with_reducible repeat (first | refine blk_drewN ?_ _ | refine blk_drew ?_ | refine blk_alloc ?_ _)); exact BK374.out) hb)
                            have n13_ := Aside0.mk (below_step (by repeat (first | (with_reducible first | exact HB.out | apply below_alloc | apply pw_below_drewN | apply below_drew1 | refine below_set ?_ GE334.out | refine below_set ?_ GE335.out | refine below_set ?_ GE336.out | refine below_set ?_ GE346.out | refine below_set ?_ GE353.out | refine below_set ?_ GE360.out | refine below_set ?_ GE367.out | refine below_set ?_ GE374.out) | exact HB.out)) hb)
                            clear HO_347001
                            clear HO_354001
                            clear HO357
                            clear HO364
                            clear HO371
                            clear BK334
                            clear BK335
                            clear BK336
                            clear BK346
                            clear BK353
                            clear BK360
                            clear BK367
                            clear BK374
                            clear HB
                            have HO_347001 := n0_
                            have HO_354001 := n1_
                            have HO357 := n2_
                            have HO364 := n3_
                            have HO371 := n4_
                            have BK334 := n5_
                            have BK335 := n6_
                            have BK336 := n7_
                            have BK346 := n8_
                            have BK353 := n9_
                            have BK360 := n10_
                            have BK367 := n11_
                            have BK374 := n12_
                            have HB := n13_
                            clear n0_ n1_ n2_ n3_ n4_ n5_ n6_ n7_ n8_ n9_ n10_ n11_ n12_ n13_
                            (try clear hb)
                            (try clear hb2)
                            (try clear hk)
                            (try clear hi)
                            refine hK.out _ _ ⟨(blk_cell BK346.out 0).trans rfl, (blk_cell BK346.out 1).trans rfl, (blk_cell BK346.out 2).trans rfl, (blk_cell BK360.out 0).trans rfl, (blk_cell BK360.out 1).trans rfl, (blk_cell BK360.out 2).trans rfl, (blk_cell BK335.out 0).trans rfl, (blk_cell BK335.out 1).trans rfl, (blk_cell BK335.out 2).trans rfl, (blk_cell BK374.out 0).trans rfl, (blk_cell BK374.out 1).trans rfl, (blk_cell BK374.out 2).trans rfl, (blk_cell BK367.out 0).trans rfl, (blk_cell BK367.out 1).trans rfl, (blk_cell BK367.out 2).trans rfl, (blk_cell BK353.out 0).trans rfl, (blk_cell BK353.out 1).trans rfl, (blk_cell BK353.out 2).trans rfl, (blk_cell BK336.out 0).trans rfl, (blk_cell BK336.out 1).trans rfl, (blk_cell BK336.out 2).trans rfl⟩ (fun hHeld => ?_)
                            clear hK K
                            refine norm_ (a' := ?_) ?_ ?_
                            rotate_left
                            · show Act.put _ (some 109) _ = _
                              simp only [Act.put, List.setIfInBounds_toArray, List.set_cons_zero, List.set_cons_succ, i64_w, i32_w]
                              rfl
                            refine one_ (i := 30) (N := some 112) #[true, true, true, true, true, true, true, true, true, true, true, true, true, true, true, true, true, true, true, true, true, true, true, true, true, true, true, true, true, true, true, false, false, false, false, false, false, false, false, false, false] rfl rfl (one_of HT_.out (by kernel_rfl)) (by decide) (fun K hK => ?_)
                            refine goes_ Tryd.func17 (by kernel_rfl) rfl #[.agg #[.bool a0_0, .slice A0_1 l0_1.length c0_1, .int .i64 a0_2], .agg #[.bool a0_3, .slice A0_4 l0_4.length c0_4, .int .i64 a0_5]] (by rfl) rfl rfl (by (try simp only [List.map_toArray, List.map_cons, List.map_nil]); first | done | rfl | (simp only [List.length_drop, List.length_take]; rfl)) ?_
                            with_reducible refine (dec_Cmp.calls kj32 a0_0 _ _ l0_1 a0_2 a0_3 _ _ l0_4 a0_5 t379 _ ?side1 ?side2 ?side3 ?side4 A70.out).mono ?_
                            (case side1 => repeat (first | exact (Kd.C_below HR0_1.out HB.out) | (with_reducible refine Kd.C_alloc ?_ _) | (with_reducible refine Kd.C_drewN ?_ _) | (with_reducible refine Kd.C_drew ?_)))
                            (case side2 => exact HC0_1.out)
                            (case side3 => repeat (first | exact (Kd.C_below HR0_4.out HB.out) | (with_reducible refine Kd.C_alloc ?_ _) | (with_reducible refine Kd.C_drewN ?_ _) | (with_reducible refine Kd.C_drew ?_)))
                            (case side4 => exact HC0_4.out)
                            rintro e w121 ⟨rfl, hb⟩
                            refine ⟨_, rfl, ?_⟩
                            have n0_ := Aside0.mk (Kd.V_below (by (with_reducible repeat (first | apply Kd.V_alloc | apply Kd.V_drewN | apply Kd.V_drew)); exact HO_347001.out) hb)
                            have n1_ := Aside0.mk (Kd.V_below (by (with_reducible repeat (first | apply Kd.V_alloc | apply Kd.V_drewN | apply Kd.V_drew)); exact HO_354001.out) hb)
                            have n2_ := Aside0.mk (Kd.V_below (by (with_reducible repeat (first | apply Kd.V_alloc | apply Kd.V_drewN | apply Kd.V_drew)); exact HO357.out) hb)
                            have n3_ := Aside0.mk (Kd.V_below (by (with_reducible repeat (first | apply Kd.V_alloc | apply Kd.V_drewN | apply Kd.V_drew)); exact HO364.out) hb)
                            have n4_ := Aside0.mk (Kd.V_below (by (with_reducible repeat (first | apply Kd.V_alloc | apply Kd.V_drewN | apply Kd.V_drew)); exact HO371.out) hb)
                            have n5_ := Aside0.mk (blk_below (g := gb334) (o := .cells #[.bool a0_0, .slice A0_1 l0_1.length c0_1, .int .i64 a0_2, .bool a0_3, .slice A0_4 l0_4.length c0_4, .int .i64 a0_5, .int .i16 a0_6, .int .i16 a0_7] 48 (0, 0)) (by (with_reducible repeat (first | refine blk_drewN ?_ _ | refine blk_drew ?_ | refine blk_alloc ?_ _)); exact BK334.out) hb)
                            have n6_ := Aside0.mk (blk_below (g := gb335) (o := .cells #[.bool a0_0, .slice A0_1 l0_1.length c0_1, .int .i64 a0_2] 24 (0, 0)) (by (with_reducible repeat (first | refine blk_drewN ?_ _ | refine blk_drew ?_ | refine blk_alloc ?_ _)); exact BK335.out) hb)
                            have n7_ := Aside0.mk (blk_below (g := gb336) (o := .cells #[.bool a0_3, .slice A0_4 l0_4.length c0_4, .int .i64 a0_5] 24 (0, 0)) (by (with_reducible repeat (first | refine blk_drewN ?_ _ | refine blk_drew ?_ | refine blk_alloc ?_ _)); exact BK336.out) hb)
                            have n8_ := Aside0.mk (blk_below (g := gb346) (o := .cells #[.bool t340, .slice Ao43 t341.length co43, .int .i64 t344] 24 (0, 0)) (by (with_reducible repeat (first | refine blk_drewN ?_ _ | refine blk_drew ?_ | refine blk_alloc ?_ _)); exact BK346.out) hb)
                            have n9_ := Aside0.mk (blk_below (g := gb353) (o := .cells #[.bool t347, .slice Ao54 t348.length co54, .int .i64 t351] 24 (0, 0)) (by (with_reducible repeat (first | refine blk_drewN ?_ _ | refine blk_drew ?_ | refine blk_alloc ?_ _)); exact BK353.out) hb)
                            have n10_ := Aside0.mk (blk_below (g := gb360) (o := .cells #[.bool t354, .slice Ao86 t355.length co86, .int .i64 t358] 24 (0, 0)) (by (with_reducible repeat (first | refine blk_drewN ?_ _ | refine blk_drew ?_ | refine blk_alloc ?_ _)); exact BK360.out) hb)
                            have n11_ := Aside0.mk (blk_below (g := gb367) (o := .cells #[.bool t361, .slice Ao98 t362.length co98, .int .i64 t365] 24 (0, 0)) (by (with_reducible repeat (first | refine blk_drewN ?_ _ | refine blk_drew ?_ | refine blk_alloc ?_ _)); exact BK367.out) hb)
                            have n12_ := Aside0.mk (blk_below (g := gb374) (o := .cells #[.bool t368, .slice Ao114 t369.length co114, .int .i64 t372] 24 (0, 0)) (by (with_reducible repeat (first | refine blk_drewN ?_ _ | refine blk_drew ?_ | refine blk_alloc ?_ _)); exact BK374.out) hb)
                            have n13_ := Aside0.mk (below_step (by repeat (first | (with_reducible first | exact HB.out | apply below_alloc | apply pw_below_drewN | apply below_drew1 | refine below_set ?_ GE334.out | refine below_set ?_ GE335.out | refine below_set ?_ GE336.out | refine below_set ?_ GE346.out | refine below_set ?_ GE353.out | refine below_set ?_ GE360.out | refine below_set ?_ GE367.out | refine below_set ?_ GE374.out) | exact HB.out)) hb)
                            clear HO_347001
                            clear HO_354001
                            clear HO357
                            clear HO364
                            clear HO371
                            clear BK334
                            clear BK335
                            clear BK336
                            clear BK346
                            clear BK353
                            clear BK360
                            clear BK367
                            clear BK374
                            clear HB
                            have HO_347001 := n0_
                            have HO_354001 := n1_
                            have HO357 := n2_
                            have HO364 := n3_
                            have HO371 := n4_
                            have BK334 := n5_
                            have BK335 := n6_
                            have BK336 := n7_
                            have BK346 := n8_
                            have BK353 := n9_
                            have BK360 := n10_
                            have BK367 := n11_
                            have BK374 := n12_
                            have HB := n13_
                            clear n0_ n1_ n2_ n3_ n4_ n5_ n6_ n7_ n8_ n9_ n10_ n11_ n12_ n13_
                            (try clear hb)
                            (try clear hb2)
                            (try clear hk)
                            (try clear hi)
                            refine hK.out _ _ ⟨(blk_cell BK346.out 0).trans rfl, (blk_cell BK346.out 1).trans rfl, (blk_cell BK346.out 2).trans rfl, (blk_cell BK360.out 0).trans rfl, (blk_cell BK360.out 1).trans rfl, (blk_cell BK360.out 2).trans rfl, (blk_cell BK335.out 0).trans rfl, (blk_cell BK335.out 1).trans rfl, (blk_cell BK335.out 2).trans rfl, (blk_cell BK374.out 0).trans rfl, (blk_cell BK374.out 1).trans rfl, (blk_cell BK374.out 2).trans rfl, (blk_cell BK367.out 0).trans rfl, (blk_cell BK367.out 1).trans rfl, (blk_cell BK367.out 2).trans rfl, (blk_cell BK353.out 0).trans rfl, (blk_cell BK353.out 1).trans rfl, (blk_cell BK353.out 2).trans rfl, (blk_cell BK336.out 0).trans rfl, (blk_cell BK336.out 1).trans rfl, (blk_cell BK336.out 2).trans rfl⟩ (fun hHeld => ?_)
                            clear hK K
                            refine norm_ (a' := ?_) ?_ ?_
                            rotate_left
                            · show Act.put _ (some 112) _ = _
                              simp only [Act.put, List.setIfInBounds_toArray, List.set_cons_zero, List.set_cons_succ, i64_w, i32_w]
                              rfl
                            refine pure_ (i := 31) (N := some 113) (v := ?_) (a' := ?_) #[true, true, true, true, true, true, true, true, true, true, true, true, true, true, true, true, true, true, true, true, true, true, true, true, true, true, true, true, true, true, true, true, false, false, false, false, false, false, false, false, false] rfl rfl (any_of HT_.out (by kernel_rfl)) (fun _ _ _ h => h) (Or.inl ⟨by rfl, ?_⟩) ?_ ?_
                            rotate_left
                            · intro w'
                              go_simp
                              with_reducible rfl
                            rotate_left
                            · simp only [Act.put, List.setIfInBounds_toArray, List.set_cons_zero, List.set_cons_succ, i64_w, i32_w]
                              rfl
                            refine pure_ (i := 32) (N := some 114) (v := ?_) (a' := ?_) #[true, true, true, true, true, true, true, true, true, true, true, true, true, true, true, true, true, true, true, true, true, true, true, true, true, true, true, true, true, true, true, true, true, false, false, false, false, false, false, false, false] rfl rfl (any_of HT_.out (by kernel_rfl)) (fun _ _ _ h => h) (Or.inl ⟨by rfl, ?_⟩) ?_ ?_
                            rotate_left
                            · intro w'
                              go_simp
                              with_reducible rfl
                            rotate_left
                            · simp only [Act.put, List.setIfInBounds_toArray, List.set_cons_zero, List.set_cons_succ, i64_w, i32_w]
                              rfl
                            refine pure_ (i := 33) (N := some 115) (v := ?_) (a' := ?_) #[true, true, true, true, true, true, true, true, true, true, true, true, true, true, true, true, true, true, true, true, true, true, true, true, true, true, true, true, true, true, true, true, true, true, false, false, false, false, false, false, false] rfl rfl (any_of HT_.out (by kernel_rfl)) (fun _ _ _ h => h) (Or.inl ⟨by rfl, ?_⟩) ?_ ?_
                            rotate_left
                            · intro w'
                              go_simp
                              with_reducible rfl
                            rotate_left
                            · simp only [Act.put, List.setIfInBounds_toArray, List.set_cons_zero, List.set_cons_succ, i64_w, i32_w]
                              rfl
                            refine pure_ (i := 34) (N := some 116) (v := ?_) (a' := ?_) #[true, true, true, true, true, true, true, true, true, true, true, true, true, true, true, true, true, true, true, true, true, true, true, true, true, true, true, true, true, true, true, true, true, true, true, false, false, false, false, false, false] rfl rfl (any_of HT_.out (by kernel_rfl)) (fun _ _ _ h => h) (Or.inl ⟨by rfl, ?_⟩) ?_ ?_
                            rotate_left
                            · intro w'
                              go_simp
                              with_reducible rfl
                            rotate_left
                            · simp only [Act.put, List.setIfInBounds_toArray, List.set_cons_zero, List.set_cons_succ, i64_w, i32_w]
                              rfl
                            refine pure_ (i := 36) (N := some 118) (v := ?_) (a' := ?_) #[true, true, true, true, true, true, true, true, true, true, true, true, true, true, true, true, true, true, true, true, true, true, true, true, true, true, true, true, true, true, true, true, true, true, true, false, true, false, false, false, false] rfl rfl (any_of HT_.out (by kernel_rfl)) (fun _ _ _ h => h) (Or.inl ⟨by rfl, ?_⟩) ?_ ?_
                            rotate_left
                            · intro w'
                              go_simp
                              with_reducible rfl
                            rotate_left
                            · simp only [Act.put, List.setIfInBounds_toArray, List.set_cons_zero, List.set_cons_succ, i64_w, i32_w]
                              rfl
                            refine take_ (i := 35) (N := some 117) (v := ?_) (a' := ?_) #[true, true, true, true, true, true, true, true, true, true, true, true, true, true, true, true, true, true, true, true, true, true, true, true, true, true, true, true, true, true, true, true, true, true, true, true, true, false, false, false, false] rfl rfl (take_ofW HT_.out HW_.out (by kernel_rfl)) (fun _ _ _ h => h) (Or.inl ⟨by rfl, ?_⟩) hHeld ?_ ?_
                            rotate_left
                            · rintro w' ⟨s0, s1, s2, s3, s4, s5, s6, s7, s8, s9, s10, s11, s12, s13, s14, s15, s16, s17, s18, s19, s20⟩
                              go_simp
                              with_reducible rfl
                            rotate_left
                            · simp only [Act.put, List.setIfInBounds_toArray, List.set_cons_zero, List.set_cons_succ, i64_w, i32_w]
                              rfl
                            refine take_ (i := 37) (N := some 119) (v := ?_) (a' := ?_) #[true, true, true, true, true, true, true, true, true, true, true, true, true, true, true, true, true, true, true, true, true, true, true, true, true, true, true, true, true, true, true, true, true, true, true, true, true, true, false, false, false] rfl rfl (take_ofW HT_.out HW_.out (by kernel_rfl)) (fun _ _ _ h => h) (Or.inl ⟨by rfl, ?_⟩) hHeld ?_ ?_
                            rotate_left
                            · rintro w' ⟨s0, s1, s2, s3, s4, s5, s6, s7, s8, s9, s10, s11, s12, s13, s14, s15, s16, s17, s18, s19, s20⟩
                              go_simp
                              with_reducible rfl
                            rotate_left
                            · simp only [Act.put, List.setIfInBounds_toArray, List.set_cons_zero, List.set_cons_succ, i64_w, i32_w]
                              rfl
                            refine one_ (i := 38) (N := some 120) #[true, true, true, true, true, true, true, true, true, true, true, true, true, true, true, true, true, true, true, true, true, true, true, true, true, true, true, true, true, true, true, true, true, true, true, true, true, true, true, false, false] rfl rfl (one_of HT_.out (by kernel_rfl)) (by decide) (fun K hK => ?_)
                            refine goes_ Tryd.func21 (by kernel_rfl) rfl #[.slice Ao43 t341.length co43, .slice A0_1 l0_1.length c0_1] (by rfl) rfl rfl (by (try simp only [List.map_toArray, List.map_cons, List.map_nil]); first | done | rfl | (simp only [List.length_drop, List.length_take]; rfl)) ?_
                            with_reducible refine (exergueref01_Row.calls kj32 _ _ t341 _ _ l0_1 t380 _ ?side1 ?side2 ?side3 ?side4 A72.out).mono ?_
                            (case side1 => repeat (first | exact (Kd.V_reads' HO_347001.out).2.2 | (with_reducible refine Kd.C_alloc ?_ _) | (with_reducible refine Kd.C_drewN ?_ _) | (with_reducible refine Kd.C_drew ?_)))
                            (case side2 => exact (Kd.V_reads' HO_347001.out).2.1)
                            (case side3 => repeat (first | exact (Kd.C_below HR0_1.out HB.out) | (with_reducible refine Kd.C_alloc ?_ _) | (with_reducible refine Kd.C_drewN ?_ _) | (with_reducible refine Kd.C_drew ?_)))
                            (case side4 => exact HC0_1.out)
                            rintro e w' ⟨rfl, ⟨nd, rfl⟩⟩
                            refine ⟨_, rfl, ?_⟩
                            refine hK.out _ _ ⟨(blk_cell BK346.out 0).trans rfl, (blk_cell BK346.out 1).trans rfl, (blk_cell BK346.out 2).trans rfl, (blk_cell BK360.out 0).trans rfl, (blk_cell BK360.out 1).trans rfl, (blk_cell BK360.out 2).trans rfl, (blk_cell BK335.out 0).trans rfl, (blk_cell BK335.out 1).trans rfl, (blk_cell BK335.out 2).trans rfl, (blk_cell BK374.out 0).trans rfl, (blk_cell BK374.out 1).trans rfl, (blk_cell BK374.out 2).trans rfl, (blk_cell BK367.out 0).trans rfl, (blk_cell BK367.out 1).trans rfl, (blk_cell BK367.out 2).trans rfl, (blk_cell BK353.out 0).trans rfl, (blk_cell BK353.out 1).trans rfl, (blk_cell BK353.out 2).trans rfl, (blk_cell BK336.out 0).trans rfl, (blk_cell BK336.out 1).trans rfl, (blk_cell BK336.out 2).trans rfl⟩ (fun hHeld => ?_)
                            clear hK K
                            refine norm_ (a' := ?_) ?_ ?_
                            rotate_left
                            · show Act.put _ (some 120) _ = _
                              simp only [Act.put, List.setIfInBounds_toArray, List.set_cons_zero, List.set_cons_succ, i64_w, i32_w]
                              rfl
                            refine pure_ (i := 39) (N := some 121) (v := ?_) (a' := ?_) #[true, true, true, true, true, true, true, true, true, true, true, true, true, true, true, true, true, true, true, true, true, true, true, true, true, true, true, true, true, true, true, true, true, true, true, true, true, true, true, true, false] rfl rfl (any_of HT_.out (by kernel_rfl)) (fun _ _ _ h => h) (Or.inl ⟨by rfl, ?_⟩) ?_ ?_
                            rotate_left
                            · intro w'
                              go_simp
                              with_reducible rfl
                            rotate_left
                            · simp only [Act.put, List.setIfInBounds_toArray, List.set_cons_zero, List.set_cons_succ, i64_w, i32_w]
                              rfl
                            refine pure_ (i := 40) (N := some 2) (v := ?_) (a' := ?_) #[true, true, true, true, true, true, true, true, true, true, true, true, true, true, true, true, true, true, true, true, true, true, true, true, true, true, true, true, true, true, true, true, true, true, true, true, true, true, true, true, true] rfl rfl (any_of HT_.out (by kernel_rfl)) (fun _ _ _ h => h) (Or.inl ⟨by rfl, ?_⟩) ?_ ?_
                            rotate_left
                            · intro w'
                              go_simp
                              with_reducible rfl
                            rotate_left
                            · simp only [Act.put, List.setIfInBounds_toArray, List.set_cons_zero, List.set_cons_succ, i64_w, i32_w]
                              rfl
                            refine done_ (done_of HT_.out (by kernel_rfl)) ?_
                            try go_wp2
                            go_ret
                            exact ⟨by first | rfl | (simp [errW_none, errW_some] <;> rfl) | (simp [*, errW_none, errW_some] <;> rfl), by repeat (first | (with_reducible first | exact HB.out | apply below_alloc | apply pw_below_drewN | apply below_drew1 | refine below_set ?_ GE334.out | refine below_set ?_ GE335.out | refine below_set ?_ GE336.out | refine below_set ?_ GE346.out | refine below_set ?_ GE353.out | refine below_set ?_ GE360.out | refine below_set ?_ GE367.out | refine below_set ?_ GE374.out) | exact HB.out)⟩
                          · rw [if_neg c71] at H
                            have c71b0 : (t378 == t379) = false := beq_eq_false_iff_ne.mpr c71
                            have c71b1 : (t378 != t379) = true := bne_iff_ne.mpr c71
                            exact absurd H (by simp)
                        · replace c68 := Bool.eq_false_iff.mpr c68
                          subst c68
                          have H1 : (none) = some r := by rw [if_neg (show ¬ (false = true) by decide)] at H; exact H
                          clear H
                          have H := H1
                          clear H1
                          exact absurd H (by simp)
                      · rw [if_neg c66] at H
                        have c66b0 : (t366 == t373) = false := beq_eq_false_iff_ne.mpr c66
                        have c66b1 : (t366 != t373) = true := bne_iff_ne.mpr c66
                        exact absurd H (by simp)
                    · replace c65 := Bool.eq_false_iff.mpr c65
                      subst c65
                      have H1 : (none) = some r := by rw [if_neg (show ¬ (false = true) by decide)] at H; exact H
                      clear H
                      have H := H1
                      clear H1
                      exact absurd H (by simp)
                  · rw [if_neg c63] at H
                    have c63b0 : (t359 == 0) = false := beq_eq_false_iff_ne.mpr c63
                    have c63b1 : (t359 != 0) = true := bne_iff_ne.mpr c63
                    exact absurd H (by simp)
                · replace c62 := Bool.eq_false_iff.mpr c62
                  subst c62
                  have H1 : (none) = some r := by rw [if_neg (show ¬ (false = true) by decide)] at H; exact H
                  clear H
                  have H := H1
                  clear H1
                  exact absurd H (by simp)
              · replace c60 := Bool.eq_false_iff.mpr c60
                subst c60
                have H1 : (none) = some r := by rw [if_neg (show ¬ (false = true) by decide)] at H; exact H
                clear H
                have H := H1
                clear H1
                exact absurd H (by simp)

end Go.Proofs.YtahkamggdbibiaaDoor.PZ
