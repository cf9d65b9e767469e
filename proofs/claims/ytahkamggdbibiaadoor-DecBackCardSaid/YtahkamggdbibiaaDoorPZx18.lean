-- made by wip/xprint.py (a program of this session over the kit's print.py). Not trusted: Lean checks it.
import Derived.Test.YtahkamggdbibiaaDoorPZx0
import Derived.Test.YtahkamggdbibiaaDoorPZx8
import Derived.Test.YtahkamggdbibiaaDoorPZx9
import Derived.Test.YtahkamggdbibiaaDoorPZx16
import Derived.Test.YtahkamggdbibiaaDoorDecRead
import Derived.Test.YtahkamggdbibiaaDoorDecText
import Derived.Test.YtahkamggdbibiaaDoorGl
namespace Go.Proofs.YtahkamggdbibiaaDoor.PZ
open Go.RowKit Go.Proofs.YtahkamggdbibiaaDoorW.PrintWords Go.Proofs.YtahkamggdbibiaaDoorW.PrintLast Go.Proofs.YtahkamggdbibiaaDoorW.PrintMore
attribute [local go_sem] max2_int min2_int max_two min_two max_three min_three max_four min_four   -- for this text's walks alone
set_option linter.unusedVariables false
set_option linter.unusedSimpArgs false

/-! ### exerguelaw05_DecBack: function 4 -/
def exerguelaw05_DecBack.j0 : Nat → Bool → Bool → Bool → List Int → Int → Option (Bool)
  | 0, _, _, _, _, _ => none
  | k + 1, x5, x59, x248000, x248001, x248002 => if x59 = true then (none) else ((exergueref05_Right.f k x248000 x248001 x248002).bind fun t259 => (if t259 = true then ((dec_Text.f x248000 x248001 x248002).bind fun t260 => ((dec_Read.f t260).bind fun bt261 => (if x5 = true then (if bt261.2.2.2.2 = 0 then ((exergueref05_Same.f k x248000 x248001 x248002 bt261.1 bt261.2.1 bt261.2.2.1).bind fun t269 => (some t269)) else (none)) else (none)))) else (some x5)))
def exerguelaw05_DecBack.f (k : Nat) (a0_0 : Bool) (l0_1 : List Int) (a0_2 : Int) (a1 : ByteArray) : Option (Bool) := (exerguelaw05_shown.f k).bind fun t248 => (if (a1.size : Int) > 2000 then (some t248) else ((dec_Read.f a1).bind fun bt249 => (if bt249.2.2.2.2 = 0 then ((exergueref05_Right.f k bt249.1 bt249.2.1 bt249.2.2.1).bind fun t257 => (if t257 = true then ((dec_Text.f bt249.1 bt249.2.1 bt249.2.2.1).bind fun t258 => (if t258.toList = a1.toList then (if bt249.2.2.2.1 = 0 then (exerguelaw05_DecBack.j0 k t248 false a0_0 l0_1 a0_2) else (exerguelaw05_DecBack.j0 k t248 true a0_0 l0_1 a0_2)) else (exerguelaw05_DecBack.j0 k t248 true a0_0 l0_1 a0_2))) else (exerguelaw05_DecBack.j0 k t248 true a0_0 l0_1 a0_2))) else (if bt249.2.2.2.1 < 0 then (exerguelaw05_DecBack.j0 k t248 true a0_0 l0_1 a0_2) else (if bt249.2.2.2.1 > (a1.size : Int) then (exerguelaw05_DecBack.j0 k t248 true a0_0 l0_1 a0_2) else (exerguelaw05_DecBack.j0 k t248 (decide ((bt249.2.1.length : Int) > 0)) a0_0 l0_1 a0_2))))))
theorem exerguelaw05_DecBack.mono_l : ∀ k, (∀ y0 y1 y2 y3 y4, LeO (exerguelaw05_DecBack.j0 k y0 y1 y2 y3 y4) (exerguelaw05_DecBack.j0 (k + 1) y0 y1 y2 y3 y4))
  | 0 => fun _ _ _ _ _ r h => by simp [exerguelaw05_DecBack.j0] at h
  | k + 1 => by
    have ih0 := exerguelaw05_DecBack.mono_l k
    · intro y0 y1 y2 y3 y4
      unfold exerguelaw05_DecBack.j0
      repeat' first
      | (with_reducible exact ih0 _ _ _ _ _)
      | (with_reducible exact exerguelaw05_shown.mono _)
      | (with_reducible exact exergueref05_Right.mono _ _ _ _)
      | (with_reducible exact exergueref05_Same.mono _ _ _ _ _ _ _)
      | (with_reducible exact LeO.refl _)
      | (with_reducible exact LeO.none _)
      | (with_reducible refine LeO.ite ?_ ?_)
      | (with_reducible refine LeO.bind ?_ (fun _ => ?_))
      | exact ih0 _ _ _ _ _
      | exact exerguelaw05_shown.mono _
      | exact exergueref05_Right.mono _ _ _ _
      | exact exergueref05_Same.mono _ _ _ _ _ _ _
      | exact LeO.none _
      | refine LeO.ite ?_ ?_
      | refine LeO.bind ?_ (fun _ => ?_)
theorem exerguelaw05_DecBack.mono : ∀ a0 a1 a2 a3 k, LeO (exerguelaw05_DecBack.f k a0 a1 a2 a3) (exerguelaw05_DecBack.f (k + 1) a0 a1 a2 a3) := by
  intro a0 a1 a2 a3 k
  have ih0 := exerguelaw05_DecBack.mono_l k
  unfold exerguelaw05_DecBack.f
  repeat' first
      | (with_reducible exact ih0 _ _ _ _ _)
      | (with_reducible exact exerguelaw05_shown.mono _)
      | (with_reducible exact exergueref05_Right.mono _ _ _ _)
      | (with_reducible exact exergueref05_Same.mono _ _ _ _ _ _ _)
      | (with_reducible exact LeO.refl _)
      | (with_reducible exact LeO.none _)
      | (with_reducible refine LeO.ite ?_ ?_)
      | (with_reducible refine LeO.bind ?_ (fun _ => ?_))
      | exact ih0 _ _ _ _ _
      | exact exerguelaw05_shown.mono _
      | exact exergueref05_Right.mono _ _ _ _
      | exact exergueref05_Same.mono _ _ _ _ _ _ _
      | exact LeO.none _
      | refine LeO.ite ?_ ?_
      | refine LeO.bind ?_ (fun _ => ?_)
set_option maxHeartbeats 8000000 in
set_option maxRecDepth 100000 in
theorem exerguelaw05_DecBack.calls (k : Nat) (a0_0 : Bool) (A0_1 : Option Addr) (c0_1 : Nat) (l0_1 : List Int) (a0_2 : Int) (a1 : ByteArray) (r : Bool) (w : World) (hG : GL w) (hr0_1 : Kd.C (Kd.int .u8) w A0_1 l0_1.length l0_1) (hc0_1 : l0_1.length ≤ c0_1) (h : exerguelaw05_DecBack.f k a0_0 l0_1 a0_2 a1 = some r) :
    Calls Tryd.prog 4 #[.agg #[.bool a0_0, .slice A0_1 l0_1.length c0_1, .int .i64 a0_2], .string a1] w fun e w' => e = .returned (.bool r) ∧ Below w.heap.size w w' := by
  have hu24 := Tryd.underlying24
  have HR0_1 := Aside0.mk hr0_1
  have HC0_1 := Aside0.mk hc0_1
  clear hr0_1 hc0_1
  have HB := Aside0.mk (Below.refl w.heap.size w)
  have HG := Aside0.mk hG
  clear hG
  have H : ((exerguelaw05_shown.f k).bind fun t248 => (if (a1.size : Int) > 2000 then (some t248) else ((dec_Read.f a1).bind fun bt249 => (if bt249.2.2.2.2 = 0 then ((exergueref05_Right.f k bt249.1 bt249.2.1 bt249.2.2.1).bind fun t257 => (if t257 = true then ((dec_Text.f bt249.1 bt249.2.1 bt249.2.2.1).bind fun t258 => (if t258.toList = a1.toList then (if bt249.2.2.2.1 = 0 then (exerguelaw05_DecBack.j0 k t248 false a0_0 l0_1 a0_2) else (exerguelaw05_DecBack.j0 k t248 true a0_0 l0_1 a0_2)) else (exerguelaw05_DecBack.j0 k t248 true a0_0 l0_1 a0_2))) else (exerguelaw05_DecBack.j0 k t248 true a0_0 l0_1 a0_2))) else (if bt249.2.2.2.1 < 0 then (exerguelaw05_DecBack.j0 k t248 true a0_0 l0_1 a0_2) else (if bt249.2.2.2.1 > (a1.size : Int) then (exerguelaw05_DecBack.j0 k t248 true a0_0 l0_1 a0_2) else (exerguelaw05_DecBack.j0 k t248 (decide ((bt249.2.1.length : Int) > 0)) a0_0 l0_1 a0_2))))))) = some r := h
  clear h
  replace H := Option.bind_eq_some_iff.mp H
  obtain ⟨t248, A30, H⟩ := H
  replace H : (if (a1.size : Int) > 2000 then (some t248) else ((dec_Read.f a1).bind fun bt249 => (if bt249.2.2.2.2 = 0 then ((exergueref05_Right.f k bt249.1 bt249.2.1 bt249.2.2.1).bind fun t257 => (if t257 = true then ((dec_Text.f bt249.1 bt249.2.1 bt249.2.2.1).bind fun t258 => (if t258.toList = a1.toList then (if bt249.2.2.2.1 = 0 then (exerguelaw05_DecBack.j0 k t248 false a0_0 l0_1 a0_2) else (exerguelaw05_DecBack.j0 k t248 true a0_0 l0_1 a0_2)) else (exerguelaw05_DecBack.j0 k t248 true a0_0 l0_1 a0_2))) else (exerguelaw05_DecBack.j0 k t248 true a0_0 l0_1 a0_2))) else (if bt249.2.2.2.1 < 0 then (exerguelaw05_DecBack.j0 k t248 true a0_0 l0_1 a0_2) else (if bt249.2.2.2.1 > (a1.size : Int) then (exerguelaw05_DecBack.j0 k t248 true a0_0 l0_1 a0_2) else (exerguelaw05_DecBack.j0 k t248 (decide ((bt249.2.1.length : Int) > 0)) a0_0 l0_1 a0_2)))))) = some r := H
  have A3 := Aside0.mk A30
  clear A30
  by_cases c4 : (a1.size : Int) > 2000
  · rw [if_pos c4] at H
    have c4b0 : decide (2000 < (a1.size : Int)) = true := decide_eq_true c4
    have c4b1 : decide (2000 < a1.size) = true := decide_eq_true (by omega)
    clear c4
    obtain rfl := Option.some.inj H
    go_enter Tryd.func4, Tryd.ntmps4
    go_wp2_with (first | ((with_reducible refine gate_dst (N := 2) rfl ?_); (try (refine gate_guard (by rfl) ?_; dsimp only)); refine box_event ?hg (N := 2) ?hd (cs := #[.bool a0_0, .slice A0_1 l0_1.length c0_1, .int .i64 a0_2]) (t := 24) ?hr ?_; (case hd => rfl); (case hg => rfl); (case hr => first | (go_simp; done) | (go_simp; rfl)); intro gb247 hg w5 hbox hb; have n0_ := Aside0.mk (below_step (by repeat (first | (with_reducible first | exact HB.out | apply below_alloc | apply pw_below_drewN | apply below_drew1) | exact HB.out)) hb); have n1_ := Aside0.mk (hbox); have n2_ := Aside0.mk ((by rw [hg]; exact (below_size (by repeat (first | (with_reducible first | exact HB.out | apply below_alloc | apply pw_below_drewN | apply below_drew1) | exact HB.out))) : w.heap.size ≤ gb247)); have n3_ := Aside0.mk ((by rw [hg]; exact (below_size (by repeat (first | (with_reducible first | exact HB.out | apply below_alloc | apply pw_below_drewN | apply below_drew1) | exact HB.out))) : w.heap.size ≤ gb247)); clear HB; have HB := n0_; have BK247 := n1_; have GW247 := n2_; have GE247 := n3_; clear n0_ n1_ n2_ n3_; clear hb hbox hg) | ((with_reducible refine gate_callee (f := 10) rfl ?_); refine goesL_ (some 12) rfl rfl Tryd.func10 (by kernel_rfl) rfl #[] rfl (by (try simp only [List.map_toArray, List.map_cons, List.map_nil]); first | done | rfl | (simp only [List.length_drop, List.length_take]; rfl)) ?_; (with_reducible refine (exerguelaw05_shown.calls k  t248 _ ?side1 A3.out).mono ?_); (case side1 => refine GL.below HG.out ?_; repeat (first | (with_reducible first | exact HB.out | apply below_alloc | apply pw_below_drewN | apply below_drew1 | refine below_set ?_ GE247.out) | exact HB.out)); rintro e w6 ⟨rfl, hb⟩; refine ⟨_, rfl, ?_⟩; have n0_ := Aside0.mk (blk_below (g := gb247) (o := .cells #[.bool a0_0, .slice A0_1 l0_1.length c0_1, .int .i64 a0_2] 24 (0, 0)) (by (with_reducible repeat (first | refine blk_drewN ?_ _ | refine blk_drew ?_ | refine blk_alloc ?_ _)); exact BK247.out) hb); have n1_ := Aside0.mk (below_step (by repeat (first | (with_reducible first | exact HB.out | apply below_alloc | apply pw_below_drewN | apply below_drew1 | refine below_set ?_ GE247.out) | exact HB.out)) hb); clear BK247; clear HB; have BK247 := n0_; have HB := n1_; clear n0_ n1_; (try clear hb); (try clear hb2); (try clear hk); (try clear hi)))
    go_ret
    exact ⟨by first | rfl | (simp [errW_none, errW_some] <;> rfl) | (simp [*, errW_none, errW_some] <;> rfl), by repeat (first | (with_reducible first | exact HB.out | apply below_alloc | apply pw_below_drewN | apply below_drew1 | refine below_set ?_ GE247.out) | exact HB.out)⟩
  · rw [if_neg c4] at H
    have c4b0 : decide (2000 < (a1.size : Int)) = false := decide_eq_false c4
    have c4b1 : decide (2000 < a1.size) = false := decide_eq_false (by omega)
    clear c4
    replace H := Option.bind_eq_some_iff.mp H
    obtain ⟨⟨t249, t250, t253, t254, t255⟩, A70, H⟩ := H
    replace H : (if t255 = 0 then ((exergueref05_Right.f k t249 t250 t253).bind fun t257 => (if t257 = true then ((dec_Text.f t249 t250 t253).bind fun t258 => (if t258.toList = a1.toList then (if t254 = 0 then (exerguelaw05_DecBack.j0 k t248 false a0_0 l0_1 a0_2) else (exerguelaw05_DecBack.j0 k t248 true a0_0 l0_1 a0_2)) else (exerguelaw05_DecBack.j0 k t248 true a0_0 l0_1 a0_2))) else (exerguelaw05_DecBack.j0 k t248 true a0_0 l0_1 a0_2))) else (if t254 < 0 then (exerguelaw05_DecBack.j0 k t248 true a0_0 l0_1 a0_2) else (if t254 > (a1.size : Int) then (exerguelaw05_DecBack.j0 k t248 true a0_0 l0_1 a0_2) else (exerguelaw05_DecBack.j0 k t248 (decide ((t250.length : Int) > 0)) a0_0 l0_1 a0_2)))) = some r := H
    have A7 := Aside0.mk A70
    clear A70
    have HC8 := Aside0.mk H
    clear H
    go_enter Tryd.func4, Tryd.ntmps4
    go_upto_region 5 with (first | ((with_reducible refine gate_dst (N := 2) rfl ?_); (try (refine gate_guard (by rfl) ?_; dsimp only)); refine box_event ?hg (N := 2) ?hd (cs := #[.bool a0_0, .slice A0_1 l0_1.length c0_1, .int .i64 a0_2]) (t := 24) ?hr ?_; (case hd => rfl); (case hg => rfl); (case hr => first | (go_simp; done) | (go_simp; rfl)); intro gb247 hg w9 hbox hb; have n0_ := Aside0.mk (below_step (by repeat (first | (with_reducible first | exact HB.out | apply below_alloc | apply pw_below_drewN | apply below_drew1) | exact HB.out)) hb); have n1_ := Aside0.mk (hbox); have n2_ := Aside0.mk ((by rw [hg]; exact (below_size (by repeat (first | (with_reducible first | exact HB.out | apply below_alloc | apply pw_below_drewN | apply below_drew1) | exact HB.out))) : w.heap.size ≤ gb247)); have n3_ := Aside0.mk ((by rw [hg]; exact (below_size (by repeat (first | (with_reducible first | exact HB.out | apply below_alloc | apply pw_below_drewN | apply below_drew1) | exact HB.out))) : w.heap.size ≤ gb247)); clear HB; have HB := n0_; have BK247 := n1_; have GW247 := n2_; have GE247 := n3_; clear n0_ n1_ n2_ n3_; clear hb hbox hg) | ((with_reducible refine gate_callee (f := 10) rfl ?_); refine goesL_ (some 12) rfl rfl Tryd.func10 (by kernel_rfl) rfl #[] rfl (by (try simp only [List.map_toArray, List.map_cons, List.map_nil]); first | done | rfl | (simp only [List.length_drop, List.length_take]; rfl)) ?_; (with_reducible refine (exerguelaw05_shown.calls k  t248 _ ?side1 A3.out).mono ?_); (case side1 => refine GL.below HG.out ?_; repeat (first | (with_reducible first | exact HB.out | apply below_alloc | apply pw_below_drewN | apply below_drew1 | refine below_set ?_ GE247.out) | exact HB.out)); rintro e w10 ⟨rfl, hb⟩; refine ⟨_, rfl, ?_⟩; have n0_ := Aside0.mk (blk_below (g := gb247) (o := .cells #[.bool a0_0, .slice A0_1 l0_1.length c0_1, .int .i64 a0_2] 24 (0, 0)) (by (with_reducible repeat (first | refine blk_drewN ?_ _ | refine blk_drew ?_ | refine blk_alloc ?_ _)); exact BK247.out) hb); have n1_ := Aside0.mk (below_step (by repeat (first | (with_reducible first | exact HB.out | apply below_alloc | apply pw_below_drewN | apply below_drew1 | refine below_set ?_ GE247.out) | exact HB.out)) hb); clear BK247; clear HB; have BK247 := n0_; have HB := n1_; clear n0_ n1_; (try clear hb); (try clear hb2); (try clear hk); (try clear hi)) | ((with_reducible refine gate_callee (f := 11) rfl ?_); refine goesL_ (some 19) rfl rfl Tryd.func11 (by kernel_rfl) rfl #[.string a1] rfl (by (try simp only [List.map_toArray, List.map_cons, List.map_nil]); first | done | rfl | (simp only [List.length_drop, List.length_take]; rfl)) ?_; (with_reducible refine (dec_Read.calls a1 t249 t250 t253 t254 t255 _ A7.out).mono ?_); rintro e w11 ⟨v251, rfl, ho0, hb⟩; refine ⟨_, rfl, ?_⟩; have n0_ := Aside0.mk (Kd.R_lower ho0 (below_size (by repeat (first | (with_reducible first | exact HB.out | apply below_alloc | apply pw_below_drewN | apply below_drew1 | refine below_set ?_ GE247.out) | exact HB.out)))); have n1_ := Aside0.mk (blk_below (g := gb247) (o := .cells #[.bool a0_0, .slice A0_1 l0_1.length c0_1, .int .i64 a0_2] 24 (0, 0)) (by (with_reducible repeat (first | refine blk_drewN ?_ _ | refine blk_drew ?_ | refine blk_alloc ?_ _)); exact BK247.out) hb); have n2_ := Aside0.mk (below_step (by repeat (first | (with_reducible first | exact HB.out | apply below_alloc | apply pw_below_drewN | apply below_drew1 | refine below_set ?_ GE247.out) | exact HB.out)) hb); clear BK247; clear HB; have HO252 := n0_; have BK247 := n1_; have HB := n2_; clear n0_ n1_ n2_; (try clear hb); (try clear hb2); (try clear hk); (try clear hi); (try clear ho0)) | ((with_reducible refine gate_dst (N := 6) rfl ?_); (try (refine gate_guard (by rfl) ?_; dsimp only)); refine box_event ?hg (N := 6) ?hd (cs := #[.bool false, .slice none 0 0, .int .i64 0]) (t := 24) ?hr ?_; (case hd => rfl); (case hg => rfl); (case hr => first | (go_simp; done) | (go_simp; rfl)); intro gb256 hg w12 hbox hb; have n0_ := Aside0.mk (Kd.R_below (by (with_reducible repeat (first | apply Kd.R_alloc | apply Kd.R_drewN | apply Kd.R_drew)); exact HO252.out) hb); have n1_ := Aside0.mk (blk_below (g := gb247) (o := .cells #[.bool a0_0, .slice A0_1 l0_1.length c0_1, .int .i64 a0_2] 24 (0, 0)) (by (with_reducible repeat (first | refine blk_drewN ?_ _ | refine blk_drew ?_ | refine blk_alloc ?_ _)); exact BK247.out) hb); have n2_ := Aside0.mk (below_step (by repeat (first | (with_reducible first | exact HB.out | apply below_alloc | apply pw_below_drewN | apply below_drew1 | refine below_set ?_ GE247.out) | exact HB.out)) hb); have n3_ := Aside0.mk (hbox); have n4_ := Aside0.mk ((by rw [hg]; exact (below_size (by repeat (first | (with_reducible first | exact HB.out | apply below_alloc | apply pw_below_drewN | apply below_drew1 | refine below_set ?_ GE247.out) | exact HB.out))) : w.heap.size ≤ gb256)); have n5_ := Aside0.mk ((by rw [hg]; exact (below_size (by repeat (first | (with_reducible first | exact HB.out | apply below_alloc | apply pw_below_drewN | apply below_drew1 | refine below_set ?_ GE247.out) | exact HB.out))) : w.heap.size ≤ gb256)); have n6_ := Aside0.mk ((by rw [hg]; exact Nat.ne_of_lt (blk_lt (g := gb247) (o := .cells #[.bool a0_0, .slice A0_1 l0_1.length c0_1, .int .i64 a0_2] 24 (0, 0)) (by (with_reducible repeat (first | refine blk_drewN ?_ _ | refine blk_drew ?_ | refine blk_alloc ?_ _)); exact BK247.out)) : gb247 ≠ gb256)); have n7_ := Aside0.mk ((by rw [hg]; exact Nat.ne_of_gt (blk_lt (g := gb247) (o := .cells #[.bool a0_0, .slice A0_1 l0_1.length c0_1, .int .i64 a0_2] 24 (0, 0)) (by (with_reducible repeat (first | refine blk_drewN ?_ _ | refine blk_drew ?_ | refine blk_alloc ?_ _)); exact BK247.out)) : gb256 ≠ gb247)); clear HO252; clear BK247; clear HB; have HO252 := n0_; have BK247 := n1_; have HB := n2_; have BK256 := n3_; have GW256 := n4_; have GE256 := n5_; have NB247_256 := n6_; have NB256_247 := n7_; clear n0_ n1_ n2_ n3_ n4_ n5_ n6_ n7_; clear hb hbox hg; have hnb13 := NB256_247.out; have hnc13 := NB247_256.out; have hcz14_0 : w12.cell? ⟨gb256, 0, none⟩ = some (.bool false) := (blk_cell BK256.out 0).trans rfl; have hcz14_1 : w12.cell? ⟨gb256, 1, none⟩ = some (.slice none 0 0) := (blk_cell BK256.out 1).trans rfl; have hcz14_2 : w12.cell? ⟨gb256, 2, none⟩ = some (.int .i64 0) := (blk_cell BK256.out 2).trans rfl; have hfz14_0 := blk_frozen BK256.out 0; have hfz14_1 := blk_frozen BK256.out 1; have hfz14_2 := blk_frozen BK256.out 2; obtain ⟨Ao15, co15, eo15⟩ := Kd.R_slice HO252.out; subst eo15))
    (try simp only [Act.put, List.setIfInBounds_toArray, List.set_cons_zero, List.set_cons_succ])
    go_cut [59] (fun v59 wc => ∃ (kq : Nat) (x59_7 : Bool), v59 = .bool x59_7 ∧ Aside0 (exerguelaw05_DecBack.j0 kq t248 x59_7 a0_0 l0_1 a0_2 = some r) ∧ Aside0 (kq ≤ k) ∧ Aside0 (Kd.R (Kd.int .u8) 5 wc w.heap.size (fun _ => True) (.slice Ao15 t250.length co15) t250) ∧ Aside0 (wc.heap[gb247]? = some (.cells #[.bool a0_0, (.slice A0_1 l0_1.length c0_1), .int .i64 a0_2] 24 (0, 0))) ∧ Aside0 (wc.heap[gb256]? = some (.cells #[.bool t249, (.slice Ao15 t250.length co15), .int .i64 t253] 24 (0, 0))) ∧ Aside0 (Below w.heap.size w wc))
    case first =>
      have H := HC8.out
      clear HC8
      by_cases c16 : t255 = 0
      · rw [if_pos c16] at H
        have c16b0 : (t255 == 0) = true := beq_iff_eq.mpr c16
        have c16b1 : (t255 != 0) = false := bne_eq_false_iff_eq.mpr c16
        clear c16
        (first | rw [c16b0] | (simp only [i64_w, i32_w]; rw [c16b0]) | skip)
        replace H := Option.bind_eq_some_iff.mp H
        obtain ⟨t257, A170, H⟩ := H
        replace H : (if t257 = true then ((dec_Text.f t249 t250 t253).bind fun t258 => (if t258.toList = a1.toList then (if t254 = 0 then (exerguelaw05_DecBack.j0 k t248 false a0_0 l0_1 a0_2) else (exerguelaw05_DecBack.j0 k t248 true a0_0 l0_1 a0_2)) else (exerguelaw05_DecBack.j0 k t248 true a0_0 l0_1 a0_2))) else (exerguelaw05_DecBack.j0 k t248 true a0_0 l0_1 a0_2)) = some r := H
        have A17 := Aside0.mk A170
        clear A170
        by_cases c18 : t257 = true
        · subst c18
          have H1 : ((dec_Text.f t249 t250 t253).bind fun t258 => (if t258.toList = a1.toList then (if t254 = 0 then (exerguelaw05_DecBack.j0 k t248 false a0_0 l0_1 a0_2) else (exerguelaw05_DecBack.j0 k t248 true a0_0 l0_1 a0_2)) else (exerguelaw05_DecBack.j0 k t248 true a0_0 l0_1 a0_2))) = some r := by rw [if_pos rfl] at H; exact H
          clear H
          have H := H1
          clear H1
          replace H := Option.bind_eq_some_iff.mp H
          obtain ⟨t258, A190, H⟩ := H
          replace H : (if t258.toList = a1.toList then (if t254 = 0 then (exerguelaw05_DecBack.j0 k t248 false a0_0 l0_1 a0_2) else (exerguelaw05_DecBack.j0 k t248 true a0_0 l0_1 a0_2)) else (exerguelaw05_DecBack.j0 k t248 true a0_0 l0_1 a0_2)) = some r := H
          have A19 := Aside0.mk A190
          clear A190
          by_cases c20 : t258.toList = a1.toList
          · rw [if_pos c20] at H
            have c20b0 : (t258.toList == a1.toList) = true := beq_iff_eq.mpr c20
            have c20b1 : (t258.toList != a1.toList) = false := bne_eq_false_iff_eq.mpr c20
            clear c20
            by_cases c21 : t254 = 0
            · rw [if_pos c21] at H
              have c21b0 : (t254 == 0) = true := beq_iff_eq.mpr c21
              have c21b1 : (t254 != 0) = false := bne_eq_false_iff_eq.mpr c21
              clear c21
              have H' := Aside0.mk H
              clear H
              have hnb22 := NB256_247.out
              have hnc22 := NB247_256.out
              have hcz23_0 : w12.cell? ⟨gb256, 0, none⟩ = some (.bool false) := (blk_cell BK256.out 0).trans rfl
              have hcz23_1 : w12.cell? ⟨gb256, 1, none⟩ = some (.slice none 0 0) := (blk_cell BK256.out 1).trans rfl
              have hcz23_2 : w12.cell? ⟨gb256, 2, none⟩ = some (.int .i64 0) := (blk_cell BK256.out 2).trans rfl
              have hfz23_0 := blk_frozen BK256.out 0
              have hfz23_1 := blk_frozen BK256.out 1
              have hfz23_2 := blk_frozen BK256.out 2
              go_wp2_with (first | (go_at_call 14; (with_reducible refine (exergueref05_Right.calls k t249 _ _ t250 t253 true _ ?side1 ?side2 A17.out).mono ?_); (case side1 => refine (Kd.R_reads' (e := 5) (base := w.heap.size) (ok := fun k_ => True) (n := t250.length) (c := co15) ?_).2.2; exact (by (with_reducible repeat (first | apply Kd.R_alloc | apply Kd.R_drewN | apply Kd.R_drew)); exact (Kd.R_mono (Kd.R_far (p := ⟨gb256, 2, none⟩) (Kd.R_far (p := ⟨gb256, 1, none⟩) (Kd.R_far (p := ⟨gb256, 0, none⟩) (Kd.R_types HO252.out BK256.out (by decide)) (fun _ hk => hk.2) (.bool t249)) (fun _ hk => hk.2) (.slice Ao15 t250.length co15)) (fun _ hk => hk.2) (.int .i64 t253)) (fun _ h_ => h_.1)))); (case side2 => exact (Kd.R_reads' HO252.out).2.1); rintro e w24 ⟨rfl, hb⟩; have n0_ := Aside0.mk (Kd.R_below (by (with_reducible repeat (first | apply Kd.R_alloc | apply Kd.R_drewN | apply Kd.R_drew)); exact (Kd.R_mono (Kd.R_far (p := ⟨gb256, 2, none⟩) (Kd.R_far (p := ⟨gb256, 1, none⟩) (Kd.R_far (p := ⟨gb256, 0, none⟩) (Kd.R_types HO252.out BK256.out (by decide)) (fun _ hk => hk.2) (.bool t249)) (fun _ hk => hk.2) (.slice Ao15 t250.length co15)) (fun _ hk => hk.2) (.int .i64 t253)) (fun _ h_ => h_.1))) hb); have n1_ := Aside0.mk (blk_below (g := gb247) (o := .cells #[.bool a0_0, .slice A0_1 l0_1.length c0_1, .int .i64 a0_2] 24 (0, 0)) (by (with_reducible repeat (first | refine blk_drewN ?_ _ | refine blk_drew ?_ | refine blk_alloc ?_ _)); refine blk_far ?_ NB247_256.out _; (with_reducible repeat (first | refine blk_drewN ?_ _ | refine blk_drew ?_ | refine blk_alloc ?_ _)); refine blk_far ?_ NB247_256.out _; (with_reducible repeat (first | refine blk_drewN ?_ _ | refine blk_drew ?_ | refine blk_alloc ?_ _)); refine blk_far ?_ NB247_256.out _; (with_reducible repeat (first | refine blk_drewN ?_ _ | refine blk_drew ?_ | refine blk_alloc ?_ _)); exact BK247.out) hb); have n2_ := Aside0.mk (blk_below (g := gb256) (o := .cells #[.bool t249, .slice Ao15 t250.length co15, .int .i64 t253] 24 (0, 0)) (by (with_reducible repeat (first | refine blk_drewN ?_ _ | refine blk_drew ?_ | refine blk_alloc ?_ _)); refine blk_put (cs := #[.bool t249, .slice Ao15 t250.length co15, .int .i64 0]) ?_ 2 _ rfl; (with_reducible repeat (first | refine blk_drewN ?_ _ | refine blk_drew ?_ | refine blk_alloc ?_ _)); refine blk_put (cs := #[.bool t249, .slice none 0 0, .int .i64 0]) ?_ 1 _ rfl; (with_reducible repeat (first | refine blk_drewN ?_ _ | refine blk_drew ?_ | refine blk_alloc ?_ _)); refine blk_put (cs := #[.bool false, .slice none 0 0, .int .i64 0]) ?_ 0 _ rfl; (with_reducible repeat (first | refine blk_drewN ?_ _ | refine blk_drew ?_ | refine blk_alloc ?_ _)); exact BK256.out) hb); have n3_ := Aside0.mk (below_step (by repeat (first | (with_reducible first | exact HB.out | apply below_alloc | apply pw_below_drewN | apply below_drew1 | refine below_set ?_ GE247.out | refine below_set ?_ GE256.out) | exact HB.out)) hb); clear HO252; clear BK247; clear BK256; clear HB; have HO252 := n0_; have BK247 := n1_; have BK256 := n2_; have HB := n3_; clear n0_ n1_ n2_ n3_; (try clear hb); (try clear hb2); (try clear hk); (try clear hi); have hcz25_0 : w24.cell? ⟨gb256, 0, none⟩ = some (.bool t249) := (blk_cell BK256.out 0).trans rfl; have hcz25_1 : w24.cell? ⟨gb256, 1, none⟩ = some (.slice Ao15 t250.length co15) := (blk_cell BK256.out 1).trans rfl; have hcz25_2 : w24.cell? ⟨gb256, 2, none⟩ = some (.int .i64 t253) := (blk_cell BK256.out 2).trans rfl; have hfz25_0 := blk_frozen BK256.out 0; have hfz25_1 := blk_frozen BK256.out 1; have hfz25_2 := blk_frozen BK256.out 2) | (go_at_call 15; (with_reducible refine (dec_Text.calls t249 _ _ t250 t253 t258 _ ?side3 ?side1 ?side2 A19.out).mono ?_); (case side1 => repeat (first | exact (Kd.R_reads' HO252.out).2.2 | (with_reducible refine Kd.C_alloc ?_ _) | (with_reducible refine Kd.C_drewN ?_ _) | (with_reducible refine Kd.C_drew ?_))); (case side2 => exact (Kd.R_reads' HO252.out).2.1); (case side3 => refine GL.below HG.out ?_; repeat (first | (with_reducible first | exact HB.out | apply below_alloc | apply pw_below_drewN | apply below_drew1 | refine below_set ?_ GE247.out | refine below_set ?_ GE256.out) | exact HB.out)); rintro e w26 ⟨rfl, hb⟩; have n0_ := Aside0.mk (Kd.R_below (by (with_reducible repeat (first | apply Kd.R_alloc | apply Kd.R_drewN | apply Kd.R_drew)); exact HO252.out) hb); have n1_ := Aside0.mk (blk_below (g := gb247) (o := .cells #[.bool a0_0, .slice A0_1 l0_1.length c0_1, .int .i64 a0_2] 24 (0, 0)) (by (with_reducible repeat (first | refine blk_drewN ?_ _ | refine blk_drew ?_ | refine blk_alloc ?_ _)); exact BK247.out) hb); have n2_ := Aside0.mk (blk_below (g := gb256) (o := .cells #[.bool t249, .slice Ao15 t250.length co15, .int .i64 t253] 24 (0, 0)) (by (with_reducible repeat (first | refine blk_drewN ?_ _ | refine blk_drew ?_ | refine blk_alloc ?_ _)); exact BK256.out) hb); have n3_ := Aside0.mk (below_step (by repeat (first | (with_reducible first | exact HB.out | apply below_alloc | apply pw_below_drewN | apply below_drew1 | refine below_set ?_ GE247.out | refine below_set ?_ GE256.out) | exact HB.out)) hb); clear HO252; clear BK247; clear BK256; clear HB; have HO252 := n0_; have BK247 := n1_; have BK256 := n2_; have HB := n3_; clear n0_ n1_ n2_ n3_; (try clear hb); (try clear hb2); (try clear hk); (try clear hi)))
              go_meet
              case rel => exact ⟨_, (false), (by first | rfl | (simp; done) | (simp [*]; done)), H', ⟨by first | omega | exact Nat.le_refl _⟩, ⟨by (with_reducible repeat (first | apply Kd.R_alloc | apply Kd.R_drewN | apply Kd.R_drew)); exact HO252.out⟩, ⟨by (with_reducible repeat (first | refine blk_drewN ?_ _ | refine blk_drew ?_ | refine blk_alloc ?_ _)); exact BK247.out⟩, ⟨by (with_reducible repeat (first | refine blk_drewN ?_ _ | refine blk_drew ?_ | refine blk_alloc ?_ _)); exact BK256.out⟩, ⟨by repeat (first | (with_reducible first | exact HB.out | apply below_alloc | apply pw_below_drewN | apply below_drew1 | refine below_set ?_ GE247.out | refine below_set ?_ GE256.out) | exact HB.out)⟩⟩
            · rw [if_neg c21] at H
              have c21b0 : (t254 == 0) = false := beq_eq_false_iff_ne.mpr c21
              have c21b1 : (t254 != 0) = true := bne_iff_ne.mpr c21
              have H' := Aside0.mk H
              clear H
              have hnb27 := NB256_247.out
              have hnc27 := NB247_256.out
              have hcz28_0 : w12.cell? ⟨gb256, 0, none⟩ = some (.bool false) := (blk_cell BK256.out 0).trans rfl
              have hcz28_1 : w12.cell? ⟨gb256, 1, none⟩ = some (.slice none 0 0) := (blk_cell BK256.out 1).trans rfl
              have hcz28_2 : w12.cell? ⟨gb256, 2, none⟩ = some (.int .i64 0) := (blk_cell BK256.out 2).trans rfl
              have hfz28_0 := blk_frozen BK256.out 0
              have hfz28_1 := blk_frozen BK256.out 1
              have hfz28_2 := blk_frozen BK256.out 2
              go_wp2_with (first | (go_at_call 14; (with_reducible refine (exergueref05_Right.calls k t249 _ _ t250 t253 true _ ?side1 ?side2 A17.out).mono ?_); (case side1 => refine (Kd.R_reads' (e := 5) (base := w.heap.size) (ok := fun k_ => True) (n := t250.length) (c := co15) ?_).2.2; exact (by (with_reducible repeat (first | apply Kd.R_alloc | apply Kd.R_drewN | apply Kd.R_drew)); exact (Kd.R_mono (Kd.R_far (p := ⟨gb256, 2, none⟩) (Kd.R_far (p := ⟨gb256, 1, none⟩) (Kd.R_far (p := ⟨gb256, 0, none⟩) (Kd.R_types HO252.out BK256.out (by decide)) (fun _ hk => hk.2) (.bool t249)) (fun _ hk => hk.2) (.slice Ao15 t250.length co15)) (fun _ hk => hk.2) (.int .i64 t253)) (fun _ h_ => h_.1)))); (case side2 => exact (Kd.R_reads' HO252.out).2.1); rintro e w29 ⟨rfl, hb⟩; have n0_ := Aside0.mk (Kd.R_below (by (with_reducible repeat (first | apply Kd.R_alloc | apply Kd.R_drewN | apply Kd.R_drew)); exact (Kd.R_mono (Kd.R_far (p := ⟨gb256, 2, none⟩) (Kd.R_far (p := ⟨gb256, 1, none⟩) (Kd.R_far (p := ⟨gb256, 0, none⟩) (Kd.R_types HO252.out BK256.out (by decide)) (fun _ hk => hk.2) (.bool t249)) (fun _ hk => hk.2) (.slice Ao15 t250.length co15)) (fun _ hk => hk.2) (.int .i64 t253)) (fun _ h_ => h_.1))) hb); have n1_ := Aside0.mk (blk_below (g := gb247) (o := .cells #[.bool a0_0, .slice A0_1 l0_1.length c0_1, .int .i64 a0_2] 24 (0, 0)) (by (with_reducible repeat (first | refine blk_drewN ?_ _ | refine blk_drew ?_ | refine blk_alloc ?_ _)); refine blk_far ?_ NB247_256.out _; (with_reducible repeat (first | refine blk_drewN ?_ _ | refine blk_drew ?_ | refine blk_alloc ?_ _)); refine blk_far ?_ NB247_256.out _; (with_reducible repeat (first | refine blk_drewN ?_ _ | refine blk_drew ?_ | refine blk_alloc ?_ _)); refine blk_far ?_ NB247_256.out _; (with_reducible repeat (first | refine blk_drewN ?_ _ | refine blk_drew ?_ | refine blk_alloc ?_ _)); exact BK247.out) hb); have n2_ := Aside0.mk (blk_below (g := gb256) (o := .cells #[.bool t249, .slice Ao15 t250.length co15, .int .i64 t253] 24 (0, 0)) (by (with_reducible repeat (first | refine blk_drewN ?_ _ | refine blk_drew ?_ | refine blk_alloc ?_ _)); refine blk_put (cs := #[.bool t249, .slice Ao15 t250.length co15, .int .i64 0]) ?_ 2 _ rfl; (with_reducible repeat (first | refine blk_drewN ?_ _ | refine blk_drew ?_ | refine blk_alloc ?_ _)); refine blk_put (cs := #[.bool t249, .slice none 0 0, .int .i64 0]) ?_ 1 _ rfl; (with_reducible repeat (first | refine blk_drewN ?_ _ | refine blk_drew ?_ | refine blk_alloc ?_ _)); refine blk_put (cs := #[.bool false, .slice none 0 0, .int .i64 0]) ?_ 0 _ rfl; (with_reducible repeat (first | refine blk_drewN ?_ _ | refine blk_drew ?_ | refine blk_alloc ?_ _)); exact BK256.out) hb); have n3_ := Aside0.mk (below_step (by repeat (first | (with_reducible first | exact HB.out | apply below_alloc | apply pw_below_drewN | apply below_drew1 | refine below_set ?_ GE247.out | refine below_set ?_ GE256.out) | exact HB.out)) hb); clear HO252; clear BK247; clear BK256; clear HB; have HO252 := n0_; have BK247 := n1_; have BK256 := n2_; have HB := n3_; clear n0_ n1_ n2_ n3_; (try clear hb); (try clear hb2); (try clear hk); (try clear hi); have hcz30_0 : w29.cell? ⟨gb256, 0, none⟩ = some (.bool t249) := (blk_cell BK256.out 0).trans rfl; have hcz30_1 : w29.cell? ⟨gb256, 1, none⟩ = some (.slice Ao15 t250.length co15) := (blk_cell BK256.out 1).trans rfl; have hcz30_2 : w29.cell? ⟨gb256, 2, none⟩ = some (.int .i64 t253) := (blk_cell BK256.out 2).trans rfl; have hfz30_0 := blk_frozen BK256.out 0; have hfz30_1 := blk_frozen BK256.out 1; have hfz30_2 := blk_frozen BK256.out 2) | (go_at_call 15; (with_reducible refine (dec_Text.calls t249 _ _ t250 t253 t258 _ ?side3 ?side1 ?side2 A19.out).mono ?_); (case side1 => repeat (first | exact (Kd.R_reads' HO252.out).2.2 | (with_reducible refine Kd.C_alloc ?_ _) | (with_reducible refine Kd.C_drewN ?_ _) | (with_reducible refine Kd.C_drew ?_))); (case side2 => exact (Kd.R_reads' HO252.out).2.1); (case side3 => refine GL.below HG.out ?_; repeat (first | (with_reducible first | exact HB.out | apply below_alloc | apply pw_below_drewN | apply below_drew1 | refine below_set ?_ GE247.out | refine below_set ?_ GE256.out) | exact HB.out)); rintro e w31 ⟨rfl, hb⟩; have n0_ := Aside0.mk (Kd.R_below (by (with_reducible repeat (first | apply Kd.R_alloc | apply Kd.R_drewN | apply Kd.R_drew)); exact HO252.out) hb); have n1_ := Aside0.mk (blk_below (g := gb247) (o := .cells #[.bool a0_0, .slice A0_1 l0_1.length c0_1, .int .i64 a0_2] 24 (0, 0)) (by (with_reducible repeat (first | refine blk_drewN ?_ _ | refine blk_drew ?_ | refine blk_alloc ?_ _)); exact BK247.out) hb); have n2_ := Aside0.mk (blk_below (g := gb256) (o := .cells #[.bool t249, .slice Ao15 t250.length co15, .int .i64 t253] 24 (0, 0)) (by (with_reducible repeat (first | refine blk_drewN ?_ _ | refine blk_drew ?_ | refine blk_alloc ?_ _)); exact BK256.out) hb); have n3_ := Aside0.mk (below_step (by repeat (first | (with_reducible first | exact HB.out | apply below_alloc | apply pw_below_drewN | apply below_drew1 | refine below_set ?_ GE247.out | refine below_set ?_ GE256.out) | exact HB.out)) hb); clear HO252; clear BK247; clear BK256; clear HB; have HO252 := n0_; have BK247 := n1_; have BK256 := n2_; have HB := n3_; clear n0_ n1_ n2_ n3_; (try clear hb); (try clear hb2); (try clear hk); (try clear hi)))
              go_meet
              case rel => exact ⟨_, (true), (by first | rfl | (simp; done) | (simp [*]; done)), H', ⟨by first | omega | exact Nat.le_refl _⟩, ⟨by (with_reducible repeat (first | apply Kd.R_alloc | apply Kd.R_drewN | apply Kd.R_drew)); exact HO252.out⟩, ⟨by (with_reducible repeat (first | refine blk_drewN ?_ _ | refine blk_drew ?_ | refine blk_alloc ?_ _)); exact BK247.out⟩, ⟨by (with_reducible repeat (first | refine blk_drewN ?_ _ | refine blk_drew ?_ | refine blk_alloc ?_ _)); exact BK256.out⟩, ⟨by repeat (first | (with_reducible first | exact HB.out | apply below_alloc | apply pw_below_drewN | apply below_drew1 | refine below_set ?_ GE247.out | refine below_set ?_ GE256.out) | exact HB.out)⟩⟩
          · rw [if_neg c20] at H
            have c20b0 : (t258.toList == a1.toList) = false := beq_eq_false_iff_ne.mpr c20
            have c20b1 : (t258.toList != a1.toList) = true := bne_iff_ne.mpr c20
            have H' := Aside0.mk H
            clear H
            have hnb32 := NB256_247.out
            have hnc32 := NB247_256.out
            have hcz33_0 : w12.cell? ⟨gb256, 0, none⟩ = some (.bool false) := (blk_cell BK256.out 0).trans rfl
            have hcz33_1 : w12.cell? ⟨gb256, 1, none⟩ = some (.slice none 0 0) := (blk_cell BK256.out 1).trans rfl
            have hcz33_2 : w12.cell? ⟨gb256, 2, none⟩ = some (.int .i64 0) := (blk_cell BK256.out 2).trans rfl
            have hfz33_0 := blk_frozen BK256.out 0
            have hfz33_1 := blk_frozen BK256.out 1
            have hfz33_2 := blk_frozen BK256.out 2
            go_wp2_with (first | (go_at_call 14; (with_reducible refine (exergueref05_Right.calls k t249 _ _ t250 t253 true _ ?side1 ?side2 A17.out).mono ?_); (case side1 => refine (Kd.R_reads' (e := 5) (base := w.heap.size) (ok := fun k_ => True) (n := t250.length) (c := co15) ?_).2.2; exact (by (with_reducible repeat (first | apply Kd.R_alloc | apply Kd.R_drewN | apply Kd.R_drew)); exact (Kd.R_mono (Kd.R_far (p := ⟨gb256, 2, none⟩) (Kd.R_far (p := ⟨gb256, 1, none⟩) (Kd.R_far (p := ⟨gb256, 0, none⟩) (Kd.R_types HO252.out BK256.out (by decide)) (fun _ hk => hk.2) (.bool t249)) (fun _ hk => hk.2) (.slice Ao15 t250.length co15)) (fun _ hk => hk.2) (.int .i64 t253)) (fun _ h_ => h_.1)))); (case side2 => exact (Kd.R_reads' HO252.out).2.1); rintro e w34 ⟨rfl, hb⟩; have n0_ := Aside0.mk (Kd.R_below (by (with_reducible repeat (first | apply Kd.R_alloc | apply Kd.R_drewN | apply Kd.R_drew)); exact (Kd.R_mono (Kd.R_far (p := ⟨gb256, 2, none⟩) (Kd.R_far (p := ⟨gb256, 1, none⟩) (Kd.R_far (p := ⟨gb256, 0, none⟩) (Kd.R_types HO252.out BK256.out (by decide)) (fun _ hk => hk.2) (.bool t249)) (fun _ hk => hk.2) (.slice Ao15 t250.length co15)) (fun _ hk => hk.2) (.int .i64 t253)) (fun _ h_ => h_.1))) hb); have n1_ := Aside0.mk (blk_below (g := gb247) (o := .cells #[.bool a0_0, .slice A0_1 l0_1.length c0_1, .int .i64 a0_2] 24 (0, 0)) (by (with_reducible repeat (first | refine blk_drewN ?_ _ | refine blk_drew ?_ | refine blk_alloc ?_ _)); refine blk_far ?_ NB247_256.out _; (with_reducible repeat (first | refine blk_drewN ?_ _ | refine blk_drew ?_ | refine blk_alloc ?_ _)); refine blk_far ?_ NB247_256.out _; (with_reducible repeat (first | refine blk_drewN ?_ _ | refine blk_drew ?_ | refine blk_alloc ?_ _)); refine blk_far ?_ NB247_256.out _; (with_reducible repeat (first | refine blk_drewN ?_ _ | refine blk_drew ?_ | refine blk_alloc ?_ _)); exact BK247.out) hb); have n2_ := Aside0.mk (blk_below (g := gb256) (o := .cells #[.bool t249, .slice Ao15 t250.length co15, .int .i64 t253] 24 (0, 0)) (by (with_reducible repeat (first | refine blk_drewN ?_ _ | refine blk_drew ?_ | refine blk_alloc ?_ _)); refine blk_put (cs := #[.bool t249, .slice Ao15 t250.length co15, .int .i64 0]) ?_ 2 _ rfl; (with_reducible repeat (first | refine blk_drewN ?_ _ | refine blk_drew ?_ | refine blk_alloc ?_ _)); refine blk_put (cs := #[.bool t249, .slice none 0 0, .int .i64 0]) ?_ 1 _ rfl; (with_reducible repeat (first | refine blk_drewN ?_ _ | refine blk_drew ?_ | refine blk_alloc ?_ _)); refine blk_put (cs := #[.bool false, .slice none 0 0, .int .i64 0]) ?_ 0 _ rfl; (with_reducible repeat (first | refine blk_drewN ?_ _ | refine blk_drew ?_ | refine blk_alloc ?_ _)); exact BK256.out) hb); have n3_ := Aside0.mk (below_step (by repeat (first | (with_reducible first | exact HB.out | apply below_alloc | apply pw_below_drewN | apply below_drew1 | refine below_set ?_ GE247.out | refine below_set ?_ GE256.out) | exact HB.out)) hb); clear HO252; clear BK247; clear BK256; clear HB; have HO252 := n0_; have BK247 := n1_; have BK256 := n2_; have HB := n3_; clear n0_ n1_ n2_ n3_; (try clear hb); (try clear hb2); (try clear hk); (try clear hi); have hcz35_0 : w34.cell? ⟨gb256, 0, none⟩ = some (.bool t249) := (blk_cell BK256.out 0).trans rfl; have hcz35_1 : w34.cell? ⟨gb256, 1, none⟩ = some (.slice Ao15 t250.length co15) := (blk_cell BK256.out 1).trans rfl; have hcz35_2 : w34.cell? ⟨gb256, 2, none⟩ = some (.int .i64 t253) := (blk_cell BK256.out 2).trans rfl; have hfz35_0 := blk_frozen BK256.out 0; have hfz35_1 := blk_frozen BK256.out 1; have hfz35_2 := blk_frozen BK256.out 2) | (go_at_call 15; (with_reducible refine (dec_Text.calls t249 _ _ t250 t253 t258 _ ?side3 ?side1 ?side2 A19.out).mono ?_); (case side1 => repeat (first | exact (Kd.R_reads' HO252.out).2.2 | (with_reducible refine Kd.C_alloc ?_ _) | (with_reducible refine Kd.C_drewN ?_ _) | (with_reducible refine Kd.C_drew ?_))); (case side2 => exact (Kd.R_reads' HO252.out).2.1); (case side3 => refine GL.below HG.out ?_; repeat (first | (with_reducible first | exact HB.out | apply below_alloc | apply pw_below_drewN | apply below_drew1 | refine below_set ?_ GE247.out | refine below_set ?_ GE256.out) | exact HB.out)); rintro e w36 ⟨rfl, hb⟩; have n0_ := Aside0.mk (Kd.R_below (by (with_reducible repeat (first | apply Kd.R_alloc | apply Kd.R_drewN | apply Kd.R_drew)); exact HO252.out) hb); have n1_ := Aside0.mk (blk_below (g := gb247) (o := .cells #[.bool a0_0, .slice A0_1 l0_1.length c0_1, .int .i64 a0_2] 24 (0, 0)) (by (with_reducible repeat (first | refine blk_drewN ?_ _ | refine blk_drew ?_ | refine blk_alloc ?_ _)); exact BK247.out) hb); have n2_ := Aside0.mk (blk_below (g := gb256) (o := .cells #[.bool t249, .slice Ao15 t250.length co15, .int .i64 t253] 24 (0, 0)) (by (with_reducible repeat (first | refine blk_drewN ?_ _ | refine blk_drew ?_ | refine blk_alloc ?_ _)); exact BK256.out) hb); have n3_ := Aside0.mk (below_step (by repeat (first | (with_reducible first | exact HB.out | apply below_alloc | apply pw_below_drewN | apply below_drew1 | refine below_set ?_ GE247.out | refine below_set ?_ GE256.out) | exact HB.out)) hb); clear HO252; clear BK247; clear BK256; clear HB; have HO252 := n0_; have BK247 := n1_; have BK256 := n2_; have HB := n3_; clear n0_ n1_ n2_ n3_; (try clear hb); (try clear hb2); (try clear hk); (try clear hi)))
            go_meet
            case rel => exact ⟨_, (true), (by first | rfl | (simp; done) | (simp [*]; done)), H', ⟨by first | omega | exact Nat.le_refl _⟩, ⟨by (with_reducible repeat (first | apply Kd.R_alloc | apply Kd.R_drewN | apply Kd.R_drew)); exact HO252.out⟩, ⟨by (with_reducible repeat (first | refine blk_drewN ?_ _ | refine blk_drew ?_ | refine blk_alloc ?_ _)); exact BK247.out⟩, ⟨by (with_reducible repeat (first | refine blk_drewN ?_ _ | refine blk_drew ?_ | refine blk_alloc ?_ _)); exact BK256.out⟩, ⟨by repeat (first | (with_reducible first | exact HB.out | apply below_alloc | apply pw_below_drewN | apply below_drew1 | refine below_set ?_ GE247.out | refine below_set ?_ GE256.out) | exact HB.out)⟩⟩
        · replace c18 := Bool.eq_false_iff.mpr c18
          subst c18
          have H1 : (exerguelaw05_DecBack.j0 k t248 true a0_0 l0_1 a0_2) = some r := by rw [if_neg (show ¬ (false = true) by decide)] at H; exact H
          clear H
          have H := H1
          clear H1
          have H' := Aside0.mk H
          clear H
          have hnb37 := NB256_247.out
          have hnc37 := NB247_256.out
          have hcz38_0 : w12.cell? ⟨gb256, 0, none⟩ = some (.bool false) := (blk_cell BK256.out 0).trans rfl
          have hcz38_1 : w12.cell? ⟨gb256, 1, none⟩ = some (.slice none 0 0) := (blk_cell BK256.out 1).trans rfl
          have hcz38_2 : w12.cell? ⟨gb256, 2, none⟩ = some (.int .i64 0) := (blk_cell BK256.out 2).trans rfl
          have hfz38_0 := blk_frozen BK256.out 0
          have hfz38_1 := blk_frozen BK256.out 1
          have hfz38_2 := blk_frozen BK256.out 2
          go_wp2_with (first | (go_at_call 14; (with_reducible refine (exergueref05_Right.calls k t249 _ _ t250 t253 false _ ?side1 ?side2 A17.out).mono ?_); (case side1 => refine (Kd.R_reads' (e := 5) (base := w.heap.size) (ok := fun k_ => True) (n := t250.length) (c := co15) ?_).2.2; exact (by (with_reducible repeat (first | apply Kd.R_alloc | apply Kd.R_drewN | apply Kd.R_drew)); exact (Kd.R_mono (Kd.R_far (p := ⟨gb256, 2, none⟩) (Kd.R_far (p := ⟨gb256, 1, none⟩) (Kd.R_far (p := ⟨gb256, 0, none⟩) (Kd.R_types HO252.out BK256.out (by decide)) (fun _ hk => hk.2) (.bool t249)) (fun _ hk => hk.2) (.slice Ao15 t250.length co15)) (fun _ hk => hk.2) (.int .i64 t253)) (fun _ h_ => h_.1)))); (case side2 => exact (Kd.R_reads' HO252.out).2.1); rintro e w39 ⟨rfl, hb⟩; have n0_ := Aside0.mk (Kd.R_below (by (with_reducible repeat (first | apply Kd.R_alloc | apply Kd.R_drewN | apply Kd.R_drew)); exact (Kd.R_mono (Kd.R_far (p := ⟨gb256, 2, none⟩) (Kd.R_far (p := ⟨gb256, 1, none⟩) (Kd.R_far (p := ⟨gb256, 0, none⟩) (Kd.R_types HO252.out BK256.out (by decide)) (fun _ hk => hk.2) (.bool t249)) (fun _ hk => hk.2) (.slice Ao15 t250.length co15)) (fun _ hk => hk.2) (.int .i64 t253)) (fun _ h_ => h_.1))) hb); have n1_ := Aside0.mk (blk_below (g := gb247) (o := .cells #[.bool a0_0, .slice A0_1 l0_1.length c0_1, .int .i64 a0_2] 24 (0, 0)) (by (with_reducible repeat (first | refine blk_drewN ?_ _ | refine blk_drew ?_ | refine blk_alloc ?_ _)); refine blk_far ?_ NB247_256.out _; (with_reducible repeat (first | refine blk_drewN ?_ _ | refine blk_drew ?_ | refine blk_alloc ?_ _)); refine blk_far ?_ NB247_256.out _; (with_reducible repeat (first | refine blk_drewN ?_ _ | refine blk_drew ?_ | refine blk_alloc ?_ _)); refine blk_far ?_ NB247_256.out _; (with_reducible repeat (first | refine blk_drewN ?_ _ | refine blk_drew ?_ | refine blk_alloc ?_ _)); exact BK247.out) hb); have n2_ := Aside0.mk (blk_below (g := gb256) (o := .cells #[.bool t249, .slice Ao15 t250.length co15, .int .i64 t253] 24 (0, 0)) (by (with_reducible repeat (first | refine blk_drewN ?_ _ | refine blk_drew ?_ | refine blk_alloc ?_ _)); refine blk_put (cs := #[.bool t249, .slice Ao15 t250.length co15, .int .i64 0]) ?_ 2 _ rfl; (with_reducible repeat (first | refine blk_drewN ?_ _ | refine blk_drew ?_ | refine blk_alloc ?_ _)); refine blk_put (cs := #[.bool t249, .slice none 0 0, .int .i64 0]) ?_ 1 _ rfl; (with_reducible repeat (first | refine blk_drewN ?_ _ | refine blk_drew ?_ | refine blk_alloc ?_ _)); refine blk_put (cs := #[.bool false, .slice none 0 0, .int .i64 0]) ?_ 0 _ rfl; (with_reducible repeat (first | refine blk_drewN ?_ _ | refine blk_drew ?_ | refine blk_alloc ?_ _)); exact BK256.out) hb); have n3_ := Aside0.mk (below_step (by repeat (first | (with_reducible first | exact HB.out | apply below_alloc | apply pw_below_drewN | apply below_drew1 | refine below_set ?_ GE247.out | refine below_set ?_ GE256.out) | exact HB.out)) hb); clear HO252; clear BK247; clear BK256; clear HB; have HO252 := n0_; have BK247 := n1_; have BK256 := n2_; have HB := n3_; clear n0_ n1_ n2_ n3_; (try clear hb); (try clear hb2); (try clear hk); (try clear hi)))
          go_meet
          case rel => exact ⟨_, (true), (by first | rfl | (simp; done) | (simp [*]; done)), H', ⟨by first | omega | exact Nat.le_refl _⟩, ⟨by (with_reducible repeat (first | apply Kd.R_alloc | apply Kd.R_drewN | apply Kd.R_drew)); exact HO252.out⟩, ⟨by (with_reducible repeat (first | refine blk_drewN ?_ _ | refine blk_drew ?_ | refine blk_alloc ?_ _)); exact BK247.out⟩, ⟨by (with_reducible repeat (first | refine blk_drewN ?_ _ | refine blk_drew ?_ | refine blk_alloc ?_ _)); exact BK256.out⟩, ⟨by repeat (first | (with_reducible first | exact HB.out | apply below_alloc | apply pw_below_drewN | apply below_drew1 | refine below_set ?_ GE247.out | refine below_set ?_ GE256.out) | exact HB.out)⟩⟩
      · rw [if_neg c16] at H
        have c16b0 : (t255 == 0) = false := beq_eq_false_iff_ne.mpr c16
        have c16b1 : (t255 != 0) = true := bne_iff_ne.mpr c16
        (first | rw [c16b0] | (simp only [i64_w, i32_w]; rw [c16b0]) | skip)
        by_cases c40 : t254 < 0
        · rw [if_pos c40] at H
          have c40b0 : decide (t254 < 0) = true := decide_eq_true c40
          clear c40
          have H' := Aside0.mk H
          clear H
          go_wp2
          go_meet
          case rel => exact ⟨_, (true), (by first | rfl | (simp; done) | (simp [*]; done)), H', ⟨by first | omega | exact Nat.le_refl _⟩, ⟨by (with_reducible repeat (first | apply Kd.R_alloc | apply Kd.R_drewN | apply Kd.R_drew)); exact Kd.R_mono (Kd.R_far (p := ⟨gb256, 2, none⟩) (Kd.R_far (p := ⟨gb256, 1, none⟩) (Kd.R_far (p := ⟨gb256, 0, none⟩) (Kd.R_types HO252.out BK256.out (by decide)) (fun _ hk => hk.2) (.bool t249)) (fun _ hk => hk.2) (.slice Ao15 t250.length co15)) (fun _ hk => hk.2) (.int .i64 t253)) (fun _ hk => trivial)⟩, ⟨by (with_reducible repeat (first | refine blk_drewN ?_ _ | refine blk_drew ?_ | refine blk_alloc ?_ _)); refine blk_far ?_ NB247_256.out _; (with_reducible repeat (first | refine blk_drewN ?_ _ | refine blk_drew ?_ | refine blk_alloc ?_ _)); refine blk_far ?_ NB247_256.out _; (with_reducible repeat (first | refine blk_drewN ?_ _ | refine blk_drew ?_ | refine blk_alloc ?_ _)); refine blk_far ?_ NB247_256.out _; (with_reducible repeat (first | refine blk_drewN ?_ _ | refine blk_drew ?_ | refine blk_alloc ?_ _)); exact BK247.out⟩, ⟨by (with_reducible repeat (first | refine blk_drewN ?_ _ | refine blk_drew ?_ | refine blk_alloc ?_ _)); refine blk_put (cs := #[.bool t249, .slice Ao15 t250.length co15, .int .i64 0]) ?_ 2 _ rfl; (with_reducible repeat (first | refine blk_drewN ?_ _ | refine blk_drew ?_ | refine blk_alloc ?_ _)); refine blk_put (cs := #[.bool t249, .slice none 0 0, .int .i64 0]) ?_ 1 _ rfl; (with_reducible repeat (first | refine blk_drewN ?_ _ | refine blk_drew ?_ | refine blk_alloc ?_ _)); refine blk_put (cs := #[.bool false, .slice none 0 0, .int .i64 0]) ?_ 0 _ rfl; (with_reducible repeat (first | refine blk_drewN ?_ _ | refine blk_drew ?_ | refine blk_alloc ?_ _)); exact BK256.out⟩, ⟨by repeat (first | (with_reducible first | exact HB.out | apply below_alloc | apply pw_below_drewN | apply below_drew1 | refine below_set ?_ GE247.out | refine below_set ?_ GE256.out) | exact HB.out)⟩⟩
        · rw [if_neg c40] at H
          have c40b0 : decide (t254 < 0) = false := decide_eq_false c40
          clear c40
          by_cases c41 : t254 > (a1.size : Int)
          · rw [if_pos c41] at H
            have c41b0 : decide ((a1.size : Int) < t254) = true := decide_eq_true c41
            clear c41
            have H' := Aside0.mk H
            clear H
            go_wp2
            go_meet
            case rel => exact ⟨_, (true), (by first | rfl | (simp; done) | (simp [*]; done)), H', ⟨by first | omega | exact Nat.le_refl _⟩, ⟨by (with_reducible repeat (first | apply Kd.R_alloc | apply Kd.R_drewN | apply Kd.R_drew)); exact Kd.R_mono (Kd.R_far (p := ⟨gb256, 2, none⟩) (Kd.R_far (p := ⟨gb256, 1, none⟩) (Kd.R_far (p := ⟨gb256, 0, none⟩) (Kd.R_types HO252.out BK256.out (by decide)) (fun _ hk => hk.2) (.bool t249)) (fun _ hk => hk.2) (.slice Ao15 t250.length co15)) (fun _ hk => hk.2) (.int .i64 t253)) (fun _ hk => trivial)⟩, ⟨by (with_reducible repeat (first | refine blk_drewN ?_ _ | refine blk_drew ?_ | refine blk_alloc ?_ _)); refine blk_far ?_ NB247_256.out _; (with_reducible repeat (first | refine blk_drewN ?_ _ | refine blk_drew ?_ | refine blk_alloc ?_ _)); refine blk_far ?_ NB247_256.out _; (with_reducible repeat (first | refine blk_drewN ?_ _ | refine blk_drew ?_ | refine blk_alloc ?_ _)); refine blk_far ?_ NB247_256.out _; (with_reducible repeat (first | refine blk_drewN ?_ _ | refine blk_drew ?_ | refine blk_alloc ?_ _)); exact BK247.out⟩, ⟨by (with_reducible repeat (first | refine blk_drewN ?_ _ | refine blk_drew ?_ | refine blk_alloc ?_ _)); refine blk_put (cs := #[.bool t249, .slice Ao15 t250.length co15, .int .i64 0]) ?_ 2 _ rfl; (with_reducible repeat (first | refine blk_drewN ?_ _ | refine blk_drew ?_ | refine blk_alloc ?_ _)); refine blk_put (cs := #[.bool t249, .slice none 0 0, .int .i64 0]) ?_ 1 _ rfl; (with_reducible repeat (first | refine blk_drewN ?_ _ | refine blk_drew ?_ | refine blk_alloc ?_ _)); refine blk_put (cs := #[.bool false, .slice none 0 0, .int .i64 0]) ?_ 0 _ rfl; (with_reducible repeat (first | refine blk_drewN ?_ _ | refine blk_drew ?_ | refine blk_alloc ?_ _)); exact BK256.out⟩, ⟨by repeat (first | (with_reducible first | exact HB.out | apply below_alloc | apply pw_below_drewN | apply below_drew1 | refine below_set ?_ GE247.out | refine below_set ?_ GE256.out) | exact HB.out)⟩⟩
          · rw [if_neg c41] at H
            have c41b0 : decide ((a1.size : Int) < t254) = false := decide_eq_false c41
            clear c41
            have H' := Aside0.mk H
            clear H
            have hnb42 := NB256_247.out
            have hnc42 := NB247_256.out
            have hcz43_0 : w12.cell? ⟨gb256, 0, none⟩ = some (.bool false) := (blk_cell BK256.out 0).trans rfl
            have hcz43_1 : w12.cell? ⟨gb256, 1, none⟩ = some (.slice none 0 0) := (blk_cell BK256.out 1).trans rfl
            have hcz43_2 : w12.cell? ⟨gb256, 2, none⟩ = some (.int .i64 0) := (blk_cell BK256.out 2).trans rfl
            have hfz43_0 := blk_frozen BK256.out 0
            have hfz43_1 := blk_frozen BK256.out 1
            have hfz43_2 := blk_frozen BK256.out 2
            go_wp2
            go_meet
            case rel => exact ⟨_, (decide ((t250.length : Int) > 0)), (by first | rfl | (simp; done) | (simp [*]; done)), H', ⟨by first | omega | exact Nat.le_refl _⟩, ⟨by (with_reducible repeat (first | apply Kd.R_alloc | apply Kd.R_drewN | apply Kd.R_drew)); exact Kd.R_mono (Kd.R_far (p := ⟨gb256, 2, none⟩) (Kd.R_far (p := ⟨gb256, 1, none⟩) (Kd.R_far (p := ⟨gb256, 0, none⟩) (Kd.R_types HO252.out BK256.out (by decide)) (fun _ hk => hk.2) (.bool t249)) (fun _ hk => hk.2) (.slice Ao15 t250.length co15)) (fun _ hk => hk.2) (.int .i64 t253)) (fun _ hk => trivial)⟩, ⟨by (with_reducible repeat (first | refine blk_drewN ?_ _ | refine blk_drew ?_ | refine blk_alloc ?_ _)); refine blk_far ?_ NB247_256.out _; (with_reducible repeat (first | refine blk_drewN ?_ _ | refine blk_drew ?_ | refine blk_alloc ?_ _)); refine blk_far ?_ NB247_256.out _; (with_reducible repeat (first | refine blk_drewN ?_ _ | refine blk_drew ?_ | refine blk_alloc ?_ _)); refine blk_far ?_ NB247_256.out _; (with_reducible repeat (first | refine blk_drewN ?_ _ | refine blk_drew ?_ | refine blk_alloc ?_ _)); exact BK247.out⟩, ⟨by (with_reducible repeat (first | refine blk_drewN ?_ _ | refine blk_drew ?_ | refine blk_alloc ?_ _)); refine blk_put (cs := #[.bool t249, .slice Ao15 t250.length co15, .int .i64 0]) ?_ 2 _ rfl; (with_reducible repeat (first | refine blk_drewN ?_ _ | refine blk_drew ?_ | refine blk_alloc ?_ _)); refine blk_put (cs := #[.bool t249, .slice none 0 0, .int .i64 0]) ?_ 1 _ rfl; (with_reducible repeat (first | refine blk_drewN ?_ _ | refine blk_drew ?_ | refine blk_alloc ?_ _)); refine blk_put (cs := #[.bool false, .slice none 0 0, .int .i64 0]) ?_ 0 _ rfl; (with_reducible repeat (first | refine blk_drewN ?_ _ | refine blk_drew ?_ | refine blk_alloc ?_ _)); exact BK256.out⟩, ⟨by repeat (first | (with_reducible first | exact HB.out | apply below_alloc | apply pw_below_drewN | apply below_drew1 | refine below_set ?_ GE247.out | refine below_set ?_ GE256.out) | exact HB.out)⟩⟩
    case rest =>
      clear HC8
      try clear c1
      try clear c2
      try clear p2
      try clear c3
      try clear c4
      try clear c4b0
      try clear c4b1
      try clear c10
      try clear c11
      try clear c13
      try clear c16
      try clear c16b0
      try clear c16b1
      try clear c18
      try clear c20
      try clear c20b0
      try clear c20b1
      try clear c21
      try clear c21b0
      try clear c21b1
      try clear c22
      try clear c27
      try clear c32
      try clear c37
      try clear c40
      try clear c40b0
      try clear c41
      try clear c41b0
      try clear c42
      try clear hcz14_0
      try clear hcz14_1
      try clear hcz14_2
      try clear hcz23_0
      try clear hcz23_1
      try clear hcz23_2
      try clear hcz25_0
      try clear hcz25_1
      try clear hcz25_2
      try clear hcz28_0
      try clear hcz28_1
      try clear hcz28_2
      try clear hcz30_0
      try clear hcz30_1
      try clear hcz30_2
      try clear hcz33_0
      try clear hcz33_1
      try clear hcz33_2
      try clear hcz35_0
      try clear hcz35_1
      try clear hcz35_2
      try clear hcz38_0
      try clear hcz38_1
      try clear hcz38_2
      try clear hcz43_0
      try clear hcz43_1
      try clear hcz43_2
      try clear hfz14_0
      try clear hfz14_1
      try clear hfz14_2
      try clear hfz23_0
      try clear hfz23_1
      try clear hfz23_2
      try clear hfz25_0
      try clear hfz25_1
      try clear hfz25_2
      try clear hfz28_0
      try clear hfz28_1
      try clear hfz28_2
      try clear hfz30_0
      try clear hfz30_1
      try clear hfz30_2
      try clear hfz33_0
      try clear hfz33_1
      try clear hfz33_2
      try clear hfz35_0
      try clear hfz35_1
      try clear hfz35_2
      try clear hfz38_0
      try clear hfz38_1
      try clear hfz38_2
      try clear hfz43_0
      try clear hfz43_1
      try clear hfz43_2
      obtain ⟨kq, x59_7, rfl, HA, HJ7, HO_257001, BK247, BK256, HB⟩ := hcut
      cases kq with
      | zero => exact absurd HA.out (by simp [exerguelaw05_DecBack.j0])
      | succ kj7 =>
        have H := HA.out
        clear HA
        simp only [exerguelaw05_DecBack.j0] at H
        by_cases c44 : x59_7 = true
        · subst c44
          have H1 : (none) = some r := by rw [if_pos rfl] at H; exact H
          clear H
          have H := H1
          clear H1
          exact absurd H (by simp)
        · replace c44 := Bool.eq_false_iff.mpr c44
          subst c44
          have H1 : ((exergueref05_Right.f kj7 a0_0 l0_1 a0_2).bind fun t259 => (if t259 = true then ((dec_Text.f a0_0 l0_1 a0_2).bind fun t260 => ((dec_Read.f t260).bind fun bt261 => (if t248 = true then (if bt261.2.2.2.2 = 0 then ((exergueref05_Same.f kj7 a0_0 l0_1 a0_2 bt261.1 bt261.2.1 bt261.2.2.1).bind fun t269 => (some t269)) else (none)) else (none)))) else (some t248))) = some r := by rw [if_neg (show ¬ (false = true) by decide)] at H; exact H
          clear H
          have H := H1
          clear H1
          replace H := Option.bind_eq_some_iff.mp H
          obtain ⟨t259, A450, H⟩ := H
          replace H : (if t259 = true then ((dec_Text.f a0_0 l0_1 a0_2).bind fun t260 => ((dec_Read.f t260).bind fun bt261 => (if t248 = true then (if bt261.2.2.2.2 = 0 then ((exergueref05_Same.f kj7 a0_0 l0_1 a0_2 bt261.1 bt261.2.1 bt261.2.2.1).bind fun t269 => (some t269)) else (none)) else (none)))) else (some t248)) = some r := H
          have A45 := Aside0.mk A450
          clear A450
          by_cases c46 : t259 = true
          · subst c46
            have H1 : ((dec_Text.f a0_0 l0_1 a0_2).bind fun t260 => ((dec_Read.f t260).bind fun bt261 => (if t248 = true then (if bt261.2.2.2.2 = 0 then ((exergueref05_Same.f kj7 a0_0 l0_1 a0_2 bt261.1 bt261.2.1 bt261.2.2.1).bind fun t269 => (some t269)) else (none)) else (none)))) = some r := by rw [if_pos rfl] at H; exact H
            clear H
            have H := H1
            clear H1
            replace H := Option.bind_eq_some_iff.mp H
            obtain ⟨t260, A470, H⟩ := H
            replace H : ((dec_Read.f t260).bind fun bt261 => (if t248 = true then (if bt261.2.2.2.2 = 0 then ((exergueref05_Same.f kj7 a0_0 l0_1 a0_2 bt261.1 bt261.2.1 bt261.2.2.1).bind fun t269 => (some t269)) else (none)) else (none))) = some r := H
            have A47 := Aside0.mk A470
            clear A470
            replace H := Option.bind_eq_some_iff.mp H
            obtain ⟨⟨t261, t262, t265, t266, t267⟩, A480, H⟩ := H
            replace H : (if t248 = true then (if t267 = 0 then ((exergueref05_Same.f kj7 a0_0 l0_1 a0_2 t261 t262 t265).bind fun t269 => (some t269)) else (none)) else (none)) = some r := H
            have A48 := Aside0.mk A480
            clear A480
            by_cases c49 : t248 = true
            · subst c49
              have H1 : (if t267 = 0 then ((exergueref05_Same.f kj7 a0_0 l0_1 a0_2 t261 t262 t265).bind fun t269 => (some t269)) else (none)) = some r := by rw [if_pos rfl] at H; exact H
              clear H
              have H := H1
              clear H1
              by_cases c50 : t267 = 0
              · rw [if_pos c50] at H
                have c50b0 : (t267 == 0) = true := beq_iff_eq.mpr c50
                have c50b1 : (t267 != 0) = false := bne_eq_false_iff_eq.mpr c50
                clear c50
                replace H := Option.bind_eq_some_iff.mp H
                obtain ⟨t269, A510, H⟩ := H
                replace H : (some t269) = some r := H
                have A51 := Aside0.mk A510
                clear A510
                obtain rfl := Option.some.inj H
                have hnb52 := NB247_256.out
                have hnc52 := NB256_247.out
                have hcz53_0 : wc.cell? ⟨gb247, 0, none⟩ = some (.bool a0_0) := (blk_cell BK247.out 0).trans rfl
                have hcz53_1 : wc.cell? ⟨gb247, 1, none⟩ = some (.slice A0_1 l0_1.length c0_1) := (blk_cell BK247.out 1).trans rfl
                have hcz53_2 : wc.cell? ⟨gb247, 2, none⟩ = some (.int .i64 a0_2) := (blk_cell BK247.out 2).trans rfl
                have hfz53_0 := blk_frozen BK247.out 0
                have hfz53_1 := blk_frozen BK247.out 1
                have hfz53_2 := blk_frozen BK247.out 2
                go_wp2_with (first | ((with_reducible refine gate_callee (f := 14) rfl ?_); refine goesL_ (some 61) rfl rfl Tryd.func14 (by kernel_rfl) rfl #[.agg #[.bool a0_0, .slice A0_1 l0_1.length c0_1, .int .i64 a0_2]] rfl (by (try simp only [List.map_toArray, List.map_cons, List.map_nil]); first | done | rfl | (simp only [List.length_drop, List.length_take]; rfl)) ?_; (with_reducible refine (exergueref05_Right.calls kj7 a0_0 _ _ l0_1 a0_2 true _ ?side1 ?side2 A45.out).mono ?_); (case side1 => repeat (first | exact (Kd.C_below HR0_1.out HB.out) | (with_reducible refine Kd.C_alloc ?_ _) | (with_reducible refine Kd.C_drewN ?_ _) | (with_reducible refine Kd.C_drew ?_))); (case side2 => exact HC0_1.out); rintro e w54 ⟨rfl, hb⟩; refine ⟨_, rfl, ?_⟩; have n0_ := Aside0.mk (Kd.R_below (by (with_reducible repeat (first | apply Kd.R_alloc | apply Kd.R_drewN | apply Kd.R_drew)); exact HO_257001.out) hb); have n1_ := Aside0.mk (blk_below (g := gb247) (o := .cells #[.bool a0_0, .slice A0_1 l0_1.length c0_1, .int .i64 a0_2] 24 (0, 0)) (by (with_reducible repeat (first | refine blk_drewN ?_ _ | refine blk_drew ?_ | refine blk_alloc ?_ _)); exact BK247.out) hb); have n2_ := Aside0.mk (blk_below (g := gb256) (o := .cells #[.bool t249, .slice Ao15 t250.length co15, .int .i64 t253] 24 (0, 0)) (by (with_reducible repeat (first | refine blk_drewN ?_ _ | refine blk_drew ?_ | refine blk_alloc ?_ _)); exact BK256.out) hb); have n3_ := Aside0.mk (below_step (by repeat (first | (with_reducible first | exact HB.out | apply below_alloc | apply pw_below_drewN | apply below_drew1 | refine below_set ?_ GE247.out | refine below_set ?_ GE256.out) | exact HB.out)) hb); clear HO_257001; clear BK247; clear BK256; clear HB; have HO_257001 := n0_; have BK247 := n1_; have BK256 := n2_; have HB := n3_; clear n0_ n1_ n2_ n3_; (try clear hb); (try clear hb2); (try clear hk); (try clear hi); have hcz55_0 : w54.cell? ⟨gb247, 0, none⟩ = some (.bool a0_0) := (blk_cell BK247.out 0).trans rfl; have hcz55_1 : w54.cell? ⟨gb247, 1, none⟩ = some (.slice A0_1 l0_1.length c0_1) := (blk_cell BK247.out 1).trans rfl; have hcz55_2 : w54.cell? ⟨gb247, 2, none⟩ = some (.int .i64 a0_2) := (blk_cell BK247.out 2).trans rfl; have hfz55_0 := blk_frozen BK247.out 0; have hfz55_1 := blk_frozen BK247.out 1; have hfz55_2 := blk_frozen BK247.out 2) | ((with_reducible refine gate_callee (f := 15) rfl ?_); refine goesL_ (some 66) rfl rfl Tryd.func15 (by kernel_rfl) rfl #[.agg #[.bool a0_0, .slice A0_1 l0_1.length c0_1, .int .i64 a0_2]] rfl (by (try simp only [List.map_toArray, List.map_cons, List.map_nil]); first | done | rfl | (simp only [List.length_drop, List.length_take]; rfl)) ?_; (with_reducible refine (dec_Text.calls a0_0 _ _ l0_1 a0_2 t260 _ ?side3 ?side1 ?side2 A47.out).mono ?_); (case side1 => repeat (first | exact (Kd.C_below HR0_1.out HB.out) | (with_reducible refine Kd.C_alloc ?_ _) | (with_reducible refine Kd.C_drewN ?_ _) | (with_reducible refine Kd.C_drew ?_))); (case side2 => exact HC0_1.out); (case side3 => refine GL.below HG.out ?_; repeat (first | (with_reducible first | exact HB.out | apply below_alloc | apply pw_below_drewN | apply below_drew1 | refine below_set ?_ GE247.out | refine below_set ?_ GE256.out) | exact HB.out)); rintro e w56 ⟨rfl, hb⟩; refine ⟨_, rfl, ?_⟩; have n0_ := Aside0.mk (Kd.R_below (by (with_reducible repeat (first | apply Kd.R_alloc | apply Kd.R_drewN | apply Kd.R_drew)); exact HO_257001.out) hb); have n1_ := Aside0.mk (blk_below (g := gb247) (o := .cells #[.bool a0_0, .slice A0_1 l0_1.length c0_1, .int .i64 a0_2] 24 (0, 0)) (by (with_reducible repeat (first | refine blk_drewN ?_ _ | refine blk_drew ?_ | refine blk_alloc ?_ _)); exact BK247.out) hb); have n2_ := Aside0.mk (blk_below (g := gb256) (o := .cells #[.bool t249, .slice Ao15 t250.length co15, .int .i64 t253] 24 (0, 0)) (by (with_reducible repeat (first | refine blk_drewN ?_ _ | refine blk_drew ?_ | refine blk_alloc ?_ _)); exact BK256.out) hb); have n3_ := Aside0.mk (below_step (by repeat (first | (with_reducible first | exact HB.out | apply below_alloc | apply pw_below_drewN | apply below_drew1 | refine below_set ?_ GE247.out | refine below_set ?_ GE256.out) | exact HB.out)) hb); clear HO_257001; clear BK247; clear BK256; clear HB; have HO_257001 := n0_; have BK247 := n1_; have BK256 := n2_; have HB := n3_; clear n0_ n1_ n2_ n3_; (try clear hb); (try clear hb2); (try clear hk); (try clear hi)) | ((with_reducible refine gate_callee (f := 11) rfl ?_); refine goesL_ (some 67) rfl rfl Tryd.func11 (by kernel_rfl) rfl #[.string t260] rfl (by (try simp only [List.map_toArray, List.map_cons, List.map_nil]); first | done | rfl | (simp only [List.length_drop, List.length_take]; rfl)) ?_; (with_reducible refine (dec_Read.calls t260 t261 t262 t265 t266 t267 _ A48.out).mono ?_); rintro e w57 ⟨v263, rfl, ho0, hb⟩; refine ⟨_, rfl, ?_⟩; have n0_ := Aside0.mk (Kd.R_elder' (by (with_reducible repeat (first | apply Kd.R_alloc | apply Kd.R_drewN | apply Kd.R_drew)); exact HO_257001.out) (Kd.R_base ho0) hb); have n1_ := Aside0.mk (Kd.R_lower (Kd.R_new' ho0 (Kd.R_lt (by (with_reducible repeat (first | apply Kd.R_alloc | apply Kd.R_drewN | apply Kd.R_drew)); exact HO_257001.out))) (below_size (by repeat (first | (with_reducible first | exact HB.out | apply below_alloc | apply pw_below_drewN | apply below_drew1 | refine below_set ?_ GE247.out | refine below_set ?_ GE256.out) | exact HB.out)))); have n2_ := Aside0.mk (blk_below (g := gb247) (o := .cells #[.bool a0_0, .slice A0_1 l0_1.length c0_1, .int .i64 a0_2] 24 (0, 0)) (by (with_reducible repeat (first | refine blk_drewN ?_ _ | refine blk_drew ?_ | refine blk_alloc ?_ _)); exact BK247.out) hb); have n3_ := Aside0.mk (blk_below (g := gb256) (o := .cells #[.bool t249, .slice Ao15 t250.length co15, .int .i64 t253] 24 (0, 0)) (by (with_reducible repeat (first | refine blk_drewN ?_ _ | refine blk_drew ?_ | refine blk_alloc ?_ _)); exact BK256.out) hb); have n4_ := Aside0.mk (below_step (by repeat (first | (with_reducible first | exact HB.out | apply below_alloc | apply pw_below_drewN | apply below_drew1 | refine below_set ?_ GE247.out | refine below_set ?_ GE256.out) | exact HB.out)) hb); clear HO_257001; clear BK247; clear BK256; clear HB; have HO_257001 := n0_; have HO264 := n1_; have BK247 := n2_; have BK256 := n3_; have HB := n4_; clear n0_ n1_ n2_ n3_ n4_; (try clear hb); (try clear hb2); (try clear hk); (try clear hi); (try clear ho0)) | ((with_reducible refine gate_dst (N := 9) rfl ?_); (try (refine gate_guard (by rfl) ?_; dsimp only)); refine box_event ?hg (N := 9) ?hd (cs := #[.bool false, .slice none 0 0, .int .i64 0]) (t := 24) ?hr ?_; (case hd => rfl); (case hg => rfl); (case hr => first | (go_simp; done) | (go_simp; rfl)); intro gb268 hg w58 hbox hb; have n0_ := Aside0.mk (Kd.R_below (by (with_reducible repeat (first | apply Kd.R_alloc | apply Kd.R_drewN | apply Kd.R_drew)); exact HO_257001.out) hb); have n1_ := Aside0.mk (Kd.R_below (by (with_reducible repeat (first | apply Kd.R_alloc | apply Kd.R_drewN | apply Kd.R_drew)); exact HO264.out) hb); have n2_ := Aside0.mk (blk_below (g := gb247) (o := .cells #[.bool a0_0, .slice A0_1 l0_1.length c0_1, .int .i64 a0_2] 24 (0, 0)) (by (with_reducible repeat (first | refine blk_drewN ?_ _ | refine blk_drew ?_ | refine blk_alloc ?_ _)); exact BK247.out) hb); have n3_ := Aside0.mk (blk_below (g := gb256) (o := .cells #[.bool t249, .slice Ao15 t250.length co15, .int .i64 t253] 24 (0, 0)) (by (with_reducible repeat (first | refine blk_drewN ?_ _ | refine blk_drew ?_ | refine blk_alloc ?_ _)); exact BK256.out) hb); have n4_ := Aside0.mk (below_step (by repeat (first | (with_reducible first | exact HB.out | apply below_alloc | apply pw_below_drewN | apply below_drew1 | refine below_set ?_ GE247.out | refine below_set ?_ GE256.out) | exact HB.out)) hb); have n5_ := Aside0.mk (hbox); have n6_ := Aside0.mk ((by rw [hg]; exact (below_size (by repeat (first | (with_reducible first | exact HB.out | apply below_alloc | apply pw_below_drewN | apply below_drew1 | refine below_set ?_ GE247.out | refine below_set ?_ GE256.out) | exact HB.out))) : w.heap.size ≤ gb268)); have n7_ := Aside0.mk ((by rw [hg]; exact (below_size (by repeat (first | (with_reducible first | exact HB.out | apply below_alloc | apply pw_below_drewN | apply below_drew1 | refine below_set ?_ GE247.out | refine below_set ?_ GE256.out) | exact HB.out))) : w.heap.size ≤ gb268)); have n8_ := Aside0.mk ((by rw [hg]; exact Nat.ne_of_lt (blk_lt (g := gb247) (o := .cells #[.bool a0_0, .slice A0_1 l0_1.length c0_1, .int .i64 a0_2] 24 (0, 0)) (by (with_reducible repeat (first | refine blk_drewN ?_ _ | refine blk_drew ?_ | refine blk_alloc ?_ _)); exact BK247.out)) : gb247 ≠ gb268)); have n9_ := Aside0.mk ((by rw [hg]; exact Nat.ne_of_gt (blk_lt (g := gb247) (o := .cells #[.bool a0_0, .slice A0_1 l0_1.length c0_1, .int .i64 a0_2] 24 (0, 0)) (by (with_reducible repeat (first | refine blk_drewN ?_ _ | refine blk_drew ?_ | refine blk_alloc ?_ _)); exact BK247.out)) : gb268 ≠ gb247)); have n10_ := Aside0.mk ((by rw [hg]; exact Nat.ne_of_lt (blk_lt (g := gb256) (o := .cells #[.bool t249, .slice Ao15 t250.length co15, .int .i64 t253] 24 (0, 0)) (by (with_reducible repeat (first | refine blk_drewN ?_ _ | refine blk_drew ?_ | refine blk_alloc ?_ _)); exact BK256.out)) : gb256 ≠ gb268)); have n11_ := Aside0.mk ((by rw [hg]; exact Nat.ne_of_gt (blk_lt (g := gb256) (o := .cells #[.bool t249, .slice Ao15 t250.length co15, .int .i64 t253] 24 (0, 0)) (by (with_reducible repeat (first | refine blk_drewN ?_ _ | refine blk_drew ?_ | refine blk_alloc ?_ _)); exact BK256.out)) : gb268 ≠ gb256)); clear HO_257001; clear HO264; clear BK247; clear BK256; clear HB; have HO_257001 := n0_; have HO264 := n1_; have BK247 := n2_; have BK256 := n3_; have HB := n4_; have BK268 := n5_; have GW268 := n6_; have GE268 := n7_; have NB247_268 := n8_; have NB268_247 := n9_; have NB256_268 := n10_; have NB268_256 := n11_; clear n0_ n1_ n2_ n3_ n4_ n5_ n6_ n7_ n8_ n9_ n10_ n11_; clear hb hbox hg; have hnb59 := NB268_247.out; have hnc59 := NB247_268.out; have hnb60 := NB268_256.out; have hnc60 := NB256_268.out; have hcz61_0 : w58.cell? ⟨gb268, 0, none⟩ = some (.bool false) := (blk_cell BK268.out 0).trans rfl; have hcz61_1 : w58.cell? ⟨gb268, 1, none⟩ = some (.slice none 0 0) := (blk_cell BK268.out 1).trans rfl; have hcz61_2 : w58.cell? ⟨gb268, 2, none⟩ = some (.int .i64 0) := (blk_cell BK268.out 2).trans rfl; have hfz61_0 := blk_frozen BK268.out 0; have hfz61_1 := blk_frozen BK268.out 1; have hfz61_2 := blk_frozen BK268.out 2; obtain ⟨Ao62, co62, eo62⟩ := Kd.R_slice HO264.out; subst eo62; have hcz63_0 : w58.cell? ⟨gb247, 0, none⟩ = some (.bool a0_0) := (blk_cell BK247.out 0).trans rfl; have hcz63_1 : w58.cell? ⟨gb247, 1, none⟩ = some (.slice A0_1 l0_1.length c0_1) := (blk_cell BK247.out 1).trans rfl; have hcz63_2 : w58.cell? ⟨gb247, 2, none⟩ = some (.int .i64 a0_2) := (blk_cell BK247.out 2).trans rfl; have hfz63_0 := blk_frozen BK247.out 0; have hfz63_1 := blk_frozen BK247.out 1; have hfz63_2 := blk_frozen BK247.out 2) | (go_at_call 13; (with_reducible refine (exergueref05_Same.calls kj7 a0_0 _ _ l0_1 a0_2 t261 _ _ t262 t265 t269 _ ?side1 ?side2 ?side3 ?side4 A51.out).mono ?_); (case side1 => exact Kd.C_below HR0_1.out (by repeat (first | (with_reducible first | exact HB.out | apply below_alloc | apply pw_below_drewN | apply below_drew1 | refine below_set ?_ GE247.out | refine below_set ?_ GE256.out | refine below_set ?_ GE268.out) | exact HB.out))); (case side2 => exact HC0_1.out); (case side3 => refine (Kd.R_reads' (e := 5) (base := w.heap.size) (ok := fun k_ => (True ∧ some k_ ≠ (.slice Ao15 t250.length co15 : Value).ownBlock)) (n := t262.length) (c := co62) ?_).2.2; exact (by (with_reducible repeat (first | apply Kd.R_alloc | apply Kd.R_drewN | apply Kd.R_drew)); exact (Kd.R_mono (Kd.R_far (p := ⟨gb268, 2, none⟩) (Kd.R_far (p := ⟨gb268, 1, none⟩) (Kd.R_far (p := ⟨gb268, 0, none⟩) (Kd.R_types HO264.out BK268.out (by decide)) (fun _ hk => hk.2) (.bool t261)) (fun _ hk => hk.2) (.slice Ao62 t262.length co62)) (fun _ hk => hk.2) (.int .i64 t265)) (fun _ h_ => h_.1)))); (case side4 => exact (Kd.R_reads' HO264.out).2.1); rintro e w64 ⟨rfl, hb⟩; have n0_ := Aside0.mk (Kd.R_below (by (with_reducible repeat (first | apply Kd.R_alloc | apply Kd.R_drewN | apply Kd.R_drew)); exact (Kd.R_mono (Kd.R_far (p := ⟨gb268, 2, none⟩) (Kd.R_far (p := ⟨gb268, 1, none⟩) (Kd.R_far (p := ⟨gb268, 0, none⟩) (Kd.R_types HO_257001.out BK268.out (by decide)) (fun _ hk => hk.2) (.bool t261)) (fun _ hk => hk.2) (.slice Ao62 t262.length co62)) (fun _ hk => hk.2) (.int .i64 t265)) (fun _ h_ => h_.1))) hb); have n1_ := Aside0.mk (Kd.R_below (by (with_reducible repeat (first | apply Kd.R_alloc | apply Kd.R_drewN | apply Kd.R_drew)); exact (Kd.R_mono (Kd.R_far (p := ⟨gb268, 2, none⟩) (Kd.R_far (p := ⟨gb268, 1, none⟩) (Kd.R_far (p := ⟨gb268, 0, none⟩) (Kd.R_types HO264.out BK268.out (by decide)) (fun _ hk => hk.2) (.bool t261)) (fun _ hk => hk.2) (.slice Ao62 t262.length co62)) (fun _ hk => hk.2) (.int .i64 t265)) (fun _ h_ => h_.1))) hb); have n2_ := Aside0.mk (blk_below (g := gb247) (o := .cells #[.bool a0_0, .slice A0_1 l0_1.length c0_1, .int .i64 a0_2] 24 (0, 0)) (by (with_reducible repeat (first | refine blk_drewN ?_ _ | refine blk_drew ?_ | refine blk_alloc ?_ _)); refine blk_far ?_ NB247_268.out _; (with_reducible repeat (first | refine blk_drewN ?_ _ | refine blk_drew ?_ | refine blk_alloc ?_ _)); refine blk_far ?_ NB247_268.out _; (with_reducible repeat (first | refine blk_drewN ?_ _ | refine blk_drew ?_ | refine blk_alloc ?_ _)); refine blk_far ?_ NB247_268.out _; (with_reducible repeat (first | refine blk_drewN ?_ _ | refine blk_drew ?_ | refine blk_alloc ?_ _)); exact BK247.out) hb); have n3_ := Aside0.mk (blk_below (g := gb256) (o := .cells #[.bool t249, .slice Ao15 t250.length co15, .int .i64 t253] 24 (0, 0)) (by (with_reducible repeat (first | refine blk_drewN ?_ _ | refine blk_drew ?_ | refine blk_alloc ?_ _)); refine blk_far ?_ NB256_268.out _; (with_reducible repeat (first | refine blk_drewN ?_ _ | refine blk_drew ?_ | refine blk_alloc ?_ _)); refine blk_far ?_ NB256_268.out _; (with_reducible repeat (first | refine blk_drewN ?_ _ | refine blk_drew ?_ | refine blk_alloc ?_ _)); refine blk_far ?_ NB256_268.out _; (with_reducible repeat (first | refine blk_drewN ?_ _ | refine blk_drew ?_ | refine blk_alloc ?_ _)); exact BK256.out) hb); have n4_ := Aside0.mk (blk_below (g := gb268) (o := .cells #[.bool t261, .slice Ao62 t262.length co62, .int .i64 t265] 24 (0, 0)) (by (with_reducible repeat (first | refine blk_drewN ?_ _ | refine blk_drew ?_ | refine blk_alloc ?_ _)); refine blk_put (cs := #[.bool t261, .slice Ao62 t262.length co62, .int .i64 0]) ?_ 2 _ rfl; (with_reducible repeat (first | refine blk_drewN ?_ _ | refine blk_drew ?_ | refine blk_alloc ?_ _)); refine blk_put (cs := #[.bool t261, .slice none 0 0, .int .i64 0]) ?_ 1 _ rfl; (with_reducible repeat (first | refine blk_drewN ?_ _ | refine blk_drew ?_ | refine blk_alloc ?_ _)); refine blk_put (cs := #[.bool false, .slice none 0 0, .int .i64 0]) ?_ 0 _ rfl; (with_reducible repeat (first | refine blk_drewN ?_ _ | refine blk_drew ?_ | refine blk_alloc ?_ _)); exact BK268.out) hb); have n5_ := Aside0.mk (below_step (by repeat (first | (with_reducible first | exact HB.out | apply below_alloc | apply pw_below_drewN | apply below_drew1 | refine below_set ?_ GE247.out | refine below_set ?_ GE256.out | refine below_set ?_ GE268.out) | exact HB.out)) hb); clear HO_257001; clear HO264; clear BK247; clear BK256; clear BK268; clear HB; have HO_257001 := n0_; have HO264 := n1_; have BK247 := n2_; have BK256 := n3_; have BK268 := n4_; have HB := n5_; clear n0_ n1_ n2_ n3_ n4_ n5_; (try clear hb); (try clear hb2); (try clear hk); (try clear hi)))
                go_ret
                exact ⟨by first | rfl | (simp [errW_none, errW_some] <;> rfl) | (simp [*, errW_none, errW_some] <;> rfl), by repeat (first | (with_reducible first | exact HB.out | apply below_alloc | apply pw_below_drewN | apply below_drew1 | refine below_set ?_ GE247.out | refine below_set ?_ GE256.out | refine below_set ?_ GE268.out) | exact HB.out)⟩
              · rw [if_neg c50] at H
                exact absurd H (by simp)
            · replace c49 := Bool.eq_false_iff.mpr c49
              subst c49
              have H1 : (none) = some r := by rw [if_neg (show ¬ (false = true) by decide)] at H; exact H
              clear H
              have H := H1
              clear H1
              exact absurd H (by simp)
          · replace c46 := Bool.eq_false_iff.mpr c46
            subst c46
            have H1 : (some t248) = some r := by rw [if_neg (show ¬ (false = true) by decide)] at H; exact H
            clear H
            have H := H1
            clear H1
            obtain rfl := Option.some.inj H
            have hnb65 := NB247_256.out
            have hnc65 := NB256_247.out
            have hcz66_0 : wc.cell? ⟨gb247, 0, none⟩ = some (.bool a0_0) := (blk_cell BK247.out 0).trans rfl
            have hcz66_1 : wc.cell? ⟨gb247, 1, none⟩ = some (.slice A0_1 l0_1.length c0_1) := (blk_cell BK247.out 1).trans rfl
            have hcz66_2 : wc.cell? ⟨gb247, 2, none⟩ = some (.int .i64 a0_2) := (blk_cell BK247.out 2).trans rfl
            have hfz66_0 := blk_frozen BK247.out 0
            have hfz66_1 := blk_frozen BK247.out 1
            have hfz66_2 := blk_frozen BK247.out 2
            go_wp2_with (first | ((with_reducible refine gate_callee (f := 14) rfl ?_); refine goesL_ (some 61) rfl rfl Tryd.func14 (by kernel_rfl) rfl #[.agg #[.bool a0_0, .slice A0_1 l0_1.length c0_1, .int .i64 a0_2]] rfl (by (try simp only [List.map_toArray, List.map_cons, List.map_nil]); first | done | rfl | (simp only [List.length_drop, List.length_take]; rfl)) ?_; (with_reducible refine (exergueref05_Right.calls kj7 a0_0 _ _ l0_1 a0_2 false _ ?side1 ?side2 A45.out).mono ?_); (case side1 => repeat (first | exact (Kd.C_below HR0_1.out HB.out) | (with_reducible refine Kd.C_alloc ?_ _) | (with_reducible refine Kd.C_drewN ?_ _) | (with_reducible refine Kd.C_drew ?_))); (case side2 => exact HC0_1.out); rintro e w67 ⟨rfl, hb⟩; refine ⟨_, rfl, ?_⟩; have n0_ := Aside0.mk (Kd.R_below (by (with_reducible repeat (first | apply Kd.R_alloc | apply Kd.R_drewN | apply Kd.R_drew)); exact HO_257001.out) hb); have n1_ := Aside0.mk (blk_below (g := gb247) (o := .cells #[.bool a0_0, .slice A0_1 l0_1.length c0_1, .int .i64 a0_2] 24 (0, 0)) (by (with_reducible repeat (first | refine blk_drewN ?_ _ | refine blk_drew ?_ | refine blk_alloc ?_ _)); exact BK247.out) hb); have n2_ := Aside0.mk (blk_below (g := gb256) (o := .cells #[.bool t249, .slice Ao15 t250.length co15, .int .i64 t253] 24 (0, 0)) (by (with_reducible repeat (first | refine blk_drewN ?_ _ | refine blk_drew ?_ | refine blk_alloc ?_ _)); exact BK256.out) hb); have n3_ := Aside0.mk (below_step (by repeat (first | (with_reducible first | exact HB.out | apply below_alloc | apply pw_below_drewN | apply below_drew1 | refine below_set ?_ GE247.out | refine below_set ?_ GE256.out) | exact HB.out)) hb); clear HO_257001; clear BK247; clear BK256; clear HB; have HO_257001 := n0_; have BK247 := n1_; have BK256 := n2_; have HB := n3_; clear n0_ n1_ n2_ n3_; (try clear hb); (try clear hb2); (try clear hk); (try clear hi)))
            go_ret
            exact ⟨by first | rfl | (simp [errW_none, errW_some] <;> rfl) | (simp [*, errW_none, errW_some] <;> rfl), by repeat (first | (with_reducible first | exact HB.out | apply below_alloc | apply pw_below_drewN | apply below_drew1 | refine below_set ?_ GE247.out | refine below_set ?_ GE256.out) | exact HB.out)⟩

end Go.Proofs.YtahkamggdbibiaaDoor.PZ
