-- made by wip/xprint.py (a program of this session over the kit's print.py). Not trusted: Lean checks it.
import Derived.Test.YtogfokpmpdclbaaDoorPZx0
import Derived.Test.YtogfokpmpdclbaaDoorPZx10
import Derived.Test.YtogfokpmpdclbaaDoorPZx11
import Derived.Test.YtogfokpmpdclbaaDoorGl
import Derived.Test.YtogfokpmpdclbaaDoorShown06
import Derived.Test.YtogfokpmpdclbaaDoorSigDefs
namespace Go.Proofs.YtogfokpmpdclbaaDoor.PZ
open Go.RowKit Go.Proofs.YtogfokpmpdclbaaDoorW.PrintWords Go.Proofs.YtogfokpmpdclbaaDoorW.PrintLast Go.Proofs.YtogfokpmpdclbaaDoorW.PrintMore
attribute [local go_sem] max2_int min2_int max_two min_two max_three min_three max_four min_four   -- for this text's walks alone
set_option linter.unusedVariables false
set_option linter.unusedSimpArgs false

/-! ### exerguelaw06_RoundSig: function 7 -/
set_option maxHeartbeats 8000000 in
set_option maxRecDepth 100000 in
theorem exerguelaw06_RoundSig.calls (k : Nat) (a0_0 : Bool) (A0_1 : Option Addr) (c0_1 : Nat) (l0_1 : List Int) (a0_2 : Int) (a1 : Int) (a2 : Int) (r : Bool) (w : World) (hG : GL w) (hr0_1 : Kd.C (Kd.int .u8) w A0_1 l0_1.length l0_1) (hc0_1 : l0_1.length ≤ c0_1) (h : exerguelaw06_RoundSig.f k a0_0 l0_1 a0_2 a1 a2 = some r) :
  Calls Tryd.prog 7 #[.agg #[.bool a0_0, .slice A0_1 l0_1.length c0_1, .int .i64 a0_2], .int .u8 a1, .int .i64 a2] w fun e w' => e = .returned (.bool r) ∧ Below w.heap.size w w' := by
 have hu24 := Tryd.underlying24
 have HR0_1 := Aside0.mk hr0_1
 have HC0_1 := Aside0.mk hc0_1
 clear hr0_1 hc0_1
 have HB := Aside0.mk (Below.refl w.heap.size w)
 have HG := Aside0.mk hG
 clear hG
 have H : ((exerguelaw06_shown.f k).bind fun t279 => ((exergueref06_Near.f k a0_0 l0_1 a0_2).bind fun t280 => (if t280 = true then ((exergueref06_Is.f a2).bind fun t281 => (exerguelaw06_RoundSig.j0 k a2 t279 (wrap64 ((wrap64 (Int.tmod a1 60)) + 1)) (!t281) a0_0 l0_1 a0_2)) else (exerguelaw06_RoundSig.j0 k a2 t279 (wrap64 ((wrap64 (Int.tmod a1 60)) + 1)) true a0_0 l0_1 a0_2)))) = some r := h
 clear h
 replace H := Option.bind_eq_some_iff.mp H
 obtain ⟨t279, A40, H⟩ := H
 replace H : ((exergueref06_Near.f k a0_0 l0_1 a0_2).bind fun t280 => (if t280 = true then ((exergueref06_Is.f a2).bind fun t281 => (exerguelaw06_RoundSig.j0 k a2 t279 (wrap64 ((wrap64 (Int.tmod a1 60)) + 1)) (!t281) a0_0 l0_1 a0_2)) else (exerguelaw06_RoundSig.j0 k a2 t279 (wrap64 ((wrap64 (Int.tmod a1 60)) + 1)) true a0_0 l0_1 a0_2))) = some r := H
 have A4 := Aside0.mk A40
 clear A40
 have HC5 := Aside0.mk H
 clear H
 go_enter Tryd.func7, Tryd.ntmps7
 go_upto_region 3 with (first | ((with_reducible refine gate_dst (N := 3) rfl ?_); (try (refine gate_guard (by rfl) ?_; dsimp only)); refine box_event ?hg (N := 3) ?hd (cs := #[.bool a0_0, .slice A0_1 l0_1.length c0_1, .int .i64 a0_2]) (t := 24) ?hr ?_; (case hd => rfl); (case hg => rfl); (case hr => first | (go_simp; done) | (go_simp; rfl)); intro gb278 hg w6 hbox hb; have n0_ := Aside0.mk (below_step (by repeat (first | (with_reducible first | exact HB.out | apply below_alloc | apply pw_below_drewN | apply below_drew1) | exact HB.out)) hb); have n1_ := Aside0.mk (hbox); have n2_ := Aside0.mk ((by rw [hg]; exact (below_size (by repeat (first | (with_reducible first | exact HB.out | apply below_alloc | apply pw_below_drewN | apply below_drew1) | exact HB.out))) : w.heap.size ≤ gb278)); have n3_ := Aside0.mk ((by rw [hg]; exact (below_size (by repeat (first | (with_reducible first | exact HB.out | apply below_alloc | apply pw_below_drewN | apply below_drew1) | exact HB.out))) : w.heap.size ≤ gb278)); clear HB; have HB := n0_; have BK278 := n1_; have GW278 := n2_; have GE278 := n3_; clear n0_ n1_ n2_ n3_; clear hb hbox hg) | ((with_reducible refine gate_callee (f := 9) rfl ?_); refine goesL_ (some 13) rfl rfl Tryd.func9 (by kernel_rfl) rfl #[] rfl (by (try simp only [List.map_toArray, List.map_cons, List.map_nil]); first | done | rfl | (simp only [List.length_drop, List.length_take]; rfl)) ?_; (with_reducible refine (exerguelaw06_shown.calls k  t279 _ ?side1 A4.out).mono ?_); (case side1 => refine GL.below HG.out ?_; repeat (first | (with_reducible first | exact HB.out | apply below_alloc | apply pw_below_drewN | apply below_drew1 | refine below_set ?_ GE278.out) | exact HB.out)); rintro e w7 ⟨rfl, hb⟩; refine ⟨_, rfl, ?_⟩; have n0_ := Aside0.mk (blk_below (g := gb278) (o := .cells #[.bool a0_0, .slice A0_1 l0_1.length c0_1, .int .i64 a0_2] 24 (0, 0)) (by (with_reducible repeat (first | refine blk_drewN ?_ _ | refine blk_drew ?_ | refine blk_alloc ?_ _)); exact BK278.out) hb); have n1_ := Aside0.mk (below_step (by repeat (first | (with_reducible first | exact HB.out | apply below_alloc | apply pw_below_drewN | apply below_drew1 | refine below_set ?_ GE278.out) | exact HB.out)) hb); clear BK278; clear HB; have BK278 := n0_; have HB := n1_; clear n0_ n1_; (try clear hb); (try clear hb2); (try clear hk); (try clear hi)))
 (try simp only [Act.put, List.setIfInBounds_toArray, List.set_cons_zero, List.set_cons_succ])
 go_cut [25] (fun v25 wc => ∃ (kq : Nat) (x25_4 : Bool), v25 = .bool x25_4 ∧ Aside0 (exerguelaw06_RoundSig.j0 kq a2 t279 (wrap64 ((wrap64 (Int.tmod a1 60)) + 1)) x25_4 a0_0 l0_1 a0_2 = some r) ∧ Aside0 (kq ≤ k) ∧ Aside0 (wc.heap[gb278]? = some (.cells #[.bool a0_0, (.slice A0_1 l0_1.length c0_1), .int .i64 a0_2] 24 (0, 0))) ∧ Aside0 (Below w.heap.size w wc))
 case first =>
  have H := HC5.out
  clear HC5
  replace H := Option.bind_eq_some_iff.mp H
  obtain ⟨t280, A80, H⟩ := H
  replace H : (if t280 = true then ((exergueref06_Is.f a2).bind fun t281 => (exerguelaw06_RoundSig.j0 k a2 t279 (wrap64 ((wrap64 (Int.tmod a1 60)) + 1)) (!t281) a0_0 l0_1 a0_2)) else (exerguelaw06_RoundSig.j0 k a2 t279 (wrap64 ((wrap64 (Int.tmod a1 60)) + 1)) true a0_0 l0_1 a0_2)) = some r := H
  have A8 := Aside0.mk A80
  clear A80
  by_cases c9 : t280 = true
  ·subst c9
   have H1 : ((exergueref06_Is.f a2).bind fun t281 => (exerguelaw06_RoundSig.j0 k a2 t279 (wrap64 ((wrap64 (Int.tmod a1 60)) + 1)) (!t281) a0_0 l0_1 a0_2)) = some r := by rw [if_pos rfl] at H; exact H
   clear H
   have H := H1
   clear H1
   replace H := Option.bind_eq_some_iff.mp H
   obtain ⟨t281, A100, H⟩ := H
   replace H : (exerguelaw06_RoundSig.j0 k a2 t279 (wrap64 ((wrap64 (Int.tmod a1 60)) + 1)) (!t281) a0_0 l0_1 a0_2) = some r := H
   have A10 := Aside0.mk A100
   clear A100
   have H' := Aside0.mk H
   clear H
   have hcz11_0 : w7.cell? ⟨gb278, 0, none⟩ = some (.bool a0_0) := (blk_cell BK278.out 0).trans rfl
   have hcz11_1 : w7.cell? ⟨gb278, 1, none⟩ = some (.slice A0_1 l0_1.length c0_1) := (blk_cell BK278.out 1).trans rfl
   have hcz11_2 : w7.cell? ⟨gb278, 2, none⟩ = some (.int .i64 a0_2) := (blk_cell BK278.out 2).trans rfl
   have hfz11_0 := blk_frozen BK278.out 0
   have hfz11_1 := blk_frozen BK278.out 1
   have hfz11_2 := blk_frozen BK278.out 2
   go_wp2_with (first | ((with_reducible refine gate_callee (f := 17) rfl ?_); refine goesL_ (some 19) rfl rfl Tryd.func17 (by kernel_rfl) rfl #[.agg #[.bool a0_0, .slice A0_1 l0_1.length c0_1, .int .i64 a0_2]] rfl (by (try simp only [List.map_toArray, List.map_cons, List.map_nil]); first | done | rfl | (simp only [List.length_drop, List.length_take]; rfl)) ?_; (with_reducible refine (exergueref06_Near.calls k a0_0 _ _ l0_1 a0_2 true _ ?side1 ?side2 A8.out).mono ?_); (case side1 => repeat (first | exact (Kd.C_below HR0_1.out HB.out) | (with_reducible refine Kd.C_alloc ?_ _) | (with_reducible refine Kd.C_drewN ?_ _) | (with_reducible refine Kd.C_drew ?_))); (case side2 => exact HC0_1.out); rintro e w12 ⟨rfl, hb⟩; refine ⟨_, rfl, ?_⟩; have n0_ := Aside0.mk (blk_below (g := gb278) (o := .cells #[.bool a0_0, .slice A0_1 l0_1.length c0_1, .int .i64 a0_2] 24 (0, 0)) (by (with_reducible repeat (first | refine blk_drewN ?_ _ | refine blk_drew ?_ | refine blk_alloc ?_ _)); exact BK278.out) hb); have n1_ := Aside0.mk (below_step (by repeat (first | (with_reducible first | exact HB.out | apply below_alloc | apply pw_below_drewN | apply below_drew1 | refine below_set ?_ GE278.out) | exact HB.out)) hb); clear BK278; clear HB; have BK278 := n0_; have HB := n1_; clear n0_ n1_; (try clear hb); (try clear hb2); (try clear hk); (try clear hi)) | (go_at_call 11; (with_reducible refine (exergueref06_Is.calls a2 t281 _ A10.out).mono ?_); rintro e w' ⟨rfl, ⟨nd, rfl⟩⟩))
   go_meet
   case rel => exact ⟨_, (!t281), (by first | rfl | (simp; done) | (simp [*]; done)), H', ⟨by first | omega | exact Nat.le_refl _⟩, ⟨by (with_reducible repeat (first | refine blk_drewN ?_ _ | refine blk_drew ?_ | refine blk_alloc ?_ _)); exact BK278.out⟩, ⟨by repeat (first | (with_reducible first | exact HB.out | apply below_alloc | apply pw_below_drewN | apply below_drew1 | refine below_set ?_ GE278.out) | exact HB.out)⟩⟩
  ·replace c9 := Bool.eq_false_iff.mpr c9
   subst c9
   have H1 : (exerguelaw06_RoundSig.j0 k a2 t279 (wrap64 ((wrap64 (Int.tmod a1 60)) + 1)) true a0_0 l0_1 a0_2) = some r := by rw [if_neg (show ¬ (false = true) by decide)] at H; exact H
   clear H
   have H := H1
   clear H1
   have H' := Aside0.mk H
   clear H
   have hcz13_0 : w7.cell? ⟨gb278, 0, none⟩ = some (.bool a0_0) := (blk_cell BK278.out 0).trans rfl
   have hcz13_1 : w7.cell? ⟨gb278, 1, none⟩ = some (.slice A0_1 l0_1.length c0_1) := (blk_cell BK278.out 1).trans rfl
   have hcz13_2 : w7.cell? ⟨gb278, 2, none⟩ = some (.int .i64 a0_2) := (blk_cell BK278.out 2).trans rfl
   have hfz13_0 := blk_frozen BK278.out 0
   have hfz13_1 := blk_frozen BK278.out 1
   have hfz13_2 := blk_frozen BK278.out 2
   go_wp2_with (first | ((with_reducible refine gate_callee (f := 17) rfl ?_); refine goesL_ (some 19) rfl rfl Tryd.func17 (by kernel_rfl) rfl #[.agg #[.bool a0_0, .slice A0_1 l0_1.length c0_1, .int .i64 a0_2]] rfl (by (try simp only [List.map_toArray, List.map_cons, List.map_nil]); first | done | rfl | (simp only [List.length_drop, List.length_take]; rfl)) ?_; (with_reducible refine (exergueref06_Near.calls k a0_0 _ _ l0_1 a0_2 false _ ?side1 ?side2 A8.out).mono ?_); (case side1 => repeat (first | exact (Kd.C_below HR0_1.out HB.out) | (with_reducible refine Kd.C_alloc ?_ _) | (with_reducible refine Kd.C_drewN ?_ _) | (with_reducible refine Kd.C_drew ?_))); (case side2 => exact HC0_1.out); rintro e w14 ⟨rfl, hb⟩; refine ⟨_, rfl, ?_⟩; have n0_ := Aside0.mk (blk_below (g := gb278) (o := .cells #[.bool a0_0, .slice A0_1 l0_1.length c0_1, .int .i64 a0_2] 24 (0, 0)) (by (with_reducible repeat (first | refine blk_drewN ?_ _ | refine blk_drew ?_ | refine blk_alloc ?_ _)); exact BK278.out) hb); have n1_ := Aside0.mk (below_step (by repeat (first | (with_reducible first | exact HB.out | apply below_alloc | apply pw_below_drewN | apply below_drew1 | refine below_set ?_ GE278.out) | exact HB.out)) hb); clear BK278; clear HB; have BK278 := n0_; have HB := n1_; clear n0_ n1_; (try clear hb); (try clear hb2); (try clear hk); (try clear hi)))
   go_meet
   case rel => exact ⟨_, (true), (by first | rfl | (simp; done) | (simp [*]; done)), H', ⟨by first | omega | exact Nat.le_refl _⟩, ⟨by (with_reducible repeat (first | refine blk_drewN ?_ _ | refine blk_drew ?_ | refine blk_alloc ?_ _)); exact BK278.out⟩, ⟨by repeat (first | (with_reducible first | exact HB.out | apply below_alloc | apply pw_below_drewN | apply below_drew1 | refine below_set ?_ GE278.out) | exact HB.out)⟩⟩
 case rest =>
  clear HC5
  try clear c1
  try clear p2
  try clear p6
  try clear c7
  try clear c9
  try clear hcz11_0
  try clear hcz11_1
  try clear hcz11_2
  try clear hcz13_0
  try clear hcz13_1
  try clear hcz13_2
  try clear hfz11_0
  try clear hfz11_1
  try clear hfz11_2
  try clear hfz13_0
  try clear hfz13_1
  try clear hfz13_2
  obtain ⟨kq, x25_4, rfl, HA, HJ4, BK278, HB⟩ := hcut
  cases kq with
  | zero => exact absurd HA.out (by simp [exerguelaw06_RoundSig.j0])
  | succ kj4 =>
   have H := HA.out
   clear HA
   simp only [exerguelaw06_RoundSig.j0] at H
   by_cases c15 : x25_4 = true
   ·subst c15
    have H1 : (some t279) = some r := by rw [if_pos rfl] at H; exact H
    clear H
    have H := H1
    clear H1
    obtain rfl := Option.some.inj H
    go_wp2
    go_ret
    exact ⟨by first | rfl | (simp [errW_none, errW_some] <;> rfl) | (simp [*, errW_none, errW_some] <;> rfl), by repeat (first | (with_reducible first | exact HB.out | apply below_alloc | apply pw_below_drewN | apply below_drew1 | refine below_set ?_ GE278.out) | exact HB.out)⟩
   ·replace c15 := Bool.eq_false_iff.mpr c15
    subst c15
    have H1 : ((round_Sig.f kj4 a0_0 l0_1 a0_2 (wrap64 ((wrap64 (Int.tmod a1 60)) + 1)) a2).bind fun bt282 => ((exergueref05_Mag.f a0_0 l0_1 a0_2).bind fun t289 => ((round_To.f kj4 a0_0 l0_1 a0_2 (wrap64 ((wrap64 (t289 - (wrap64 ((wrap64 (Int.tmod a1 60)) + 1)))) + 1)) a2).bind fun bt290 => (if t279 = true then (if bt282.2.2.2 = 0 then (if bt290.2.2.2 = 0 then (if (bt282.2.1.length : Int) ≤ (wrap64 ((wrap64 (Int.tmod a1 60)) + 1)) then (if (l0_1.length : Int) > (wrap64 ((wrap64 (Int.tmod a1 60)) + 1)) then (if (l0_1.length : Int) = 0 then (some true) else ((exergueref05_Same.f kj4 bt282.1 bt282.2.1 bt282.2.2.1 bt290.1 bt290.2.1 bt290.2.2.1).bind fun t297 => (some t297))) else ((exergueref05_Same.f kj4 bt282.1 bt282.2.1 bt282.2.2.1 a0_0 l0_1 a0_2).bind fun t298 => (if t298 = true then (if (l0_1.length : Int) = 0 then (some true) else ((exergueref05_Same.f kj4 bt282.1 bt282.2.1 bt282.2.2.1 bt290.1 bt290.2.1 bt290.2.2.1).bind fun t299 => (some t299))) else (none)))) else (none)) else (none)) else (none)) else (none))))) = some r := by rw [if_neg (show ¬ (false = true) by decide)] at H; exact H
    clear H
    have H := H1
    clear H1
    replace H := Option.bind_eq_some_iff.mp H
    obtain ⟨⟨t282, t283, t286, t287⟩, A160, H⟩ := H
    replace H : ((exergueref05_Mag.f a0_0 l0_1 a0_2).bind fun t289 => ((round_To.f kj4 a0_0 l0_1 a0_2 (wrap64 ((wrap64 (t289 - (wrap64 ((wrap64 (Int.tmod a1 60)) + 1)))) + 1)) a2).bind fun bt290 => (if t279 = true then (if t287 = 0 then (if bt290.2.2.2 = 0 then (if (t283.length : Int) ≤ (wrap64 ((wrap64 (Int.tmod a1 60)) + 1)) then (if (l0_1.length : Int) > (wrap64 ((wrap64 (Int.tmod a1 60)) + 1)) then (if (l0_1.length : Int) = 0 then (some true) else ((exergueref05_Same.f kj4 t282 t283 t286 bt290.1 bt290.2.1 bt290.2.2.1).bind fun t297 => (some t297))) else ((exergueref05_Same.f kj4 t282 t283 t286 a0_0 l0_1 a0_2).bind fun t298 => (if t298 = true then (if (l0_1.length : Int) = 0 then (some true) else ((exergueref05_Same.f kj4 t282 t283 t286 bt290.1 bt290.2.1 bt290.2.2.1).bind fun t299 => (some t299))) else (none)))) else (none)) else (none)) else (none)) else (none)))) = some r := H
    have A16 := Aside0.mk A160
    clear A160
    replace H := Option.bind_eq_some_iff.mp H
    obtain ⟨t289, A170, H⟩ := H
    replace H : ((round_To.f kj4 a0_0 l0_1 a0_2 (wrap64 ((wrap64 (t289 - (wrap64 ((wrap64 (Int.tmod a1 60)) + 1)))) + 1)) a2).bind fun bt290 => (if t279 = true then (if t287 = 0 then (if bt290.2.2.2 = 0 then (if (t283.length : Int) ≤ (wrap64 ((wrap64 (Int.tmod a1 60)) + 1)) then (if (l0_1.length : Int) > (wrap64 ((wrap64 (Int.tmod a1 60)) + 1)) then (if (l0_1.length : Int) = 0 then (some true) else ((exergueref05_Same.f kj4 t282 t283 t286 bt290.1 bt290.2.1 bt290.2.2.1).bind fun t297 => (some t297))) else ((exergueref05_Same.f kj4 t282 t283 t286 a0_0 l0_1 a0_2).bind fun t298 => (if t298 = true then (if (l0_1.length : Int) = 0 then (some true) else ((exergueref05_Same.f kj4 t282 t283 t286 bt290.1 bt290.2.1 bt290.2.2.1).bind fun t299 => (some t299))) else (none)))) else (none)) else (none)) else (none)) else (none))) = some r := H
    have A17 := Aside0.mk A170
    clear A170
    replace H := Option.bind_eq_some_iff.mp H
    obtain ⟨⟨t290, t291, t294, t295⟩, A180, H⟩ := H
    replace H : (if t279 = true then (if t287 = 0 then (if t295 = 0 then (if (t283.length : Int) ≤ (wrap64 ((wrap64 (Int.tmod a1 60)) + 1)) then (if (l0_1.length : Int) > (wrap64 ((wrap64 (Int.tmod a1 60)) + 1)) then (if (l0_1.length : Int) = 0 then (some true) else ((exergueref05_Same.f kj4 t282 t283 t286 t290 t291 t294).bind fun t297 => (some t297))) else ((exergueref05_Same.f kj4 t282 t283 t286 a0_0 l0_1 a0_2).bind fun t298 => (if t298 = true then (if (l0_1.length : Int) = 0 then (some true) else ((exergueref05_Same.f kj4 t282 t283 t286 t290 t291 t294).bind fun t299 => (some t299))) else (none)))) else (none)) else (none)) else (none)) else (none)) = some r := H
    have A18 := Aside0.mk A180
    clear A180
    by_cases c19 : t279 = true
    ·subst c19
     have H1 : (if t287 = 0 then (if t295 = 0 then (if (t283.length : Int) ≤ (wrap64 ((wrap64 (Int.tmod a1 60)) + 1)) then (if (l0_1.length : Int) > (wrap64 ((wrap64 (Int.tmod a1 60)) + 1)) then (if (l0_1.length : Int) = 0 then (some true) else ((exergueref05_Same.f kj4 t282 t283 t286 t290 t291 t294).bind fun t297 => (some t297))) else ((exergueref05_Same.f kj4 t282 t283 t286 a0_0 l0_1 a0_2).bind fun t298 => (if t298 = true then (if (l0_1.length : Int) = 0 then (some true) else ((exergueref05_Same.f kj4 t282 t283 t286 t290 t291 t294).bind fun t299 => (some t299))) else (none)))) else (none)) else (none)) else (none)) = some r := by rw [if_pos rfl] at H; exact H
     clear H
     have H := H1
     clear H1
     by_cases c20 : t287 = 0
     ·rw [if_pos c20] at H
      have c20b0 : (t287 == 0) = true := beq_iff_eq.mpr c20
      have c20b1 : (t287 != 0) = false := bne_eq_false_iff_eq.mpr c20
      clear c20
      by_cases c21 : t295 = 0
      ·rw [if_pos c21] at H
       have c21b0 : (t295 == 0) = true := beq_iff_eq.mpr c21
       have c21b1 : (t295 != 0) = false := bne_eq_false_iff_eq.mpr c21
       clear c21
       by_cases c22 : (t283.length : Int) ≤ (wrap64 ((wrap64 (Int.tmod a1 60)) + 1))
       ·rw [if_pos c22] at H
        have c22b0 : decide ((t283.length : Int) ≤ (wrap64 ((wrap64 (Int.tmod a1 60)) + 1))) = true := decide_eq_true c22
        clear c22
        by_cases c23 : (l0_1.length : Int) > (wrap64 ((wrap64 (Int.tmod a1 60)) + 1))
        ·rw [if_pos c23] at H
         have c23b0 : decide ((wrap64 ((wrap64 (Int.tmod a1 60)) + 1)) < (l0_1.length : Int)) = true := decide_eq_true c23
         clear c23
         by_cases c24 : (l0_1.length : Int) = 0
         ·rw [if_pos c24] at H
          have c24b0 : ((l0_1.length : Int) == 0) = true := beq_iff_eq.mpr c24
          have c24b1 : ((l0_1.length : Int) != 0) = false := bne_eq_false_iff_eq.mpr c24
          clear c24
          obtain rfl := Option.some.inj H
          have hcz25_0 : wc.cell? ⟨gb278, 0, none⟩ = some (.bool a0_0) := (blk_cell BK278.out 0).trans rfl
          have hcz25_1 : wc.cell? ⟨gb278, 1, none⟩ = some (.slice A0_1 l0_1.length c0_1) := (blk_cell BK278.out 1).trans rfl
          have hcz25_2 : wc.cell? ⟨gb278, 2, none⟩ = some (.int .i64 a0_2) := (blk_cell BK278.out 2).trans rfl
          have hfz25_0 := blk_frozen BK278.out 0
          have hfz25_1 := blk_frozen BK278.out 1
          have hfz25_2 := blk_frozen BK278.out 2
          try go_wp2_with (first | ((with_reducible refine gate_callee (f := 18) rfl ?_); refine goesL_ (some 31) rfl rfl Tryd.func18 (by kernel_rfl) rfl #[.agg #[.bool a0_0, .slice A0_1 l0_1.length c0_1, .int .i64 a0_2], .int .i64 (wrap64 ((wrap64 (Int.tmod a1 60)) + 1)), .int .i64 a2] rfl (by (try simp only [List.map_toArray, List.map_cons, List.map_nil]); first | done | rfl | (simp only [List.length_drop, List.length_take]; rfl)) ?_; (with_reducible refine (round_Sig.calls kj4 a0_0 (fun k_ => k_ < w.heap.size) _ _ l0_1 a0_2 (wrap64 ((wrap64 (Int.tmod a1 60)) + 1)) a2 t282 t283 t286 t287 _ ?side2 ?side1 A16.out).mono ?_); (case side1 => exact Kd.V_mk HC0_1.out (Kd.F_below (Kd.C_F (Kd.heap_int .u8) HR0_1.out) (by repeat (first | (with_reducible first | exact HB.out | apply below_alloc | apply pw_below_drewN | apply below_drew1 | refine below_set ?_ GE278.out) | exact HB.out)))); (case side2 => refine GL.below HG.out ?_; repeat (first | (with_reducible first | exact HB.out | apply below_alloc | apply pw_below_drewN | apply below_drew1 | refine below_set ?_ GE278.out) | exact HB.out)); rintro e w26 ⟨v284, rfl, ho0, hb⟩; refine ⟨_, rfl, ?_⟩; have n0_ := Aside0.mk (Kd.V_lower (Kd.V_mono (ok' := fun k_ => k_ ≠ gb278) ho0 (fun k_ hk_ => Or.elim hk_ (fun hs_ => fun e_ => Nat.not_le.2 hs_ (by rw [e_]; exact GW278.out)) (fun hn_ => (Kd.freshB (g := gb278) (o := .cells #[.bool a0_0, .slice A0_1 l0_1.length c0_1, .int .i64 a0_2] 24 (0, 0)) (by (with_reducible repeat (first | refine blk_drewN ?_ _ | refine blk_drew ?_ | refine blk_alloc ?_ _)); exact BK278.out) k_ hn_)))) (below_size (by repeat (first | (with_reducible first | exact HB.out | apply below_alloc | apply pw_below_drewN | apply below_drew1 | refine below_set ?_ GE278.out) | exact HB.out)))); have n1_ := Aside0.mk (blk_below (g := gb278) (o := .cells #[.bool a0_0, .slice A0_1 l0_1.length c0_1, .int .i64 a0_2] 24 (0, 0)) (by (with_reducible repeat (first | refine blk_drewN ?_ _ | refine blk_drew ?_ | refine blk_alloc ?_ _)); exact BK278.out) hb); have n2_ := Aside0.mk (below_step (by repeat (first | (with_reducible first | exact HB.out | apply below_alloc | apply pw_below_drewN | apply below_drew1 | refine below_set ?_ GE278.out) | exact HB.out)) hb); clear BK278; clear HB; have HO285 := n0_; have BK278 := n1_; have HB := n2_; clear n0_ n1_ n2_; (try clear hb); (try clear hb2); (try clear hk); (try clear hi); (try clear ho0)) | ((with_reducible refine gate_dst (N := 9) rfl ?_); (try (refine gate_guard (by rfl) ?_; dsimp only)); refine box_event ?hg (N := 9) ?hd (cs := #[.bool false, .slice none 0 0, .int .i64 0]) (t := 24) ?hr ?_; (case hd => rfl); (case hg => rfl); (case hr => first | (go_simp; done) | (go_simp; rfl)); intro gb288 hg w27 hbox hb; have n0_ := Aside0.mk (Kd.V_below (Kd.V_elderB (by (with_reducible repeat (first | apply Kd.V_alloc | apply Kd.V_drewN | apply Kd.V_drew)); exact HO285.out) gb288 (Nat.le_of_eq hg.symm)) hb); have n1_ := Aside0.mk (blk_below (g := gb278) (o := .cells #[.bool a0_0, .slice A0_1 l0_1.length c0_1, .int .i64 a0_2] 24 (0, 0)) (by (with_reducible repeat (first | refine blk_drewN ?_ _ | refine blk_drew ?_ | refine blk_alloc ?_ _)); exact BK278.out) hb); have n2_ := Aside0.mk (below_step (by repeat (first | (with_reducible first | exact HB.out | apply below_alloc | apply pw_below_drewN | apply below_drew1 | refine below_set ?_ GE278.out) | exact HB.out)) hb); have n3_ := Aside0.mk (hbox); have n4_ := Aside0.mk ((by rw [hg]; exact (below_size (by repeat (first | (with_reducible first | exact HB.out | apply below_alloc | apply pw_below_drewN | apply below_drew1 | refine below_set ?_ GE278.out) | exact HB.out))) : w.heap.size ≤ gb288)); have n5_ := Aside0.mk ((by rw [hg]; exact (below_size (by repeat (first | (with_reducible first | exact HB.out | apply below_alloc | apply pw_below_drewN | apply below_drew1 | refine below_set ?_ GE278.out) | exact HB.out))) : w.heap.size ≤ gb288)); have n6_ := Aside0.mk ((by rw [hg]; exact Nat.ne_of_lt (blk_lt (g := gb278) (o := .cells #[.bool a0_0, .slice A0_1 l0_1.length c0_1, .int .i64 a0_2] 24 (0, 0)) (by (with_reducible repeat (first | refine blk_drewN ?_ _ | refine blk_drew ?_ | refine blk_alloc ?_ _)); exact BK278.out)) : gb278 ≠ gb288)); have n7_ := Aside0.mk ((by rw [hg]; exact Nat.ne_of_gt (blk_lt (g := gb278) (o := .cells #[.bool a0_0, .slice A0_1 l0_1.length c0_1, .int .i64 a0_2] 24 (0, 0)) (by (with_reducible repeat (first | refine blk_drewN ?_ _ | refine blk_drew ?_ | refine blk_alloc ?_ _)); exact BK278.out)) : gb288 ≠ gb278)); clear HO285; clear BK278; clear HB; have HO285 := n0_; have BK278 := n1_; have HB := n2_; have BK288 := n3_; have GW288 := n4_; have GE288 := n5_; have NB278_288 := n6_; have NB288_278 := n7_; clear n0_ n1_ n2_ n3_ n4_ n5_ n6_ n7_; clear hb hbox hg; have hnb28 := NB288_278.out; have hnc28 := NB278_288.out; have hcz29_0 : w27.cell? ⟨gb288, 0, none⟩ = some (.bool false) := (blk_cell BK288.out 0).trans rfl; have hcz29_1 : w27.cell? ⟨gb288, 1, none⟩ = some (.slice none 0 0) := (blk_cell BK288.out 1).trans rfl; have hcz29_2 : w27.cell? ⟨gb288, 2, none⟩ = some (.int .i64 0) := (blk_cell BK288.out 2).trans rfl; have hfz29_0 := blk_frozen BK288.out 0; have hfz29_1 := blk_frozen BK288.out 1; have hfz29_2 := blk_frozen BK288.out 2; obtain ⟨Ao30, co30, eo30⟩ := Kd.V_slice HO285.out; subst eo30))
          have n0_ : Aside0 (Kd.V (Kd.int .u8) 5 (((w27.setCell ⟨gb288, 0, none⟩ (.bool t282)).setCell ⟨gb288, 1, none⟩ (.slice Ao30 t283.length co30)).setCell ⟨gb288, 2, none⟩ (.int .i64 t286)) w.heap.size (fun k_ => k_ ≠ gb278 ∧ k_ ≠ gb288) (.slice Ao30 t283.length co30) t283) := ⟨by (with_reducible repeat (first | apply Kd.V_alloc | apply Kd.V_drewN | apply Kd.V_drew)); exact Kd.V_mono (Kd.V_far (p := ⟨gb288, 2, none⟩) (Kd.V_far (p := ⟨gb288, 1, none⟩) (Kd.V_far (p := ⟨gb288, 0, none⟩) (Kd.V_mono HO285.out (fun k_ hk => (⟨hk, hk.2⟩ : _ ∧ k_ ≠ gb288))) (fun _ hk => hk.2) (.bool t282)) (fun _ hk => hk.2) (.slice Ao30 t283.length co30)) (fun _ hk => hk.2) (.int .i64 t286)) (fun _ hk => ⟨hk.1.1, hk.1.2⟩)⟩
          have n1_ : Aside0 ((((w27.setCell ⟨gb288, 0, none⟩ (.bool t282)).setCell ⟨gb288, 1, none⟩ (.slice Ao30 t283.length co30)).setCell ⟨gb288, 2, none⟩ (.int .i64 t286)).heap[gb278]? = some (.cells #[.bool a0_0, .slice A0_1 l0_1.length c0_1, .int .i64 a0_2] 24 (0, 0))) := ⟨by (with_reducible repeat (first | refine blk_drewN ?_ _ | refine blk_drew ?_ | refine blk_alloc ?_ _)); refine blk_far ?_ NB278_288.out _; (with_reducible repeat (first | refine blk_drewN ?_ _ | refine blk_drew ?_ | refine blk_alloc ?_ _)); refine blk_far ?_ NB278_288.out _; (with_reducible repeat (first | refine blk_drewN ?_ _ | refine blk_drew ?_ | refine blk_alloc ?_ _)); refine blk_far ?_ NB278_288.out _; (with_reducible repeat (first | refine blk_drewN ?_ _ | refine blk_drew ?_ | refine blk_alloc ?_ _)); exact BK278.out⟩
          have n2_ : Aside0 ((((w27.setCell ⟨gb288, 0, none⟩ (.bool t282)).setCell ⟨gb288, 1, none⟩ (.slice Ao30 t283.length co30)).setCell ⟨gb288, 2, none⟩ (.int .i64 t286)).heap[gb288]? = some (.cells #[.bool t282, .slice Ao30 t283.length co30, .int .i64 t286] 24 (0, 0))) := ⟨by (with_reducible repeat (first | refine blk_drewN ?_ _ | refine blk_drew ?_ | refine blk_alloc ?_ _)); refine blk_put (cs := #[.bool t282, .slice Ao30 t283.length co30, .int .i64 0]) ?_ 2 _ rfl; (with_reducible repeat (first | refine blk_drewN ?_ _ | refine blk_drew ?_ | refine blk_alloc ?_ _)); refine blk_put (cs := #[.bool t282, .slice none 0 0, .int .i64 0]) ?_ 1 _ rfl; (with_reducible repeat (first | refine blk_drewN ?_ _ | refine blk_drew ?_ | refine blk_alloc ?_ _)); refine blk_put (cs := #[.bool false, .slice none 0 0, .int .i64 0]) ?_ 0 _ rfl; (with_reducible repeat (first | refine blk_drewN ?_ _ | refine blk_drew ?_ | refine blk_alloc ?_ _)); exact BK288.out⟩
          have n3_ : Aside0 (Below w.heap.size w (((w27.setCell ⟨gb288, 0, none⟩ (.bool t282)).setCell ⟨gb288, 1, none⟩ (.slice Ao30 t283.length co30)).setCell ⟨gb288, 2, none⟩ (.int .i64 t286))) := ⟨by repeat (first | (with_reducible first | exact HB.out | apply below_alloc | apply pw_below_drewN | apply below_drew1 | refine below_set ?_ GE278.out | refine below_set ?_ GE288.out) | exact HB.out)⟩
          (try clear HO285)
          (try clear BK278)
          (try clear BK288)
          (try clear HB)
          generalize (((w27.setCell ⟨gb288, 0, none⟩ (.bool t282)).setCell ⟨gb288, 1, none⟩ (.slice Ao30 t283.length co30)).setCell ⟨gb288, 2, none⟩ (.int .i64 t286)) = w31 at n0_ n1_ n2_ n3_ ⊢
          have HO285 := n0_
          have BK278 := n1_
          have BK288 := n2_
          have HB := n3_
          clear n0_ n1_ n2_ n3_
          have n0_ := Aside0.mk (Kd.V_drew HO285.out)
          have n1_ := Aside0.mk (blk_drew BK278.out)
          have n2_ := Aside0.mk (blk_drew BK288.out)
          have n3_ := Aside0.mk (below_drew1 HB.out)
          clear HO285
          clear BK278
          clear BK288
          clear HB
          have HO285 := n0_
          have BK278 := n1_
          have BK288 := n2_
          have HB := n3_
          clear n0_ n1_ n2_ n3_
          refine start_ (n := 14) (S := fun w' => w'.cell? ⟨gb278, 0, none⟩ = some (.bool a0_0) ∧ w'.cell? ⟨gb278, 1, none⟩ = some (.slice A0_1 l0_1.length c0_1) ∧ w'.cell? ⟨gb278, 2, none⟩ = some (.int .i64 a0_2)) (ds := []) #[false, false, false, false, false, false, false, false, false, false, false, false, false, false] (by kernel_rfl) rfl rfl ⟨(blk_cell BK278.out 0).trans rfl, (blk_cell BK278.out 1).trans rfl, (blk_cell BK278.out 2).trans rfl⟩ (fun hHeld => ?_); refine with_tabW exerguelaw06_RoundSig.tab6 exerguelaw06_RoundSig.bits6 (fun HT_ HW_ => ?_)
          generalize w31.drew = w32 at HO285 BK278 BK288 HB hHeld ⊢
          refine pure_ (i := 3) (N := some 38) (v := ?_) (a' := ?_) #[false, false, false, true, false, false, false, false, false, false, false, false, false, false] rfl rfl (any_of HT_.out (by kernel_rfl)) (fun _ _ _ h => h) (Or.inl ⟨by rfl, ?_⟩) ?_ ?_
          rotate_left
          ·intro w'
           go_simp
           with_reducible rfl
          rotate_left
          ·simp only [Act.put, List.setIfInBounds_toArray, List.set_cons_zero, List.set_cons_succ, i64_w, i32_w]
           rfl
          refine pure_ (i := 6) (N := some 41) (v := ?_) (a' := ?_) #[false, false, false, true, false, false, true, false, false, false, false, false, false, false] rfl rfl (any_of HT_.out (by kernel_rfl)) (fun _ _ _ h => h) (Or.inl ⟨by rfl, ?_⟩) ?_ ?_
          rotate_left
          ·intro w'
           go_simp
           with_reducible rfl
          rotate_left
          ·simp only [Act.put, List.setIfInBounds_toArray, List.set_cons_zero, List.set_cons_succ, i64_w, i32_w]
           rfl
          refine take_ (i := 0) (N := some 35) (v := ?_) (a' := ?_) #[true, false, false, true, false, false, true, false, false, false, false, false, false, false] rfl rfl (take_ofW HT_.out HW_.out (by kernel_rfl)) (fun _ _ _ h => h) (Or.inl ⟨by rfl, ?_⟩) hHeld ?_ ?_
          rotate_left
          ·rintro w' ⟨s0, s1, s2⟩
           go_simp
           with_reducible rfl
          rotate_left
          ·simp only [Act.put, List.setIfInBounds_toArray, List.set_cons_zero, List.set_cons_succ, i64_w, i32_w]
           rfl
          refine take_ (i := 1) (N := some 36) (v := ?_) (a' := ?_) #[true, true, false, true, false, false, true, false, false, false, false, false, false, false] rfl rfl (take_ofW HT_.out HW_.out (by kernel_rfl)) (fun _ _ _ h => h) (Or.inl ⟨by rfl, ?_⟩) hHeld ?_ ?_
          rotate_left
          ·rintro w' ⟨s0, s1, s2⟩
           go_simp
           with_reducible rfl
          rotate_left
          ·simp only [Act.put, List.setIfInBounds_toArray, List.set_cons_zero, List.set_cons_succ, i64_w, i32_w]
           rfl
          refine join_ (σ := Value × Nat) 2 #[true, true, true, true, true, true, true, true, true, true, true, true, false, false] (fun s_ => [(37, .int .i64 t289), (42, .tuple #[.agg #[.bool t290, s_.1, .int .i64 t294], .int .i64 t295]), (11, .pointer (some ⟨s_.2, 0, none⟩)), (39, .int .i64 (wrap64 (t289 - (wrap64 ((wrap64 (Int.tmod a1 60)) + 1))))), (40, .int .i64 (wrap64 ((wrap64 (t289 - (wrap64 ((wrap64 (Int.tmod a1 60)) + 1)))) + 1))), (34, .tuple #[.agg #[.bool t290, s_.1, .int .i64 t294], .int .i64 t295]), (43, .agg #[.bool t290, s_.1, .int .i64 t294]), (44, .int .i64 t295)]) (fun s_ w' => (w'.cell? ⟨gb278, 0, none⟩ = some (.bool a0_0) ∧ w'.cell? ⟨gb278, 1, none⟩ = some (.slice A0_1 l0_1.length c0_1) ∧ w'.cell? ⟨gb278, 2, none⟩ = some (.int .i64 a0_2)) ∧ (Kd.V (Kd.int .u8) 5 w' w.heap.size (fun k_ => k_ ≠ gb278 ∧ k_ ≠ gb288 ∧ k_ ≠ s_.2) (.slice Ao30 t283.length co30) t283) ∧ (Kd.V (Kd.int .u8) 5 w' w.heap.size (fun k_ => k_ ≠ gb278 ∧ k_ ≠ gb288 ∧ k_ ≠ s_.2) s_.1 t291) ∧ (w'.heap[gb278]? = some (.cells #[.bool a0_0, .slice A0_1 l0_1.length c0_1, .int .i64 a0_2] 24 (0, 0))) ∧ (w'.heap[gb288]? = some (.cells #[.bool t282, .slice Ao30 t283.length co30, .int .i64 t286] 24 (0, 0))) ∧ (w'.heap[s_.2]? = some (.cells #[.bool false, .slice none 0 0, .int .i64 0] 24 (0, 0))) ∧ (w.heap.size ≤ s_.2) ∧ (w.heap.size ≤ s_.2) ∧ (gb278 ≠ s_.2) ∧ (s_.2 ≠ gb278) ∧ (gb288 ≠ s_.2) ∧ (s_.2 ≠ gb288) ∧ (Below w.heap.size w w')) ?_ ?_
          rotate_left
          ·intro hCont
           refine two_ (i := 2) (j := 11) (Ni := some 37) (Nj := some 11) #[true, true, true, true, false, false, true, false, false, false, false, false, false, false] #[true, true, false, true, false, false, true, false, false, false, false, true, false, false] rfl rfl rfl rfl (two_of HT_.out (by kernel_rfl)) (by decide) (by decide) (fun K hK => ?_) (fun K hK => ?_)
           ·skip
            refine goes_ Tryd.func20 (by kernel_rfl) rfl #[.agg #[.bool a0_0, .slice A0_1 l0_1.length c0_1, .int .i64 a0_2]] (by rfl) rfl rfl (by (try simp only [List.map_toArray, List.map_cons, List.map_nil]); first | done | rfl | (simp only [List.length_drop, List.length_take]; rfl)) ?_
            with_reducible refine (exergueref05_Mag.calls a0_0 _ _ l0_1 a0_2 t289 _ ?side1 ?side2 A17.out).mono ?_
            (case side1 => repeat (first | exact (Kd.C_below HR0_1.out HB.out) | (with_reducible refine Kd.C_alloc ?_ _) | (with_reducible refine Kd.C_drewN ?_ _) | (with_reducible refine Kd.C_drew ?_)))
            (case side2 => exact HC0_1.out)
            rintro e w33 ⟨rfl, hb⟩
            refine ⟨_, rfl, ?_⟩
            have n0_ := Aside0.mk (Kd.V_below (by (with_reducible repeat (first | apply Kd.V_alloc | apply Kd.V_drewN | apply Kd.V_drew)); exact HO285.out) hb)
            have n1_ := Aside0.mk (blk_below (g := gb278) (o := .cells #[.bool a0_0, .slice A0_1 l0_1.length c0_1, .int .i64 a0_2] 24 (0, 0)) (by (with_reducible repeat (first | refine blk_drewN ?_ _ | refine blk_drew ?_ | refine blk_alloc ?_ _)); exact BK278.out) hb)
            have n2_ := Aside0.mk (blk_below (g := gb288) (o := .cells #[.bool t282, .slice Ao30 t283.length co30, .int .i64 t286] 24 (0, 0)) (by (with_reducible repeat (first | refine blk_drewN ?_ _ | refine blk_drew ?_ | refine blk_alloc ?_ _)); exact BK288.out) hb)
            have n3_ := Aside0.mk (below_step (by repeat (first | (with_reducible first | exact HB.out | apply below_alloc | apply pw_below_drewN | apply below_drew1 | refine below_set ?_ GE278.out | refine below_set ?_ GE288.out) | exact HB.out)) hb)
            clear HO285
            clear BK278
            clear BK288
            clear HB
            have HO285 := n0_
            have BK278 := n1_
            have BK288 := n2_
            have HB := n3_
            clear n0_ n1_ n2_ n3_
            (try clear hb)
            (try clear hb2)
            (try clear hk)
            (try clear hi)
            refine hK.out _ _ ⟨(blk_cell BK278.out 0).trans rfl, (blk_cell BK278.out 1).trans rfl, (blk_cell BK278.out 2).trans rfl⟩ (fun hHeld => ?_)
            clear hK K
            refine norm_ (a' := ?_) ?_ ?_
            rotate_left
            ·show Act.put _ (some 37) _ = _
             simp only [Act.put, List.setIfInBounds_toArray, List.set_cons_zero, List.set_cons_succ, i64_w, i32_w]
             rfl
            refine pure_ (i := 4) (N := some 39) (v := ?_) (a' := ?_) #[true, true, true, true, true, false, true, false, false, false, false, false, false, false] rfl rfl (any_of HT_.out (by kernel_rfl)) (fun _ _ _ h => h) (Or.inl ⟨by rfl, ?_⟩) ?_ ?_
            rotate_left
            ·intro w'
             go_simp
             with_reducible rfl
            rotate_left
            ·simp only [Act.put, List.setIfInBounds_toArray, List.set_cons_zero, List.set_cons_succ, i64_w, i32_w]
             rfl
            refine pure_ (i := 5) (N := some 40) (v := ?_) (a' := ?_) #[true, true, true, true, true, true, true, false, false, false, false, false, false, false] rfl rfl (any_of HT_.out (by kernel_rfl)) (fun _ _ _ h => h) (Or.inl ⟨by rfl, ?_⟩) ?_ ?_
            rotate_left
            ·intro w'
             go_simp
             with_reducible rfl
            rotate_left
            ·simp only [Act.put, List.setIfInBounds_toArray, List.set_cons_zero, List.set_cons_succ, i64_w, i32_w]
             rfl
            refine two_ (i := 7) (j := 11) (Ni := some 42) (Nj := some 11) #[true, true, true, true, true, true, true, true, false, false, false, false, false, false] #[true, true, true, true, true, true, true, false, false, false, false, true, false, false] rfl rfl rfl rfl (two_of HT_.out (by kernel_rfl)) (by decide) (by decide) (fun K hK => ?_) (fun K hK => ?_)
            ·skip
             refine goes_ Tryd.func19 (by kernel_rfl) rfl #[.agg #[.bool a0_0, .slice A0_1 l0_1.length c0_1, .int .i64 a0_2], .int .i64 (wrap64 ((wrap64 (t289 - (wrap64 ((wrap64 (Int.tmod a1 60)) + 1)))) + 1)), .int .i64 a2] (by rfl) rfl rfl (by (try simp only [List.map_toArray, List.map_cons, List.map_nil]); first | done | rfl | (simp only [List.length_drop, List.length_take]; rfl)) ?_
             with_reducible refine (round_To.calls kj4 a0_0 (fun k_ => k_ < w.heap.size) _ _ l0_1 a0_2 (wrap64 ((wrap64 (t289 - (wrap64 ((wrap64 (Int.tmod a1 60)) + 1)))) + 1)) a2 t290 t291 t294 t295 _ ?side2 ?side1 A18.out).mono ?_
             (case side1 => exact Kd.V_mk HC0_1.out (Kd.F_below (Kd.C_F (Kd.heap_int .u8) HR0_1.out) (by repeat (first | (with_reducible first | exact HB.out | apply below_alloc | apply pw_below_drewN | apply below_drew1 | refine below_set ?_ GE278.out | refine below_set ?_ GE288.out) | exact HB.out))))
             (case side2 => refine GL.below HG.out ?_; repeat (first | (with_reducible first | exact HB.out | apply below_alloc | apply pw_below_drewN | apply below_drew1 | refine below_set ?_ GE278.out | refine below_set ?_ GE288.out) | exact HB.out))
             rintro e w34 ⟨v292, rfl, ho0, hb⟩
             refine ⟨_, rfl, ?_⟩
             have n0_ := Aside0.mk (Kd.V_below (by (with_reducible repeat (first | apply Kd.V_alloc | apply Kd.V_drewN | apply Kd.V_drew)); exact HO285.out) hb)
             have n1_ := Aside0.mk (Kd.V_lower (Kd.V_mono (ok' := fun k_ => k_ ≠ gb278 ∧ k_ ≠ gb288) ho0 (fun k_ hk_ => ⟨Or.elim hk_ (fun hs_ => fun e_ => Nat.not_le.2 hs_ (by rw [e_]; exact GW278.out)) (fun hn_ => (Kd.freshB (g := gb278) (o := .cells #[.bool a0_0, .slice A0_1 l0_1.length c0_1, .int .i64 a0_2] 24 (0, 0)) (by (with_reducible repeat (first | refine blk_drewN ?_ _ | refine blk_drew ?_ | refine blk_alloc ?_ _)); exact BK278.out) k_ hn_)), Or.elim hk_ (fun hs_ => fun e_ => Nat.not_le.2 hs_ (by rw [e_]; exact GW288.out)) (fun hn_ => (Kd.freshB (g := gb288) (o := .cells #[.bool t282, .slice Ao30 t283.length co30, .int .i64 t286] 24 (0, 0)) (by (with_reducible repeat (first | refine blk_drewN ?_ _ | refine blk_drew ?_ | refine blk_alloc ?_ _)); exact BK288.out) k_ hn_))⟩)) (below_size (by repeat (first | (with_reducible first | exact HB.out | apply below_alloc | apply pw_below_drewN | apply below_drew1 | refine below_set ?_ GE278.out | refine below_set ?_ GE288.out) | exact HB.out))))
             have n2_ := Aside0.mk (blk_below (g := gb278) (o := .cells #[.bool a0_0, .slice A0_1 l0_1.length c0_1, .int .i64 a0_2] 24 (0, 0)) (by (with_reducible repeat (first | refine blk_drewN ?_ _ | refine blk_drew ?_ | refine blk_alloc ?_ _)); exact BK278.out) hb)
             have n3_ := Aside0.mk (blk_below (g := gb288) (o := .cells #[.bool t282, .slice Ao30 t283.length co30, .int .i64 t286] 24 (0, 0)) (by (with_reducible repeat (first | refine blk_drewN ?_ _ | refine blk_drew ?_ | refine blk_alloc ?_ _)); exact BK288.out) hb)
             have n4_ := Aside0.mk (below_step (by repeat (first | (with_reducible first | exact HB.out | apply below_alloc | apply pw_below_drewN | apply below_drew1 | refine below_set ?_ GE278.out | refine below_set ?_ GE288.out) | exact HB.out)) hb)
             clear HO285
             clear BK278
             clear BK288
             clear HB
             have HO285 := n0_
             have HO293 := n1_
             have BK278 := n2_
             have BK288 := n3_
             have HB := n4_
             clear n0_ n1_ n2_ n3_ n4_
             (try clear hb)
             (try clear hb2)
             (try clear hk)
             (try clear hi)
             (try clear ho0)
             refine hK.out _ _ ⟨(blk_cell BK278.out 0).trans rfl, (blk_cell BK278.out 1).trans rfl, (blk_cell BK278.out 2).trans rfl⟩ (fun hHeld => ?_)
             clear hK K
             refine norm_ (a' := ?_) ?_ ?_
             rotate_left
             ·show Act.put _ (some 42) _ = _
              simp only [Act.put, List.setIfInBounds_toArray, List.set_cons_zero, List.set_cons_succ, i64_w, i32_w]
              rfl
             refine pure_ (i := 8) (N := some 34) (v := ?_) (a' := ?_) #[true, true, true, true, true, true, true, true, true, false, false, false, false, false] rfl rfl (any_of HT_.out (by kernel_rfl)) (fun _ _ _ h => h) (Or.inl ⟨by rfl, ?_⟩) ?_ ?_
             rotate_left
             ·intro w'
              go_simp
              with_reducible rfl
             rotate_left
             ·simp only [Act.put, List.setIfInBounds_toArray, List.set_cons_zero, List.set_cons_succ, i64_w, i32_w]
              rfl
             refine pure_ (i := 9) (N := some 43) (v := ?_) (a' := ?_) #[true, true, true, true, true, true, true, true, true, true, false, false, false, false] rfl rfl (any_of HT_.out (by kernel_rfl)) (fun _ _ _ h => h) (Or.inl ⟨by rfl, ?_⟩) ?_ ?_
             rotate_left
             ·intro w'
              go_simp
              with_reducible rfl
             rotate_left
             ·simp only [Act.put, List.setIfInBounds_toArray, List.set_cons_zero, List.set_cons_succ, i64_w, i32_w]
              rfl
             refine pure_ (i := 10) (N := some 44) (v := ?_) (a' := ?_) #[true, true, true, true, true, true, true, true, true, true, true, false, false, false] rfl rfl (any_of HT_.out (by kernel_rfl)) (fun _ _ _ h => h) (Or.inl ⟨by rfl, ?_⟩) ?_ ?_
             rotate_left
             ·intro w'
              go_simp
              with_reducible rfl
             rotate_left
             ·simp only [Act.put, List.setIfInBounds_toArray, List.set_cons_zero, List.set_cons_succ, i64_w, i32_w]
              rfl
             refine one_ (i := 11) (N := some 11) #[true, true, true, true, true, true, true, true, true, true, true, true, false, false] rfl rfl (one_of HT_.out (by kernel_rfl)) (by decide) (fun K hK => ?_)
             refine box_step ?hg (N := 11) ?hd (cs := #[.bool false, .slice none 0 0, .int .i64 0]) (t := 24) ?hr ?_; (case hd => rfl); (case hg => rfl); (case hr => first | (go_simp; done) | (go_simp; rfl))
             intro gb296 hg w35 hbox hb
             have n0_ := Aside0.mk (Kd.V_below (Kd.V_elderB (by (with_reducible repeat (first | apply Kd.V_alloc | apply Kd.V_drewN | apply Kd.V_drew)); exact HO285.out) gb296 (Nat.le_of_eq hg.symm)) hb)
             have n1_ := Aside0.mk (Kd.V_below (Kd.V_elderB (by (with_reducible repeat (first | apply Kd.V_alloc | apply Kd.V_drewN | apply Kd.V_drew)); exact HO293.out) gb296 (Nat.le_of_eq hg.symm)) hb)
             have n2_ := Aside0.mk (blk_below (g := gb278) (o := .cells #[.bool a0_0, .slice A0_1 l0_1.length c0_1, .int .i64 a0_2] 24 (0, 0)) (by (with_reducible repeat (first | refine blk_drewN ?_ _ | refine blk_drew ?_ | refine blk_alloc ?_ _)); exact BK278.out) hb)
             have n3_ := Aside0.mk (blk_below (g := gb288) (o := .cells #[.bool t282, .slice Ao30 t283.length co30, .int .i64 t286] 24 (0, 0)) (by (with_reducible repeat (first | refine blk_drewN ?_ _ | refine blk_drew ?_ | refine blk_alloc ?_ _)); exact BK288.out) hb)
             have n4_ := Aside0.mk (below_step (by repeat (first | (with_reducible first | exact HB.out | apply below_alloc | apply pw_below_drewN | apply below_drew1 | refine below_set ?_ GE278.out | refine below_set ?_ GE288.out) | exact HB.out)) hb)
             have n5_ := Aside0.mk (hbox)
             have n6_ := Aside0.mk ((by rw [hg]; exact (below_size (by repeat (first | (with_reducible first | exact HB.out | apply below_alloc | apply pw_below_drewN | apply below_drew1 | refine below_set ?_ GE278.out | refine below_set ?_ GE288.out) | exact HB.out))) : w.heap.size ≤ gb296))
             have n7_ := Aside0.mk ((by rw [hg]; exact (below_size (by repeat (first | (with_reducible first | exact HB.out | apply below_alloc | apply pw_below_drewN | apply below_drew1 | refine below_set ?_ GE278.out | refine below_set ?_ GE288.out) | exact HB.out))) : w.heap.size ≤ gb296))
             have n8_ := Aside0.mk ((by rw [hg]; exact Nat.ne_of_lt (blk_lt (g := gb278) (o := .cells #[.bool a0_0, .slice A0_1 l0_1.length c0_1, .int .i64 a0_2] 24 (0, 0)) (by (with_reducible repeat (first | refine blk_drewN ?_ _ | refine blk_drew ?_ | refine blk_alloc ?_ _)); exact BK278.out)) : gb278 ≠ gb296))
             have n9_ := Aside0.mk ((by rw [hg]; exact Nat.ne_of_gt (blk_lt (g := gb278) (o := .cells #[.bool a0_0, .slice A0_1 l0_1.length c0_1, .int .i64 a0_2] 24 (0, 0)) (by (with_reducible repeat (first | refine blk_drewN ?_ _ | refine blk_drew ?_ | refine blk_alloc ?_ _)); exact BK278.out)) : gb296 ≠ gb278))
             have n10_ := Aside0.mk ((by rw [hg]; exact Nat.ne_of_lt (blk_lt (g := gb288) (o := .cells #[.bool t282, .slice Ao30 t283.length co30, .int .i64 t286] 24 (0, 0)) (by (with_reducible repeat (first | refine blk_drewN ?_ _ | refine blk_drew ?_ | refine blk_alloc ?_ _)); exact BK288.out)) : gb288 ≠ gb296))
             have n11_ := Aside0.mk ((by rw [hg]; exact Nat.ne_of_gt (blk_lt (g := gb288) (o := .cells #[.bool t282, .slice Ao30 t283.length co30, .int .i64 t286] 24 (0, 0)) (by (with_reducible repeat (first | refine blk_drewN ?_ _ | refine blk_drew ?_ | refine blk_alloc ?_ _)); exact BK288.out)) : gb296 ≠ gb288))
             clear HO285
             clear HO293
             clear BK278
             clear BK288
             clear HB
             have HO285 := n0_
             have HO293 := n1_
             have BK278 := n2_
             have BK288 := n3_
             have HB := n4_
             have BK296 := n5_
             have GW296 := n6_
             have GE296 := n7_
             have NB278_296 := n8_
             have NB296_278 := n9_
             have NB288_296 := n10_
             have NB296_288 := n11_
             clear n0_ n1_ n2_ n3_ n4_ n5_ n6_ n7_ n8_ n9_ n10_ n11_
             clear hb hbox hg
             refine hK.out _ _ ⟨(blk_cell BK278.out 0).trans rfl, (blk_cell BK278.out 1).trans rfl, (blk_cell BK278.out 2).trans rfl⟩ (fun hHeld => ?_)
             clear hK K
             refine norm_ (a' := ?_) ?_ ?_
             rotate_left
             ·show Act.put _ (some 11) _ = _
              simp only [Act.put, List.setIfInBounds_toArray, List.set_cons_zero, List.set_cons_succ, i64_w, i32_w]
              rfl
             exact norm_ (by simp only [putAll, Act.put, List.setIfInBounds_toArray, List.set_cons_zero, List.set_cons_succ]) (hCont (v292, gb296) _ ⟨hHeld, (by (with_reducible repeat (first | apply Kd.V_alloc | apply Kd.V_drewN | apply Kd.V_drew)); exact Kd.V_mono HO285.out (fun _ hk => ⟨hk.1.1, ⟨hk.1.2, hk.2⟩⟩)), (by (with_reducible repeat (first | apply Kd.V_alloc | apply Kd.V_drewN | apply Kd.V_drew)); exact Kd.V_mono HO293.out (fun _ hk => ⟨hk.1.1, ⟨hk.1.2, hk.2⟩⟩)), (by (with_reducible repeat (first | refine blk_drewN ?_ _ | refine blk_drew ?_ | refine blk_alloc ?_ _)); exact BK278.out), (by (with_reducible repeat (first | refine blk_drewN ?_ _ | refine blk_drew ?_ | refine blk_alloc ?_ _)); exact BK288.out), (by (with_reducible repeat (first | refine blk_drewN ?_ _ | refine blk_drew ?_ | refine blk_alloc ?_ _)); exact BK296.out), GW296.out, GE296.out, NB278_296.out, NB296_278.out, NB288_296.out, NB296_288.out, (by repeat (first | (with_reducible first | exact HB.out | apply below_alloc | apply pw_below_drewN | apply below_drew1 | refine below_set ?_ GE278.out | refine below_set ?_ GE288.out | refine below_set ?_ GE296.out) | exact HB.out))⟩)
            ·skip
             refine box_step ?hg (N := 11) ?hd (cs := #[.bool false, .slice none 0 0, .int .i64 0]) (t := 24) ?hr ?_; (case hd => rfl); (case hg => rfl); (case hr => first | (go_simp; done) | (go_simp; rfl))
             intro gb296 hg w34 hbox hb
             have n0_ := Aside0.mk (Kd.V_below (Kd.V_elderB (by (with_reducible repeat (first | apply Kd.V_alloc | apply Kd.V_drewN | apply Kd.V_drew)); exact HO285.out) gb296 (Nat.le_of_eq hg.symm)) hb)
             have n1_ := Aside0.mk (blk_below (g := gb278) (o := .cells #[.bool a0_0, .slice A0_1 l0_1.length c0_1, .int .i64 a0_2] 24 (0, 0)) (by (with_reducible repeat (first | refine blk_drewN ?_ _ | refine blk_drew ?_ | refine blk_alloc ?_ _)); exact BK278.out) hb)
             have n2_ := Aside0.mk (blk_below (g := gb288) (o := .cells #[.bool t282, .slice Ao30 t283.length co30, .int .i64 t286] 24 (0, 0)) (by (with_reducible repeat (first | refine blk_drewN ?_ _ | refine blk_drew ?_ | refine blk_alloc ?_ _)); exact BK288.out) hb)
             have n3_ := Aside0.mk (below_step (by repeat (first | (with_reducible first | exact HB.out | apply below_alloc | apply pw_below_drewN | apply below_drew1 | refine below_set ?_ GE278.out | refine below_set ?_ GE288.out) | exact HB.out)) hb)
             have n4_ := Aside0.mk (hbox)
             have n5_ := Aside0.mk ((by rw [hg]; exact (below_size (by repeat (first | (with_reducible first | exact HB.out | apply below_alloc | apply pw_below_drewN | apply below_drew1 | refine below_set ?_ GE278.out | refine below_set ?_ GE288.out) | exact HB.out))) : w.heap.size ≤ gb296))
             have n6_ := Aside0.mk ((by rw [hg]; exact (below_size (by repeat (first | (with_reducible first | exact HB.out | apply below_alloc | apply pw_below_drewN | apply below_drew1 | refine below_set ?_ GE278.out | refine below_set ?_ GE288.out) | exact HB.out))) : w.heap.size ≤ gb296))
             have n7_ := Aside0.mk ((by rw [hg]; exact Nat.ne_of_lt (blk_lt (g := gb278) (o := .cells #[.bool a0_0, .slice A0_1 l0_1.length c0_1, .int .i64 a0_2] 24 (0, 0)) (by (with_reducible repeat (first | refine blk_drewN ?_ _ | refine blk_drew ?_ | refine blk_alloc ?_ _)); exact BK278.out)) : gb278 ≠ gb296))
             have n8_ := Aside0.mk ((by rw [hg]; exact Nat.ne_of_gt (blk_lt (g := gb278) (o := .cells #[.bool a0_0, .slice A0_1 l0_1.length c0_1, .int .i64 a0_2] 24 (0, 0)) (by (with_reducible repeat (first | refine blk_drewN ?_ _ | refine blk_drew ?_ | refine blk_alloc ?_ _)); exact BK278.out)) : gb296 ≠ gb278))
             have n9_ := Aside0.mk ((by rw [hg]; exact Nat.ne_of_lt (blk_lt (g := gb288) (o := .cells #[.bool t282, .slice Ao30 t283.length co30, .int .i64 t286] 24 (0, 0)) (by (with_reducible repeat (first | refine blk_drewN ?_ _ | refine blk_drew ?_ | refine blk_alloc ?_ _)); exact BK288.out)) : gb288 ≠ gb296))
             have n10_ := Aside0.mk ((by rw [hg]; exact Nat.ne_of_gt (blk_lt (g := gb288) (o := .cells #[.bool t282, .slice Ao30 t283.length co30, .int .i64 t286] 24 (0, 0)) (by (with_reducible repeat (first | refine blk_drewN ?_ _ | refine blk_drew ?_ | refine blk_alloc ?_ _)); exact BK288.out)) : gb296 ≠ gb288))
             clear HO285
             clear BK278
             clear BK288
             clear HB
             have HO285 := n0_
             have BK278 := n1_
             have BK288 := n2_
             have HB := n3_
             have BK296 := n4_
             have GW296 := n5_
             have GE296 := n6_
             have NB278_296 := n7_
             have NB296_278 := n8_
             have NB288_296 := n9_
             have NB296_288 := n10_
             clear n0_ n1_ n2_ n3_ n4_ n5_ n6_ n7_ n8_ n9_ n10_
             clear hb hbox hg
             refine hK.out _ _ ⟨(blk_cell BK278.out 0).trans rfl, (blk_cell BK278.out 1).trans rfl, (blk_cell BK278.out 2).trans rfl⟩ (fun hHeld => ?_)
             clear hK K
             refine norm_ (a' := ?_) ?_ ?_
             rotate_left
             ·show Act.put _ (some 11) _ = _
              simp only [Act.put, List.setIfInBounds_toArray, List.set_cons_zero, List.set_cons_succ, i64_w, i32_w]
              rfl
             refine one_ (i := 7) (N := some 42) #[true, true, true, true, true, true, true, true, false, false, false, true, false, false] rfl rfl (one_of HT_.out (by kernel_rfl)) (by decide) (fun K hK => ?_)
             refine goes_ Tryd.func19 (by kernel_rfl) rfl #[.agg #[.bool a0_0, .slice A0_1 l0_1.length c0_1, .int .i64 a0_2], .int .i64 (wrap64 ((wrap64 (t289 - (wrap64 ((wrap64 (Int.tmod a1 60)) + 1)))) + 1)), .int .i64 a2] (by rfl) rfl rfl (by (try simp only [List.map_toArray, List.map_cons, List.map_nil]); first | done | rfl | (simp only [List.length_drop, List.length_take]; rfl)) ?_
             with_reducible refine (round_To.calls kj4 a0_0 (fun k_ => k_ < w.heap.size) _ _ l0_1 a0_2 (wrap64 ((wrap64 (t289 - (wrap64 ((wrap64 (Int.tmod a1 60)) + 1)))) + 1)) a2 t290 t291 t294 t295 _ ?side2 ?side1 A18.out).mono ?_
             (case side1 => exact Kd.V_mk HC0_1.out (Kd.F_below (Kd.C_F (Kd.heap_int .u8) HR0_1.out) (by repeat (first | (with_reducible first | exact HB.out | apply below_alloc | apply pw_below_drewN | apply below_drew1 | refine below_set ?_ GE278.out | refine below_set ?_ GE288.out | refine below_set ?_ GE296.out) | exact HB.out))))
             (case side2 => refine GL.below HG.out ?_; repeat (first | (with_reducible first | exact HB.out | apply below_alloc | apply pw_below_drewN | apply below_drew1 | refine below_set ?_ GE278.out | refine below_set ?_ GE288.out | refine below_set ?_ GE296.out) | exact HB.out))
             rintro e w35 ⟨v292, rfl, ho0, hb⟩
             refine ⟨_, rfl, ?_⟩
             have n0_ := Aside0.mk (Kd.V_below (by (with_reducible repeat (first | apply Kd.V_alloc | apply Kd.V_drewN | apply Kd.V_drew)); exact HO285.out) hb)
             have n1_ := Aside0.mk (Kd.V_lower (Kd.V_mono (ok' := fun k_ => k_ ≠ gb278 ∧ k_ ≠ gb288 ∧ k_ ≠ gb296) ho0 (fun k_ hk_ => ⟨Or.elim hk_ (fun hs_ => fun e_ => Nat.not_le.2 hs_ (by rw [e_]; exact GW278.out)) (fun hn_ => (Kd.freshB (g := gb278) (o := .cells #[.bool a0_0, .slice A0_1 l0_1.length c0_1, .int .i64 a0_2] 24 (0, 0)) (by (with_reducible repeat (first | refine blk_drewN ?_ _ | refine blk_drew ?_ | refine blk_alloc ?_ _)); exact BK278.out) k_ hn_)), Or.elim hk_ (fun hs_ => fun e_ => Nat.not_le.2 hs_ (by rw [e_]; exact GW288.out)) (fun hn_ => (Kd.freshB (g := gb288) (o := .cells #[.bool t282, .slice Ao30 t283.length co30, .int .i64 t286] 24 (0, 0)) (by (with_reducible repeat (first | refine blk_drewN ?_ _ | refine blk_drew ?_ | refine blk_alloc ?_ _)); exact BK288.out) k_ hn_)), Or.elim hk_ (fun hs_ => fun e_ => Nat.not_le.2 hs_ (by rw [e_]; exact GW296.out)) (fun hn_ => (Kd.freshB (g := gb296) (o := .cells #[.bool false, .slice none 0 0, .int .i64 0] 24 (0, 0)) (by (with_reducible repeat (first | refine blk_drewN ?_ _ | refine blk_drew ?_ | refine blk_alloc ?_ _)); exact BK296.out) k_ hn_))⟩)) (below_size (by repeat (first | (with_reducible first | exact HB.out | apply below_alloc | apply pw_below_drewN | apply below_drew1 | refine below_set ?_ GE278.out | refine below_set ?_ GE288.out | refine below_set ?_ GE296.out) | exact HB.out))))
             have n2_ := Aside0.mk (blk_below (g := gb278) (o := .cells #[.bool a0_0, .slice A0_1 l0_1.length c0_1, .int .i64 a0_2] 24 (0, 0)) (by (with_reducible repeat (first | refine blk_drewN ?_ _ | refine blk_drew ?_ | refine blk_alloc ?_ _)); exact BK278.out) hb)
             have n3_ := Aside0.mk (blk_below (g := gb288) (o := .cells #[.bool t282, .slice Ao30 t283.length co30, .int .i64 t286] 24 (0, 0)) (by (with_reducible repeat (first | refine blk_drewN ?_ _ | refine blk_drew ?_ | refine blk_alloc ?_ _)); exact BK288.out) hb)
             have n4_ := Aside0.mk (blk_below (g := gb296) (o := .cells #[.bool false, .slice none 0 0, .int .i64 0] 24 (0, 0)) (by (with_reducible repeat (first | refine blk_drewN ?_ _ | refine blk_drew ?_ | refine blk_alloc ?_ _)); exact BK296.out) hb)
             have n5_ := Aside0.mk (below_step (by repeat (first | (with_reducible first | exact HB.out | apply below_alloc | apply pw_below_drewN | apply below_drew1 | refine below_set ?_ GE278.out | refine below_set ?_ GE288.out | refine below_set ?_ GE296.out) | exact HB.out)) hb)
             clear HO285
             clear BK278
             clear BK288
             clear BK296
             clear HB
             have HO285 := n0_
             have HO293 := n1_
             have BK278 := n2_
             have BK288 := n3_
             have BK296 := n4_
             have HB := n5_
             clear n0_ n1_ n2_ n3_ n4_ n5_
             (try clear hb)
             (try clear hb2)
             (try clear hk)
             (try clear hi)
             (try clear ho0)
             refine hK.out _ _ ⟨(blk_cell BK278.out 0).trans rfl, (blk_cell BK278.out 1).trans rfl, (blk_cell BK278.out 2).trans rfl⟩ (fun hHeld => ?_)
             clear hK K
             refine norm_ (a' := ?_) ?_ ?_
             rotate_left
             ·show Act.put _ (some 42) _ = _
              simp only [Act.put, List.setIfInBounds_toArray, List.set_cons_zero, List.set_cons_succ, i64_w, i32_w]
              rfl
             refine pure_ (i := 8) (N := some 34) (v := ?_) (a' := ?_) #[true, true, true, true, true, true, true, true, true, false, false, true, false, false] rfl rfl (any_of HT_.out (by kernel_rfl)) (fun _ _ _ h => h) (Or.inl ⟨by rfl, ?_⟩) ?_ ?_
             rotate_left
             ·intro w'
              go_simp
              with_reducible rfl
             rotate_left
             ·simp only [Act.put, List.setIfInBounds_toArray, List.set_cons_zero, List.set_cons_succ, i64_w, i32_w]
              rfl
             refine pure_ (i := 9) (N := some 43) (v := ?_) (a' := ?_) #[true, true, true, true, true, true, true, true, true, true, false, true, false, false] rfl rfl (any_of HT_.out (by kernel_rfl)) (fun _ _ _ h => h) (Or.inl ⟨by rfl, ?_⟩) ?_ ?_
             rotate_left
             ·intro w'
              go_simp
              with_reducible rfl
             rotate_left
             ·simp only [Act.put, List.setIfInBounds_toArray, List.set_cons_zero, List.set_cons_succ, i64_w, i32_w]
              rfl
             refine pure_ (i := 10) (N := some 44) (v := ?_) (a' := ?_) #[true, true, true, true, true, true, true, true, true, true, true, true, false, false] rfl rfl (any_of HT_.out (by kernel_rfl)) (fun _ _ _ h => h) (Or.inl ⟨by rfl, ?_⟩) ?_ ?_
             rotate_left
             ·intro w'
              go_simp
              with_reducible rfl
             rotate_left
             ·simp only [Act.put, List.setIfInBounds_toArray, List.set_cons_zero, List.set_cons_succ, i64_w, i32_w]
              rfl
             exact norm_ (by simp only [putAll, Act.put, List.setIfInBounds_toArray, List.set_cons_zero, List.set_cons_succ]) (hCont (v292, gb296) _ ⟨hHeld, (by (with_reducible repeat (first | apply Kd.V_alloc | apply Kd.V_drewN | apply Kd.V_drew)); exact Kd.V_mono HO285.out (fun _ hk => ⟨hk.1.1, ⟨hk.1.2, hk.2⟩⟩)), (by (with_reducible repeat (first | apply Kd.V_alloc | apply Kd.V_drewN | apply Kd.V_drew)); exact HO293.out), (by (with_reducible repeat (first | refine blk_drewN ?_ _ | refine blk_drew ?_ | refine blk_alloc ?_ _)); exact BK278.out), (by (with_reducible repeat (first | refine blk_drewN ?_ _ | refine blk_drew ?_ | refine blk_alloc ?_ _)); exact BK288.out), (by (with_reducible repeat (first | refine blk_drewN ?_ _ | refine blk_drew ?_ | refine blk_alloc ?_ _)); exact BK296.out), GW296.out, GE296.out, NB278_296.out, NB296_278.out, NB288_296.out, NB296_288.out, (by repeat (first | (with_reducible first | exact HB.out | apply below_alloc | apply pw_below_drewN | apply below_drew1 | refine below_set ?_ GE278.out | refine below_set ?_ GE288.out | refine below_set ?_ GE296.out) | exact HB.out))⟩)
           ·skip
            refine box_step ?hg (N := 11) ?hd (cs := #[.bool false, .slice none 0 0, .int .i64 0]) (t := 24) ?hr ?_; (case hd => rfl); (case hg => rfl); (case hr => first | (go_simp; done) | (go_simp; rfl))
            intro gb296 hg w33 hbox hb
            have n0_ := Aside0.mk (Kd.V_below (Kd.V_elderB (by (with_reducible repeat (first | apply Kd.V_alloc | apply Kd.V_drewN | apply Kd.V_drew)); exact HO285.out) gb296 (Nat.le_of_eq hg.symm)) hb)
            have n1_ := Aside0.mk (blk_below (g := gb278) (o := .cells #[.bool a0_0, .slice A0_1 l0_1.length c0_1, .int .i64 a0_2] 24 (0, 0)) (by (with_reducible repeat (first | refine blk_drewN ?_ _ | refine blk_drew ?_ | refine blk_alloc ?_ _)); exact BK278.out) hb)
            have n2_ := Aside0.mk (blk_below (g := gb288) (o := .cells #[.bool t282, .slice Ao30 t283.length co30, .int .i64 t286] 24 (0, 0)) (by (with_reducible repeat (first | refine blk_drewN ?_ _ | refine blk_drew ?_ | refine blk_alloc ?_ _)); exact BK288.out) hb)
            have n3_ := Aside0.mk (below_step (by repeat (first | (with_reducible first | exact HB.out | apply below_alloc | apply pw_below_drewN | apply below_drew1 | refine below_set ?_ GE278.out | refine below_set ?_ GE288.out) | exact HB.out)) hb)
            have n4_ := Aside0.mk (hbox)
            have n5_ := Aside0.mk ((by rw [hg]; exact (below_size (by repeat (first | (with_reducible first | exact HB.out | apply below_alloc | apply pw_below_drewN | apply below_drew1 | refine below_set ?_ GE278.out | refine below_set ?_ GE288.out) | exact HB.out))) : w.heap.size ≤ gb296))
            have n6_ := Aside0.mk ((by rw [hg]; exact (below_size (by repeat (first | (with_reducible first | exact HB.out | apply below_alloc | apply pw_below_drewN | apply below_drew1 | refine below_set ?_ GE278.out | refine below_set ?_ GE288.out) | exact HB.out))) : w.heap.size ≤ gb296))
            have n7_ := Aside0.mk ((by rw [hg]; exact Nat.ne_of_lt (blk_lt (g := gb278) (o := .cells #[.bool a0_0, .slice A0_1 l0_1.length c0_1, .int .i64 a0_2] 24 (0, 0)) (by (with_reducible repeat (first | refine blk_drewN ?_ _ | refine blk_drew ?_ | refine blk_alloc ?_ _)); exact BK278.out)) : gb278 ≠ gb296))
            have n8_ := Aside0.mk ((by rw [hg]; exact Nat.ne_of_gt (blk_lt (g := gb278) (o := .cells #[.bool a0_0, .slice A0_1 l0_1.length c0_1, .int .i64 a0_2] 24 (0, 0)) (by (with_reducible repeat (first | refine blk_drewN ?_ _ | refine blk_drew ?_ | refine blk_alloc ?_ _)); exact BK278.out)) : gb296 ≠ gb278))
            have n9_ := Aside0.mk ((by rw [hg]; exact Nat.ne_of_lt (blk_lt (g := gb288) (o := .cells #[.bool t282, .slice Ao30 t283.length co30, .int .i64 t286] 24 (0, 0)) (by (with_reducible repeat (first | refine blk_drewN ?_ _ | refine blk_drew ?_ | refine blk_alloc ?_ _)); exact BK288.out)) : gb288 ≠ gb296))
            have n10_ := Aside0.mk ((by rw [hg]; exact Nat.ne_of_gt (blk_lt (g := gb288) (o := .cells #[.bool t282, .slice Ao30 t283.length co30, .int .i64 t286] 24 (0, 0)) (by (with_reducible repeat (first | refine blk_drewN ?_ _ | refine blk_drew ?_ | refine blk_alloc ?_ _)); exact BK288.out)) : gb296 ≠ gb288))
            clear HO285
            clear BK278
            clear BK288
            clear HB
            have HO285 := n0_
            have BK278 := n1_
            have BK288 := n2_
            have HB := n3_
            have BK296 := n4_
            have GW296 := n5_
            have GE296 := n6_
            have NB278_296 := n7_
            have NB296_278 := n8_
            have NB288_296 := n9_
            have NB296_288 := n10_
            clear n0_ n1_ n2_ n3_ n4_ n5_ n6_ n7_ n8_ n9_ n10_
            clear hb hbox hg
            refine hK.out _ _ ⟨(blk_cell BK278.out 0).trans rfl, (blk_cell BK278.out 1).trans rfl, (blk_cell BK278.out 2).trans rfl⟩ (fun hHeld => ?_)
            clear hK K
            refine norm_ (a' := ?_) ?_ ?_
            rotate_left
            ·show Act.put _ (some 11) _ = _
             simp only [Act.put, List.setIfInBounds_toArray, List.set_cons_zero, List.set_cons_succ, i64_w, i32_w]
             rfl
            refine one_ (i := 2) (N := some 37) #[true, true, true, true, false, false, true, false, false, false, false, true, false, false] rfl rfl (one_of HT_.out (by kernel_rfl)) (by decide) (fun K hK => ?_)
            refine goes_ Tryd.func20 (by kernel_rfl) rfl #[.agg #[.bool a0_0, .slice A0_1 l0_1.length c0_1, .int .i64 a0_2]] (by rfl) rfl rfl (by (try simp only [List.map_toArray, List.map_cons, List.map_nil]); first | done | rfl | (simp only [List.length_drop, List.length_take]; rfl)) ?_
            with_reducible refine (exergueref05_Mag.calls a0_0 _ _ l0_1 a0_2 t289 _ ?side1 ?side2 A17.out).mono ?_
            (case side1 => repeat (first | exact (Kd.C_below HR0_1.out HB.out) | (with_reducible refine Kd.C_alloc ?_ _) | (with_reducible refine Kd.C_drewN ?_ _) | (with_reducible refine Kd.C_drew ?_)))
            (case side2 => exact HC0_1.out)
            rintro e w34 ⟨rfl, hb⟩
            refine ⟨_, rfl, ?_⟩
            have n0_ := Aside0.mk (Kd.V_below (by (with_reducible repeat (first | apply Kd.V_alloc | apply Kd.V_drewN | apply Kd.V_drew)); exact HO285.out) hb)
            have n1_ := Aside0.mk (blk_below (g := gb278) (o := .cells #[.bool a0_0, .slice A0_1 l0_1.length c0_1, .int .i64 a0_2] 24 (0, 0)) (by (with_reducible repeat (first | refine blk_drewN ?_ _ | refine blk_drew ?_ | refine blk_alloc ?_ _)); exact BK278.out) hb)
            have n2_ := Aside0.mk (blk_below (g := gb288) (o := .cells #[.bool t282, .slice Ao30 t283.length co30, .int .i64 t286] 24 (0, 0)) (by (with_reducible repeat (first | refine blk_drewN ?_ _ | refine blk_drew ?_ | refine blk_alloc ?_ _)); exact BK288.out) hb)
            have n3_ := Aside0.mk (blk_below (g := gb296) (o := .cells #[.bool false, .slice none 0 0, .int .i64 0] 24 (0, 0)) (by (with_reducible repeat (first | refine blk_drewN ?_ _ | refine blk_drew ?_ | refine blk_alloc ?_ _)); exact BK296.out) hb)
            have n4_ := Aside0.mk (below_step (by repeat (first | (with_reducible first | exact HB.out | apply below_alloc | apply pw_below_drewN | apply below_drew1 | refine below_set ?_ GE278.out | refine below_set ?_ GE288.out | refine below_set ?_ GE296.out) | exact HB.out)) hb)
            clear HO285
            clear BK278
            clear BK288
            clear BK296
            clear HB
            have HO285 := n0_
            have BK278 := n1_
            have BK288 := n2_
            have BK296 := n3_
            have HB := n4_
            clear n0_ n1_ n2_ n3_ n4_
            (try clear hb)
            (try clear hb2)
            (try clear hk)
            (try clear hi)
            refine hK.out _ _ ⟨(blk_cell BK278.out 0).trans rfl, (blk_cell BK278.out 1).trans rfl, (blk_cell BK278.out 2).trans rfl⟩ (fun hHeld => ?_)
            clear hK K
            refine norm_ (a' := ?_) ?_ ?_
            rotate_left
            ·show Act.put _ (some 37) _ = _
             simp only [Act.put, List.setIfInBounds_toArray, List.set_cons_zero, List.set_cons_succ, i64_w, i32_w]
             rfl
            refine pure_ (i := 4) (N := some 39) (v := ?_) (a' := ?_) #[true, true, true, true, true, false, true, false, false, false, false, true, false, false] rfl rfl (any_of HT_.out (by kernel_rfl)) (fun _ _ _ h => h) (Or.inl ⟨by rfl, ?_⟩) ?_ ?_
            rotate_left
            ·intro w'
             go_simp
             with_reducible rfl
            rotate_left
            ·simp only [Act.put, List.setIfInBounds_toArray, List.set_cons_zero, List.set_cons_succ, i64_w, i32_w]
             rfl
            refine pure_ (i := 5) (N := some 40) (v := ?_) (a' := ?_) #[true, true, true, true, true, true, true, false, false, false, false, true, false, false] rfl rfl (any_of HT_.out (by kernel_rfl)) (fun _ _ _ h => h) (Or.inl ⟨by rfl, ?_⟩) ?_ ?_
            rotate_left
            ·intro w'
             go_simp
             with_reducible rfl
            rotate_left
            ·simp only [Act.put, List.setIfInBounds_toArray, List.set_cons_zero, List.set_cons_succ, i64_w, i32_w]
             rfl
            refine one_ (i := 7) (N := some 42) #[true, true, true, true, true, true, true, true, false, false, false, true, false, false] rfl rfl (one_of HT_.out (by kernel_rfl)) (by decide) (fun K hK => ?_)
            refine goes_ Tryd.func19 (by kernel_rfl) rfl #[.agg #[.bool a0_0, .slice A0_1 l0_1.length c0_1, .int .i64 a0_2], .int .i64 (wrap64 ((wrap64 (t289 - (wrap64 ((wrap64 (Int.tmod a1 60)) + 1)))) + 1)), .int .i64 a2] (by rfl) rfl rfl (by (try simp only [List.map_toArray, List.map_cons, List.map_nil]); first | done | rfl | (simp only [List.length_drop, List.length_take]; rfl)) ?_
            with_reducible refine (round_To.calls kj4 a0_0 (fun k_ => k_ < w.heap.size) _ _ l0_1 a0_2 (wrap64 ((wrap64 (t289 - (wrap64 ((wrap64 (Int.tmod a1 60)) + 1)))) + 1)) a2 t290 t291 t294 t295 _ ?side2 ?side1 A18.out).mono ?_
            (case side1 => exact Kd.V_mk HC0_1.out (Kd.F_below (Kd.C_F (Kd.heap_int .u8) HR0_1.out) (by repeat (first | (with_reducible first | exact HB.out | apply below_alloc | apply pw_below_drewN | apply below_drew1 | refine below_set ?_ GE278.out | refine below_set ?_ GE288.out | refine below_set ?_ GE296.out) | exact HB.out))))
            (case side2 => refine GL.below HG.out ?_; repeat (first | (with_reducible first | exact HB.out | apply below_alloc | apply pw_below_drewN | apply below_drew1 | refine below_set ?_ GE278.out | refine below_set ?_ GE288.out | refine below_set ?_ GE296.out) | exact HB.out))
            rintro e w35 ⟨v292, rfl, ho0, hb⟩
            refine ⟨_, rfl, ?_⟩
            have n0_ := Aside0.mk (Kd.V_below (by (with_reducible repeat (first | apply Kd.V_alloc | apply Kd.V_drewN | apply Kd.V_drew)); exact HO285.out) hb)
            have n1_ := Aside0.mk (Kd.V_lower (Kd.V_mono (ok' := fun k_ => k_ ≠ gb278 ∧ k_ ≠ gb288 ∧ k_ ≠ gb296) ho0 (fun k_ hk_ => ⟨Or.elim hk_ (fun hs_ => fun e_ => Nat.not_le.2 hs_ (by rw [e_]; exact GW278.out)) (fun hn_ => (Kd.freshB (g := gb278) (o := .cells #[.bool a0_0, .slice A0_1 l0_1.length c0_1, .int .i64 a0_2] 24 (0, 0)) (by (with_reducible repeat (first | refine blk_drewN ?_ _ | refine blk_drew ?_ | refine blk_alloc ?_ _)); exact BK278.out) k_ hn_)), Or.elim hk_ (fun hs_ => fun e_ => Nat.not_le.2 hs_ (by rw [e_]; exact GW288.out)) (fun hn_ => (Kd.freshB (g := gb288) (o := .cells #[.bool t282, .slice Ao30 t283.length co30, .int .i64 t286] 24 (0, 0)) (by (with_reducible repeat (first | refine blk_drewN ?_ _ | refine blk_drew ?_ | refine blk_alloc ?_ _)); exact BK288.out) k_ hn_)), Or.elim hk_ (fun hs_ => fun e_ => Nat.not_le.2 hs_ (by rw [e_]; exact GW296.out)) (fun hn_ => (Kd.freshB (g := gb296) (o := .cells #[.bool false, .slice none 0 0, .int .i64 0] 24 (0, 0)) (by (with_reducible repeat (first | refine blk_drewN ?_ _ | refine blk_drew ?_ | refine blk_alloc ?_ _)); exact BK296.out) k_ hn_))⟩)) (below_size (by repeat (first | (with_reducible first | exact HB.out | apply below_alloc | apply pw_below_drewN | apply below_drew1 | refine below_set ?_ GE278.out | refine below_set ?_ GE288.out | refine below_set ?_ GE296.out) | exact HB.out))))
            have n2_ := Aside0.mk (blk_below (g := gb278) (o := .cells #[.bool a0_0, .slice A0_1 l0_1.length c0_1, .int .i64 a0_2] 24 (0, 0)) (by (with_reducible repeat (first | refine blk_drewN ?_ _ | refine blk_drew ?_ | refine blk_alloc ?_ _)); exact BK278.out) hb)
            have n3_ := Aside0.mk (blk_below (g := gb288) (o := .cells #[.bool t282, .slice Ao30 t283.length co30, .int .i64 t286] 24 (0, 0)) (by (with_reducible repeat (first | refine blk_drewN ?_ _ | refine blk_drew ?_ | refine blk_alloc ?_ _)); exact BK288.out) hb)
            have n4_ := Aside0.mk (blk_below (g := gb296) (o := .cells #[.bool false, .slice none 0 0, .int .i64 0] 24 (0, 0)) (by (with_reducible repeat (first | refine blk_drewN ?_ _ | refine blk_drew ?_ | refine blk_alloc ?_ _)); exact BK296.out) hb)
            have n5_ := Aside0.mk (below_step (by repeat (first | (with_reducible first | exact HB.out | apply below_alloc | apply pw_below_drewN | apply below_drew1 | refine below_set ?_ GE278.out | refine below_set ?_ GE288.out | refine below_set ?_ GE296.out) | exact HB.out)) hb)
            clear HO285
            clear BK278
            clear BK288
            clear BK296
            clear HB
            have HO285 := n0_
            have HO293 := n1_
            have BK278 := n2_
            have BK288 := n3_
            have BK296 := n4_
            have HB := n5_
            clear n0_ n1_ n2_ n3_ n4_ n5_
            (try clear hb)
            (try clear hb2)
            (try clear hk)
            (try clear hi)
            (try clear ho0)
            refine hK.out _ _ ⟨(blk_cell BK278.out 0).trans rfl, (blk_cell BK278.out 1).trans rfl, (blk_cell BK278.out 2).trans rfl⟩ (fun hHeld => ?_)
            clear hK K
            refine norm_ (a' := ?_) ?_ ?_
            rotate_left
            ·show Act.put _ (some 42) _ = _
             simp only [Act.put, List.setIfInBounds_toArray, List.set_cons_zero, List.set_cons_succ, i64_w, i32_w]
             rfl
            refine pure_ (i := 8) (N := some 34) (v := ?_) (a' := ?_) #[true, true, true, true, true, true, true, true, true, false, false, true, false, false] rfl rfl (any_of HT_.out (by kernel_rfl)) (fun _ _ _ h => h) (Or.inl ⟨by rfl, ?_⟩) ?_ ?_
            rotate_left
            ·intro w'
             go_simp
             with_reducible rfl
            rotate_left
            ·simp only [Act.put, List.setIfInBounds_toArray, List.set_cons_zero, List.set_cons_succ, i64_w, i32_w]
             rfl
            refine pure_ (i := 9) (N := some 43) (v := ?_) (a' := ?_) #[true, true, true, true, true, true, true, true, true, true, false, true, false, false] rfl rfl (any_of HT_.out (by kernel_rfl)) (fun _ _ _ h => h) (Or.inl ⟨by rfl, ?_⟩) ?_ ?_
            rotate_left
            ·intro w'
             go_simp
             with_reducible rfl
            rotate_left
            ·simp only [Act.put, List.setIfInBounds_toArray, List.set_cons_zero, List.set_cons_succ, i64_w, i32_w]
             rfl
            refine pure_ (i := 10) (N := some 44) (v := ?_) (a' := ?_) #[true, true, true, true, true, true, true, true, true, true, true, true, false, false] rfl rfl (any_of HT_.out (by kernel_rfl)) (fun _ _ _ h => h) (Or.inl ⟨by rfl, ?_⟩) ?_ ?_
            rotate_left
            ·intro w'
             go_simp
             with_reducible rfl
            rotate_left
            ·simp only [Act.put, List.setIfInBounds_toArray, List.set_cons_zero, List.set_cons_succ, i64_w, i32_w]
             rfl
            exact norm_ (by simp only [putAll, Act.put, List.setIfInBounds_toArray, List.set_cons_zero, List.set_cons_succ]) (hCont (v292, gb296) _ ⟨hHeld, (by (with_reducible repeat (first | apply Kd.V_alloc | apply Kd.V_drewN | apply Kd.V_drew)); exact Kd.V_mono HO285.out (fun _ hk => ⟨hk.1.1, ⟨hk.1.2, hk.2⟩⟩)), (by (with_reducible repeat (first | apply Kd.V_alloc | apply Kd.V_drewN | apply Kd.V_drew)); exact HO293.out), (by (with_reducible repeat (first | refine blk_drewN ?_ _ | refine blk_drew ?_ | refine blk_alloc ?_ _)); exact BK278.out), (by (with_reducible repeat (first | refine blk_drewN ?_ _ | refine blk_drew ?_ | refine blk_alloc ?_ _)); exact BK288.out), (by (with_reducible repeat (first | refine blk_drewN ?_ _ | refine blk_drew ?_ | refine blk_alloc ?_ _)); exact BK296.out), GW296.out, GE296.out, NB278_296.out, NB296_278.out, NB288_296.out, NB296_288.out, (by repeat (first | (with_reducible first | exact HB.out | apply below_alloc | apply pw_below_drewN | apply below_drew1 | refine below_set ?_ GE278.out | refine below_set ?_ GE288.out | refine below_set ?_ GE296.out) | exact HB.out))⟩)
          rintro ⟨v292, gb296⟩ w36 ⟨hS_, h0_, h1_, h2_, h3_, h4_, h5_, h6_, h7_, h8_, h9_, h10_, h11_⟩
          have n0_ : Aside0 (Kd.V (Kd.int .u8) 5 w36 w.heap.size (fun k_ => k_ ≠ gb278 ∧ k_ ≠ gb288 ∧ k_ ≠ gb296) (.slice Ao30 t283.length co30) t283) := ⟨h0_⟩
          have n1_ : Aside0 (Kd.V (Kd.int .u8) 5 w36 w.heap.size (fun k_ => k_ ≠ gb278 ∧ k_ ≠ gb288 ∧ k_ ≠ gb296) v292 t291) := ⟨h1_⟩
          have n2_ : Aside0 (w36.heap[gb278]? = some (.cells #[.bool a0_0, .slice A0_1 l0_1.length c0_1, .int .i64 a0_2] 24 (0, 0))) := ⟨h2_⟩
          have n3_ : Aside0 (w36.heap[gb288]? = some (.cells #[.bool t282, .slice Ao30 t283.length co30, .int .i64 t286] 24 (0, 0))) := ⟨h3_⟩
          have n4_ : Aside0 (w36.heap[gb296]? = some (.cells #[.bool false, .slice none 0 0, .int .i64 0] 24 (0, 0))) := ⟨h4_⟩
          have n5_ : Aside0 (w.heap.size ≤ gb296) := ⟨h5_⟩
          have n6_ : Aside0 (w.heap.size ≤ gb296) := ⟨h6_⟩
          have n7_ : Aside0 (gb278 ≠ gb296) := ⟨h7_⟩
          have n8_ : Aside0 (gb296 ≠ gb278) := ⟨h8_⟩
          have n9_ : Aside0 (gb288 ≠ gb296) := ⟨h9_⟩
          have n10_ : Aside0 (gb296 ≠ gb288) := ⟨h10_⟩
          have n11_ : Aside0 (Below w.heap.size w w36) := ⟨h11_⟩
          clear HO285
          clear BK278
          clear BK288
          clear HB
          clear h0_ h1_ h2_ h3_ h4_ h5_ h6_ h7_ h8_ h9_ h10_ h11_
          have HO285 := n0_
          have HO293 := n1_
          have BK278 := n2_
          have BK288 := n3_
          have BK296 := n4_
          have GW296 := n5_
          have GE296 := n6_
          have NB278_296 := n7_
          have NB296_278 := n8_
          have NB288_296 := n9_
          have NB296_288 := n10_
          have HB := n11_
          clear n0_ n1_ n2_ n3_ n4_ n5_ n6_ n7_ n8_ n9_ n10_ n11_
          have hHeld : w36.cell? ⟨gb278, 0, none⟩ = some (.bool a0_0) ∧ w36.cell? ⟨gb278, 1, none⟩ = some (.slice A0_1 l0_1.length c0_1) ∧ w36.cell? ⟨gb278, 2, none⟩ = some (.int .i64 a0_2) := hS_
          obtain ⟨Ao38, co38, eo38⟩ := Kd.V_slice HO293.out
          (first | subst eo38 | (injection eo38 with f1_ f2_ f3_; have f4_ := f1_.symm; have f5_ := f3_.symm; clear f1_ f2_ f3_; subst f4_; subst f5_))
          refine norm_ (a' := ?_) ?_ ?_
          rotate_left
          ·simp only [putAll, Act.put, List.setIfInBounds_toArray, List.set_cons_zero, List.set_cons_succ]
           rfl
          refine one_ (i := 12) (N := none) #[true, true, true, true, true, true, true, true, true, true, true, true, true, false] rfl rfl (one_of HT_.out (by kernel_rfl)) (by decide) (fun K hK => ?_)
          have hs37 : w36.cell? ⟨gb296, 0, none⟩ = some (.bool false) := (blk_cell BK296.out 0).trans rfl
          have hfs37 := blk_frozen BK296.out 0
          have hns37_0 := NB278_296.out
          have hns37_1 := NB288_296.out
          have hms37_0 := NB296_278.out
          have hms37_1 := NB296_288.out
          have hs39 : w36.cell? ⟨gb296, 1, none⟩ = some (.slice none 0 0) := (blk_cell BK296.out 1).trans rfl
          have hfs39 := blk_frozen BK296.out 1
          have hns39_0 := NB278_296.out
          have hns39_1 := NB288_296.out
          have hms39_0 := NB296_278.out
          have hms39_1 := NB296_288.out
          have hs40 : w36.cell? ⟨gb296, 2, none⟩ = some (.int .i64 0) := (blk_cell BK296.out 2).trans rfl
          have hfs40 := blk_frozen BK296.out 2
          have hns40_0 := NB278_296.out
          have hns40_1 := NB288_296.out
          have hms40_0 := NB296_278.out
          have hms40_1 := NB296_288.out
          refine skip_ (w1 := ?_) (by rfl) rfl ?_ ?_
          rotate_left
          ·go_simp
           rfl
          refine hK.out _ _ ⟨((cell_far (p := ⟨gb296, _, none⟩) NB278_296.out _).trans (((cell_far (p := ⟨gb296, _, none⟩) NB278_296.out _).trans (((cell_far (p := ⟨gb296, _, none⟩) NB278_296.out _).trans (hHeld.1)))))), ((cell_far (p := ⟨gb296, _, none⟩) NB278_296.out _).trans (((cell_far (p := ⟨gb296, _, none⟩) NB278_296.out _).trans (((cell_far (p := ⟨gb296, _, none⟩) NB278_296.out _).trans (hHeld.2.1)))))), ((cell_far (p := ⟨gb296, _, none⟩) NB278_296.out _).trans (((cell_far (p := ⟨gb296, _, none⟩) NB278_296.out _).trans (((cell_far (p := ⟨gb296, _, none⟩) NB278_296.out _).trans (hHeld.2.2))))))⟩ (fun hHeld => ?_)
          clear hK K
          refine pure_ (i := 13) (N := some 12) (v := ?_) (a' := ?_) #[true, true, true, true, true, true, true, true, true, true, true, true, true, true] rfl rfl (any_of HT_.out (by kernel_rfl)) (fun _ _ _ h => h) (Or.inl ⟨by rfl, ?_⟩) ?_ ?_
          rotate_left
          ·intro w'
           go_simp
           with_reducible rfl
          rotate_left
          ·simp only [Act.put, List.setIfInBounds_toArray, List.set_cons_zero, List.set_cons_succ, i64_w, i32_w]
           rfl
          refine done_ (done_of HT_.out (by kernel_rfl)) ?_
          have hnb41 := NB288_296.out
          have hnc41 := NB296_288.out
          have hcz42_0 : w36.cell? ⟨gb288, 0, none⟩ = some (.bool t282) := (blk_cell BK288.out 0).trans rfl
          have hcz42_1 : w36.cell? ⟨gb288, 1, none⟩ = some (.slice Ao30 t283.length co30) := (blk_cell BK288.out 1).trans rfl
          have hcz42_2 : w36.cell? ⟨gb288, 2, none⟩ = some (.int .i64 t286) := (blk_cell BK288.out 2).trans rfl
          have hfz42_0 := blk_frozen BK288.out 0
          have hfz42_1 := blk_frozen BK288.out 1
          have hfz42_2 := blk_frozen BK288.out 2
          have hnb43 := NB278_296.out
          have hnc43 := NB296_278.out
          have hcz44_0 : w36.cell? ⟨gb278, 0, none⟩ = some (.bool a0_0) := (blk_cell BK278.out 0).trans rfl
          have hcz44_1 : w36.cell? ⟨gb278, 1, none⟩ = some (.slice A0_1 l0_1.length c0_1) := (blk_cell BK278.out 1).trans rfl
          have hcz44_2 : w36.cell? ⟨gb278, 2, none⟩ = some (.int .i64 a0_2) := (blk_cell BK278.out 2).trans rfl
          have hfz44_0 := blk_frozen BK278.out 0
          have hfz44_1 := blk_frozen BK278.out 1
          have hfz44_2 := blk_frozen BK278.out 2
          try go_wp2
          go_ret
          exact ⟨by first | rfl | (simp [errW_none, errW_some] <;> rfl) | (simp [*, errW_none, errW_some] <;> rfl), by repeat (first | (with_reducible first | exact HB.out | apply below_alloc | apply pw_below_drewN | apply below_drew1 | refine below_set ?_ GE278.out | refine below_set ?_ GE288.out | refine below_set ?_ GE296.out) | exact HB.out)⟩
         ·rw [if_neg c24] at H
          have c24b0 : ((l0_1.length : Int) == 0) = false := beq_eq_false_iff_ne.mpr c24
          have c24b1 : ((l0_1.length : Int) != 0) = true := bne_iff_ne.mpr c24
          have c24b2 : ¬ (l0_1 = []) := fun h_ => c24 (by rw [h_]; rfl)
          replace H := Option.bind_eq_some_iff.mp H
          obtain ⟨t297, A450, H⟩ := H
          replace H : (some t297) = some r := H
          have A45 := Aside0.mk A450
          clear A450
          obtain rfl := Option.some.inj H
          have hcz46_0 : wc.cell? ⟨gb278, 0, none⟩ = some (.bool a0_0) := (blk_cell BK278.out 0).trans rfl
          have hcz46_1 : wc.cell? ⟨gb278, 1, none⟩ = some (.slice A0_1 l0_1.length c0_1) := (blk_cell BK278.out 1).trans rfl
          have hcz46_2 : wc.cell? ⟨gb278, 2, none⟩ = some (.int .i64 a0_2) := (blk_cell BK278.out 2).trans rfl
          have hfz46_0 := blk_frozen BK278.out 0
          have hfz46_1 := blk_frozen BK278.out 1
          have hfz46_2 := blk_frozen BK278.out 2
          try go_wp2_with (first | ((with_reducible refine gate_callee (f := 18) rfl ?_); refine goesL_ (some 31) rfl rfl Tryd.func18 (by kernel_rfl) rfl #[.agg #[.bool a0_0, .slice A0_1 l0_1.length c0_1, .int .i64 a0_2], .int .i64 (wrap64 ((wrap64 (Int.tmod a1 60)) + 1)), .int .i64 a2] rfl (by (try simp only [List.map_toArray, List.map_cons, List.map_nil]); first | done | rfl | (simp only [List.length_drop, List.length_take]; rfl)) ?_; (with_reducible refine (round_Sig.calls kj4 a0_0 (fun k_ => k_ < w.heap.size) _ _ l0_1 a0_2 (wrap64 ((wrap64 (Int.tmod a1 60)) + 1)) a2 t282 t283 t286 t287 _ ?side2 ?side1 A16.out).mono ?_); (case side1 => exact Kd.V_mk HC0_1.out (Kd.F_below (Kd.C_F (Kd.heap_int .u8) HR0_1.out) (by repeat (first | (with_reducible first | exact HB.out | apply below_alloc | apply pw_below_drewN | apply below_drew1 | refine below_set ?_ GE278.out) | exact HB.out)))); (case side2 => refine GL.below HG.out ?_; repeat (first | (with_reducible first | exact HB.out | apply below_alloc | apply pw_below_drewN | apply below_drew1 | refine below_set ?_ GE278.out) | exact HB.out)); rintro e w47 ⟨v284, rfl, ho0, hb⟩; refine ⟨_, rfl, ?_⟩; have n0_ := Aside0.mk (Kd.V_lower (Kd.V_mono (ok' := fun k_ => k_ ≠ gb278) ho0 (fun k_ hk_ => Or.elim hk_ (fun hs_ => fun e_ => Nat.not_le.2 hs_ (by rw [e_]; exact GW278.out)) (fun hn_ => (Kd.freshB (g := gb278) (o := .cells #[.bool a0_0, .slice A0_1 l0_1.length c0_1, .int .i64 a0_2] 24 (0, 0)) (by (with_reducible repeat (first | refine blk_drewN ?_ _ | refine blk_drew ?_ | refine blk_alloc ?_ _)); exact BK278.out) k_ hn_)))) (below_size (by repeat (first | (with_reducible first | exact HB.out | apply below_alloc | apply pw_below_drewN | apply below_drew1 | refine below_set ?_ GE278.out) | exact HB.out)))); have n1_ := Aside0.mk (blk_below (g := gb278) (o := .cells #[.bool a0_0, .slice A0_1 l0_1.length c0_1, .int .i64 a0_2] 24 (0, 0)) (by (with_reducible repeat (first | refine blk_drewN ?_ _ | refine blk_drew ?_ | refine blk_alloc ?_ _)); exact BK278.out) hb); have n2_ := Aside0.mk (below_step (by repeat (first | (with_reducible first | exact HB.out | apply below_alloc | apply pw_below_drewN | apply below_drew1 | refine below_set ?_ GE278.out) | exact HB.out)) hb); clear BK278; clear HB; have HO285 := n0_; have BK278 := n1_; have HB := n2_; clear n0_ n1_ n2_; (try clear hb); (try clear hb2); (try clear hk); (try clear hi); (try clear ho0)) | ((with_reducible refine gate_dst (N := 9) rfl ?_); (try (refine gate_guard (by rfl) ?_; dsimp only)); refine box_event ?hg (N := 9) ?hd (cs := #[.bool false, .slice none 0 0, .int .i64 0]) (t := 24) ?hr ?_; (case hd => rfl); (case hg => rfl); (case hr => first | (go_simp; done) | (go_simp; rfl)); intro gb288 hg w48 hbox hb; have n0_ := Aside0.mk (Kd.V_below (Kd.V_elderB (by (with_reducible repeat (first | apply Kd.V_alloc | apply Kd.V_drewN | apply Kd.V_drew)); exact HO285.out) gb288 (Nat.le_of_eq hg.symm)) hb); have n1_ := Aside0.mk (blk_below (g := gb278) (o := .cells #[.bool a0_0, .slice A0_1 l0_1.length c0_1, .int .i64 a0_2] 24 (0, 0)) (by (with_reducible repeat (first | refine blk_drewN ?_ _ | refine blk_drew ?_ | refine blk_alloc ?_ _)); exact BK278.out) hb); have n2_ := Aside0.mk (below_step (by repeat (first | (with_reducible first | exact HB.out | apply below_alloc | apply pw_below_drewN | apply below_drew1 | refine below_set ?_ GE278.out) | exact HB.out)) hb); have n3_ := Aside0.mk (hbox); have n4_ := Aside0.mk ((by rw [hg]; exact (below_size (by repeat (first | (with_reducible first | exact HB.out | apply below_alloc | apply pw_below_drewN | apply below_drew1 | refine below_set ?_ GE278.out) | exact HB.out))) : w.heap.size ≤ gb288)); have n5_ := Aside0.mk ((by rw [hg]; exact (below_size (by repeat (first | (with_reducible first | exact HB.out | apply below_alloc | apply pw_below_drewN | apply below_drew1 | refine below_set ?_ GE278.out) | exact HB.out))) : w.heap.size ≤ gb288)); have n6_ := Aside0.mk ((by rw [hg]; exact Nat.ne_of_lt (blk_lt (g := gb278) (o := .cells #[.bool a0_0, .slice A0_1 l0_1.length c0_1, .int .i64 a0_2] 24 (0, 0)) (by (with_reducible repeat (first | refine blk_drewN ?_ _ | refine blk_drew ?_ | refine blk_alloc ?_ _)); exact BK278.out)) : gb278 ≠ gb288)); have n7_ := Aside0.mk ((by rw [hg]; exact Nat.ne_of_gt (blk_lt (g := gb278) (o := .cells #[.bool a0_0, .slice A0_1 l0_1.length c0_1, .int .i64 a0_2] 24 (0, 0)) (by (with_reducible repeat (first | refine blk_drewN ?_ _ | refine blk_drew ?_ | refine blk_alloc ?_ _)); exact BK278.out)) : gb288 ≠ gb278)); clear HO285; clear BK278; clear HB; have HO285 := n0_; have BK278 := n1_; have HB := n2_; have BK288 := n3_; have GW288 := n4_; have GE288 := n5_; have NB278_288 := n6_; have NB288_278 := n7_; clear n0_ n1_ n2_ n3_ n4_ n5_ n6_ n7_; clear hb hbox hg; have hnb49 := NB288_278.out; have hnc49 := NB278_288.out; have hcz50_0 : w48.cell? ⟨gb288, 0, none⟩ = some (.bool false) := (blk_cell BK288.out 0).trans rfl; have hcz50_1 : w48.cell? ⟨gb288, 1, none⟩ = some (.slice none 0 0) := (blk_cell BK288.out 1).trans rfl; have hcz50_2 : w48.cell? ⟨gb288, 2, none⟩ = some (.int .i64 0) := (blk_cell BK288.out 2).trans rfl; have hfz50_0 := blk_frozen BK288.out 0; have hfz50_1 := blk_frozen BK288.out 1; have hfz50_2 := blk_frozen BK288.out 2; obtain ⟨Ao51, co51, eo51⟩ := Kd.V_slice HO285.out; subst eo51))
          have n0_ : Aside0 (Kd.V (Kd.int .u8) 5 (((w48.setCell ⟨gb288, 0, none⟩ (.bool t282)).setCell ⟨gb288, 1, none⟩ (.slice Ao51 t283.length co51)).setCell ⟨gb288, 2, none⟩ (.int .i64 t286)) w.heap.size (fun k_ => k_ ≠ gb278 ∧ k_ ≠ gb288) (.slice Ao51 t283.length co51) t283) := ⟨by (with_reducible repeat (first | apply Kd.V_alloc | apply Kd.V_drewN | apply Kd.V_drew)); exact Kd.V_mono (Kd.V_far (p := ⟨gb288, 2, none⟩) (Kd.V_far (p := ⟨gb288, 1, none⟩) (Kd.V_far (p := ⟨gb288, 0, none⟩) (Kd.V_mono HO285.out (fun k_ hk => (⟨hk, hk.2⟩ : _ ∧ k_ ≠ gb288))) (fun _ hk => hk.2) (.bool t282)) (fun _ hk => hk.2) (.slice Ao51 t283.length co51)) (fun _ hk => hk.2) (.int .i64 t286)) (fun _ hk => ⟨hk.1.1, hk.1.2⟩)⟩
          have n1_ : Aside0 ((((w48.setCell ⟨gb288, 0, none⟩ (.bool t282)).setCell ⟨gb288, 1, none⟩ (.slice Ao51 t283.length co51)).setCell ⟨gb288, 2, none⟩ (.int .i64 t286)).heap[gb278]? = some (.cells #[.bool a0_0, .slice A0_1 l0_1.length c0_1, .int .i64 a0_2] 24 (0, 0))) := ⟨by (with_reducible repeat (first | refine blk_drewN ?_ _ | refine blk_drew ?_ | refine blk_alloc ?_ _)); refine blk_far ?_ NB278_288.out _; (with_reducible repeat (first | refine blk_drewN ?_ _ | refine blk_drew ?_ | refine blk_alloc ?_ _)); refine blk_far ?_ NB278_288.out _; (with_reducible repeat (first | refine blk_drewN ?_ _ | refine blk_drew ?_ | refine blk_alloc ?_ _)); refine blk_far ?_ NB278_288.out _; (with_reducible repeat (first | refine blk_drewN ?_ _ | refine blk_drew ?_ | refine blk_alloc ?_ _)); exact BK278.out⟩
          have n2_ : Aside0 ((((w48.setCell ⟨gb288, 0, none⟩ (.bool t282)).setCell ⟨gb288, 1, none⟩ (.slice Ao51 t283.length co51)).setCell ⟨gb288, 2, none⟩ (.int .i64 t286)).heap[gb288]? = some (.cells #[.bool t282, .slice Ao51 t283.length co51, .int .i64 t286] 24 (0, 0))) := ⟨by (with_reducible repeat (first | refine blk_drewN ?_ _ | refine blk_drew ?_ | refine blk_alloc ?_ _)); refine blk_put (cs := #[.bool t282, .slice Ao51 t283.length co51, .int .i64 0]) ?_ 2 _ rfl; (with_reducible repeat (first | refine blk_drewN ?_ _ | refine blk_drew ?_ | refine blk_alloc ?_ _)); refine blk_put (cs := #[.bool t282, .slice none 0 0, .int .i64 0]) ?_ 1 _ rfl; (with_reducible repeat (first | refine blk_drewN ?_ _ | refine blk_drew ?_ | refine blk_alloc ?_ _)); refine blk_put (cs := #[.bool false, .slice none 0 0, .int .i64 0]) ?_ 0 _ rfl; (with_reducible repeat (first | refine blk_drewN ?_ _ | refine blk_drew ?_ | refine blk_alloc ?_ _)); exact BK288.out⟩
          have n3_ : Aside0 (Below w.heap.size w (((w48.setCell ⟨gb288, 0, none⟩ (.bool t282)).setCell ⟨gb288, 1, none⟩ (.slice Ao51 t283.length co51)).setCell ⟨gb288, 2, none⟩ (.int .i64 t286))) := ⟨by repeat (first | (with_reducible first | exact HB.out | apply below_alloc | apply pw_below_drewN | apply below_drew1 | refine below_set ?_ GE278.out | refine below_set ?_ GE288.out) | exact HB.out)⟩
          (try clear HO285)
          (try clear BK278)
          (try clear BK288)
          (try clear HB)
          generalize (((w48.setCell ⟨gb288, 0, none⟩ (.bool t282)).setCell ⟨gb288, 1, none⟩ (.slice Ao51 t283.length co51)).setCell ⟨gb288, 2, none⟩ (.int .i64 t286)) = w52 at n0_ n1_ n2_ n3_ ⊢
          have HO285 := n0_
          have BK278 := n1_
          have BK288 := n2_
          have HB := n3_
          clear n0_ n1_ n2_ n3_
          have n0_ := Aside0.mk (Kd.V_drew HO285.out)
          have n1_ := Aside0.mk (blk_drew BK278.out)
          have n2_ := Aside0.mk (blk_drew BK288.out)
          have n3_ := Aside0.mk (below_drew1 HB.out)
          clear HO285
          clear BK278
          clear BK288
          clear HB
          have HO285 := n0_
          have BK278 := n1_
          have BK288 := n2_
          have HB := n3_
          clear n0_ n1_ n2_ n3_
          refine start_ (n := 14) (S := fun w' => w'.cell? ⟨gb278, 0, none⟩ = some (.bool a0_0) ∧ w'.cell? ⟨gb278, 1, none⟩ = some (.slice A0_1 l0_1.length c0_1) ∧ w'.cell? ⟨gb278, 2, none⟩ = some (.int .i64 a0_2)) (ds := []) #[false, false, false, false, false, false, false, false, false, false, false, false, false, false] (by kernel_rfl) rfl rfl ⟨(blk_cell BK278.out 0).trans rfl, (blk_cell BK278.out 1).trans rfl, (blk_cell BK278.out 2).trans rfl⟩ (fun hHeld => ?_); refine with_tabW exerguelaw06_RoundSig.tab6 exerguelaw06_RoundSig.bits6 (fun HT_ HW_ => ?_)
          generalize w52.drew = w53 at HO285 BK278 BK288 HB hHeld ⊢
          refine pure_ (i := 3) (N := some 38) (v := ?_) (a' := ?_) #[false, false, false, true, false, false, false, false, false, false, false, false, false, false] rfl rfl (any_of HT_.out (by kernel_rfl)) (fun _ _ _ h => h) (Or.inl ⟨by rfl, ?_⟩) ?_ ?_
          rotate_left
          ·intro w'
           go_simp
           with_reducible rfl
          rotate_left
          ·simp only [Act.put, List.setIfInBounds_toArray, List.set_cons_zero, List.set_cons_succ, i64_w, i32_w]
           rfl
          refine pure_ (i := 6) (N := some 41) (v := ?_) (a' := ?_) #[false, false, false, true, false, false, true, false, false, false, false, false, false, false] rfl rfl (any_of HT_.out (by kernel_rfl)) (fun _ _ _ h => h) (Or.inl ⟨by rfl, ?_⟩) ?_ ?_
          rotate_left
          ·intro w'
           go_simp
           with_reducible rfl
          rotate_left
          ·simp only [Act.put, List.setIfInBounds_toArray, List.set_cons_zero, List.set_cons_succ, i64_w, i32_w]
           rfl
          refine take_ (i := 0) (N := some 35) (v := ?_) (a' := ?_) #[true, false, false, true, false, false, true, false, false, false, false, false, false, false] rfl rfl (take_ofW HT_.out HW_.out (by kernel_rfl)) (fun _ _ _ h => h) (Or.inl ⟨by rfl, ?_⟩) hHeld ?_ ?_
          rotate_left
          ·rintro w' ⟨s0, s1, s2⟩
           go_simp
           with_reducible rfl
          rotate_left
          ·simp only [Act.put, List.setIfInBounds_toArray, List.set_cons_zero, List.set_cons_succ, i64_w, i32_w]
           rfl
          refine take_ (i := 1) (N := some 36) (v := ?_) (a' := ?_) #[true, true, false, true, false, false, true, false, false, false, false, false, false, false] rfl rfl (take_ofW HT_.out HW_.out (by kernel_rfl)) (fun _ _ _ h => h) (Or.inl ⟨by rfl, ?_⟩) hHeld ?_ ?_
          rotate_left
          ·rintro w' ⟨s0, s1, s2⟩
           go_simp
           with_reducible rfl
          rotate_left
          ·simp only [Act.put, List.setIfInBounds_toArray, List.set_cons_zero, List.set_cons_succ, i64_w, i32_w]
           rfl
          refine join_ (σ := Value × Nat) 2 #[true, true, true, true, true, true, true, true, true, true, true, true, false, false] (fun s_ => [(37, .int .i64 t289), (42, .tuple #[.agg #[.bool t290, s_.1, .int .i64 t294], .int .i64 t295]), (11, .pointer (some ⟨s_.2, 0, none⟩)), (39, .int .i64 (wrap64 (t289 - (wrap64 ((wrap64 (Int.tmod a1 60)) + 1))))), (40, .int .i64 (wrap64 ((wrap64 (t289 - (wrap64 ((wrap64 (Int.tmod a1 60)) + 1)))) + 1))), (34, .tuple #[.agg #[.bool t290, s_.1, .int .i64 t294], .int .i64 t295]), (43, .agg #[.bool t290, s_.1, .int .i64 t294]), (44, .int .i64 t295)]) (fun s_ w' => (w'.cell? ⟨gb278, 0, none⟩ = some (.bool a0_0) ∧ w'.cell? ⟨gb278, 1, none⟩ = some (.slice A0_1 l0_1.length c0_1) ∧ w'.cell? ⟨gb278, 2, none⟩ = some (.int .i64 a0_2)) ∧ (Kd.V (Kd.int .u8) 5 w' w.heap.size (fun k_ => k_ ≠ gb278 ∧ k_ ≠ gb288 ∧ k_ ≠ s_.2) (.slice Ao51 t283.length co51) t283) ∧ (Kd.V (Kd.int .u8) 5 w' w.heap.size (fun k_ => k_ ≠ gb278 ∧ k_ ≠ gb288 ∧ k_ ≠ s_.2) s_.1 t291) ∧ (w'.heap[gb278]? = some (.cells #[.bool a0_0, .slice A0_1 l0_1.length c0_1, .int .i64 a0_2] 24 (0, 0))) ∧ (w'.heap[gb288]? = some (.cells #[.bool t282, .slice Ao51 t283.length co51, .int .i64 t286] 24 (0, 0))) ∧ (w'.heap[s_.2]? = some (.cells #[.bool false, .slice none 0 0, .int .i64 0] 24 (0, 0))) ∧ (w.heap.size ≤ s_.2) ∧ (w.heap.size ≤ s_.2) ∧ (gb278 ≠ s_.2) ∧ (s_.2 ≠ gb278) ∧ (gb288 ≠ s_.2) ∧ (s_.2 ≠ gb288) ∧ (Below w.heap.size w w')) ?_ ?_
          rotate_left
          ·intro hCont
           refine two_ (i := 2) (j := 11) (Ni := some 37) (Nj := some 11) #[true, true, true, true, false, false, true, false, false, false, false, false, false, false] #[true, true, false, true, false, false, true, false, false, false, false, true, false, false] rfl rfl rfl rfl (two_of HT_.out (by kernel_rfl)) (by decide) (by decide) (fun K hK => ?_) (fun K hK => ?_)
           ·skip
            refine goes_ Tryd.func20 (by kernel_rfl) rfl #[.agg #[.bool a0_0, .slice A0_1 l0_1.length c0_1, .int .i64 a0_2]] (by rfl) rfl rfl (by (try simp only [List.map_toArray, List.map_cons, List.map_nil]); first | done | rfl | (simp only [List.length_drop, List.length_take]; rfl)) ?_
            with_reducible refine (exergueref05_Mag.calls a0_0 _ _ l0_1 a0_2 t289 _ ?side1 ?side2 A17.out).mono ?_
            (case side1 => repeat (first | exact (Kd.C_below HR0_1.out HB.out) | (with_reducible refine Kd.C_alloc ?_ _) | (with_reducible refine Kd.C_drewN ?_ _) | (with_reducible refine Kd.C_drew ?_)))
            (case side2 => exact HC0_1.out)
            rintro e w54 ⟨rfl, hb⟩
            refine ⟨_, rfl, ?_⟩
            have n0_ := Aside0.mk (Kd.V_below (by (with_reducible repeat (first | apply Kd.V_alloc | apply Kd.V_drewN | apply Kd.V_drew)); exact HO285.out) hb)
            have n1_ := Aside0.mk (blk_below (g := gb278) (o := .cells #[.bool a0_0, .slice A0_1 l0_1.length c0_1, .int .i64 a0_2] 24 (0, 0)) (by (with_reducible repeat (first | refine blk_drewN ?_ _ | refine blk_drew ?_ | refine blk_alloc ?_ _)); exact BK278.out) hb)
            have n2_ := Aside0.mk (blk_below (g := gb288) (o := .cells #[.bool t282, .slice Ao51 t283.length co51, .int .i64 t286] 24 (0, 0)) (by (with_reducible repeat (first | refine blk_drewN ?_ _ | refine blk_drew ?_ | refine blk_alloc ?_ _)); exact BK288.out) hb)
            have n3_ := Aside0.mk (below_step (by repeat (first | (with_reducible first | exact HB.out | apply below_alloc | apply pw_below_drewN | apply below_drew1 | refine below_set ?_ GE278.out | refine below_set ?_ GE288.out) | exact HB.out)) hb)
            clear HO285
            clear BK278
            clear BK288
            clear HB
            have HO285 := n0_
            have BK278 := n1_
            have BK288 := n2_
            have HB := n3_
            clear n0_ n1_ n2_ n3_
            (try clear hb)
            (try clear hb2)
            (try clear hk)
            (try clear hi)
            refine hK.out _ _ ⟨(blk_cell BK278.out 0).trans rfl, (blk_cell BK278.out 1).trans rfl, (blk_cell BK278.out 2).trans rfl⟩ (fun hHeld => ?_)
            clear hK K
            refine norm_ (a' := ?_) ?_ ?_
            rotate_left
            ·show Act.put _ (some 37) _ = _
             simp only [Act.put, List.setIfInBounds_toArray, List.set_cons_zero, List.set_cons_succ, i64_w, i32_w]
             rfl
            refine pure_ (i := 4) (N := some 39) (v := ?_) (a' := ?_) #[true, true, true, true, true, false, true, false, false, false, false, false, false, false] rfl rfl (any_of HT_.out (by kernel_rfl)) (fun _ _ _ h => h) (Or.inl ⟨by rfl, ?_⟩) ?_ ?_
            rotate_left
            ·intro w'
             go_simp
             with_reducible rfl
            rotate_left
            ·simp only [Act.put, List.setIfInBounds_toArray, List.set_cons_zero, List.set_cons_succ, i64_w, i32_w]
             rfl
            refine pure_ (i := 5) (N := some 40) (v := ?_) (a' := ?_) #[true, true, true, true, true, true, true, false, false, false, false, false, false, false] rfl rfl (any_of HT_.out (by kernel_rfl)) (fun _ _ _ h => h) (Or.inl ⟨by rfl, ?_⟩) ?_ ?_
            rotate_left
            ·intro w'
             go_simp
             with_reducible rfl
            rotate_left
            ·simp only [Act.put, List.setIfInBounds_toArray, List.set_cons_zero, List.set_cons_succ, i64_w, i32_w]
             rfl
            refine two_ (i := 7) (j := 11) (Ni := some 42) (Nj := some 11) #[true, true, true, true, true, true, true, true, false, false, false, false, false, false] #[true, true, true, true, true, true, true, false, false, false, false, true, false, false] rfl rfl rfl rfl (two_of HT_.out (by kernel_rfl)) (by decide) (by decide) (fun K hK => ?_) (fun K hK => ?_)
            ·skip
             refine goes_ Tryd.func19 (by kernel_rfl) rfl #[.agg #[.bool a0_0, .slice A0_1 l0_1.length c0_1, .int .i64 a0_2], .int .i64 (wrap64 ((wrap64 (t289 - (wrap64 ((wrap64 (Int.tmod a1 60)) + 1)))) + 1)), .int .i64 a2] (by rfl) rfl rfl (by (try simp only [List.map_toArray, List.map_cons, List.map_nil]); first | done | rfl | (simp only [List.length_drop, List.length_take]; rfl)) ?_
             with_reducible refine (round_To.calls kj4 a0_0 (fun k_ => k_ < w.heap.size) _ _ l0_1 a0_2 (wrap64 ((wrap64 (t289 - (wrap64 ((wrap64 (Int.tmod a1 60)) + 1)))) + 1)) a2 t290 t291 t294 t295 _ ?side2 ?side1 A18.out).mono ?_
             (case side1 => exact Kd.V_mk HC0_1.out (Kd.F_below (Kd.C_F (Kd.heap_int .u8) HR0_1.out) (by repeat (first | (with_reducible first | exact HB.out | apply below_alloc | apply pw_below_drewN | apply below_drew1 | refine below_set ?_ GE278.out | refine below_set ?_ GE288.out) | exact HB.out))))
             (case side2 => refine GL.below HG.out ?_; repeat (first | (with_reducible first | exact HB.out | apply below_alloc | apply pw_below_drewN | apply below_drew1 | refine below_set ?_ GE278.out | refine below_set ?_ GE288.out) | exact HB.out))
             rintro e w55 ⟨v292, rfl, ho0, hb⟩
             refine ⟨_, rfl, ?_⟩
             have n0_ := Aside0.mk (Kd.V_below (by (with_reducible repeat (first | apply Kd.V_alloc | apply Kd.V_drewN | apply Kd.V_drew)); exact HO285.out) hb)
             have n1_ := Aside0.mk (Kd.V_lower (Kd.V_mono (ok' := fun k_ => k_ ≠ gb278 ∧ k_ ≠ gb288) ho0 (fun k_ hk_ => ⟨Or.elim hk_ (fun hs_ => fun e_ => Nat.not_le.2 hs_ (by rw [e_]; exact GW278.out)) (fun hn_ => (Kd.freshB (g := gb278) (o := .cells #[.bool a0_0, .slice A0_1 l0_1.length c0_1, .int .i64 a0_2] 24 (0, 0)) (by (with_reducible repeat (first | refine blk_drewN ?_ _ | refine blk_drew ?_ | refine blk_alloc ?_ _)); exact BK278.out) k_ hn_)), Or.elim hk_ (fun hs_ => fun e_ => Nat.not_le.2 hs_ (by rw [e_]; exact GW288.out)) (fun hn_ => (Kd.freshB (g := gb288) (o := .cells #[.bool t282, .slice Ao51 t283.length co51, .int .i64 t286] 24 (0, 0)) (by (with_reducible repeat (first | refine blk_drewN ?_ _ | refine blk_drew ?_ | refine blk_alloc ?_ _)); exact BK288.out) k_ hn_))⟩)) (below_size (by repeat (first | (with_reducible first | exact HB.out | apply below_alloc | apply pw_below_drewN | apply below_drew1 | refine below_set ?_ GE278.out | refine below_set ?_ GE288.out) | exact HB.out))))
             have n2_ := Aside0.mk (blk_below (g := gb278) (o := .cells #[.bool a0_0, .slice A0_1 l0_1.length c0_1, .int .i64 a0_2] 24 (0, 0)) (by (with_reducible repeat (first | refine blk_drewN ?_ _ | refine blk_drew ?_ | refine blk_alloc ?_ _)); exact BK278.out) hb)
             have n3_ := Aside0.mk (blk_below (g := gb288) (o := .cells #[.bool t282, .slice Ao51 t283.length co51, .int .i64 t286] 24 (0, 0)) (by (with_reducible repeat (first | refine blk_drewN ?_ _ | refine blk_drew ?_ | refine blk_alloc ?_ _)); exact BK288.out) hb)
             have n4_ := Aside0.mk (below_step (by repeat (first | (with_reducible first | exact HB.out | apply below_alloc | apply pw_below_drewN | apply below_drew1 | refine below_set ?_ GE278.out | refine below_set ?_ GE288.out) | exact HB.out)) hb)
             clear HO285
             clear BK278
             clear BK288
             clear HB
             have HO285 := n0_
             have HO293 := n1_
             have BK278 := n2_
             have BK288 := n3_
             have HB := n4_
             clear n0_ n1_ n2_ n3_ n4_
             (try clear hb)
             (try clear hb2)
             (try clear hk)
             (try clear hi)
             (try clear ho0)
             refine hK.out _ _ ⟨(blk_cell BK278.out 0).trans rfl, (blk_cell BK278.out 1).trans rfl, (blk_cell BK278.out 2).trans rfl⟩ (fun hHeld => ?_)
             clear hK K
             refine norm_ (a' := ?_) ?_ ?_
             rotate_left
             ·show Act.put _ (some 42) _ = _
              simp only [Act.put, List.setIfInBounds_toArray, List.set_cons_zero, List.set_cons_succ, i64_w, i32_w]
              rfl
             refine pure_ (i := 8) (N := some 34) (v := ?_) (a' := ?_) #[true, true, true, true, true, true, true, true, true, false, false, false, false, false] rfl rfl (any_of HT_.out (by kernel_rfl)) (fun _ _ _ h => h) (Or.inl ⟨by rfl, ?_⟩) ?_ ?_
             rotate_left
             ·intro w'
              go_simp
              with_reducible rfl
             rotate_left
             ·simp only [Act.put, List.setIfInBounds_toArray, List.set_cons_zero, List.set_cons_succ, i64_w, i32_w]
              rfl
             refine pure_ (i := 9) (N := some 43) (v := ?_) (a' := ?_) #[true, true, true, true, true, true, true, true, true, true, false, false, false, false] rfl rfl (any_of HT_.out (by kernel_rfl)) (fun _ _ _ h => h) (Or.inl ⟨by rfl, ?_⟩) ?_ ?_
             rotate_left
             ·intro w'
              go_simp
              with_reducible rfl
             rotate_left
             ·simp only [Act.put, List.setIfInBounds_toArray, List.set_cons_zero, List.set_cons_succ, i64_w, i32_w]
              rfl
             refine pure_ (i := 10) (N := some 44) (v := ?_) (a' := ?_) #[true, true, true, true, true, true, true, true, true, true, true, false, false, false] rfl rfl (any_of HT_.out (by kernel_rfl)) (fun _ _ _ h => h) (Or.inl ⟨by rfl, ?_⟩) ?_ ?_
             rotate_left
             ·intro w'
              go_simp
              with_reducible rfl
             rotate_left
             ·simp only [Act.put, List.setIfInBounds_toArray, List.set_cons_zero, List.set_cons_succ, i64_w, i32_w]
              rfl
             refine one_ (i := 11) (N := some 11) #[true, true, true, true, true, true, true, true, true, true, true, true, false, false] rfl rfl (one_of HT_.out (by kernel_rfl)) (by decide) (fun K hK => ?_)
             refine box_step ?hg (N := 11) ?hd (cs := #[.bool false, .slice none 0 0, .int .i64 0]) (t := 24) ?hr ?_; (case hd => rfl); (case hg => rfl); (case hr => first | (go_simp; done) | (go_simp; rfl))
             intro gb296 hg w56 hbox hb
             have n0_ := Aside0.mk (Kd.V_below (Kd.V_elderB (by (with_reducible repeat (first | apply Kd.V_alloc | apply Kd.V_drewN | apply Kd.V_drew)); exact HO285.out) gb296 (Nat.le_of_eq hg.symm)) hb)
             have n1_ := Aside0.mk (Kd.V_below (Kd.V_elderB (by (with_reducible repeat (first | apply Kd.V_alloc | apply Kd.V_drewN | apply Kd.V_drew)); exact HO293.out) gb296 (Nat.le_of_eq hg.symm)) hb)
             have n2_ := Aside0.mk (blk_below (g := gb278) (o := .cells #[.bool a0_0, .slice A0_1 l0_1.length c0_1, .int .i64 a0_2] 24 (0, 0)) (by (with_reducible repeat (first | refine blk_drewN ?_ _ | refine blk_drew ?_ | refine blk_alloc ?_ _)); exact BK278.out) hb)
             have n3_ := Aside0.mk (blk_below (g := gb288) (o := .cells #[.bool t282, .slice Ao51 t283.length co51, .int .i64 t286] 24 (0, 0)) (by (with_reducible repeat (first | refine blk_drewN ?_ _ | refine blk_drew ?_ | refine blk_alloc ?_ _)); exact BK288.out) hb)
             have n4_ := Aside0.mk (below_step (by repeat (first | (with_reducible first | exact HB.out | apply below_alloc | apply pw_below_drewN | apply below_drew1 | refine below_set ?_ GE278.out | refine below_set ?_ GE288.out) | exact HB.out)) hb)
             have n5_ := Aside0.mk (hbox)
             have n6_ := Aside0.mk ((by rw [hg]; exact (below_size (by repeat (first | (with_reducible first | exact HB.out | apply below_alloc | apply pw_below_drewN | apply below_drew1 | refine below_set ?_ GE278.out | refine below_set ?_ GE288.out) | exact HB.out))) : w.heap.size ≤ gb296))
             have n7_ := Aside0.mk ((by rw [hg]; exact (below_size (by repeat (first | (with_reducible first | exact HB.out | apply below_alloc | apply pw_below_drewN | apply below_drew1 | refine below_set ?_ GE278.out | refine below_set ?_ GE288.out) | exact HB.out))) : w.heap.size ≤ gb296))
             have n8_ := Aside0.mk ((by rw [hg]; exact Nat.ne_of_lt (blk_lt (g := gb278) (o := .cells #[.bool a0_0, .slice A0_1 l0_1.length c0_1, .int .i64 a0_2] 24 (0, 0)) (by (with_reducible repeat (first | refine blk_drewN ?_ _ | refine blk_drew ?_ | refine blk_alloc ?_ _)); exact BK278.out)) : gb278 ≠ gb296))
             have n9_ := Aside0.mk ((by rw [hg]; exact Nat.ne_of_gt (blk_lt (g := gb278) (o := .cells #[.bool a0_0, .slice A0_1 l0_1.length c0_1, .int .i64 a0_2] 24 (0, 0)) (by (with_reducible repeat (first | refine blk_drewN ?_ _ | refine blk_drew ?_ | refine blk_alloc ?_ _)); exact BK278.out)) : gb296 ≠ gb278))
             have n10_ := Aside0.mk ((by rw [hg]; exact Nat.ne_of_lt (blk_lt (g := gb288) (o := .cells #[.bool t282, .slice Ao51 t283.length co51, .int .i64 t286] 24 (0, 0)) (by (with_reducible repeat (first | refine blk_drewN ?_ _ | refine blk_drew ?_ | refine blk_alloc ?_ _)); exact BK288.out)) : gb288 ≠ gb296))
             have n11_ := Aside0.mk ((by rw [hg]; exact Nat.ne_of_gt (blk_lt (g := gb288) (o := .cells #[.bool t282, .slice Ao51 t283.length co51, .int .i64 t286] 24 (0, 0)) (by (with_reducible repeat (first | refine blk_drewN ?_ _ | refine blk_drew ?_ | refine blk_alloc ?_ _)); exact BK288.out)) : gb296 ≠ gb288))
             clear HO285
             clear HO293
             clear BK278
             clear BK288
             clear HB
             have HO285 := n0_
             have HO293 := n1_
             have BK278 := n2_
             have BK288 := n3_
             have HB := n4_
             have BK296 := n5_
             have GW296 := n6_
             have GE296 := n7_
             have NB278_296 := n8_
             have NB296_278 := n9_
             have NB288_296 := n10_
             have NB296_288 := n11_
             clear n0_ n1_ n2_ n3_ n4_ n5_ n6_ n7_ n8_ n9_ n10_ n11_
             clear hb hbox hg
             refine hK.out _ _ ⟨(blk_cell BK278.out 0).trans rfl, (blk_cell BK278.out 1).trans rfl, (blk_cell BK278.out 2).trans rfl⟩ (fun hHeld => ?_)
             clear hK K
             refine norm_ (a' := ?_) ?_ ?_
             rotate_left
             ·show Act.put _ (some 11) _ = _
              simp only [Act.put, List.setIfInBounds_toArray, List.set_cons_zero, List.set_cons_succ, i64_w, i32_w]
              rfl
             exact norm_ (by simp only [putAll, Act.put, List.setIfInBounds_toArray, List.set_cons_zero, List.set_cons_succ]) (hCont (v292, gb296) _ ⟨hHeld, (by (with_reducible repeat (first | apply Kd.V_alloc | apply Kd.V_drewN | apply Kd.V_drew)); exact Kd.V_mono HO285.out (fun _ hk => ⟨hk.1.1, ⟨hk.1.2, hk.2⟩⟩)), (by (with_reducible repeat (first | apply Kd.V_alloc | apply Kd.V_drewN | apply Kd.V_drew)); exact Kd.V_mono HO293.out (fun _ hk => ⟨hk.1.1, ⟨hk.1.2, hk.2⟩⟩)), (by (with_reducible repeat (first | refine blk_drewN ?_ _ | refine blk_drew ?_ | refine blk_alloc ?_ _)); exact BK278.out), (by (with_reducible repeat (first | refine blk_drewN ?_ _ | refine blk_drew ?_ | refine blk_alloc ?_ _)); exact BK288.out), (by (with_reducible repeat (first | refine blk_drewN ?_ _ | refine blk_drew ?_ | refine blk_alloc ?_ _)); exact BK296.out), GW296.out, GE296.out, NB278_296.out, NB296_278.out, NB288_296.out, NB296_288.out, (by repeat (first | (with_reducible first | exact HB.out | apply below_alloc | apply pw_below_drewN | apply below_drew1 | refine below_set ?_ GE278.out | refine below_set ?_ GE288.out | refine below_set ?_ GE296.out) | exact HB.out))⟩)
            ·skip
             refine box_step ?hg (N := 11) ?hd (cs := #[.bool false, .slice none 0 0, .int .i64 0]) (t := 24) ?hr ?_; (case hd => rfl); (case hg => rfl); (case hr => first | (go_simp; done) | (go_simp; rfl))
             intro gb296 hg w55 hbox hb
             have n0_ := Aside0.mk (Kd.V_below (Kd.V_elderB (by (with_reducible repeat (first | apply Kd.V_alloc | apply Kd.V_drewN | apply Kd.V_drew)); exact HO285.out) gb296 (Nat.le_of_eq hg.symm)) hb)
             have n1_ := Aside0.mk (blk_below (g := gb278) (o := .cells #[.bool a0_0, .slice A0_1 l0_1.length c0_1, .int .i64 a0_2] 24 (0, 0)) (by (with_reducible repeat (first | refine blk_drewN ?_ _ | refine blk_drew ?_ | refine blk_alloc ?_ _)); exact BK278.out) hb)
             have n2_ := Aside0.mk (blk_below (g := gb288) (o := .cells #[.bool t282, .slice Ao51 t283.length co51, .int .i64 t286] 24 (0, 0)) (by (with_reducible repeat (first | refine blk_drewN ?_ _ | refine blk_drew ?_ | refine blk_alloc ?_ _)); exact BK288.out) hb)
             have n3_ := Aside0.mk (below_step (by repeat (first | (with_reducible first | exact HB.out | apply below_alloc | apply pw_below_drewN | apply below_drew1 | refine below_set ?_ GE278.out | refine below_set ?_ GE288.out) | exact HB.out)) hb)
             have n4_ := Aside0.mk (hbox)
             have n5_ := Aside0.mk ((by rw [hg]; exact (below_size (by repeat (first | (with_reducible first | exact HB.out | apply below_alloc | apply pw_below_drewN | apply below_drew1 | refine below_set ?_ GE278.out | refine below_set ?_ GE288.out) | exact HB.out))) : w.heap.size ≤ gb296))
             have n6_ := Aside0.mk ((by rw [hg]; exact (below_size (by repeat (first | (with_reducible first | exact HB.out | apply below_alloc | apply pw_below_drewN | apply below_drew1 | refine below_set ?_ GE278.out | refine below_set ?_ GE288.out) | exact HB.out))) : w.heap.size ≤ gb296))
             have n7_ := Aside0.mk ((by rw [hg]; exact Nat.ne_of_lt (blk_lt (g := gb278) (o := .cells #[.bool a0_0, .slice A0_1 l0_1.length c0_1, .int .i64 a0_2] 24 (0, 0)) (by (with_reducible repeat (first | refine blk_drewN ?_ _ | refine blk_drew ?_ | refine blk_alloc ?_ _)); exact BK278.out)) : gb278 ≠ gb296))
             have n8_ := Aside0.mk ((by rw [hg]; exact Nat.ne_of_gt (blk_lt (g := gb278) (o := .cells #[.bool a0_0, .slice A0_1 l0_1.length c0_1, .int .i64 a0_2] 24 (0, 0)) (by (with_reducible repeat (first | refine blk_drewN ?_ _ | refine blk_drew ?_ | refine blk_alloc ?_ _)); exact BK278.out)) : gb296 ≠ gb278))
             have n9_ := Aside0.mk ((by rw [hg]; exact Nat.ne_of_lt (blk_lt (g := gb288) (o := .cells #[.bool t282, .slice Ao51 t283.length co51, .int .i64 t286] 24 (0, 0)) (by (with_reducible repeat (first | refine blk_drewN ?_ _ | refine blk_drew ?_ | refine blk_alloc ?_ _)); exact BK288.out)) : gb288 ≠ gb296))
             have n10_ := Aside0.mk ((by rw [hg]; exact Nat.ne_of_gt (blk_lt (g := gb288) (o := .cells #[.bool t282, .slice Ao51 t283.length co51, .int .i64 t286] 24 (0, 0)) (by (with_reducible repeat (first | refine blk_drewN ?_ _ | refine blk_drew ?_ | refine blk_alloc ?_ _)); exact BK288.out)) : gb296 ≠ gb288))
             clear HO285
             clear BK278
             clear BK288
             clear HB
             have HO285 := n0_
             have BK278 := n1_
             have BK288 := n2_
             have HB := n3_
             have BK296 := n4_
             have GW296 := n5_
             have GE296 := n6_
             have NB278_296 := n7_
             have NB296_278 := n8_
             have NB288_296 := n9_
             have NB296_288 := n10_
             clear n0_ n1_ n2_ n3_ n4_ n5_ n6_ n7_ n8_ n9_ n10_
             clear hb hbox hg
             refine hK.out _ _ ⟨(blk_cell BK278.out 0).trans rfl, (blk_cell BK278.out 1).trans rfl, (blk_cell BK278.out 2).trans rfl⟩ (fun hHeld => ?_)
             clear hK K
             refine norm_ (a' := ?_) ?_ ?_
             rotate_left
             ·show Act.put _ (some 11) _ = _
              simp only [Act.put, List.setIfInBounds_toArray, List.set_cons_zero, List.set_cons_succ, i64_w, i32_w]
              rfl
             refine one_ (i := 7) (N := some 42) #[true, true, true, true, true, true, true, true, false, false, false, true, false, false] rfl rfl (one_of HT_.out (by kernel_rfl)) (by decide) (fun K hK => ?_)
             refine goes_ Tryd.func19 (by kernel_rfl) rfl #[.agg #[.bool a0_0, .slice A0_1 l0_1.length c0_1, .int .i64 a0_2], .int .i64 (wrap64 ((wrap64 (t289 - (wrap64 ((wrap64 (Int.tmod a1 60)) + 1)))) + 1)), .int .i64 a2] (by rfl) rfl rfl (by (try simp only [List.map_toArray, List.map_cons, List.map_nil]); first | done | rfl | (simp only [List.length_drop, List.length_take]; rfl)) ?_
             with_reducible refine (round_To.calls kj4 a0_0 (fun k_ => k_ < w.heap.size) _ _ l0_1 a0_2 (wrap64 ((wrap64 (t289 - (wrap64 ((wrap64 (Int.tmod a1 60)) + 1)))) + 1)) a2 t290 t291 t294 t295 _ ?side2 ?side1 A18.out).mono ?_
             (case side1 => exact Kd.V_mk HC0_1.out (Kd.F_below (Kd.C_F (Kd.heap_int .u8) HR0_1.out) (by repeat (first | (with_reducible first | exact HB.out | apply below_alloc | apply pw_below_drewN | apply below_drew1 | refine below_set ?_ GE278.out | refine below_set ?_ GE288.out | refine below_set ?_ GE296.out) | exact HB.out))))
             (case side2 => refine GL.below HG.out ?_; repeat (first | (with_reducible first | exact HB.out | apply below_alloc | apply pw_below_drewN | apply below_drew1 | refine below_set ?_ GE278.out | refine below_set ?_ GE288.out | refine below_set ?_ GE296.out) | exact HB.out))
             rintro e w56 ⟨v292, rfl, ho0, hb⟩
             refine ⟨_, rfl, ?_⟩
             have n0_ := Aside0.mk (Kd.V_below (by (with_reducible repeat (first | apply Kd.V_alloc | apply Kd.V_drewN | apply Kd.V_drew)); exact HO285.out) hb)
             have n1_ := Aside0.mk (Kd.V_lower (Kd.V_mono (ok' := fun k_ => k_ ≠ gb278 ∧ k_ ≠ gb288 ∧ k_ ≠ gb296) ho0 (fun k_ hk_ => ⟨Or.elim hk_ (fun hs_ => fun e_ => Nat.not_le.2 hs_ (by rw [e_]; exact GW278.out)) (fun hn_ => (Kd.freshB (g := gb278) (o := .cells #[.bool a0_0, .slice A0_1 l0_1.length c0_1, .int .i64 a0_2] 24 (0, 0)) (by (with_reducible repeat (first | refine blk_drewN ?_ _ | refine blk_drew ?_ | refine blk_alloc ?_ _)); exact BK278.out) k_ hn_)), Or.elim hk_ (fun hs_ => fun e_ => Nat.not_le.2 hs_ (by rw [e_]; exact GW288.out)) (fun hn_ => (Kd.freshB (g := gb288) (o := .cells #[.bool t282, .slice Ao51 t283.length co51, .int .i64 t286] 24 (0, 0)) (by (with_reducible repeat (first | refine blk_drewN ?_ _ | refine blk_drew ?_ | refine blk_alloc ?_ _)); exact BK288.out) k_ hn_)), Or.elim hk_ (fun hs_ => fun e_ => Nat.not_le.2 hs_ (by rw [e_]; exact GW296.out)) (fun hn_ => (Kd.freshB (g := gb296) (o := .cells #[.bool false, .slice none 0 0, .int .i64 0] 24 (0, 0)) (by (with_reducible repeat (first | refine blk_drewN ?_ _ | refine blk_drew ?_ | refine blk_alloc ?_ _)); exact BK296.out) k_ hn_))⟩)) (below_size (by repeat (first | (with_reducible first | exact HB.out | apply below_alloc | apply pw_below_drewN | apply below_drew1 | refine below_set ?_ GE278.out | refine below_set ?_ GE288.out | refine below_set ?_ GE296.out) | exact HB.out))))
             have n2_ := Aside0.mk (blk_below (g := gb278) (o := .cells #[.bool a0_0, .slice A0_1 l0_1.length c0_1, .int .i64 a0_2] 24 (0, 0)) (by (with_reducible repeat (first | refine blk_drewN ?_ _ | refine blk_drew ?_ | refine blk_alloc ?_ _)); exact BK278.out) hb)
             have n3_ := Aside0.mk (blk_below (g := gb288) (o := .cells #[.bool t282, .slice Ao51 t283.length co51, .int .i64 t286] 24 (0, 0)) (by (with_reducible repeat (first | refine blk_drewN ?_ _ | refine blk_drew ?_ | refine blk_alloc ?_ _)); exact BK288.out) hb)
             have n4_ := Aside0.mk (blk_below (g := gb296) (o := .cells #[.bool false, .slice none 0 0, .int .i64 0] 24 (0, 0)) (by (with_reducible repeat (first | refine blk_drewN ?_ _ | refine blk_drew ?_ | refine blk_alloc ?_ _)); exact BK296.out) hb)
             have n5_ := Aside0.mk (below_step (by repeat (first | (with_reducible first | exact HB.out | apply below_alloc | apply pw_below_drewN | apply below_drew1 | refine below_set ?_ GE278.out | refine below_set ?_ GE288.out | refine below_set ?_ GE296.out) | exact HB.out)) hb)
             clear HO285
             clear BK278
             clear BK288
             clear BK296
             clear HB
             have HO285 := n0_
             have HO293 := n1_
             have BK278 := n2_
             have BK288 := n3_
             have BK296 := n4_
             have HB := n5_
             clear n0_ n1_ n2_ n3_ n4_ n5_
             (try clear hb)
             (try clear hb2)
             (try clear hk)
             (try clear hi)
             (try clear ho0)
             refine hK.out _ _ ⟨(blk_cell BK278.out 0).trans rfl, (blk_cell BK278.out 1).trans rfl, (blk_cell BK278.out 2).trans rfl⟩ (fun hHeld => ?_)
             clear hK K
             refine norm_ (a' := ?_) ?_ ?_
             rotate_left
             ·show Act.put _ (some 42) _ = _
              simp only [Act.put, List.setIfInBounds_toArray, List.set_cons_zero, List.set_cons_succ, i64_w, i32_w]
              rfl
             refine pure_ (i := 8) (N := some 34) (v := ?_) (a' := ?_) #[true, true, true, true, true, true, true, true, true, false, false, true, false, false] rfl rfl (any_of HT_.out (by kernel_rfl)) (fun _ _ _ h => h) (Or.inl ⟨by rfl, ?_⟩) ?_ ?_
             rotate_left
             ·intro w'
              go_simp
              with_reducible rfl
             rotate_left
             ·simp only [Act.put, List.setIfInBounds_toArray, List.set_cons_zero, List.set_cons_succ, i64_w, i32_w]
              rfl
             refine pure_ (i := 9) (N := some 43) (v := ?_) (a' := ?_) #[true, true, true, true, true, true, true, true, true, true, false, true, false, false] rfl rfl (any_of HT_.out (by kernel_rfl)) (fun _ _ _ h => h) (Or.inl ⟨by rfl, ?_⟩) ?_ ?_
             rotate_left
             ·intro w'
              go_simp
              with_reducible rfl
             rotate_left
             ·simp only [Act.put, List.setIfInBounds_toArray, List.set_cons_zero, List.set_cons_succ, i64_w, i32_w]
              rfl
             refine pure_ (i := 10) (N := some 44) (v := ?_) (a' := ?_) #[true, true, true, true, true, true, true, true, true, true, true, true, false, false] rfl rfl (any_of HT_.out (by kernel_rfl)) (fun _ _ _ h => h) (Or.inl ⟨by rfl, ?_⟩) ?_ ?_
             rotate_left
             ·intro w'
              go_simp
              with_reducible rfl
             rotate_left
             ·simp only [Act.put, List.setIfInBounds_toArray, List.set_cons_zero, List.set_cons_succ, i64_w, i32_w]
              rfl
             exact norm_ (by simp only [putAll, Act.put, List.setIfInBounds_toArray, List.set_cons_zero, List.set_cons_succ]) (hCont (v292, gb296) _ ⟨hHeld, (by (with_reducible repeat (first | apply Kd.V_alloc | apply Kd.V_drewN | apply Kd.V_drew)); exact Kd.V_mono HO285.out (fun _ hk => ⟨hk.1.1, ⟨hk.1.2, hk.2⟩⟩)), (by (with_reducible repeat (first | apply Kd.V_alloc | apply Kd.V_drewN | apply Kd.V_drew)); exact HO293.out), (by (with_reducible repeat (first | refine blk_drewN ?_ _ | refine blk_drew ?_ | refine blk_alloc ?_ _)); exact BK278.out), (by (with_reducible repeat (first | refine blk_drewN ?_ _ | refine blk_drew ?_ | refine blk_alloc ?_ _)); exact BK288.out), (by (with_reducible repeat (first | refine blk_drewN ?_ _ | refine blk_drew ?_ | refine blk_alloc ?_ _)); exact BK296.out), GW296.out, GE296.out, NB278_296.out, NB296_278.out, NB288_296.out, NB296_288.out, (by repeat (first | (with_reducible first | exact HB.out | apply below_alloc | apply pw_below_drewN | apply below_drew1 | refine below_set ?_ GE278.out | refine below_set ?_ GE288.out | refine below_set ?_ GE296.out) | exact HB.out))⟩)
           ·skip
            refine box_step ?hg (N := 11) ?hd (cs := #[.bool false, .slice none 0 0, .int .i64 0]) (t := 24) ?hr ?_; (case hd => rfl); (case hg => rfl); (case hr => first | (go_simp; done) | (go_simp; rfl))
            intro gb296 hg w54 hbox hb
            have n0_ := Aside0.mk (Kd.V_below (Kd.V_elderB (by (with_reducible repeat (first | apply Kd.V_alloc | apply Kd.V_drewN | apply Kd.V_drew)); exact HO285.out) gb296 (Nat.le_of_eq hg.symm)) hb)
            have n1_ := Aside0.mk (blk_below (g := gb278) (o := .cells #[.bool a0_0, .slice A0_1 l0_1.length c0_1, .int .i64 a0_2] 24 (0, 0)) (by (with_reducible repeat (first | refine blk_drewN ?_ _ | refine blk_drew ?_ | refine blk_alloc ?_ _)); exact BK278.out) hb)
            have n2_ := Aside0.mk (blk_below (g := gb288) (o := .cells #[.bool t282, .slice Ao51 t283.length co51, .int .i64 t286] 24 (0, 0)) (by (with_reducible repeat (first | refine blk_drewN ?_ _ | refine blk_drew ?_ | refine blk_alloc ?_ _)); exact BK288.out) hb)
            have n3_ := Aside0.mk (below_step (by repeat (first | (with_reducible first | exact HB.out | apply below_alloc | apply pw_below_drewN | apply below_drew1 | refine below_set ?_ GE278.out | refine below_set ?_ GE288.out) | exact HB.out)) hb)
            have n4_ := Aside0.mk (hbox)
            have n5_ := Aside0.mk ((by rw [hg]; exact (below_size (by repeat (first | (with_reducible first | exact HB.out | apply below_alloc | apply pw_below_drewN | apply below_drew1 | refine below_set ?_ GE278.out | refine below_set ?_ GE288.out) | exact HB.out))) : w.heap.size ≤ gb296))
            have n6_ := Aside0.mk ((by rw [hg]; exact (below_size (by repeat (first | (with_reducible first | exact HB.out | apply below_alloc | apply pw_below_drewN | apply below_drew1 | refine below_set ?_ GE278.out | refine below_set ?_ GE288.out) | exact HB.out))) : w.heap.size ≤ gb296))
            have n7_ := Aside0.mk ((by rw [hg]; exact Nat.ne_of_lt (blk_lt (g := gb278) (o := .cells #[.bool a0_0, .slice A0_1 l0_1.length c0_1, .int .i64 a0_2] 24 (0, 0)) (by (with_reducible repeat (first | refine blk_drewN ?_ _ | refine blk_drew ?_ | refine blk_alloc ?_ _)); exact BK278.out)) : gb278 ≠ gb296))
            have n8_ := Aside0.mk ((by rw [hg]; exact Nat.ne_of_gt (blk_lt (g := gb278) (o := .cells #[.bool a0_0, .slice A0_1 l0_1.length c0_1, .int .i64 a0_2] 24 (0, 0)) (by (with_reducible repeat (first | refine blk_drewN ?_ _ | refine blk_drew ?_ | refine blk_alloc ?_ _)); exact BK278.out)) : gb296 ≠ gb278))
            have n9_ := Aside0.mk ((by rw [hg]; exact Nat.ne_of_lt (blk_lt (g := gb288) (o := .cells #[.bool t282, .slice Ao51 t283.length co51, .int .i64 t286] 24 (0, 0)) (by (with_reducible repeat (first | refine blk_drewN ?_ _ | refine blk_drew ?_ | refine blk_alloc ?_ _)); exact BK288.out)) : gb288 ≠ gb296))
            have n10_ := Aside0.mk ((by rw [hg]; exact Nat.ne_of_gt (blk_lt (g := gb288) (o := .cells #[.bool t282, .slice Ao51 t283.length co51, .int .i64 t286] 24 (0, 0)) (by (with_reducible repeat (first | refine blk_drewN ?_ _ | refine blk_drew ?_ | refine blk_alloc ?_ _)); exact BK288.out)) : gb296 ≠ gb288))
            clear HO285
            clear BK278
            clear BK288
            clear HB
            have HO285 := n0_
            have BK278 := n1_
            have BK288 := n2_
            have HB := n3_
            have BK296 := n4_
            have GW296 := n5_
            have GE296 := n6_
            have NB278_296 := n7_
            have NB296_278 := n8_
            have NB288_296 := n9_
            have NB296_288 := n10_
            clear n0_ n1_ n2_ n3_ n4_ n5_ n6_ n7_ n8_ n9_ n10_
            clear hb hbox hg
            refine hK.out _ _ ⟨(blk_cell BK278.out 0).trans rfl, (blk_cell BK278.out 1).trans rfl, (blk_cell BK278.out 2).trans rfl⟩ (fun hHeld => ?_)
            clear hK K
            refine norm_ (a' := ?_) ?_ ?_
            rotate_left
            ·show Act.put _ (some 11) _ = _
             simp only [Act.put, List.setIfInBounds_toArray, List.set_cons_zero, List.set_cons_succ, i64_w, i32_w]
             rfl
            refine one_ (i := 2) (N := some 37) #[true, true, true, true, false, false, true, false, false, false, false, true, false, false] rfl rfl (one_of HT_.out (by kernel_rfl)) (by decide) (fun K hK => ?_)
            refine goes_ Tryd.func20 (by kernel_rfl) rfl #[.agg #[.bool a0_0, .slice A0_1 l0_1.length c0_1, .int .i64 a0_2]] (by rfl) rfl rfl (by (try simp only [List.map_toArray, List.map_cons, List.map_nil]); first | done | rfl | (simp only [List.length_drop, List.length_take]; rfl)) ?_
            with_reducible refine (exergueref05_Mag.calls a0_0 _ _ l0_1 a0_2 t289 _ ?side1 ?side2 A17.out).mono ?_
            (case side1 => repeat (first | exact (Kd.C_below HR0_1.out HB.out) | (with_reducible refine Kd.C_alloc ?_ _) | (with_reducible refine Kd.C_drewN ?_ _) | (with_reducible refine Kd.C_drew ?_)))
            (case side2 => exact HC0_1.out)
            rintro e w55 ⟨rfl, hb⟩
            refine ⟨_, rfl, ?_⟩
            have n0_ := Aside0.mk (Kd.V_below (by (with_reducible repeat (first | apply Kd.V_alloc | apply Kd.V_drewN | apply Kd.V_drew)); exact HO285.out) hb)
            have n1_ := Aside0.mk (blk_below (g := gb278) (o := .cells #[.bool a0_0, .slice A0_1 l0_1.length c0_1, .int .i64 a0_2] 24 (0, 0)) (by (with_reducible repeat (first | refine blk_drewN ?_ _ | refine blk_drew ?_ | refine blk_alloc ?_ _)); exact BK278.out) hb)
            have n2_ := Aside0.mk (blk_below (g := gb288) (o := .cells #[.bool t282, .slice Ao51 t283.length co51, .int .i64 t286] 24 (0, 0)) (by (with_reducible repeat (first | refine blk_drewN ?_ _ | refine blk_drew ?_ | refine blk_alloc ?_ _)); exact BK288.out) hb)
            have n3_ := Aside0.mk (blk_below (g := gb296) (o := .cells #[.bool false, .slice none 0 0, .int .i64 0] 24 (0, 0)) (by (with_reducible repeat (first | refine blk_drewN ?_ _ | refine blk_drew ?_ | refine blk_alloc ?_ _)); exact BK296.out) hb)
            have n4_ := Aside0.mk (below_step (by repeat (first | (with_reducible first | exact HB.out | apply below_alloc | apply pw_below_drewN | apply below_drew1 | refine below_set ?_ GE278.out | refine below_set ?_ GE288.out | refine below_set ?_ GE296.out) | exact HB.out)) hb)
            clear HO285
            clear BK278
            clear BK288
            clear BK296
            clear HB
            have HO285 := n0_
            have BK278 := n1_
            have BK288 := n2_
            have BK296 := n3_
            have HB := n4_
            clear n0_ n1_ n2_ n3_ n4_
            (try clear hb)
            (try clear hb2)
            (try clear hk)
            (try clear hi)
            refine hK.out _ _ ⟨(blk_cell BK278.out 0).trans rfl, (blk_cell BK278.out 1).trans rfl, (blk_cell BK278.out 2).trans rfl⟩ (fun hHeld => ?_)
            clear hK K
            refine norm_ (a' := ?_) ?_ ?_
            rotate_left
            ·show Act.put _ (some 37) _ = _
             simp only [Act.put, List.setIfInBounds_toArray, List.set_cons_zero, List.set_cons_succ, i64_w, i32_w]
             rfl
            refine pure_ (i := 4) (N := some 39) (v := ?_) (a' := ?_) #[true, true, true, true, true, false, true, false, false, false, false, true, false, false] rfl rfl (any_of HT_.out (by kernel_rfl)) (fun _ _ _ h => h) (Or.inl ⟨by rfl, ?_⟩) ?_ ?_
            rotate_left
            ·intro w'
             go_simp
             with_reducible rfl
            rotate_left
            ·simp only [Act.put, List.setIfInBounds_toArray, List.set_cons_zero, List.set_cons_succ, i64_w, i32_w]
             rfl
            refine pure_ (i := 5) (N := some 40) (v := ?_) (a' := ?_) #[true, true, true, true, true, true, true, false, false, false, false, true, false, false] rfl rfl (any_of HT_.out (by kernel_rfl)) (fun _ _ _ h => h) (Or.inl ⟨by rfl, ?_⟩) ?_ ?_
            rotate_left
            ·intro w'
             go_simp
             with_reducible rfl
            rotate_left
            ·simp only [Act.put, List.setIfInBounds_toArray, List.set_cons_zero, List.set_cons_succ, i64_w, i32_w]
             rfl
            refine one_ (i := 7) (N := some 42) #[true, true, true, true, true, true, true, true, false, false, false, true, false, false] rfl rfl (one_of HT_.out (by kernel_rfl)) (by decide) (fun K hK => ?_)
            refine goes_ Tryd.func19 (by kernel_rfl) rfl #[.agg #[.bool a0_0, .slice A0_1 l0_1.length c0_1, .int .i64 a0_2], .int .i64 (wrap64 ((wrap64 (t289 - (wrap64 ((wrap64 (Int.tmod a1 60)) + 1)))) + 1)), .int .i64 a2] (by rfl) rfl rfl (by (try simp only [List.map_toArray, List.map_cons, List.map_nil]); first | done | rfl | (simp only [List.length_drop, List.length_take]; rfl)) ?_
            with_reducible refine (round_To.calls kj4 a0_0 (fun k_ => k_ < w.heap.size) _ _ l0_1 a0_2 (wrap64 ((wrap64 (t289 - (wrap64 ((wrap64 (Int.tmod a1 60)) + 1)))) + 1)) a2 t290 t291 t294 t295 _ ?side2 ?side1 A18.out).mono ?_
            (case side1 => exact Kd.V_mk HC0_1.out (Kd.F_below (Kd.C_F (Kd.heap_int .u8) HR0_1.out) (by repeat (first | (with_reducible first | exact HB.out | apply below_alloc | apply pw_below_drewN | apply below_drew1 | refine below_set ?_ GE278.out | refine below_set ?_ GE288.out | refine below_set ?_ GE296.out) | exact HB.out))))
            (case side2 => refine GL.below HG.out ?_; repeat (first | (with_reducible first | exact HB.out | apply below_alloc | apply pw_below_drewN | apply below_drew1 | refine below_set ?_ GE278.out | refine below_set ?_ GE288.out | refine below_set ?_ GE296.out) | exact HB.out))
            rintro e w56 ⟨v292, rfl, ho0, hb⟩
            refine ⟨_, rfl, ?_⟩
            have n0_ := Aside0.mk (Kd.V_below (by (with_reducible repeat (first | apply Kd.V_alloc | apply Kd.V_drewN | apply Kd.V_drew)); exact HO285.out) hb)
            have n1_ := Aside0.mk (Kd.V_lower (Kd.V_mono (ok' := fun k_ => k_ ≠ gb278 ∧ k_ ≠ gb288 ∧ k_ ≠ gb296) ho0 (fun k_ hk_ => ⟨Or.elim hk_ (fun hs_ => fun e_ => Nat.not_le.2 hs_ (by rw [e_]; exact GW278.out)) (fun hn_ => (Kd.freshB (g := gb278) (o := .cells #[.bool a0_0, .slice A0_1 l0_1.length c0_1, .int .i64 a0_2] 24 (0, 0)) (by (with_reducible repeat (first | refine blk_drewN ?_ _ | refine blk_drew ?_ | refine blk_alloc ?_ _)); exact BK278.out) k_ hn_)), Or.elim hk_ (fun hs_ => fun e_ => Nat.not_le.2 hs_ (by rw [e_]; exact GW288.out)) (fun hn_ => (Kd.freshB (g := gb288) (o := .cells #[.bool t282, .slice Ao51 t283.length co51, .int .i64 t286] 24 (0, 0)) (by (with_reducible repeat (first | refine blk_drewN ?_ _ | refine blk_drew ?_ | refine blk_alloc ?_ _)); exact BK288.out) k_ hn_)), Or.elim hk_ (fun hs_ => fun e_ => Nat.not_le.2 hs_ (by rw [e_]; exact GW296.out)) (fun hn_ => (Kd.freshB (g := gb296) (o := .cells #[.bool false, .slice none 0 0, .int .i64 0] 24 (0, 0)) (by (with_reducible repeat (first | refine blk_drewN ?_ _ | refine blk_drew ?_ | refine blk_alloc ?_ _)); exact BK296.out) k_ hn_))⟩)) (below_size (by repeat (first | (with_reducible first | exact HB.out | apply below_alloc | apply pw_below_drewN | apply below_drew1 | refine below_set ?_ GE278.out | refine below_set ?_ GE288.out | refine below_set ?_ GE296.out) | exact HB.out))))
            have n2_ := Aside0.mk (blk_below (g := gb278) (o := .cells #[.bool a0_0, .slice A0_1 l0_1.length c0_1, .int .i64 a0_2] 24 (0, 0)) (by (with_reducible repeat (first | refine blk_drewN ?_ _ | refine blk_drew ?_ | refine blk_alloc ?_ _)); exact BK278.out) hb)
            have n3_ := Aside0.mk (blk_below (g := gb288) (o := .cells #[.bool t282, .slice Ao51 t283.length co51, .int .i64 t286] 24 (0, 0)) (by (with_reducible repeat (first | refine blk_drewN ?_ _ | refine blk_drew ?_ | refine blk_alloc ?_ _)); exact BK288.out) hb)
            have n4_ := Aside0.mk (blk_below (g := gb296) (o := .cells #[.bool false, .slice none 0 0, .int .i64 0] 24 (0, 0)) (by (with_reducible repeat (first | refine blk_drewN ?_ _ | refine blk_drew ?_ | refine blk_alloc ?_ _)); exact BK296.out) hb)
            have n5_ := Aside0.mk (below_step (by repeat (first | (with_reducible first | exact HB.out | apply below_alloc | apply pw_below_drewN | apply below_drew1 | refine below_set ?_ GE278.out | refine below_set ?_ GE288.out | refine below_set ?_ GE296.out) | exact HB.out)) hb)
            clear HO285
            clear BK278
            clear BK288
            clear BK296
            clear HB
            have HO285 := n0_
            have HO293 := n1_
            have BK278 := n2_
            have BK288 := n3_
            have BK296 := n4_
            have HB := n5_
            clear n0_ n1_ n2_ n3_ n4_ n5_
            (try clear hb)
            (try clear hb2)
            (try clear hk)
            (try clear hi)
            (try clear ho0)
            refine hK.out _ _ ⟨(blk_cell BK278.out 0).trans rfl, (blk_cell BK278.out 1).trans rfl, (blk_cell BK278.out 2).trans rfl⟩ (fun hHeld => ?_)
            clear hK K
            refine norm_ (a' := ?_) ?_ ?_
            rotate_left
            ·show Act.put _ (some 42) _ = _
             simp only [Act.put, List.setIfInBounds_toArray, List.set_cons_zero, List.set_cons_succ, i64_w, i32_w]
             rfl
            refine pure_ (i := 8) (N := some 34) (v := ?_) (a' := ?_) #[true, true, true, true, true, true, true, true, true, false, false, true, false, false] rfl rfl (any_of HT_.out (by kernel_rfl)) (fun _ _ _ h => h) (Or.inl ⟨by rfl, ?_⟩) ?_ ?_
            rotate_left
            ·intro w'
             go_simp
             with_reducible rfl
            rotate_left
            ·simp only [Act.put, List.setIfInBounds_toArray, List.set_cons_zero, List.set_cons_succ, i64_w, i32_w]
             rfl
            refine pure_ (i := 9) (N := some 43) (v := ?_) (a' := ?_) #[true, true, true, true, true, true, true, true, true, true, false, true, false, false] rfl rfl (any_of HT_.out (by kernel_rfl)) (fun _ _ _ h => h) (Or.inl ⟨by rfl, ?_⟩) ?_ ?_
            rotate_left
            ·intro w'
             go_simp
             with_reducible rfl
            rotate_left
            ·simp only [Act.put, List.setIfInBounds_toArray, List.set_cons_zero, List.set_cons_succ, i64_w, i32_w]
             rfl
            refine pure_ (i := 10) (N := some 44) (v := ?_) (a' := ?_) #[true, true, true, true, true, true, true, true, true, true, true, true, false, false] rfl rfl (any_of HT_.out (by kernel_rfl)) (fun _ _ _ h => h) (Or.inl ⟨by rfl, ?_⟩) ?_ ?_
            rotate_left
            ·intro w'
             go_simp
             with_reducible rfl
            rotate_left
            ·simp only [Act.put, List.setIfInBounds_toArray, List.set_cons_zero, List.set_cons_succ, i64_w, i32_w]
             rfl
            exact norm_ (by simp only [putAll, Act.put, List.setIfInBounds_toArray, List.set_cons_zero, List.set_cons_succ]) (hCont (v292, gb296) _ ⟨hHeld, (by (with_reducible repeat (first | apply Kd.V_alloc | apply Kd.V_drewN | apply Kd.V_drew)); exact Kd.V_mono HO285.out (fun _ hk => ⟨hk.1.1, ⟨hk.1.2, hk.2⟩⟩)), (by (with_reducible repeat (first | apply Kd.V_alloc | apply Kd.V_drewN | apply Kd.V_drew)); exact HO293.out), (by (with_reducible repeat (first | refine blk_drewN ?_ _ | refine blk_drew ?_ | refine blk_alloc ?_ _)); exact BK278.out), (by (with_reducible repeat (first | refine blk_drewN ?_ _ | refine blk_drew ?_ | refine blk_alloc ?_ _)); exact BK288.out), (by (with_reducible repeat (first | refine blk_drewN ?_ _ | refine blk_drew ?_ | refine blk_alloc ?_ _)); exact BK296.out), GW296.out, GE296.out, NB278_296.out, NB296_278.out, NB288_296.out, NB296_288.out, (by repeat (first | (with_reducible first | exact HB.out | apply below_alloc | apply pw_below_drewN | apply below_drew1 | refine below_set ?_ GE278.out | refine below_set ?_ GE288.out | refine below_set ?_ GE296.out) | exact HB.out))⟩)
          rintro ⟨v292, gb296⟩ w57 ⟨hS_, h0_, h1_, h2_, h3_, h4_, h5_, h6_, h7_, h8_, h9_, h10_, h11_⟩
          have n0_ : Aside0 (Kd.V (Kd.int .u8) 5 w57 w.heap.size (fun k_ => k_ ≠ gb278 ∧ k_ ≠ gb288 ∧ k_ ≠ gb296) (.slice Ao51 t283.length co51) t283) := ⟨h0_⟩
          have n1_ : Aside0 (Kd.V (Kd.int .u8) 5 w57 w.heap.size (fun k_ => k_ ≠ gb278 ∧ k_ ≠ gb288 ∧ k_ ≠ gb296) v292 t291) := ⟨h1_⟩
          have n2_ : Aside0 (w57.heap[gb278]? = some (.cells #[.bool a0_0, .slice A0_1 l0_1.length c0_1, .int .i64 a0_2] 24 (0, 0))) := ⟨h2_⟩
          have n3_ : Aside0 (w57.heap[gb288]? = some (.cells #[.bool t282, .slice Ao51 t283.length co51, .int .i64 t286] 24 (0, 0))) := ⟨h3_⟩
          have n4_ : Aside0 (w57.heap[gb296]? = some (.cells #[.bool false, .slice none 0 0, .int .i64 0] 24 (0, 0))) := ⟨h4_⟩
          have n5_ : Aside0 (w.heap.size ≤ gb296) := ⟨h5_⟩
          have n6_ : Aside0 (w.heap.size ≤ gb296) := ⟨h6_⟩
          have n7_ : Aside0 (gb278 ≠ gb296) := ⟨h7_⟩
          have n8_ : Aside0 (gb296 ≠ gb278) := ⟨h8_⟩
          have n9_ : Aside0 (gb288 ≠ gb296) := ⟨h9_⟩
          have n10_ : Aside0 (gb296 ≠ gb288) := ⟨h10_⟩
          have n11_ : Aside0 (Below w.heap.size w w57) := ⟨h11_⟩
          clear HO285
          clear BK278
          clear BK288
          clear HB
          clear h0_ h1_ h2_ h3_ h4_ h5_ h6_ h7_ h8_ h9_ h10_ h11_
          have HO285 := n0_
          have HO293 := n1_
          have BK278 := n2_
          have BK288 := n3_
          have BK296 := n4_
          have GW296 := n5_
          have GE296 := n6_
          have NB278_296 := n7_
          have NB296_278 := n8_
          have NB288_296 := n9_
          have NB296_288 := n10_
          have HB := n11_
          clear n0_ n1_ n2_ n3_ n4_ n5_ n6_ n7_ n8_ n9_ n10_ n11_
          have hHeld : w57.cell? ⟨gb278, 0, none⟩ = some (.bool a0_0) ∧ w57.cell? ⟨gb278, 1, none⟩ = some (.slice A0_1 l0_1.length c0_1) ∧ w57.cell? ⟨gb278, 2, none⟩ = some (.int .i64 a0_2) := hS_
          obtain ⟨Ao59, co59, eo59⟩ := Kd.V_slice HO293.out
          (first | subst eo59 | (injection eo59 with f1_ f2_ f3_; have f4_ := f1_.symm; have f5_ := f3_.symm; clear f1_ f2_ f3_; subst f4_; subst f5_))
          refine norm_ (a' := ?_) ?_ ?_
          rotate_left
          ·simp only [putAll, Act.put, List.setIfInBounds_toArray, List.set_cons_zero, List.set_cons_succ]
           rfl
          refine one_ (i := 12) (N := none) #[true, true, true, true, true, true, true, true, true, true, true, true, true, false] rfl rfl (one_of HT_.out (by kernel_rfl)) (by decide) (fun K hK => ?_)
          have hs58 : w57.cell? ⟨gb296, 0, none⟩ = some (.bool false) := (blk_cell BK296.out 0).trans rfl
          have hfs58 := blk_frozen BK296.out 0
          have hns58_0 := NB278_296.out
          have hns58_1 := NB288_296.out
          have hms58_0 := NB296_278.out
          have hms58_1 := NB296_288.out
          have hs60 : w57.cell? ⟨gb296, 1, none⟩ = some (.slice none 0 0) := (blk_cell BK296.out 1).trans rfl
          have hfs60 := blk_frozen BK296.out 1
          have hns60_0 := NB278_296.out
          have hns60_1 := NB288_296.out
          have hms60_0 := NB296_278.out
          have hms60_1 := NB296_288.out
          have hs61 : w57.cell? ⟨gb296, 2, none⟩ = some (.int .i64 0) := (blk_cell BK296.out 2).trans rfl
          have hfs61 := blk_frozen BK296.out 2
          have hns61_0 := NB278_296.out
          have hns61_1 := NB288_296.out
          have hms61_0 := NB296_278.out
          have hms61_1 := NB296_288.out
          refine skip_ (w1 := ?_) (by rfl) rfl ?_ ?_
          rotate_left
          ·go_simp
           rfl
          refine hK.out _ _ ⟨((cell_far (p := ⟨gb296, _, none⟩) NB278_296.out _).trans (((cell_far (p := ⟨gb296, _, none⟩) NB278_296.out _).trans (((cell_far (p := ⟨gb296, _, none⟩) NB278_296.out _).trans (hHeld.1)))))), ((cell_far (p := ⟨gb296, _, none⟩) NB278_296.out _).trans (((cell_far (p := ⟨gb296, _, none⟩) NB278_296.out _).trans (((cell_far (p := ⟨gb296, _, none⟩) NB278_296.out _).trans (hHeld.2.1)))))), ((cell_far (p := ⟨gb296, _, none⟩) NB278_296.out _).trans (((cell_far (p := ⟨gb296, _, none⟩) NB278_296.out _).trans (((cell_far (p := ⟨gb296, _, none⟩) NB278_296.out _).trans (hHeld.2.2))))))⟩ (fun hHeld => ?_)
          clear hK K
          refine pure_ (i := 13) (N := some 12) (v := ?_) (a' := ?_) #[true, true, true, true, true, true, true, true, true, true, true, true, true, true] rfl rfl (any_of HT_.out (by kernel_rfl)) (fun _ _ _ h => h) (Or.inl ⟨by rfl, ?_⟩) ?_ ?_
          rotate_left
          ·intro w'
           go_simp
           with_reducible rfl
          rotate_left
          ·simp only [Act.put, List.setIfInBounds_toArray, List.set_cons_zero, List.set_cons_succ, i64_w, i32_w]
           rfl
          refine done_ (done_of HT_.out (by kernel_rfl)) ?_
          have hnb62 := NB288_296.out
          have hnc62 := NB296_288.out
          have hcz63_0 : w57.cell? ⟨gb288, 0, none⟩ = some (.bool t282) := (blk_cell BK288.out 0).trans rfl
          have hcz63_1 : w57.cell? ⟨gb288, 1, none⟩ = some (.slice Ao51 t283.length co51) := (blk_cell BK288.out 1).trans rfl
          have hcz63_2 : w57.cell? ⟨gb288, 2, none⟩ = some (.int .i64 t286) := (blk_cell BK288.out 2).trans rfl
          have hfz63_0 := blk_frozen BK288.out 0
          have hfz63_1 := blk_frozen BK288.out 1
          have hfz63_2 := blk_frozen BK288.out 2
          have hnb64 := NB278_296.out
          have hnc64 := NB296_278.out
          have hcz65_0 : w57.cell? ⟨gb278, 0, none⟩ = some (.bool a0_0) := (blk_cell BK278.out 0).trans rfl
          have hcz65_1 : w57.cell? ⟨gb278, 1, none⟩ = some (.slice A0_1 l0_1.length c0_1) := (blk_cell BK278.out 1).trans rfl
          have hcz65_2 : w57.cell? ⟨gb278, 2, none⟩ = some (.int .i64 a0_2) := (blk_cell BK278.out 2).trans rfl
          have hfz65_0 := blk_frozen BK278.out 0
          have hfz65_1 := blk_frozen BK278.out 1
          have hfz65_2 := blk_frozen BK278.out 2
          have hcz66_0 : w57.cell? ⟨gb296, 0, none⟩ = some (.bool false) := (blk_cell BK296.out 0).trans rfl
          have hcz66_1 : w57.cell? ⟨gb296, 1, none⟩ = some (.slice none 0 0) := (blk_cell BK296.out 1).trans rfl
          have hcz66_2 : w57.cell? ⟨gb296, 2, none⟩ = some (.int .i64 0) := (blk_cell BK296.out 2).trans rfl
          have hfz66_0 := blk_frozen BK296.out 0
          have hfz66_1 := blk_frozen BK296.out 1
          have hfz66_2 := blk_frozen BK296.out 2
          try go_wp2_with (first | (go_at_call 15; (with_reducible refine (exergueref05_Same.calls kj4 t282 _ _ t283 t286 t290 _ _ t291 t294 t297 _ ?side1 ?side2 ?side3 ?side4 A45.out).mono ?_); (case side1 => refine (Kd.V_reads' (e := 5) (base := w.heap.size) (ok := fun k_ => (k_ ≠ gb278 ∧ (k_ ≠ gb288 ∧ k_ ≠ gb296))) (n := t283.length) (c := co51) ?_).2.2; exact (by (with_reducible repeat (first | apply Kd.V_alloc | apply Kd.V_drewN | apply Kd.V_drew)); exact (Kd.V_mono (Kd.V_far (p := ⟨gb296, 2, none⟩) (Kd.V_far (p := ⟨gb296, 1, none⟩) (Kd.V_far (p := ⟨gb296, 0, none⟩) (Kd.V_mono HO285.out (fun k_ hk => (⟨hk, hk.2.2⟩ : _ ∧ k_ ≠ gb296))) (fun _ hk => hk.2) (.bool t290)) (fun _ hk => hk.2) (.slice Ao59 t291.length co59)) (fun _ hk => hk.2) (.int .i64 t294)) (fun _ h_ => h_.1)))); (case side2 => exact (Kd.V_reads' HO285.out).2.1); (case side3 => refine (Kd.V_reads' (e := 5) (base := w.heap.size) (ok := fun k_ => (k_ ≠ gb278 ∧ (k_ ≠ gb288 ∧ k_ ≠ gb296))) (n := t291.length) (c := co59) ?_).2.2; exact (by (with_reducible repeat (first | apply Kd.V_alloc | apply Kd.V_drewN | apply Kd.V_drew)); exact (Kd.V_mono (Kd.V_far (p := ⟨gb296, 2, none⟩) (Kd.V_far (p := ⟨gb296, 1, none⟩) (Kd.V_far (p := ⟨gb296, 0, none⟩) (Kd.V_mono HO293.out (fun k_ hk => (⟨hk, hk.2.2⟩ : _ ∧ k_ ≠ gb296))) (fun _ hk => hk.2) (.bool t290)) (fun _ hk => hk.2) (.slice Ao59 t291.length co59)) (fun _ hk => hk.2) (.int .i64 t294)) (fun _ h_ => h_.1)))); (case side4 => exact (Kd.V_reads' HO293.out).2.1); rintro e w67 ⟨rfl, hb⟩; have n0_ := Aside0.mk (Kd.V_below (by (with_reducible repeat (first | apply Kd.V_alloc | apply Kd.V_drewN | apply Kd.V_drew)); exact (Kd.V_mono (Kd.V_far (p := ⟨gb296, 2, none⟩) (Kd.V_far (p := ⟨gb296, 1, none⟩) (Kd.V_far (p := ⟨gb296, 0, none⟩) (Kd.V_mono HO285.out (fun k_ hk => (⟨hk, hk.2.2⟩ : _ ∧ k_ ≠ gb296))) (fun _ hk => hk.2) (.bool t290)) (fun _ hk => hk.2) (.slice Ao59 t291.length co59)) (fun _ hk => hk.2) (.int .i64 t294)) (fun _ h_ => h_.1))) hb); have n1_ := Aside0.mk (Kd.V_below (by (with_reducible repeat (first | apply Kd.V_alloc | apply Kd.V_drewN | apply Kd.V_drew)); exact (Kd.V_mono (Kd.V_far (p := ⟨gb296, 2, none⟩) (Kd.V_far (p := ⟨gb296, 1, none⟩) (Kd.V_far (p := ⟨gb296, 0, none⟩) (Kd.V_mono HO293.out (fun k_ hk => (⟨hk, hk.2.2⟩ : _ ∧ k_ ≠ gb296))) (fun _ hk => hk.2) (.bool t290)) (fun _ hk => hk.2) (.slice Ao59 t291.length co59)) (fun _ hk => hk.2) (.int .i64 t294)) (fun _ h_ => h_.1))) hb); have n2_ := Aside0.mk (blk_below (g := gb278) (o := .cells #[.bool a0_0, .slice A0_1 l0_1.length c0_1, .int .i64 a0_2] 24 (0, 0)) (by (with_reducible repeat (first | refine blk_drewN ?_ _ | refine blk_drew ?_ | refine blk_alloc ?_ _)); refine blk_far ?_ NB278_296.out _; (with_reducible repeat (first | refine blk_drewN ?_ _ | refine blk_drew ?_ | refine blk_alloc ?_ _)); refine blk_far ?_ NB278_296.out _; (with_reducible repeat (first | refine blk_drewN ?_ _ | refine blk_drew ?_ | refine blk_alloc ?_ _)); refine blk_far ?_ NB278_296.out _; (with_reducible repeat (first | refine blk_drewN ?_ _ | refine blk_drew ?_ | refine blk_alloc ?_ _)); exact BK278.out) hb); have n3_ := Aside0.mk (blk_below (g := gb288) (o := .cells #[.bool t282, .slice Ao51 t283.length co51, .int .i64 t286] 24 (0, 0)) (by (with_reducible repeat (first | refine blk_drewN ?_ _ | refine blk_drew ?_ | refine blk_alloc ?_ _)); refine blk_far ?_ NB288_296.out _; (with_reducible repeat (first | refine blk_drewN ?_ _ | refine blk_drew ?_ | refine blk_alloc ?_ _)); refine blk_far ?_ NB288_296.out _; (with_reducible repeat (first | refine blk_drewN ?_ _ | refine blk_drew ?_ | refine blk_alloc ?_ _)); refine blk_far ?_ NB288_296.out _; (with_reducible repeat (first | refine blk_drewN ?_ _ | refine blk_drew ?_ | refine blk_alloc ?_ _)); exact BK288.out) hb); have n4_ := Aside0.mk (blk_below (g := gb296) (o := .cells #[.bool t290, .slice Ao59 t291.length co59, .int .i64 t294] 24 (0, 0)) (by (with_reducible repeat (first | refine blk_drewN ?_ _ | refine blk_drew ?_ | refine blk_alloc ?_ _)); refine blk_put (cs := #[.bool t290, .slice Ao59 t291.length co59, .int .i64 0]) ?_ 2 _ rfl; (with_reducible repeat (first | refine blk_drewN ?_ _ | refine blk_drew ?_ | refine blk_alloc ?_ _)); refine blk_put (cs := #[.bool t290, .slice none 0 0, .int .i64 0]) ?_ 1 _ rfl; (with_reducible repeat (first | refine blk_drewN ?_ _ | refine blk_drew ?_ | refine blk_alloc ?_ _)); refine blk_put (cs := #[.bool false, .slice none 0 0, .int .i64 0]) ?_ 0 _ rfl; (with_reducible repeat (first | refine blk_drewN ?_ _ | refine blk_drew ?_ | refine blk_alloc ?_ _)); exact BK296.out) hb); have n5_ := Aside0.mk (below_step (by repeat (first | (with_reducible first | exact HB.out | apply below_alloc | apply pw_below_drewN | apply below_drew1 | refine below_set ?_ GE278.out | refine below_set ?_ GE288.out | refine below_set ?_ GE296.out) | exact HB.out)) hb); clear HO285; clear HO293; clear BK278; clear BK288; clear BK296; clear HB; have HO285 := n0_; have HO293 := n1_; have BK278 := n2_; have BK288 := n3_; have BK296 := n4_; have HB := n5_; clear n0_ n1_ n2_ n3_ n4_ n5_; (try clear hb); (try clear hb2); (try clear hk); (try clear hi)))
          go_ret
          exact ⟨by first | rfl | (simp [errW_none, errW_some] <;> rfl) | (simp [*, errW_none, errW_some] <;> rfl), by repeat (first | (with_reducible first | exact HB.out | apply below_alloc | apply pw_below_drewN | apply below_drew1 | refine below_set ?_ GE278.out | refine below_set ?_ GE288.out | refine below_set ?_ GE296.out) | exact HB.out)⟩
        ·rw [if_neg c23] at H
         have c23b0 : decide ((wrap64 ((wrap64 (Int.tmod a1 60)) + 1)) < (l0_1.length : Int)) = false := decide_eq_false c23
         clear c23
         replace H := Option.bind_eq_some_iff.mp H
         obtain ⟨t298, A680, H⟩ := H
         replace H : (if t298 = true then (if (l0_1.length : Int) = 0 then (some true) else ((exergueref05_Same.f kj4 t282 t283 t286 t290 t291 t294).bind fun t299 => (some t299))) else (none)) = some r := H
         have A68 := Aside0.mk A680
         clear A680
         by_cases c69 : t298 = true
         ·subst c69
          have H1 : (if (l0_1.length : Int) = 0 then (some true) else ((exergueref05_Same.f kj4 t282 t283 t286 t290 t291 t294).bind fun t299 => (some t299))) = some r := by rw [if_pos rfl] at H; exact H
          clear H
          have H := H1
          clear H1
          by_cases c70 : (l0_1.length : Int) = 0
          ·rw [if_pos c70] at H
           have c70b0 : ((l0_1.length : Int) == 0) = true := beq_iff_eq.mpr c70
           have c70b1 : ((l0_1.length : Int) != 0) = false := bne_eq_false_iff_eq.mpr c70
           clear c70
           obtain rfl := Option.some.inj H
           have hcz71_0 : wc.cell? ⟨gb278, 0, none⟩ = some (.bool a0_0) := (blk_cell BK278.out 0).trans rfl
           have hcz71_1 : wc.cell? ⟨gb278, 1, none⟩ = some (.slice A0_1 l0_1.length c0_1) := (blk_cell BK278.out 1).trans rfl
           have hcz71_2 : wc.cell? ⟨gb278, 2, none⟩ = some (.int .i64 a0_2) := (blk_cell BK278.out 2).trans rfl
           have hfz71_0 := blk_frozen BK278.out 0
           have hfz71_1 := blk_frozen BK278.out 1
           have hfz71_2 := blk_frozen BK278.out 2
           try go_wp2_with (first | ((with_reducible refine gate_callee (f := 18) rfl ?_); refine goesL_ (some 31) rfl rfl Tryd.func18 (by kernel_rfl) rfl #[.agg #[.bool a0_0, .slice A0_1 l0_1.length c0_1, .int .i64 a0_2], .int .i64 (wrap64 ((wrap64 (Int.tmod a1 60)) + 1)), .int .i64 a2] rfl (by (try simp only [List.map_toArray, List.map_cons, List.map_nil]); first | done | rfl | (simp only [List.length_drop, List.length_take]; rfl)) ?_; (with_reducible refine (round_Sig.calls kj4 a0_0 (fun k_ => k_ < w.heap.size) _ _ l0_1 a0_2 (wrap64 ((wrap64 (Int.tmod a1 60)) + 1)) a2 t282 t283 t286 t287 _ ?side2 ?side1 A16.out).mono ?_); (case side1 => exact Kd.V_mk HC0_1.out (Kd.F_below (Kd.C_F (Kd.heap_int .u8) HR0_1.out) (by repeat (first | (with_reducible first | exact HB.out | apply below_alloc | apply pw_below_drewN | apply below_drew1 | refine below_set ?_ GE278.out) | exact HB.out)))); (case side2 => refine GL.below HG.out ?_; repeat (first | (with_reducible first | exact HB.out | apply below_alloc | apply pw_below_drewN | apply below_drew1 | refine below_set ?_ GE278.out) | exact HB.out)); rintro e w72 ⟨v284, rfl, ho0, hb⟩; refine ⟨_, rfl, ?_⟩; have n0_ := Aside0.mk (Kd.V_lower (Kd.V_mono (ok' := fun k_ => k_ ≠ gb278) ho0 (fun k_ hk_ => Or.elim hk_ (fun hs_ => fun e_ => Nat.not_le.2 hs_ (by rw [e_]; exact GW278.out)) (fun hn_ => (Kd.freshB (g := gb278) (o := .cells #[.bool a0_0, .slice A0_1 l0_1.length c0_1, .int .i64 a0_2] 24 (0, 0)) (by (with_reducible repeat (first | refine blk_drewN ?_ _ | refine blk_drew ?_ | refine blk_alloc ?_ _)); exact BK278.out) k_ hn_)))) (below_size (by repeat (first | (with_reducible first | exact HB.out | apply below_alloc | apply pw_below_drewN | apply below_drew1 | refine below_set ?_ GE278.out) | exact HB.out)))); have n1_ := Aside0.mk (blk_below (g := gb278) (o := .cells #[.bool a0_0, .slice A0_1 l0_1.length c0_1, .int .i64 a0_2] 24 (0, 0)) (by (with_reducible repeat (first | refine blk_drewN ?_ _ | refine blk_drew ?_ | refine blk_alloc ?_ _)); exact BK278.out) hb); have n2_ := Aside0.mk (below_step (by repeat (first | (with_reducible first | exact HB.out | apply below_alloc | apply pw_below_drewN | apply below_drew1 | refine below_set ?_ GE278.out) | exact HB.out)) hb); clear BK278; clear HB; have HO285 := n0_; have BK278 := n1_; have HB := n2_; clear n0_ n1_ n2_; (try clear hb); (try clear hb2); (try clear hk); (try clear hi); (try clear ho0)) | ((with_reducible refine gate_dst (N := 9) rfl ?_); (try (refine gate_guard (by rfl) ?_; dsimp only)); refine box_event ?hg (N := 9) ?hd (cs := #[.bool false, .slice none 0 0, .int .i64 0]) (t := 24) ?hr ?_; (case hd => rfl); (case hg => rfl); (case hr => first | (go_simp; done) | (go_simp; rfl)); intro gb288 hg w73 hbox hb; have n0_ := Aside0.mk (Kd.V_below (Kd.V_elderB (by (with_reducible repeat (first | apply Kd.V_alloc | apply Kd.V_drewN | apply Kd.V_drew)); exact HO285.out) gb288 (Nat.le_of_eq hg.symm)) hb); have n1_ := Aside0.mk (blk_below (g := gb278) (o := .cells #[.bool a0_0, .slice A0_1 l0_1.length c0_1, .int .i64 a0_2] 24 (0, 0)) (by (with_reducible repeat (first | refine blk_drewN ?_ _ | refine blk_drew ?_ | refine blk_alloc ?_ _)); exact BK278.out) hb); have n2_ := Aside0.mk (below_step (by repeat (first | (with_reducible first | exact HB.out | apply below_alloc | apply pw_below_drewN | apply below_drew1 | refine below_set ?_ GE278.out) | exact HB.out)) hb); have n3_ := Aside0.mk (hbox); have n4_ := Aside0.mk ((by rw [hg]; exact (below_size (by repeat (first | (with_reducible first | exact HB.out | apply below_alloc | apply pw_below_drewN | apply below_drew1 | refine below_set ?_ GE278.out) | exact HB.out))) : w.heap.size ≤ gb288)); have n5_ := Aside0.mk ((by rw [hg]; exact (below_size (by repeat (first | (with_reducible first | exact HB.out | apply below_alloc | apply pw_below_drewN | apply below_drew1 | refine below_set ?_ GE278.out) | exact HB.out))) : w.heap.size ≤ gb288)); have n6_ := Aside0.mk ((by rw [hg]; exact Nat.ne_of_lt (blk_lt (g := gb278) (o := .cells #[.bool a0_0, .slice A0_1 l0_1.length c0_1, .int .i64 a0_2] 24 (0, 0)) (by (with_reducible repeat (first | refine blk_drewN ?_ _ | refine blk_drew ?_ | refine blk_alloc ?_ _)); exact BK278.out)) : gb278 ≠ gb288)); have n7_ := Aside0.mk ((by rw [hg]; exact Nat.ne_of_gt (blk_lt (g := gb278) (o := .cells #[.bool a0_0, .slice A0_1 l0_1.length c0_1, .int .i64 a0_2] 24 (0, 0)) (by (with_reducible repeat (first | refine blk_drewN ?_ _ | refine blk_drew ?_ | refine blk_alloc ?_ _)); exact BK278.out)) : gb288 ≠ gb278)); clear HO285; clear BK278; clear HB; have HO285 := n0_; have BK278 := n1_; have HB := n2_; have BK288 := n3_; have GW288 := n4_; have GE288 := n5_; have NB278_288 := n6_; have NB288_278 := n7_; clear n0_ n1_ n2_ n3_ n4_ n5_ n6_ n7_; clear hb hbox hg; have hnb74 := NB288_278.out; have hnc74 := NB278_288.out; have hcz75_0 : w73.cell? ⟨gb288, 0, none⟩ = some (.bool false) := (blk_cell BK288.out 0).trans rfl; have hcz75_1 : w73.cell? ⟨gb288, 1, none⟩ = some (.slice none 0 0) := (blk_cell BK288.out 1).trans rfl; have hcz75_2 : w73.cell? ⟨gb288, 2, none⟩ = some (.int .i64 0) := (blk_cell BK288.out 2).trans rfl; have hfz75_0 := blk_frozen BK288.out 0; have hfz75_1 := blk_frozen BK288.out 1; have hfz75_2 := blk_frozen BK288.out 2; obtain ⟨Ao76, co76, eo76⟩ := Kd.V_slice HO285.out; subst eo76))
           have n0_ : Aside0 (Kd.V (Kd.int .u8) 5 (((w73.setCell ⟨gb288, 0, none⟩ (.bool t282)).setCell ⟨gb288, 1, none⟩ (.slice Ao76 t283.length co76)).setCell ⟨gb288, 2, none⟩ (.int .i64 t286)) w.heap.size (fun k_ => k_ ≠ gb278 ∧ k_ ≠ gb288) (.slice Ao76 t283.length co76) t283) := ⟨by (with_reducible repeat (first | apply Kd.V_alloc | apply Kd.V_drewN | apply Kd.V_drew)); exact Kd.V_mono (Kd.V_far (p := ⟨gb288, 2, none⟩) (Kd.V_far (p := ⟨gb288, 1, none⟩) (Kd.V_far (p := ⟨gb288, 0, none⟩) (Kd.V_mono HO285.out (fun k_ hk => (⟨hk, hk.2⟩ : _ ∧ k_ ≠ gb288))) (fun _ hk => hk.2) (.bool t282)) (fun _ hk => hk.2) (.slice Ao76 t283.length co76)) (fun _ hk => hk.2) (.int .i64 t286)) (fun _ hk => ⟨hk.1.1, hk.1.2⟩)⟩
           have n1_ : Aside0 ((((w73.setCell ⟨gb288, 0, none⟩ (.bool t282)).setCell ⟨gb288, 1, none⟩ (.slice Ao76 t283.length co76)).setCell ⟨gb288, 2, none⟩ (.int .i64 t286)).heap[gb278]? = some (.cells #[.bool a0_0, .slice A0_1 l0_1.length c0_1, .int .i64 a0_2] 24 (0, 0))) := ⟨by (with_reducible repeat (first | refine blk_drewN ?_ _ | refine blk_drew ?_ | refine blk_alloc ?_ _)); refine blk_far ?_ NB278_288.out _; (with_reducible repeat (first | refine blk_drewN ?_ _ | refine blk_drew ?_ | refine blk_alloc ?_ _)); refine blk_far ?_ NB278_288.out _; (with_reducible repeat (first | refine blk_drewN ?_ _ | refine blk_drew ?_ | refine blk_alloc ?_ _)); refine blk_far ?_ NB278_288.out _; (with_reducible repeat (first | refine blk_drewN ?_ _ | refine blk_drew ?_ | refine blk_alloc ?_ _)); exact BK278.out⟩
           have n2_ : Aside0 ((((w73.setCell ⟨gb288, 0, none⟩ (.bool t282)).setCell ⟨gb288, 1, none⟩ (.slice Ao76 t283.length co76)).setCell ⟨gb288, 2, none⟩ (.int .i64 t286)).heap[gb288]? = some (.cells #[.bool t282, .slice Ao76 t283.length co76, .int .i64 t286] 24 (0, 0))) := ⟨by (with_reducible repeat (first | refine blk_drewN ?_ _ | refine blk_drew ?_ | refine blk_alloc ?_ _)); refine blk_put (cs := #[.bool t282, .slice Ao76 t283.length co76, .int .i64 0]) ?_ 2 _ rfl; (with_reducible repeat (first | refine blk_drewN ?_ _ | refine blk_drew ?_ | refine blk_alloc ?_ _)); refine blk_put (cs := #[.bool t282, .slice none 0 0, .int .i64 0]) ?_ 1 _ rfl; (with_reducible repeat (first | refine blk_drewN ?_ _ | refine blk_drew ?_ | refine blk_alloc ?_ _)); refine blk_put (cs := #[.bool false, .slice none 0 0, .int .i64 0]) ?_ 0 _ rfl; (with_reducible repeat (first | refine blk_drewN ?_ _ | refine blk_drew ?_ | refine blk_alloc ?_ _)); exact BK288.out⟩
           have n3_ : Aside0 (Below w.heap.size w (((w73.setCell ⟨gb288, 0, none⟩ (.bool t282)).setCell ⟨gb288, 1, none⟩ (.slice Ao76 t283.length co76)).setCell ⟨gb288, 2, none⟩ (.int .i64 t286))) := ⟨by repeat (first | (with_reducible first | exact HB.out | apply below_alloc | apply pw_below_drewN | apply below_drew1 | refine below_set ?_ GE278.out | refine below_set ?_ GE288.out) | exact HB.out)⟩
           (try clear HO285)
           (try clear BK278)
           (try clear BK288)
           (try clear HB)
           generalize (((w73.setCell ⟨gb288, 0, none⟩ (.bool t282)).setCell ⟨gb288, 1, none⟩ (.slice Ao76 t283.length co76)).setCell ⟨gb288, 2, none⟩ (.int .i64 t286)) = w77 at n0_ n1_ n2_ n3_ ⊢
           have HO285 := n0_
           have BK278 := n1_
           have BK288 := n2_
           have HB := n3_
           clear n0_ n1_ n2_ n3_
           have n0_ := Aside0.mk (Kd.V_drew HO285.out)
           have n1_ := Aside0.mk (blk_drew BK278.out)
           have n2_ := Aside0.mk (blk_drew BK288.out)
           have n3_ := Aside0.mk (below_drew1 HB.out)
           clear HO285
           clear BK278
           clear BK288
           clear HB
           have HO285 := n0_
           have BK278 := n1_
           have BK288 := n2_
           have HB := n3_
           clear n0_ n1_ n2_ n3_
           refine start_ (n := 14) (S := fun w' => w'.cell? ⟨gb278, 0, none⟩ = some (.bool a0_0) ∧ w'.cell? ⟨gb278, 1, none⟩ = some (.slice A0_1 l0_1.length c0_1) ∧ w'.cell? ⟨gb278, 2, none⟩ = some (.int .i64 a0_2)) (ds := []) #[false, false, false, false, false, false, false, false, false, false, false, false, false, false] (by kernel_rfl) rfl rfl ⟨(blk_cell BK278.out 0).trans rfl, (blk_cell BK278.out 1).trans rfl, (blk_cell BK278.out 2).trans rfl⟩ (fun hHeld => ?_); refine with_tabW exerguelaw06_RoundSig.tab6 exerguelaw06_RoundSig.bits6 (fun HT_ HW_ => ?_)
           generalize w77.drew = w78 at HO285 BK278 BK288 HB hHeld ⊢
           refine pure_ (i := 3) (N := some 38) (v := ?_) (a' := ?_) #[false, false, false, true, false, false, false, false, false, false, false, false, false, false] rfl rfl (any_of HT_.out (by kernel_rfl)) (fun _ _ _ h => h) (Or.inl ⟨by rfl, ?_⟩) ?_ ?_
           rotate_left
           ·intro w'
            go_simp
            with_reducible rfl
           rotate_left
           ·simp only [Act.put, List.setIfInBounds_toArray, List.set_cons_zero, List.set_cons_succ, i64_w, i32_w]
            rfl
           refine pure_ (i := 6) (N := some 41) (v := ?_) (a' := ?_) #[false, false, false, true, false, false, true, false, false, false, false, false, false, false] rfl rfl (any_of HT_.out (by kernel_rfl)) (fun _ _ _ h => h) (Or.inl ⟨by rfl, ?_⟩) ?_ ?_
           rotate_left
           ·intro w'
            go_simp
            with_reducible rfl
           rotate_left
           ·simp only [Act.put, List.setIfInBounds_toArray, List.set_cons_zero, List.set_cons_succ, i64_w, i32_w]
            rfl
           refine take_ (i := 0) (N := some 35) (v := ?_) (a' := ?_) #[true, false, false, true, false, false, true, false, false, false, false, false, false, false] rfl rfl (take_ofW HT_.out HW_.out (by kernel_rfl)) (fun _ _ _ h => h) (Or.inl ⟨by rfl, ?_⟩) hHeld ?_ ?_
           rotate_left
           ·rintro w' ⟨s0, s1, s2⟩
            go_simp
            with_reducible rfl
           rotate_left
           ·simp only [Act.put, List.setIfInBounds_toArray, List.set_cons_zero, List.set_cons_succ, i64_w, i32_w]
            rfl
           refine take_ (i := 1) (N := some 36) (v := ?_) (a' := ?_) #[true, true, false, true, false, false, true, false, false, false, false, false, false, false] rfl rfl (take_ofW HT_.out HW_.out (by kernel_rfl)) (fun _ _ _ h => h) (Or.inl ⟨by rfl, ?_⟩) hHeld ?_ ?_
           rotate_left
           ·rintro w' ⟨s0, s1, s2⟩
            go_simp
            with_reducible rfl
           rotate_left
           ·simp only [Act.put, List.setIfInBounds_toArray, List.set_cons_zero, List.set_cons_succ, i64_w, i32_w]
            rfl
           refine join_ (σ := Value × Nat) 2 #[true, true, true, true, true, true, true, true, true, true, true, true, false, false] (fun s_ => [(37, .int .i64 t289), (42, .tuple #[.agg #[.bool t290, s_.1, .int .i64 t294], .int .i64 t295]), (11, .pointer (some ⟨s_.2, 0, none⟩)), (39, .int .i64 (wrap64 (t289 - (wrap64 ((wrap64 (Int.tmod a1 60)) + 1))))), (40, .int .i64 (wrap64 ((wrap64 (t289 - (wrap64 ((wrap64 (Int.tmod a1 60)) + 1)))) + 1))), (34, .tuple #[.agg #[.bool t290, s_.1, .int .i64 t294], .int .i64 t295]), (43, .agg #[.bool t290, s_.1, .int .i64 t294]), (44, .int .i64 t295)]) (fun s_ w' => (w'.cell? ⟨gb278, 0, none⟩ = some (.bool a0_0) ∧ w'.cell? ⟨gb278, 1, none⟩ = some (.slice A0_1 l0_1.length c0_1) ∧ w'.cell? ⟨gb278, 2, none⟩ = some (.int .i64 a0_2)) ∧ (Kd.V (Kd.int .u8) 5 w' w.heap.size (fun k_ => k_ ≠ gb278 ∧ k_ ≠ gb288 ∧ k_ ≠ s_.2) (.slice Ao76 t283.length co76) t283) ∧ (Kd.V (Kd.int .u8) 5 w' w.heap.size (fun k_ => k_ ≠ gb278 ∧ k_ ≠ gb288 ∧ k_ ≠ s_.2) s_.1 t291) ∧ (w'.heap[gb278]? = some (.cells #[.bool a0_0, .slice A0_1 l0_1.length c0_1, .int .i64 a0_2] 24 (0, 0))) ∧ (w'.heap[gb288]? = some (.cells #[.bool t282, .slice Ao76 t283.length co76, .int .i64 t286] 24 (0, 0))) ∧ (w'.heap[s_.2]? = some (.cells #[.bool false, .slice none 0 0, .int .i64 0] 24 (0, 0))) ∧ (w.heap.size ≤ s_.2) ∧ (w.heap.size ≤ s_.2) ∧ (gb278 ≠ s_.2) ∧ (s_.2 ≠ gb278) ∧ (gb288 ≠ s_.2) ∧ (s_.2 ≠ gb288) ∧ (Below w.heap.size w w')) ?_ ?_
           rotate_left
           ·intro hCont
            refine two_ (i := 2) (j := 11) (Ni := some 37) (Nj := some 11) #[true, true, true, true, false, false, true, false, false, false, false, false, false, false] #[true, true, false, true, false, false, true, false, false, false, false, true, false, false] rfl rfl rfl rfl (two_of HT_.out (by kernel_rfl)) (by decide) (by decide) (fun K hK => ?_) (fun K hK => ?_)
            ·skip
             refine goes_ Tryd.func20 (by kernel_rfl) rfl #[.agg #[.bool a0_0, .slice A0_1 l0_1.length c0_1, .int .i64 a0_2]] (by rfl) rfl rfl (by (try simp only [List.map_toArray, List.map_cons, List.map_nil]); first | done | rfl | (simp only [List.length_drop, List.length_take]; rfl)) ?_
             with_reducible refine (exergueref05_Mag.calls a0_0 _ _ l0_1 a0_2 t289 _ ?side1 ?side2 A17.out).mono ?_
             (case side1 => repeat (first | exact (Kd.C_below HR0_1.out HB.out) | (with_reducible refine Kd.C_alloc ?_ _) | (with_reducible refine Kd.C_drewN ?_ _) | (with_reducible refine Kd.C_drew ?_)))
             (case side2 => exact HC0_1.out)
             rintro e w79 ⟨rfl, hb⟩
             refine ⟨_, rfl, ?_⟩
             have n0_ := Aside0.mk (Kd.V_below (by (with_reducible repeat (first | apply Kd.V_alloc | apply Kd.V_drewN | apply Kd.V_drew)); exact HO285.out) hb)
             have n1_ := Aside0.mk (blk_below (g := gb278) (o := .cells #[.bool a0_0, .slice A0_1 l0_1.length c0_1, .int .i64 a0_2] 24 (0, 0)) (by (with_reducible repeat (first | refine blk_drewN ?_ _ | refine blk_drew ?_ | refine blk_alloc ?_ _)); exact BK278.out) hb)
             have n2_ := Aside0.mk (blk_below (g := gb288) (o := .cells #[.bool t282, .slice Ao76 t283.length co76, .int .i64 t286] 24 (0, 0)) (by (with_reducible repeat (first | refine blk_drewN ?_ _ | refine blk_drew ?_ | refine blk_alloc ?_ _)); exact BK288.out) hb)
             have n3_ := Aside0.mk (below_step (by repeat (first | (with_reducible first | exact HB.out | apply below_alloc | apply pw_below_drewN | apply below_drew1 | refine below_set ?_ GE278.out | refine below_set ?_ GE288.out) | exact HB.out)) hb)
             clear HO285
             clear BK278
             clear BK288
             clear HB
             have HO285 := n0_
             have BK278 := n1_
             have BK288 := n2_
             have HB := n3_
             clear n0_ n1_ n2_ n3_
             (try clear hb)
             (try clear hb2)
             (try clear hk)
             (try clear hi)
             refine hK.out _ _ ⟨(blk_cell BK278.out 0).trans rfl, (blk_cell BK278.out 1).trans rfl, (blk_cell BK278.out 2).trans rfl⟩ (fun hHeld => ?_)
             clear hK K
             refine norm_ (a' := ?_) ?_ ?_
             rotate_left
             ·show Act.put _ (some 37) _ = _
              simp only [Act.put, List.setIfInBounds_toArray, List.set_cons_zero, List.set_cons_succ, i64_w, i32_w]
              rfl
             refine pure_ (i := 4) (N := some 39) (v := ?_) (a' := ?_) #[true, true, true, true, true, false, true, false, false, false, false, false, false, false] rfl rfl (any_of HT_.out (by kernel_rfl)) (fun _ _ _ h => h) (Or.inl ⟨by rfl, ?_⟩) ?_ ?_
             rotate_left
             ·intro w'
              go_simp
              with_reducible rfl
             rotate_left
             ·simp only [Act.put, List.setIfInBounds_toArray, List.set_cons_zero, List.set_cons_succ, i64_w, i32_w]
              rfl
             refine pure_ (i := 5) (N := some 40) (v := ?_) (a' := ?_) #[true, true, true, true, true, true, true, false, false, false, false, false, false, false] rfl rfl (any_of HT_.out (by kernel_rfl)) (fun _ _ _ h => h) (Or.inl ⟨by rfl, ?_⟩) ?_ ?_
             rotate_left
             ·intro w'
              go_simp
              with_reducible rfl
             rotate_left
             ·simp only [Act.put, List.setIfInBounds_toArray, List.set_cons_zero, List.set_cons_succ, i64_w, i32_w]
              rfl
             refine two_ (i := 7) (j := 11) (Ni := some 42) (Nj := some 11) #[true, true, true, true, true, true, true, true, false, false, false, false, false, false] #[true, true, true, true, true, true, true, false, false, false, false, true, false, false] rfl rfl rfl rfl (two_of HT_.out (by kernel_rfl)) (by decide) (by decide) (fun K hK => ?_) (fun K hK => ?_)
             ·skip
              refine goes_ Tryd.func19 (by kernel_rfl) rfl #[.agg #[.bool a0_0, .slice A0_1 l0_1.length c0_1, .int .i64 a0_2], .int .i64 (wrap64 ((wrap64 (t289 - (wrap64 ((wrap64 (Int.tmod a1 60)) + 1)))) + 1)), .int .i64 a2] (by rfl) rfl rfl (by (try simp only [List.map_toArray, List.map_cons, List.map_nil]); first | done | rfl | (simp only [List.length_drop, List.length_take]; rfl)) ?_
              with_reducible refine (round_To.calls kj4 a0_0 (fun k_ => k_ < w.heap.size) _ _ l0_1 a0_2 (wrap64 ((wrap64 (t289 - (wrap64 ((wrap64 (Int.tmod a1 60)) + 1)))) + 1)) a2 t290 t291 t294 t295 _ ?side2 ?side1 A18.out).mono ?_
              (case side1 => exact Kd.V_mk HC0_1.out (Kd.F_below (Kd.C_F (Kd.heap_int .u8) HR0_1.out) (by repeat (first | (with_reducible first | exact HB.out | apply below_alloc | apply pw_below_drewN | apply below_drew1 | refine below_set ?_ GE278.out | refine below_set ?_ GE288.out) | exact HB.out))))
              (case side2 => refine GL.below HG.out ?_; repeat (first | (with_reducible first | exact HB.out | apply below_alloc | apply pw_below_drewN | apply below_drew1 | refine below_set ?_ GE278.out | refine below_set ?_ GE288.out) | exact HB.out))
              rintro e w80 ⟨v292, rfl, ho0, hb⟩
              refine ⟨_, rfl, ?_⟩
              have n0_ := Aside0.mk (Kd.V_below (by (with_reducible repeat (first | apply Kd.V_alloc | apply Kd.V_drewN | apply Kd.V_drew)); exact HO285.out) hb)
              have n1_ := Aside0.mk (Kd.V_lower (Kd.V_mono (ok' := fun k_ => k_ ≠ gb278 ∧ k_ ≠ gb288) ho0 (fun k_ hk_ => ⟨Or.elim hk_ (fun hs_ => fun e_ => Nat.not_le.2 hs_ (by rw [e_]; exact GW278.out)) (fun hn_ => (Kd.freshB (g := gb278) (o := .cells #[.bool a0_0, .slice A0_1 l0_1.length c0_1, .int .i64 a0_2] 24 (0, 0)) (by (with_reducible repeat (first | refine blk_drewN ?_ _ | refine blk_drew ?_ | refine blk_alloc ?_ _)); exact BK278.out) k_ hn_)), Or.elim hk_ (fun hs_ => fun e_ => Nat.not_le.2 hs_ (by rw [e_]; exact GW288.out)) (fun hn_ => (Kd.freshB (g := gb288) (o := .cells #[.bool t282, .slice Ao76 t283.length co76, .int .i64 t286] 24 (0, 0)) (by (with_reducible repeat (first | refine blk_drewN ?_ _ | refine blk_drew ?_ | refine blk_alloc ?_ _)); exact BK288.out) k_ hn_))⟩)) (below_size (by repeat (first | (with_reducible first | exact HB.out | apply below_alloc | apply pw_below_drewN | apply below_drew1 | refine below_set ?_ GE278.out | refine below_set ?_ GE288.out) | exact HB.out))))
              have n2_ := Aside0.mk (blk_below (g := gb278) (o := .cells #[.bool a0_0, .slice A0_1 l0_1.length c0_1, .int .i64 a0_2] 24 (0, 0)) (by (with_reducible repeat (first | refine blk_drewN ?_ _ | refine blk_drew ?_ | refine blk_alloc ?_ _)); exact BK278.out) hb)
              have n3_ := Aside0.mk (blk_below (g := gb288) (o := .cells #[.bool t282, .slice Ao76 t283.length co76, .int .i64 t286] 24 (0, 0)) (by (with_reducible repeat (first | refine blk_drewN ?_ _ | refine blk_drew ?_ | refine blk_alloc ?_ _)); exact BK288.out) hb)
              have n4_ := Aside0.mk (below_step (by repeat (first | (with_reducible first | exact HB.out | apply below_alloc | apply pw_below_drewN | apply below_drew1 | refine below_set ?_ GE278.out | refine below_set ?_ GE288.out) | exact HB.out)) hb)
              clear HO285
              clear BK278
              clear BK288
              clear HB
              have HO285 := n0_
              have HO293 := n1_
              have BK278 := n2_
              have BK288 := n3_
              have HB := n4_
              clear n0_ n1_ n2_ n3_ n4_
              (try clear hb)
              (try clear hb2)
              (try clear hk)
              (try clear hi)
              (try clear ho0)
              refine hK.out _ _ ⟨(blk_cell BK278.out 0).trans rfl, (blk_cell BK278.out 1).trans rfl, (blk_cell BK278.out 2).trans rfl⟩ (fun hHeld => ?_)
              clear hK K
              refine norm_ (a' := ?_) ?_ ?_
              rotate_left
              ·show Act.put _ (some 42) _ = _
               simp only [Act.put, List.setIfInBounds_toArray, List.set_cons_zero, List.set_cons_succ, i64_w, i32_w]
               rfl
              refine pure_ (i := 8) (N := some 34) (v := ?_) (a' := ?_) #[true, true, true, true, true, true, true, true, true, false, false, false, false, false] rfl rfl (any_of HT_.out (by kernel_rfl)) (fun _ _ _ h => h) (Or.inl ⟨by rfl, ?_⟩) ?_ ?_
              rotate_left
              ·intro w'
               go_simp
               with_reducible rfl
              rotate_left
              ·simp only [Act.put, List.setIfInBounds_toArray, List.set_cons_zero, List.set_cons_succ, i64_w, i32_w]
               rfl
              refine pure_ (i := 9) (N := some 43) (v := ?_) (a' := ?_) #[true, true, true, true, true, true, true, true, true, true, false, false, false, false] rfl rfl (any_of HT_.out (by kernel_rfl)) (fun _ _ _ h => h) (Or.inl ⟨by rfl, ?_⟩) ?_ ?_
              rotate_left
              ·intro w'
               go_simp
               with_reducible rfl
              rotate_left
              ·simp only [Act.put, List.setIfInBounds_toArray, List.set_cons_zero, List.set_cons_succ, i64_w, i32_w]
               rfl
              refine pure_ (i := 10) (N := some 44) (v := ?_) (a' := ?_) #[true, true, true, true, true, true, true, true, true, true, true, false, false, false] rfl rfl (any_of HT_.out (by kernel_rfl)) (fun _ _ _ h => h) (Or.inl ⟨by rfl, ?_⟩) ?_ ?_
              rotate_left
              ·intro w'
               go_simp
               with_reducible rfl
              rotate_left
              ·simp only [Act.put, List.setIfInBounds_toArray, List.set_cons_zero, List.set_cons_succ, i64_w, i32_w]
               rfl
              refine one_ (i := 11) (N := some 11) #[true, true, true, true, true, true, true, true, true, true, true, true, false, false] rfl rfl (one_of HT_.out (by kernel_rfl)) (by decide) (fun K hK => ?_)
              refine box_step ?hg (N := 11) ?hd (cs := #[.bool false, .slice none 0 0, .int .i64 0]) (t := 24) ?hr ?_; (case hd => rfl); (case hg => rfl); (case hr => first | (go_simp; done) | (go_simp; rfl))
              intro gb296 hg w81 hbox hb
              have n0_ := Aside0.mk (Kd.V_below (Kd.V_elderB (by (with_reducible repeat (first | apply Kd.V_alloc | apply Kd.V_drewN | apply Kd.V_drew)); exact HO285.out) gb296 (Nat.le_of_eq hg.symm)) hb)
              have n1_ := Aside0.mk (Kd.V_below (Kd.V_elderB (by (with_reducible repeat (first | apply Kd.V_alloc | apply Kd.V_drewN | apply Kd.V_drew)); exact HO293.out) gb296 (Nat.le_of_eq hg.symm)) hb)
              have n2_ := Aside0.mk (blk_below (g := gb278) (o := .cells #[.bool a0_0, .slice A0_1 l0_1.length c0_1, .int .i64 a0_2] 24 (0, 0)) (by (with_reducible repeat (first | refine blk_drewN ?_ _ | refine blk_drew ?_ | refine blk_alloc ?_ _)); exact BK278.out) hb)
              have n3_ := Aside0.mk (blk_below (g := gb288) (o := .cells #[.bool t282, .slice Ao76 t283.length co76, .int .i64 t286] 24 (0, 0)) (by (with_reducible repeat (first | refine blk_drewN ?_ _ | refine blk_drew ?_ | refine blk_alloc ?_ _)); exact BK288.out) hb)
              have n4_ := Aside0.mk (below_step (by repeat (first | (with_reducible first | exact HB.out | apply below_alloc | apply pw_below_drewN | apply below_drew1 | refine below_set ?_ GE278.out | refine below_set ?_ GE288.out) | exact HB.out)) hb)
              have n5_ := Aside0.mk (hbox)
              have n6_ := Aside0.mk ((by rw [hg]; exact (below_size (by repeat (first | (with_reducible first | exact HB.out | apply below_alloc | apply pw_below_drewN | apply below_drew1 | refine below_set ?_ GE278.out | refine below_set ?_ GE288.out) | exact HB.out))) : w.heap.size ≤ gb296))
              have n7_ := Aside0.mk ((by rw [hg]; exact (below_size (by repeat (first | (with_reducible first | exact HB.out | apply below_alloc | apply pw_below_drewN | apply below_drew1 | refine below_set ?_ GE278.out | refine below_set ?_ GE288.out) | exact HB.out))) : w.heap.size ≤ gb296))
              have n8_ := Aside0.mk ((by rw [hg]; exact Nat.ne_of_lt (blk_lt (g := gb278) (o := .cells #[.bool a0_0, .slice A0_1 l0_1.length c0_1, .int .i64 a0_2] 24 (0, 0)) (by (with_reducible repeat (first | refine blk_drewN ?_ _ | refine blk_drew ?_ | refine blk_alloc ?_ _)); exact BK278.out)) : gb278 ≠ gb296))
              have n9_ := Aside0.mk ((by rw [hg]; exact Nat.ne_of_gt (blk_lt (g := gb278) (o := .cells #[.bool a0_0, .slice A0_1 l0_1.length c0_1, .int .i64 a0_2] 24 (0, 0)) (by (with_reducible repeat (first | refine blk_drewN ?_ _ | refine blk_drew ?_ | refine blk_alloc ?_ _)); exact BK278.out)) : gb296 ≠ gb278))
              have n10_ := Aside0.mk ((by rw [hg]; exact Nat.ne_of_lt (blk_lt (g := gb288) (o := .cells #[.bool t282, .slice Ao76 t283.length co76, .int .i64 t286] 24 (0, 0)) (by (with_reducible repeat (first | refine blk_drewN ?_ _ | refine blk_drew ?_ | refine blk_alloc ?_ _)); exact BK288.out)) : gb288 ≠ gb296))
              have n11_ := Aside0.mk ((by rw [hg]; exact Nat.ne_of_gt (blk_lt (g := gb288) (o := .cells #[.bool t282, .slice Ao76 t283.length co76, .int .i64 t286] 24 (0, 0)) (by (with_reducible repeat (first | refine blk_drewN ?_ _ | refine blk_drew ?_ | refine blk_alloc ?_ _)); exact BK288.out)) : gb296 ≠ gb288))
              clear HO285
              clear HO293
              clear BK278
              clear BK288
              clear HB
              have HO285 := n0_
              have HO293 := n1_
              have BK278 := n2_
              have BK288 := n3_
              have HB := n4_
              have BK296 := n5_
              have GW296 := n6_
              have GE296 := n7_
              have NB278_296 := n8_
              have NB296_278 := n9_
              have NB288_296 := n10_
              have NB296_288 := n11_
              clear n0_ n1_ n2_ n3_ n4_ n5_ n6_ n7_ n8_ n9_ n10_ n11_
              clear hb hbox hg
              refine hK.out _ _ ⟨(blk_cell BK278.out 0).trans rfl, (blk_cell BK278.out 1).trans rfl, (blk_cell BK278.out 2).trans rfl⟩ (fun hHeld => ?_)
              clear hK K
              refine norm_ (a' := ?_) ?_ ?_
              rotate_left
              ·show Act.put _ (some 11) _ = _
               simp only [Act.put, List.setIfInBounds_toArray, List.set_cons_zero, List.set_cons_succ, i64_w, i32_w]
               rfl
              exact norm_ (by simp only [putAll, Act.put, List.setIfInBounds_toArray, List.set_cons_zero, List.set_cons_succ]) (hCont (v292, gb296) _ ⟨hHeld, (by (with_reducible repeat (first | apply Kd.V_alloc | apply Kd.V_drewN | apply Kd.V_drew)); exact Kd.V_mono HO285.out (fun _ hk => ⟨hk.1.1, ⟨hk.1.2, hk.2⟩⟩)), (by (with_reducible repeat (first | apply Kd.V_alloc | apply Kd.V_drewN | apply Kd.V_drew)); exact Kd.V_mono HO293.out (fun _ hk => ⟨hk.1.1, ⟨hk.1.2, hk.2⟩⟩)), (by (with_reducible repeat (first | refine blk_drewN ?_ _ | refine blk_drew ?_ | refine blk_alloc ?_ _)); exact BK278.out), (by (with_reducible repeat (first | refine blk_drewN ?_ _ | refine blk_drew ?_ | refine blk_alloc ?_ _)); exact BK288.out), (by (with_reducible repeat (first | refine blk_drewN ?_ _ | refine blk_drew ?_ | refine blk_alloc ?_ _)); exact BK296.out), GW296.out, GE296.out, NB278_296.out, NB296_278.out, NB288_296.out, NB296_288.out, (by repeat (first | (with_reducible first | exact HB.out | apply below_alloc | apply pw_below_drewN | apply below_drew1 | refine below_set ?_ GE278.out | refine below_set ?_ GE288.out | refine below_set ?_ GE296.out) | exact HB.out))⟩)
             ·skip
              refine box_step ?hg (N := 11) ?hd (cs := #[.bool false, .slice none 0 0, .int .i64 0]) (t := 24) ?hr ?_; (case hd => rfl); (case hg => rfl); (case hr => first | (go_simp; done) | (go_simp; rfl))
              intro gb296 hg w80 hbox hb
              have n0_ := Aside0.mk (Kd.V_below (Kd.V_elderB (by (with_reducible repeat (first | apply Kd.V_alloc | apply Kd.V_drewN | apply Kd.V_drew)); exact HO285.out) gb296 (Nat.le_of_eq hg.symm)) hb)
              have n1_ := Aside0.mk (blk_below (g := gb278) (o := .cells #[.bool a0_0, .slice A0_1 l0_1.length c0_1, .int .i64 a0_2] 24 (0, 0)) (by (with_reducible repeat (first | refine blk_drewN ?_ _ | refine blk_drew ?_ | refine blk_alloc ?_ _)); exact BK278.out) hb)
              have n2_ := Aside0.mk (blk_below (g := gb288) (o := .cells #[.bool t282, .slice Ao76 t283.length co76, .int .i64 t286] 24 (0, 0)) (by (with_reducible repeat (first | refine blk_drewN ?_ _ | refine blk_drew ?_ | refine blk_alloc ?_ _)); exact BK288.out) hb)
              have n3_ := Aside0.mk (below_step (by repeat (first | (with_reducible first | exact HB.out | apply below_alloc | apply pw_below_drewN | apply below_drew1 | refine below_set ?_ GE278.out | refine below_set ?_ GE288.out) | exact HB.out)) hb)
              have n4_ := Aside0.mk (hbox)
              have n5_ := Aside0.mk ((by rw [hg]; exact (below_size (by repeat (first | (with_reducible first | exact HB.out | apply below_alloc | apply pw_below_drewN | apply below_drew1 | refine below_set ?_ GE278.out | refine below_set ?_ GE288.out) | exact HB.out))) : w.heap.size ≤ gb296))
              have n6_ := Aside0.mk ((by rw [hg]; exact (below_size (by repeat (first | (with_reducible first | exact HB.out | apply below_alloc | apply pw_below_drewN | apply below_drew1 | refine below_set ?_ GE278.out | refine below_set ?_ GE288.out) | exact HB.out))) : w.heap.size ≤ gb296))
              have n7_ := Aside0.mk ((by rw [hg]; exact Nat.ne_of_lt (blk_lt (g := gb278) (o := .cells #[.bool a0_0, .slice A0_1 l0_1.length c0_1, .int .i64 a0_2] 24 (0, 0)) (by (with_reducible repeat (first | refine blk_drewN ?_ _ | refine blk_drew ?_ | refine blk_alloc ?_ _)); exact BK278.out)) : gb278 ≠ gb296))
              have n8_ := Aside0.mk ((by rw [hg]; exact Nat.ne_of_gt (blk_lt (g := gb278) (o := .cells #[.bool a0_0, .slice A0_1 l0_1.length c0_1, .int .i64 a0_2] 24 (0, 0)) (by (with_reducible repeat (first | refine blk_drewN ?_ _ | refine blk_drew ?_ | refine blk_alloc ?_ _)); exact BK278.out)) : gb296 ≠ gb278))
              have n9_ := Aside0.mk ((by rw [hg]; exact Nat.ne_of_lt (blk_lt (g := gb288) (o := .cells #[.bool t282, .slice Ao76 t283.length co76, .int .i64 t286] 24 (0, 0)) (by (with_reducible repeat (first | refine blk_drewN ?_ _ | refine blk_drew ?_ | refine blk_alloc ?_ _)); exact BK288.out)) : gb288 ≠ gb296))
              have n10_ := Aside0.mk ((by rw [hg]; exact Nat.ne_of_gt (blk_lt (g := gb288) (o := .cells #[.bool t282, .slice Ao76 t283.length co76, .int .i64 t286] 24 (0, 0)) (by (with_reducible repeat (first | refine blk_drewN ?_ _ | refine blk_drew ?_ | refine blk_alloc ?_ _)); exact BK288.out)) : gb296 ≠ gb288))
              clear HO285
              clear BK278
              clear BK288
              clear HB
              have HO285 := n0_
              have BK278 := n1_
              have BK288 := n2_
              have HB := n3_
              have BK296 := n4_
              have GW296 := n5_
              have GE296 := n6_
              have NB278_296 := n7_
              have NB296_278 := n8_
              have NB288_296 := n9_
              have NB296_288 := n10_
              clear n0_ n1_ n2_ n3_ n4_ n5_ n6_ n7_ n8_ n9_ n10_
              clear hb hbox hg
              refine hK.out _ _ ⟨(blk_cell BK278.out 0).trans rfl, (blk_cell BK278.out 1).trans rfl, (blk_cell BK278.out 2).trans rfl⟩ (fun hHeld => ?_)
              clear hK K
              refine norm_ (a' := ?_) ?_ ?_
              rotate_left
              ·show Act.put _ (some 11) _ = _
               simp only [Act.put, List.setIfInBounds_toArray, List.set_cons_zero, List.set_cons_succ, i64_w, i32_w]
               rfl
              refine one_ (i := 7) (N := some 42) #[true, true, true, true, true, true, true, true, false, false, false, true, false, false] rfl rfl (one_of HT_.out (by kernel_rfl)) (by decide) (fun K hK => ?_)
              refine goes_ Tryd.func19 (by kernel_rfl) rfl #[.agg #[.bool a0_0, .slice A0_1 l0_1.length c0_1, .int .i64 a0_2], .int .i64 (wrap64 ((wrap64 (t289 - (wrap64 ((wrap64 (Int.tmod a1 60)) + 1)))) + 1)), .int .i64 a2] (by rfl) rfl rfl (by (try simp only [List.map_toArray, List.map_cons, List.map_nil]); first | done | rfl | (simp only [List.length_drop, List.length_take]; rfl)) ?_
              with_reducible refine (round_To.calls kj4 a0_0 (fun k_ => k_ < w.heap.size) _ _ l0_1 a0_2 (wrap64 ((wrap64 (t289 - (wrap64 ((wrap64 (Int.tmod a1 60)) + 1)))) + 1)) a2 t290 t291 t294 t295 _ ?side2 ?side1 A18.out).mono ?_
              (case side1 => exact Kd.V_mk HC0_1.out (Kd.F_below (Kd.C_F (Kd.heap_int .u8) HR0_1.out) (by repeat (first | (with_reducible first | exact HB.out | apply below_alloc | apply pw_below_drewN | apply below_drew1 | refine below_set ?_ GE278.out | refine below_set ?_ GE288.out | refine below_set ?_ GE296.out) | exact HB.out))))
              (case side2 => refine GL.below HG.out ?_; repeat (first | (with_reducible first | exact HB.out | apply below_alloc | apply pw_below_drewN | apply below_drew1 | refine below_set ?_ GE278.out | refine below_set ?_ GE288.out | refine below_set ?_ GE296.out) | exact HB.out))
              rintro e w81 ⟨v292, rfl, ho0, hb⟩
              refine ⟨_, rfl, ?_⟩
              have n0_ := Aside0.mk (Kd.V_below (by (with_reducible repeat (first | apply Kd.V_alloc | apply Kd.V_drewN | apply Kd.V_drew)); exact HO285.out) hb)
              have n1_ := Aside0.mk (Kd.V_lower (Kd.V_mono (ok' := fun k_ => k_ ≠ gb278 ∧ k_ ≠ gb288 ∧ k_ ≠ gb296) ho0 (fun k_ hk_ => ⟨Or.elim hk_ (fun hs_ => fun e_ => Nat.not_le.2 hs_ (by rw [e_]; exact GW278.out)) (fun hn_ => (Kd.freshB (g := gb278) (o := .cells #[.bool a0_0, .slice A0_1 l0_1.length c0_1, .int .i64 a0_2] 24 (0, 0)) (by (with_reducible repeat (first | refine blk_drewN ?_ _ | refine blk_drew ?_ | refine blk_alloc ?_ _)); exact BK278.out) k_ hn_)), Or.elim hk_ (fun hs_ => fun e_ => Nat.not_le.2 hs_ (by rw [e_]; exact GW288.out)) (fun hn_ => (Kd.freshB (g := gb288) (o := .cells #[.bool t282, .slice Ao76 t283.length co76, .int .i64 t286] 24 (0, 0)) (by (with_reducible repeat (first | refine blk_drewN ?_ _ | refine blk_drew ?_ | refine blk_alloc ?_ _)); exact BK288.out) k_ hn_)), Or.elim hk_ (fun hs_ => fun e_ => Nat.not_le.2 hs_ (by rw [e_]; exact GW296.out)) (fun hn_ => (Kd.freshB (g := gb296) (o := .cells #[.bool false, .slice none 0 0, .int .i64 0] 24 (0, 0)) (by (with_reducible repeat (first | refine blk_drewN ?_ _ | refine blk_drew ?_ | refine blk_alloc ?_ _)); exact BK296.out) k_ hn_))⟩)) (below_size (by repeat (first | (with_reducible first | exact HB.out | apply below_alloc | apply pw_below_drewN | apply below_drew1 | refine below_set ?_ GE278.out | refine below_set ?_ GE288.out | refine below_set ?_ GE296.out) | exact HB.out))))
              have n2_ := Aside0.mk (blk_below (g := gb278) (o := .cells #[.bool a0_0, .slice A0_1 l0_1.length c0_1, .int .i64 a0_2] 24 (0, 0)) (by (with_reducible repeat (first | refine blk_drewN ?_ _ | refine blk_drew ?_ | refine blk_alloc ?_ _)); exact BK278.out) hb)
              have n3_ := Aside0.mk (blk_below (g := gb288) (o := .cells #[.bool t282, .slice Ao76 t283.length co76, .int .i64 t286] 24 (0, 0)) (by (with_reducible repeat (first | refine blk_drewN ?_ _ | refine blk_drew ?_ | refine blk_alloc ?_ _)); exact BK288.out) hb)
              have n4_ := Aside0.mk (blk_below (g := gb296) (o := .cells #[.bool false, .slice none 0 0, .int .i64 0] 24 (0, 0)) (by (with_reducible repeat (first | refine blk_drewN ?_ _ | refine blk_drew ?_ | refine blk_alloc ?_ _)); exact BK296.out) hb)
              have n5_ := Aside0.mk (below_step (by repeat (first | (with_reducible first | exact HB.out | apply below_alloc | apply pw_below_drewN | apply below_drew1 | refine below_set ?_ GE278.out | refine below_set ?_ GE288.out | refine below_set ?_ GE296.out) | exact HB.out)) hb)
              clear HO285
              clear BK278
              clear BK288
              clear BK296
              clear HB
              have HO285 := n0_
              have HO293 := n1_
              have BK278 := n2_
              have BK288 := n3_
              have BK296 := n4_
              have HB := n5_
              clear n0_ n1_ n2_ n3_ n4_ n5_
              (try clear hb)
              (try clear hb2)
              (try clear hk)
              (try clear hi)
              (try clear ho0)
              refine hK.out _ _ ⟨(blk_cell BK278.out 0).trans rfl, (blk_cell BK278.out 1).trans rfl, (blk_cell BK278.out 2).trans rfl⟩ (fun hHeld => ?_)
              clear hK K
              refine norm_ (a' := ?_) ?_ ?_
              rotate_left
              ·show Act.put _ (some 42) _ = _
               simp only [Act.put, List.setIfInBounds_toArray, List.set_cons_zero, List.set_cons_succ, i64_w, i32_w]
               rfl
              refine pure_ (i := 8) (N := some 34) (v := ?_) (a' := ?_) #[true, true, true, true, true, true, true, true, true, false, false, true, false, false] rfl rfl (any_of HT_.out (by kernel_rfl)) (fun _ _ _ h => h) (Or.inl ⟨by rfl, ?_⟩) ?_ ?_
              rotate_left
              ·intro w'
               go_simp
               with_reducible rfl
              rotate_left
              ·simp only [Act.put, List.setIfInBounds_toArray, List.set_cons_zero, List.set_cons_succ, i64_w, i32_w]
               rfl
              refine pure_ (i := 9) (N := some 43) (v := ?_) (a' := ?_) #[true, true, true, true, true, true, true, true, true, true, false, true, false, false] rfl rfl (any_of HT_.out (by kernel_rfl)) (fun _ _ _ h => h) (Or.inl ⟨by rfl, ?_⟩) ?_ ?_
              rotate_left
              ·intro w'
               go_simp
               with_reducible rfl
              rotate_left
              ·simp only [Act.put, List.setIfInBounds_toArray, List.set_cons_zero, List.set_cons_succ, i64_w, i32_w]
               rfl
              refine pure_ (i := 10) (N := some 44) (v := ?_) (a' := ?_) #[true, true, true, true, true, true, true, true, true, true, true, true, false, false] rfl rfl (any_of HT_.out (by kernel_rfl)) (fun _ _ _ h => h) (Or.inl ⟨by rfl, ?_⟩) ?_ ?_
              rotate_left
              ·intro w'
               go_simp
               with_reducible rfl
              rotate_left
              ·simp only [Act.put, List.setIfInBounds_toArray, List.set_cons_zero, List.set_cons_succ, i64_w, i32_w]
               rfl
              exact norm_ (by simp only [putAll, Act.put, List.setIfInBounds_toArray, List.set_cons_zero, List.set_cons_succ]) (hCont (v292, gb296) _ ⟨hHeld, (by (with_reducible repeat (first | apply Kd.V_alloc | apply Kd.V_drewN | apply Kd.V_drew)); exact Kd.V_mono HO285.out (fun _ hk => ⟨hk.1.1, ⟨hk.1.2, hk.2⟩⟩)), (by (with_reducible repeat (first | apply Kd.V_alloc | apply Kd.V_drewN | apply Kd.V_drew)); exact HO293.out), (by (with_reducible repeat (first | refine blk_drewN ?_ _ | refine blk_drew ?_ | refine blk_alloc ?_ _)); exact BK278.out), (by (with_reducible repeat (first | refine blk_drewN ?_ _ | refine blk_drew ?_ | refine blk_alloc ?_ _)); exact BK288.out), (by (with_reducible repeat (first | refine blk_drewN ?_ _ | refine blk_drew ?_ | refine blk_alloc ?_ _)); exact BK296.out), GW296.out, GE296.out, NB278_296.out, NB296_278.out, NB288_296.out, NB296_288.out, (by repeat (first | (with_reducible first | exact HB.out | apply below_alloc | apply pw_below_drewN | apply below_drew1 | refine below_set ?_ GE278.out | refine below_set ?_ GE288.out | refine below_set ?_ GE296.out) | exact HB.out))⟩)
            ·skip
             refine box_step ?hg (N := 11) ?hd (cs := #[.bool false, .slice none 0 0, .int .i64 0]) (t := 24) ?hr ?_; (case hd => rfl); (case hg => rfl); (case hr => first | (go_simp; done) | (go_simp; rfl))
             intro gb296 hg w79 hbox hb
             have n0_ := Aside0.mk (Kd.V_below (Kd.V_elderB (by (with_reducible repeat (first | apply Kd.V_alloc | apply Kd.V_drewN | apply Kd.V_drew)); exact HO285.out) gb296 (Nat.le_of_eq hg.symm)) hb)
             have n1_ := Aside0.mk (blk_below (g := gb278) (o := .cells #[.bool a0_0, .slice A0_1 l0_1.length c0_1, .int .i64 a0_2] 24 (0, 0)) (by (with_reducible repeat (first | refine blk_drewN ?_ _ | refine blk_drew ?_ | refine blk_alloc ?_ _)); exact BK278.out) hb)
             have n2_ := Aside0.mk (blk_below (g := gb288) (o := .cells #[.bool t282, .slice Ao76 t283.length co76, .int .i64 t286] 24 (0, 0)) (by (with_reducible repeat (first | refine blk_drewN ?_ _ | refine blk_drew ?_ | refine blk_alloc ?_ _)); exact BK288.out) hb)
             have n3_ := Aside0.mk (below_step (by repeat (first | (with_reducible first | exact HB.out | apply below_alloc | apply pw_below_drewN | apply below_drew1 | refine below_set ?_ GE278.out | refine below_set ?_ GE288.out) | exact HB.out)) hb)
             have n4_ := Aside0.mk (hbox)
             have n5_ := Aside0.mk ((by rw [hg]; exact (below_size (by repeat (first | (with_reducible first | exact HB.out | apply below_alloc | apply pw_below_drewN | apply below_drew1 | refine below_set ?_ GE278.out | refine below_set ?_ GE288.out) | exact HB.out))) : w.heap.size ≤ gb296))
             have n6_ := Aside0.mk ((by rw [hg]; exact (below_size (by repeat (first | (with_reducible first | exact HB.out | apply below_alloc | apply pw_below_drewN | apply below_drew1 | refine below_set ?_ GE278.out | refine below_set ?_ GE288.out) | exact HB.out))) : w.heap.size ≤ gb296))
             have n7_ := Aside0.mk ((by rw [hg]; exact Nat.ne_of_lt (blk_lt (g := gb278) (o := .cells #[.bool a0_0, .slice A0_1 l0_1.length c0_1, .int .i64 a0_2] 24 (0, 0)) (by (with_reducible repeat (first | refine blk_drewN ?_ _ | refine blk_drew ?_ | refine blk_alloc ?_ _)); exact BK278.out)) : gb278 ≠ gb296))
             have n8_ := Aside0.mk ((by rw [hg]; exact Nat.ne_of_gt (blk_lt (g := gb278) (o := .cells #[.bool a0_0, .slice A0_1 l0_1.length c0_1, .int .i64 a0_2] 24 (0, 0)) (by (with_reducible repeat (first | refine blk_drewN ?_ _ | refine blk_drew ?_ | refine blk_alloc ?_ _)); exact BK278.out)) : gb296 ≠ gb278))
             have n9_ := Aside0.mk ((by rw [hg]; exact Nat.ne_of_lt (blk_lt (g := gb288) (o := .cells #[.bool t282, .slice Ao76 t283.length co76, .int .i64 t286] 24 (0, 0)) (by (with_reducible repeat (first | refine blk_drewN ?_ _ | refine blk_drew ?_ | refine blk_alloc ?_ _)); exact BK288.out)) : gb288 ≠ gb296))
             have n10_ := Aside0.mk ((by rw [hg]; exact Nat.ne_of_gt (blk_lt (g := gb288) (o := .cells #[.bool t282, .slice Ao76 t283.length co76, .int .i64 t286] 24 (0, 0)) (by (with_reducible repeat (first | refine blk_drewN ?_ _ | refine blk_drew ?_ | refine blk_alloc ?_ _)); exact BK288.out)) : gb296 ≠ gb288))
             clear HO285
             clear BK278
             clear BK288
             clear HB
             have HO285 := n0_
             have BK278 := n1_
             have BK288 := n2_
             have HB := n3_
             have BK296 := n4_
             have GW296 := n5_
             have GE296 := n6_
             have NB278_296 := n7_
             have NB296_278 := n8_
             have NB288_296 := n9_
             have NB296_288 := n10_
             clear n0_ n1_ n2_ n3_ n4_ n5_ n6_ n7_ n8_ n9_ n10_
             clear hb hbox hg
             refine hK.out _ _ ⟨(blk_cell BK278.out 0).trans rfl, (blk_cell BK278.out 1).trans rfl, (blk_cell BK278.out 2).trans rfl⟩ (fun hHeld => ?_)
             clear hK K
             refine norm_ (a' := ?_) ?_ ?_
             rotate_left
             ·show Act.put _ (some 11) _ = _
              simp only [Act.put, List.setIfInBounds_toArray, List.set_cons_zero, List.set_cons_succ, i64_w, i32_w]
              rfl
             refine one_ (i := 2) (N := some 37) #[true, true, true, true, false, false, true, false, false, false, false, true, false, false] rfl rfl (one_of HT_.out (by kernel_rfl)) (by decide) (fun K hK => ?_)
             refine goes_ Tryd.func20 (by kernel_rfl) rfl #[.agg #[.bool a0_0, .slice A0_1 l0_1.length c0_1, .int .i64 a0_2]] (by rfl) rfl rfl (by (try simp only [List.map_toArray, List.map_cons, List.map_nil]); first | done | rfl | (simp only [List.length_drop, List.length_take]; rfl)) ?_
             with_reducible refine (exergueref05_Mag.calls a0_0 _ _ l0_1 a0_2 t289 _ ?side1 ?side2 A17.out).mono ?_
             (case side1 => repeat (first | exact (Kd.C_below HR0_1.out HB.out) | (with_reducible refine Kd.C_alloc ?_ _) | (with_reducible refine Kd.C_drewN ?_ _) | (with_reducible refine Kd.C_drew ?_)))
             (case side2 => exact HC0_1.out)
             rintro e w80 ⟨rfl, hb⟩
             refine ⟨_, rfl, ?_⟩
             have n0_ := Aside0.mk (Kd.V_below (by (with_reducible repeat (first | apply Kd.V_alloc | apply Kd.V_drewN | apply Kd.V_drew)); exact HO285.out) hb)
             have n1_ := Aside0.mk (blk_below (g := gb278) (o := .cells #[.bool a0_0, .slice A0_1 l0_1.length c0_1, .int .i64 a0_2] 24 (0, 0)) (by (with_reducible repeat (first | refine blk_drewN ?_ _ | refine blk_drew ?_ | refine blk_alloc ?_ _)); exact BK278.out) hb)
             have n2_ := Aside0.mk (blk_below (g := gb288) (o := .cells #[.bool t282, .slice Ao76 t283.length co76, .int .i64 t286] 24 (0, 0)) (by (with_reducible repeat (first | refine blk_drewN ?_ _ | refine blk_drew ?_ | refine blk_alloc ?_ _)); exact BK288.out) hb)
             have n3_ := Aside0.mk (blk_below (g := gb296) (o := .cells #[.bool false, .slice none 0 0, .int .i64 0] 24 (0, 0)) (by (with_reducible repeat (first | refine blk_drewN ?_ _ | refine blk_drew ?_ | refine blk_alloc ?_ _)); exact BK296.out) hb)
             have n4_ := Aside0.mk (below_step (by repeat (first | (with_reducible first | exact HB.out | apply below_alloc | apply pw_below_drewN | apply below_drew1 | refine below_set ?_ GE278.out | refine below_set ?_ GE288.out | refine below_set ?_ GE296.out) | exact HB.out)) hb)
             clear HO285
             clear BK278
             clear BK288
             clear BK296
             clear HB
             have HO285 := n0_
             have BK278 := n1_
             have BK288 := n2_
             have BK296 := n3_
             have HB := n4_
             clear n0_ n1_ n2_ n3_ n4_
             (try clear hb)
             (try clear hb2)
             (try clear hk)
             (try clear hi)
             refine hK.out _ _ ⟨(blk_cell BK278.out 0).trans rfl, (blk_cell BK278.out 1).trans rfl, (blk_cell BK278.out 2).trans rfl⟩ (fun hHeld => ?_)
             clear hK K
             refine norm_ (a' := ?_) ?_ ?_
             rotate_left
             ·show Act.put _ (some 37) _ = _
              simp only [Act.put, List.setIfInBounds_toArray, List.set_cons_zero, List.set_cons_succ, i64_w, i32_w]
              rfl
             refine pure_ (i := 4) (N := some 39) (v := ?_) (a' := ?_) #[true, true, true, true, true, false, true, false, false, false, false, true, false, false] rfl rfl (any_of HT_.out (by kernel_rfl)) (fun _ _ _ h => h) (Or.inl ⟨by rfl, ?_⟩) ?_ ?_
             rotate_left
             ·intro w'
              go_simp
              with_reducible rfl
             rotate_left
             ·simp only [Act.put, List.setIfInBounds_toArray, List.set_cons_zero, List.set_cons_succ, i64_w, i32_w]
              rfl
             refine pure_ (i := 5) (N := some 40) (v := ?_) (a' := ?_) #[true, true, true, true, true, true, true, false, false, false, false, true, false, false] rfl rfl (any_of HT_.out (by kernel_rfl)) (fun _ _ _ h => h) (Or.inl ⟨by rfl, ?_⟩) ?_ ?_
             rotate_left
             ·intro w'
              go_simp
              with_reducible rfl
             rotate_left
             ·simp only [Act.put, List.setIfInBounds_toArray, List.set_cons_zero, List.set_cons_succ, i64_w, i32_w]
              rfl
             refine one_ (i := 7) (N := some 42) #[true, true, true, true, true, true, true, true, false, false, false, true, false, false] rfl rfl (one_of HT_.out (by kernel_rfl)) (by decide) (fun K hK => ?_)
             refine goes_ Tryd.func19 (by kernel_rfl) rfl #[.agg #[.bool a0_0, .slice A0_1 l0_1.length c0_1, .int .i64 a0_2], .int .i64 (wrap64 ((wrap64 (t289 - (wrap64 ((wrap64 (Int.tmod a1 60)) + 1)))) + 1)), .int .i64 a2] (by rfl) rfl rfl (by (try simp only [List.map_toArray, List.map_cons, List.map_nil]); first | done | rfl | (simp only [List.length_drop, List.length_take]; rfl)) ?_
             with_reducible refine (round_To.calls kj4 a0_0 (fun k_ => k_ < w.heap.size) _ _ l0_1 a0_2 (wrap64 ((wrap64 (t289 - (wrap64 ((wrap64 (Int.tmod a1 60)) + 1)))) + 1)) a2 t290 t291 t294 t295 _ ?side2 ?side1 A18.out).mono ?_
             (case side1 => exact Kd.V_mk HC0_1.out (Kd.F_below (Kd.C_F (Kd.heap_int .u8) HR0_1.out) (by repeat (first | (with_reducible first | exact HB.out | apply below_alloc | apply pw_below_drewN | apply below_drew1 | refine below_set ?_ GE278.out | refine below_set ?_ GE288.out | refine below_set ?_ GE296.out) | exact HB.out))))
             (case side2 => refine GL.below HG.out ?_; repeat (first | (with_reducible first | exact HB.out | apply below_alloc | apply pw_below_drewN | apply below_drew1 | refine below_set ?_ GE278.out | refine below_set ?_ GE288.out | refine below_set ?_ GE296.out) | exact HB.out))
             rintro e w81 ⟨v292, rfl, ho0, hb⟩
             refine ⟨_, rfl, ?_⟩
             have n0_ := Aside0.mk (Kd.V_below (by (with_reducible repeat (first | apply Kd.V_alloc | apply Kd.V_drewN | apply Kd.V_drew)); exact HO285.out) hb)
             have n1_ := Aside0.mk (Kd.V_lower (Kd.V_mono (ok' := fun k_ => k_ ≠ gb278 ∧ k_ ≠ gb288 ∧ k_ ≠ gb296) ho0 (fun k_ hk_ => ⟨Or.elim hk_ (fun hs_ => fun e_ => Nat.not_le.2 hs_ (by rw [e_]; exact GW278.out)) (fun hn_ => (Kd.freshB (g := gb278) (o := .cells #[.bool a0_0, .slice A0_1 l0_1.length c0_1, .int .i64 a0_2] 24 (0, 0)) (by (with_reducible repeat (first | refine blk_drewN ?_ _ | refine blk_drew ?_ | refine blk_alloc ?_ _)); exact BK278.out) k_ hn_)), Or.elim hk_ (fun hs_ => fun e_ => Nat.not_le.2 hs_ (by rw [e_]; exact GW288.out)) (fun hn_ => (Kd.freshB (g := gb288) (o := .cells #[.bool t282, .slice Ao76 t283.length co76, .int .i64 t286] 24 (0, 0)) (by (with_reducible repeat (first | refine blk_drewN ?_ _ | refine blk_drew ?_ | refine blk_alloc ?_ _)); exact BK288.out) k_ hn_)), Or.elim hk_ (fun hs_ => fun e_ => Nat.not_le.2 hs_ (by rw [e_]; exact GW296.out)) (fun hn_ => (Kd.freshB (g := gb296) (o := .cells #[.bool false, .slice none 0 0, .int .i64 0] 24 (0, 0)) (by (with_reducible repeat (first | refine blk_drewN ?_ _ | refine blk_drew ?_ | refine blk_alloc ?_ _)); exact BK296.out) k_ hn_))⟩)) (below_size (by repeat (first | (with_reducible first | exact HB.out | apply below_alloc | apply pw_below_drewN | apply below_drew1 | refine below_set ?_ GE278.out | refine below_set ?_ GE288.out | refine below_set ?_ GE296.out) | exact HB.out))))
             have n2_ := Aside0.mk (blk_below (g := gb278) (o := .cells #[.bool a0_0, .slice A0_1 l0_1.length c0_1, .int .i64 a0_2] 24 (0, 0)) (by (with_reducible repeat (first | refine blk_drewN ?_ _ | refine blk_drew ?_ | refine blk_alloc ?_ _)); exact BK278.out) hb)
             have n3_ := Aside0.mk (blk_below (g := gb288) (o := .cells #[.bool t282, .slice Ao76 t283.length co76, .int .i64 t286] 24 (0, 0)) (by (with_reducible repeat (first | refine blk_drewN ?_ _ | refine blk_drew ?_ | refine blk_alloc ?_ _)); exact BK288.out) hb)
             have n4_ := Aside0.mk (blk_below (g := gb296) (o := .cells #[.bool false, .slice none 0 0, .int .i64 0] 24 (0, 0)) (by (with_reducible repeat (first | refine blk_drewN ?_ _ | refine blk_drew ?_ | refine blk_alloc ?_ _)); exact BK296.out) hb)
             have n5_ := Aside0.mk (below_step (by repeat (first | (with_reducible first | exact HB.out | apply below_alloc | apply pw_below_drewN | apply below_drew1 | refine below_set ?_ GE278.out | refine below_set ?_ GE288.out | refine below_set ?_ GE296.out) | exact HB.out)) hb)
             clear HO285
             clear BK278
             clear BK288
             clear BK296
             clear HB
             have HO285 := n0_
             have HO293 := n1_
             have BK278 := n2_
             have BK288 := n3_
             have BK296 := n4_
             have HB := n5_
             clear n0_ n1_ n2_ n3_ n4_ n5_
             (try clear hb)
             (try clear hb2)
             (try clear hk)
             (try clear hi)
             (try clear ho0)
             refine hK.out _ _ ⟨(blk_cell BK278.out 0).trans rfl, (blk_cell BK278.out 1).trans rfl, (blk_cell BK278.out 2).trans rfl⟩ (fun hHeld => ?_)
             clear hK K
             refine norm_ (a' := ?_) ?_ ?_
             rotate_left
             ·show Act.put _ (some 42) _ = _
              simp only [Act.put, List.setIfInBounds_toArray, List.set_cons_zero, List.set_cons_succ, i64_w, i32_w]
              rfl
             refine pure_ (i := 8) (N := some 34) (v := ?_) (a' := ?_) #[true, true, true, true, true, true, true, true, true, false, false, true, false, false] rfl rfl (any_of HT_.out (by kernel_rfl)) (fun _ _ _ h => h) (Or.inl ⟨by rfl, ?_⟩) ?_ ?_
             rotate_left
             ·intro w'
              go_simp
              with_reducible rfl
             rotate_left
             ·simp only [Act.put, List.setIfInBounds_toArray, List.set_cons_zero, List.set_cons_succ, i64_w, i32_w]
              rfl
             refine pure_ (i := 9) (N := some 43) (v := ?_) (a' := ?_) #[true, true, true, true, true, true, true, true, true, true, false, true, false, false] rfl rfl (any_of HT_.out (by kernel_rfl)) (fun _ _ _ h => h) (Or.inl ⟨by rfl, ?_⟩) ?_ ?_
             rotate_left
             ·intro w'
              go_simp
              with_reducible rfl
             rotate_left
             ·simp only [Act.put, List.setIfInBounds_toArray, List.set_cons_zero, List.set_cons_succ, i64_w, i32_w]
              rfl
             refine pure_ (i := 10) (N := some 44) (v := ?_) (a' := ?_) #[true, true, true, true, true, true, true, true, true, true, true, true, false, false] rfl rfl (any_of HT_.out (by kernel_rfl)) (fun _ _ _ h => h) (Or.inl ⟨by rfl, ?_⟩) ?_ ?_
             rotate_left
             ·intro w'
              go_simp
              with_reducible rfl
             rotate_left
             ·simp only [Act.put, List.setIfInBounds_toArray, List.set_cons_zero, List.set_cons_succ, i64_w, i32_w]
              rfl
             exact norm_ (by simp only [putAll, Act.put, List.setIfInBounds_toArray, List.set_cons_zero, List.set_cons_succ]) (hCont (v292, gb296) _ ⟨hHeld, (by (with_reducible repeat (first | apply Kd.V_alloc | apply Kd.V_drewN | apply Kd.V_drew)); exact Kd.V_mono HO285.out (fun _ hk => ⟨hk.1.1, ⟨hk.1.2, hk.2⟩⟩)), (by (with_reducible repeat (first | apply Kd.V_alloc | apply Kd.V_drewN | apply Kd.V_drew)); exact HO293.out), (by (with_reducible repeat (first | refine blk_drewN ?_ _ | refine blk_drew ?_ | refine blk_alloc ?_ _)); exact BK278.out), (by (with_reducible repeat (first | refine blk_drewN ?_ _ | refine blk_drew ?_ | refine blk_alloc ?_ _)); exact BK288.out), (by (with_reducible repeat (first | refine blk_drewN ?_ _ | refine blk_drew ?_ | refine blk_alloc ?_ _)); exact BK296.out), GW296.out, GE296.out, NB278_296.out, NB296_278.out, NB288_296.out, NB296_288.out, (by repeat (first | (with_reducible first | exact HB.out | apply below_alloc | apply pw_below_drewN | apply below_drew1 | refine below_set ?_ GE278.out | refine below_set ?_ GE288.out | refine below_set ?_ GE296.out) | exact HB.out))⟩)
           rintro ⟨v292, gb296⟩ w82 ⟨hS_, h0_, h1_, h2_, h3_, h4_, h5_, h6_, h7_, h8_, h9_, h10_, h11_⟩
           have n0_ : Aside0 (Kd.V (Kd.int .u8) 5 w82 w.heap.size (fun k_ => k_ ≠ gb278 ∧ k_ ≠ gb288 ∧ k_ ≠ gb296) (.slice Ao76 t283.length co76) t283) := ⟨h0_⟩
           have n1_ : Aside0 (Kd.V (Kd.int .u8) 5 w82 w.heap.size (fun k_ => k_ ≠ gb278 ∧ k_ ≠ gb288 ∧ k_ ≠ gb296) v292 t291) := ⟨h1_⟩
           have n2_ : Aside0 (w82.heap[gb278]? = some (.cells #[.bool a0_0, .slice A0_1 l0_1.length c0_1, .int .i64 a0_2] 24 (0, 0))) := ⟨h2_⟩
           have n3_ : Aside0 (w82.heap[gb288]? = some (.cells #[.bool t282, .slice Ao76 t283.length co76, .int .i64 t286] 24 (0, 0))) := ⟨h3_⟩
           have n4_ : Aside0 (w82.heap[gb296]? = some (.cells #[.bool false, .slice none 0 0, .int .i64 0] 24 (0, 0))) := ⟨h4_⟩
           have n5_ : Aside0 (w.heap.size ≤ gb296) := ⟨h5_⟩
           have n6_ : Aside0 (w.heap.size ≤ gb296) := ⟨h6_⟩
           have n7_ : Aside0 (gb278 ≠ gb296) := ⟨h7_⟩
           have n8_ : Aside0 (gb296 ≠ gb278) := ⟨h8_⟩
           have n9_ : Aside0 (gb288 ≠ gb296) := ⟨h9_⟩
           have n10_ : Aside0 (gb296 ≠ gb288) := ⟨h10_⟩
           have n11_ : Aside0 (Below w.heap.size w w82) := ⟨h11_⟩
           clear HO285
           clear BK278
           clear BK288
           clear HB
           clear h0_ h1_ h2_ h3_ h4_ h5_ h6_ h7_ h8_ h9_ h10_ h11_
           have HO285 := n0_
           have HO293 := n1_
           have BK278 := n2_
           have BK288 := n3_
           have BK296 := n4_
           have GW296 := n5_
           have GE296 := n6_
           have NB278_296 := n7_
           have NB296_278 := n8_
           have NB288_296 := n9_
           have NB296_288 := n10_
           have HB := n11_
           clear n0_ n1_ n2_ n3_ n4_ n5_ n6_ n7_ n8_ n9_ n10_ n11_
           have hHeld : w82.cell? ⟨gb278, 0, none⟩ = some (.bool a0_0) ∧ w82.cell? ⟨gb278, 1, none⟩ = some (.slice A0_1 l0_1.length c0_1) ∧ w82.cell? ⟨gb278, 2, none⟩ = some (.int .i64 a0_2) := hS_
           obtain ⟨Ao84, co84, eo84⟩ := Kd.V_slice HO293.out
           (first | subst eo84 | (injection eo84 with f1_ f2_ f3_; have f4_ := f1_.symm; have f5_ := f3_.symm; clear f1_ f2_ f3_; subst f4_; subst f5_))
           refine norm_ (a' := ?_) ?_ ?_
           rotate_left
           ·simp only [putAll, Act.put, List.setIfInBounds_toArray, List.set_cons_zero, List.set_cons_succ]
            rfl
           refine one_ (i := 12) (N := none) #[true, true, true, true, true, true, true, true, true, true, true, true, true, false] rfl rfl (one_of HT_.out (by kernel_rfl)) (by decide) (fun K hK => ?_)
           have hs83 : w82.cell? ⟨gb296, 0, none⟩ = some (.bool false) := (blk_cell BK296.out 0).trans rfl
           have hfs83 := blk_frozen BK296.out 0
           have hns83_0 := NB278_296.out
           have hns83_1 := NB288_296.out
           have hms83_0 := NB296_278.out
           have hms83_1 := NB296_288.out
           have hs85 : w82.cell? ⟨gb296, 1, none⟩ = some (.slice none 0 0) := (blk_cell BK296.out 1).trans rfl
           have hfs85 := blk_frozen BK296.out 1
           have hns85_0 := NB278_296.out
           have hns85_1 := NB288_296.out
           have hms85_0 := NB296_278.out
           have hms85_1 := NB296_288.out
           have hs86 : w82.cell? ⟨gb296, 2, none⟩ = some (.int .i64 0) := (blk_cell BK296.out 2).trans rfl
           have hfs86 := blk_frozen BK296.out 2
           have hns86_0 := NB278_296.out
           have hns86_1 := NB288_296.out
           have hms86_0 := NB296_278.out
           have hms86_1 := NB296_288.out
           refine skip_ (w1 := ?_) (by rfl) rfl ?_ ?_
           rotate_left
           ·go_simp
            rfl
           refine hK.out _ _ ⟨((cell_far (p := ⟨gb296, _, none⟩) NB278_296.out _).trans (((cell_far (p := ⟨gb296, _, none⟩) NB278_296.out _).trans (((cell_far (p := ⟨gb296, _, none⟩) NB278_296.out _).trans (hHeld.1)))))), ((cell_far (p := ⟨gb296, _, none⟩) NB278_296.out _).trans (((cell_far (p := ⟨gb296, _, none⟩) NB278_296.out _).trans (((cell_far (p := ⟨gb296, _, none⟩) NB278_296.out _).trans (hHeld.2.1)))))), ((cell_far (p := ⟨gb296, _, none⟩) NB278_296.out _).trans (((cell_far (p := ⟨gb296, _, none⟩) NB278_296.out _).trans (((cell_far (p := ⟨gb296, _, none⟩) NB278_296.out _).trans (hHeld.2.2))))))⟩ (fun hHeld => ?_)
           clear hK K
           refine pure_ (i := 13) (N := some 12) (v := ?_) (a' := ?_) #[true, true, true, true, true, true, true, true, true, true, true, true, true, true] rfl rfl (any_of HT_.out (by kernel_rfl)) (fun _ _ _ h => h) (Or.inl ⟨by rfl, ?_⟩) ?_ ?_
           rotate_left
           ·intro w'
            go_simp
            with_reducible rfl
           rotate_left
           ·simp only [Act.put, List.setIfInBounds_toArray, List.set_cons_zero, List.set_cons_succ, i64_w, i32_w]
            rfl
           refine done_ (done_of HT_.out (by kernel_rfl)) ?_
           have hnb87 := NB288_296.out
           have hnc87 := NB296_288.out
           have hcz88_0 : w82.cell? ⟨gb288, 0, none⟩ = some (.bool t282) := (blk_cell BK288.out 0).trans rfl
           have hcz88_1 : w82.cell? ⟨gb288, 1, none⟩ = some (.slice Ao76 t283.length co76) := (blk_cell BK288.out 1).trans rfl
           have hcz88_2 : w82.cell? ⟨gb288, 2, none⟩ = some (.int .i64 t286) := (blk_cell BK288.out 2).trans rfl
           have hfz88_0 := blk_frozen BK288.out 0
           have hfz88_1 := blk_frozen BK288.out 1
           have hfz88_2 := blk_frozen BK288.out 2
           have hnb89 := NB278_296.out
           have hnc89 := NB296_278.out
           have hcz90_0 : w82.cell? ⟨gb278, 0, none⟩ = some (.bool a0_0) := (blk_cell BK278.out 0).trans rfl
           have hcz90_1 : w82.cell? ⟨gb278, 1, none⟩ = some (.slice A0_1 l0_1.length c0_1) := (blk_cell BK278.out 1).trans rfl
           have hcz90_2 : w82.cell? ⟨gb278, 2, none⟩ = some (.int .i64 a0_2) := (blk_cell BK278.out 2).trans rfl
           have hfz90_0 := blk_frozen BK278.out 0
           have hfz90_1 := blk_frozen BK278.out 1
           have hfz90_2 := blk_frozen BK278.out 2
           try go_wp2_with (first | (go_at_call 15; (with_reducible refine (exergueref05_Same.calls kj4 t282 _ _ t283 t286 a0_0 _ _ l0_1 a0_2 true _ ?side1 ?side2 ?side3 ?side4 A68.out).mono ?_); (case side1 => refine (Kd.V_reads' (e := 5) (base := w.heap.size) (ok := fun k_ => (k_ ≠ gb278 ∧ (k_ ≠ gb288 ∧ k_ ≠ gb296))) (n := t283.length) (c := co76) ?_).2.2; exact (by (with_reducible repeat (first | apply Kd.V_alloc | apply Kd.V_drewN | apply Kd.V_drew)); exact (Kd.V_mono (Kd.V_far (p := ⟨gb296, 2, none⟩) (Kd.V_far (p := ⟨gb296, 1, none⟩) (Kd.V_far (p := ⟨gb296, 0, none⟩) (Kd.V_mono HO285.out (fun k_ hk => (⟨hk, hk.2.2⟩ : _ ∧ k_ ≠ gb296))) (fun _ hk => hk.2) (.bool t290)) (fun _ hk => hk.2) (.slice Ao84 t291.length co84)) (fun _ hk => hk.2) (.int .i64 t294)) (fun _ h_ => h_.1)))); (case side2 => exact (Kd.V_reads' HO285.out).2.1); (case side3 => exact Kd.C_below HR0_1.out (by repeat (first | (with_reducible first | exact HB.out | apply below_alloc | apply pw_below_drewN | apply below_drew1 | refine below_set ?_ GE278.out | refine below_set ?_ GE288.out | refine below_set ?_ GE296.out) | exact HB.out))); (case side4 => exact HC0_1.out); rintro e w91 ⟨rfl, hb⟩; have n0_ := Aside0.mk (Kd.V_below (by (with_reducible repeat (first | apply Kd.V_alloc | apply Kd.V_drewN | apply Kd.V_drew)); exact (Kd.V_mono (Kd.V_far (p := ⟨gb296, 2, none⟩) (Kd.V_far (p := ⟨gb296, 1, none⟩) (Kd.V_far (p := ⟨gb296, 0, none⟩) (Kd.V_mono HO285.out (fun k_ hk => (⟨hk, hk.2.2⟩ : _ ∧ k_ ≠ gb296))) (fun _ hk => hk.2) (.bool t290)) (fun _ hk => hk.2) (.slice Ao84 t291.length co84)) (fun _ hk => hk.2) (.int .i64 t294)) (fun _ h_ => h_.1))) hb); have n1_ := Aside0.mk (Kd.V_below (by (with_reducible repeat (first | apply Kd.V_alloc | apply Kd.V_drewN | apply Kd.V_drew)); exact (Kd.V_mono (Kd.V_far (p := ⟨gb296, 2, none⟩) (Kd.V_far (p := ⟨gb296, 1, none⟩) (Kd.V_far (p := ⟨gb296, 0, none⟩) (Kd.V_mono HO293.out (fun k_ hk => (⟨hk, hk.2.2⟩ : _ ∧ k_ ≠ gb296))) (fun _ hk => hk.2) (.bool t290)) (fun _ hk => hk.2) (.slice Ao84 t291.length co84)) (fun _ hk => hk.2) (.int .i64 t294)) (fun _ h_ => h_.1))) hb); have n2_ := Aside0.mk (blk_below (g := gb278) (o := .cells #[.bool a0_0, .slice A0_1 l0_1.length c0_1, .int .i64 a0_2] 24 (0, 0)) (by (with_reducible repeat (first | refine blk_drewN ?_ _ | refine blk_drew ?_ | refine blk_alloc ?_ _)); refine blk_far ?_ NB278_296.out _; (with_reducible repeat (first | refine blk_drewN ?_ _ | refine blk_drew ?_ | refine blk_alloc ?_ _)); refine blk_far ?_ NB278_296.out _; (with_reducible repeat (first | refine blk_drewN ?_ _ | refine blk_drew ?_ | refine blk_alloc ?_ _)); refine blk_far ?_ NB278_296.out _; (with_reducible repeat (first | refine blk_drewN ?_ _ | refine blk_drew ?_ | refine blk_alloc ?_ _)); exact BK278.out) hb); have n3_ := Aside0.mk (blk_below (g := gb288) (o := .cells #[.bool t282, .slice Ao76 t283.length co76, .int .i64 t286] 24 (0, 0)) (by (with_reducible repeat (first | refine blk_drewN ?_ _ | refine blk_drew ?_ | refine blk_alloc ?_ _)); refine blk_far ?_ NB288_296.out _; (with_reducible repeat (first | refine blk_drewN ?_ _ | refine blk_drew ?_ | refine blk_alloc ?_ _)); refine blk_far ?_ NB288_296.out _; (with_reducible repeat (first | refine blk_drewN ?_ _ | refine blk_drew ?_ | refine blk_alloc ?_ _)); refine blk_far ?_ NB288_296.out _; (with_reducible repeat (first | refine blk_drewN ?_ _ | refine blk_drew ?_ | refine blk_alloc ?_ _)); exact BK288.out) hb); have n4_ := Aside0.mk (blk_below (g := gb296) (o := .cells #[.bool t290, .slice Ao84 t291.length co84, .int .i64 t294] 24 (0, 0)) (by (with_reducible repeat (first | refine blk_drewN ?_ _ | refine blk_drew ?_ | refine blk_alloc ?_ _)); refine blk_put (cs := #[.bool t290, .slice Ao84 t291.length co84, .int .i64 0]) ?_ 2 _ rfl; (with_reducible repeat (first | refine blk_drewN ?_ _ | refine blk_drew ?_ | refine blk_alloc ?_ _)); refine blk_put (cs := #[.bool t290, .slice none 0 0, .int .i64 0]) ?_ 1 _ rfl; (with_reducible repeat (first | refine blk_drewN ?_ _ | refine blk_drew ?_ | refine blk_alloc ?_ _)); refine blk_put (cs := #[.bool false, .slice none 0 0, .int .i64 0]) ?_ 0 _ rfl; (with_reducible repeat (first | refine blk_drewN ?_ _ | refine blk_drew ?_ | refine blk_alloc ?_ _)); exact BK296.out) hb); have n5_ := Aside0.mk (below_step (by repeat (first | (with_reducible first | exact HB.out | apply below_alloc | apply pw_below_drewN | apply below_drew1 | refine below_set ?_ GE278.out | refine below_set ?_ GE288.out | refine below_set ?_ GE296.out) | exact HB.out)) hb); clear HO285; clear HO293; clear BK278; clear BK288; clear BK296; clear HB; have HO285 := n0_; have HO293 := n1_; have BK278 := n2_; have BK288 := n3_; have BK296 := n4_; have HB := n5_; clear n0_ n1_ n2_ n3_ n4_ n5_; (try clear hb); (try clear hb2); (try clear hk); (try clear hi); have hcz92_0 : w91.cell? ⟨gb278, 0, none⟩ = some (.bool a0_0) := (blk_cell BK278.out 0).trans rfl; have hcz92_1 : w91.cell? ⟨gb278, 1, none⟩ = some (.slice A0_1 l0_1.length c0_1) := (blk_cell BK278.out 1).trans rfl; have hcz92_2 : w91.cell? ⟨gb278, 2, none⟩ = some (.int .i64 a0_2) := (blk_cell BK278.out 2).trans rfl; have hfz92_0 := blk_frozen BK278.out 0; have hfz92_1 := blk_frozen BK278.out 1; have hfz92_2 := blk_frozen BK278.out 2))
           go_ret
           exact ⟨by first | rfl | (simp [errW_none, errW_some] <;> rfl) | (simp [*, errW_none, errW_some] <;> rfl), by repeat (first | (with_reducible first | exact HB.out | apply below_alloc | apply pw_below_drewN | apply below_drew1 | refine below_set ?_ GE278.out | refine below_set ?_ GE288.out | refine below_set ?_ GE296.out) | exact HB.out)⟩
          ·rw [if_neg c70] at H
           have c70b0 : ((l0_1.length : Int) == 0) = false := beq_eq_false_iff_ne.mpr c70
           have c70b1 : ((l0_1.length : Int) != 0) = true := bne_iff_ne.mpr c70
           have c70b2 : ¬ (l0_1 = []) := fun h_ => c70 (by rw [h_]; rfl)
           replace H := Option.bind_eq_some_iff.mp H
           obtain ⟨t299, A930, H⟩ := H
           replace H : (some t299) = some r := H
           have A93 := Aside0.mk A930
           clear A930
           obtain rfl := Option.some.inj H
           have hcz94_0 : wc.cell? ⟨gb278, 0, none⟩ = some (.bool a0_0) := (blk_cell BK278.out 0).trans rfl
           have hcz94_1 : wc.cell? ⟨gb278, 1, none⟩ = some (.slice A0_1 l0_1.length c0_1) := (blk_cell BK278.out 1).trans rfl
           have hcz94_2 : wc.cell? ⟨gb278, 2, none⟩ = some (.int .i64 a0_2) := (blk_cell BK278.out 2).trans rfl
           have hfz94_0 := blk_frozen BK278.out 0
           have hfz94_1 := blk_frozen BK278.out 1
           have hfz94_2 := blk_frozen BK278.out 2
           try go_wp2_with (first | ((with_reducible refine gate_callee (f := 18) rfl ?_); refine goesL_ (some 31) rfl rfl Tryd.func18 (by kernel_rfl) rfl #[.agg #[.bool a0_0, .slice A0_1 l0_1.length c0_1, .int .i64 a0_2], .int .i64 (wrap64 ((wrap64 (Int.tmod a1 60)) + 1)), .int .i64 a2] rfl (by (try simp only [List.map_toArray, List.map_cons, List.map_nil]); first | done | rfl | (simp only [List.length_drop, List.length_take]; rfl)) ?_; (with_reducible refine (round_Sig.calls kj4 a0_0 (fun k_ => k_ < w.heap.size) _ _ l0_1 a0_2 (wrap64 ((wrap64 (Int.tmod a1 60)) + 1)) a2 t282 t283 t286 t287 _ ?side2 ?side1 A16.out).mono ?_); (case side1 => exact Kd.V_mk HC0_1.out (Kd.F_below (Kd.C_F (Kd.heap_int .u8) HR0_1.out) (by repeat (first | (with_reducible first | exact HB.out | apply below_alloc | apply pw_below_drewN | apply below_drew1 | refine below_set ?_ GE278.out) | exact HB.out)))); (case side2 => refine GL.below HG.out ?_; repeat (first | (with_reducible first | exact HB.out | apply below_alloc | apply pw_below_drewN | apply below_drew1 | refine below_set ?_ GE278.out) | exact HB.out)); rintro e w95 ⟨v284, rfl, ho0, hb⟩; refine ⟨_, rfl, ?_⟩; have n0_ := Aside0.mk (Kd.V_lower (Kd.V_mono (ok' := fun k_ => k_ ≠ gb278) ho0 (fun k_ hk_ => Or.elim hk_ (fun hs_ => fun e_ => Nat.not_le.2 hs_ (by rw [e_]; exact GW278.out)) (fun hn_ => (Kd.freshB (g := gb278) (o := .cells #[.bool a0_0, .slice A0_1 l0_1.length c0_1, .int .i64 a0_2] 24 (0, 0)) (by (with_reducible repeat (first | refine blk_drewN ?_ _ | refine blk_drew ?_ | refine blk_alloc ?_ _)); exact BK278.out) k_ hn_)))) (below_size (by repeat (first | (with_reducible first | exact HB.out | apply below_alloc | apply pw_below_drewN | apply below_drew1 | refine below_set ?_ GE278.out) | exact HB.out)))); have n1_ := Aside0.mk (blk_below (g := gb278) (o := .cells #[.bool a0_0, .slice A0_1 l0_1.length c0_1, .int .i64 a0_2] 24 (0, 0)) (by (with_reducible repeat (first | refine blk_drewN ?_ _ | refine blk_drew ?_ | refine blk_alloc ?_ _)); exact BK278.out) hb); have n2_ := Aside0.mk (below_step (by repeat (first | (with_reducible first | exact HB.out | apply below_alloc | apply pw_below_drewN | apply below_drew1 | refine below_set ?_ GE278.out) | exact HB.out)) hb); clear BK278; clear HB; have HO285 := n0_; have BK278 := n1_; have HB := n2_; clear n0_ n1_ n2_; (try clear hb); (try clear hb2); (try clear hk); (try clear hi); (try clear ho0)) | ((with_reducible refine gate_dst (N := 9) rfl ?_); (try (refine gate_guard (by rfl) ?_; dsimp only)); refine box_event ?hg (N := 9) ?hd (cs := #[.bool false, .slice none 0 0, .int .i64 0]) (t := 24) ?hr ?_; (case hd => rfl); (case hg => rfl); (case hr => first | (go_simp; done) | (go_simp; rfl)); intro gb288 hg w96 hbox hb; have n0_ := Aside0.mk (Kd.V_below (Kd.V_elderB (by (with_reducible repeat (first | apply Kd.V_alloc | apply Kd.V_drewN | apply Kd.V_drew)); exact HO285.out) gb288 (Nat.le_of_eq hg.symm)) hb); have n1_ := Aside0.mk (blk_below (g := gb278) (o := .cells #[.bool a0_0, .slice A0_1 l0_1.length c0_1, .int .i64 a0_2] 24 (0, 0)) (by (with_reducible repeat (first | refine blk_drewN ?_ _ | refine blk_drew ?_ | refine blk_alloc ?_ _)); exact BK278.out) hb); have n2_ := Aside0.mk (below_step (by repeat (first | (with_reducible first | exact HB.out | apply below_alloc | apply pw_below_drewN | apply below_drew1 | refine below_set ?_ GE278.out) | exact HB.out)) hb); have n3_ := Aside0.mk (hbox); have n4_ := Aside0.mk ((by rw [hg]; exact (below_size (by repeat (first | (with_reducible first | exact HB.out | apply below_alloc | apply pw_below_drewN | apply below_drew1 | refine below_set ?_ GE278.out) | exact HB.out))) : w.heap.size ≤ gb288)); have n5_ := Aside0.mk ((by rw [hg]; exact (below_size (by repeat (first | (with_reducible first | exact HB.out | apply below_alloc | apply pw_below_drewN | apply below_drew1 | refine below_set ?_ GE278.out) | exact HB.out))) : w.heap.size ≤ gb288)); have n6_ := Aside0.mk ((by rw [hg]; exact Nat.ne_of_lt (blk_lt (g := gb278) (o := .cells #[.bool a0_0, .slice A0_1 l0_1.length c0_1, .int .i64 a0_2] 24 (0, 0)) (by (with_reducible repeat (first | refine blk_drewN ?_ _ | refine blk_drew ?_ | refine blk_alloc ?_ _)); exact BK278.out)) : gb278 ≠ gb288)); have n7_ := Aside0.mk ((by rw [hg]; exact Nat.ne_of_gt (blk_lt (g := gb278) (o := .cells #[.bool a0_0, .slice A0_1 l0_1.length c0_1, .int .i64 a0_2] 24 (0, 0)) (by (with_reducible repeat (first | refine blk_drewN ?_ _ | refine blk_drew ?_ | refine blk_alloc ?_ _)); exact BK278.out)) : gb288 ≠ gb278)); clear HO285; clear BK278; clear HB; have HO285 := n0_; have BK278 := n1_; have HB := n2_; have BK288 := n3_; have GW288 := n4_; have GE288 := n5_; have NB278_288 := n6_; have NB288_278 := n7_; clear n0_ n1_ n2_ n3_ n4_ n5_ n6_ n7_; clear hb hbox hg; have hnb97 := NB288_278.out; have hnc97 := NB278_288.out; have hcz98_0 : w96.cell? ⟨gb288, 0, none⟩ = some (.bool false) := (blk_cell BK288.out 0).trans rfl; have hcz98_1 : w96.cell? ⟨gb288, 1, none⟩ = some (.slice none 0 0) := (blk_cell BK288.out 1).trans rfl; have hcz98_2 : w96.cell? ⟨gb288, 2, none⟩ = some (.int .i64 0) := (blk_cell BK288.out 2).trans rfl; have hfz98_0 := blk_frozen BK288.out 0; have hfz98_1 := blk_frozen BK288.out 1; have hfz98_2 := blk_frozen BK288.out 2; obtain ⟨Ao99, co99, eo99⟩ := Kd.V_slice HO285.out; subst eo99))
           have n0_ : Aside0 (Kd.V (Kd.int .u8) 5 (((w96.setCell ⟨gb288, 0, none⟩ (.bool t282)).setCell ⟨gb288, 1, none⟩ (.slice Ao99 t283.length co99)).setCell ⟨gb288, 2, none⟩ (.int .i64 t286)) w.heap.size (fun k_ => k_ ≠ gb278 ∧ k_ ≠ gb288) (.slice Ao99 t283.length co99) t283) := ⟨by (with_reducible repeat (first | apply Kd.V_alloc | apply Kd.V_drewN | apply Kd.V_drew)); exact Kd.V_mono (Kd.V_far (p := ⟨gb288, 2, none⟩) (Kd.V_far (p := ⟨gb288, 1, none⟩) (Kd.V_far (p := ⟨gb288, 0, none⟩) (Kd.V_mono HO285.out (fun k_ hk => (⟨hk, hk.2⟩ : _ ∧ k_ ≠ gb288))) (fun _ hk => hk.2) (.bool t282)) (fun _ hk => hk.2) (.slice Ao99 t283.length co99)) (fun _ hk => hk.2) (.int .i64 t286)) (fun _ hk => ⟨hk.1.1, hk.1.2⟩)⟩
           have n1_ : Aside0 ((((w96.setCell ⟨gb288, 0, none⟩ (.bool t282)).setCell ⟨gb288, 1, none⟩ (.slice Ao99 t283.length co99)).setCell ⟨gb288, 2, none⟩ (.int .i64 t286)).heap[gb278]? = some (.cells #[.bool a0_0, .slice A0_1 l0_1.length c0_1, .int .i64 a0_2] 24 (0, 0))) := ⟨by (with_reducible repeat (first | refine blk_drewN ?_ _ | refine blk_drew ?_ | refine blk_alloc ?_ _)); refine blk_far ?_ NB278_288.out _; (with_reducible repeat (first | refine blk_drewN ?_ _ | refine blk_drew ?_ | refine blk_alloc ?_ _)); refine blk_far ?_ NB278_288.out _; (with_reducible repeat (first | refine blk_drewN ?_ _ | refine blk_drew ?_ | refine blk_alloc ?_ _)); refine blk_far ?_ NB278_288.out _; (with_reducible repeat (first | refine blk_drewN ?_ _ | refine blk_drew ?_ | refine blk_alloc ?_ _)); exact BK278.out⟩
           have n2_ : Aside0 ((((w96.setCell ⟨gb288, 0, none⟩ (.bool t282)).setCell ⟨gb288, 1, none⟩ (.slice Ao99 t283.length co99)).setCell ⟨gb288, 2, none⟩ (.int .i64 t286)).heap[gb288]? = some (.cells #[.bool t282, .slice Ao99 t283.length co99, .int .i64 t286] 24 (0, 0))) := ⟨by (with_reducible repeat (first | refine blk_drewN ?_ _ | refine blk_drew ?_ | refine blk_alloc ?_ _)); refine blk_put (cs := #[.bool t282, .slice Ao99 t283.length co99, .int .i64 0]) ?_ 2 _ rfl; (with_reducible repeat (first | refine blk_drewN ?_ _ | refine blk_drew ?_ | refine blk_alloc ?_ _)); refine blk_put (cs := #[.bool t282, .slice none 0 0, .int .i64 0]) ?_ 1 _ rfl; (with_reducible repeat (first | refine blk_drewN ?_ _ | refine blk_drew ?_ | refine blk_alloc ?_ _)); refine blk_put (cs := #[.bool false, .slice none 0 0, .int .i64 0]) ?_ 0 _ rfl; (with_reducible repeat (first | refine blk_drewN ?_ _ | refine blk_drew ?_ | refine blk_alloc ?_ _)); exact BK288.out⟩
           have n3_ : Aside0 (Below w.heap.size w (((w96.setCell ⟨gb288, 0, none⟩ (.bool t282)).setCell ⟨gb288, 1, none⟩ (.slice Ao99 t283.length co99)).setCell ⟨gb288, 2, none⟩ (.int .i64 t286))) := ⟨by repeat (first | (with_reducible first | exact HB.out | apply below_alloc | apply pw_below_drewN | apply below_drew1 | refine below_set ?_ GE278.out | refine below_set ?_ GE288.out) | exact HB.out)⟩
           (try clear HO285)
           (try clear BK278)
           (try clear BK288)
           (try clear HB)
           generalize (((w96.setCell ⟨gb288, 0, none⟩ (.bool t282)).setCell ⟨gb288, 1, none⟩ (.slice Ao99 t283.length co99)).setCell ⟨gb288, 2, none⟩ (.int .i64 t286)) = w100 at n0_ n1_ n2_ n3_ ⊢
           have HO285 := n0_
           have BK278 := n1_
           have BK288 := n2_
           have HB := n3_
           clear n0_ n1_ n2_ n3_
           have n0_ := Aside0.mk (Kd.V_drew HO285.out)
           have n1_ := Aside0.mk (blk_drew BK278.out)
           have n2_ := Aside0.mk (blk_drew BK288.out)
           have n3_ := Aside0.mk (below_drew1 HB.out)
           clear HO285
           clear BK278
           clear BK288
           clear HB
           have HO285 := n0_
           have BK278 := n1_
           have BK288 := n2_
           have HB := n3_
           clear n0_ n1_ n2_ n3_
           refine start_ (n := 14) (S := fun w' => w'.cell? ⟨gb278, 0, none⟩ = some (.bool a0_0) ∧ w'.cell? ⟨gb278, 1, none⟩ = some (.slice A0_1 l0_1.length c0_1) ∧ w'.cell? ⟨gb278, 2, none⟩ = some (.int .i64 a0_2)) (ds := []) #[false, false, false, false, false, false, false, false, false, false, false, false, false, false] (by kernel_rfl) rfl rfl ⟨(blk_cell BK278.out 0).trans rfl, (blk_cell BK278.out 1).trans rfl, (blk_cell BK278.out 2).trans rfl⟩ (fun hHeld => ?_); refine with_tabW exerguelaw06_RoundSig.tab6 exerguelaw06_RoundSig.bits6 (fun HT_ HW_ => ?_)
           generalize w100.drew = w101 at HO285 BK278 BK288 HB hHeld ⊢
           refine pure_ (i := 3) (N := some 38) (v := ?_) (a' := ?_) #[false, false, false, true, false, false, false, false, false, false, false, false, false, false] rfl rfl (any_of HT_.out (by kernel_rfl)) (fun _ _ _ h => h) (Or.inl ⟨by rfl, ?_⟩) ?_ ?_
           rotate_left
           ·intro w'
            go_simp
            with_reducible rfl
           rotate_left
           ·simp only [Act.put, List.setIfInBounds_toArray, List.set_cons_zero, List.set_cons_succ, i64_w, i32_w]
            rfl
           refine pure_ (i := 6) (N := some 41) (v := ?_) (a' := ?_) #[false, false, false, true, false, false, true, false, false, false, false, false, false, false] rfl rfl (any_of HT_.out (by kernel_rfl)) (fun _ _ _ h => h) (Or.inl ⟨by rfl, ?_⟩) ?_ ?_
           rotate_left
           ·intro w'
            go_simp
            with_reducible rfl
           rotate_left
           ·simp only [Act.put, List.setIfInBounds_toArray, List.set_cons_zero, List.set_cons_succ, i64_w, i32_w]
            rfl
           refine take_ (i := 0) (N := some 35) (v := ?_) (a' := ?_) #[true, false, false, true, false, false, true, false, false, false, false, false, false, false] rfl rfl (take_ofW HT_.out HW_.out (by kernel_rfl)) (fun _ _ _ h => h) (Or.inl ⟨by rfl, ?_⟩) hHeld ?_ ?_
           rotate_left
           ·rintro w' ⟨s0, s1, s2⟩
            go_simp
            with_reducible rfl
           rotate_left
           ·simp only [Act.put, List.setIfInBounds_toArray, List.set_cons_zero, List.set_cons_succ, i64_w, i32_w]
            rfl
           refine take_ (i := 1) (N := some 36) (v := ?_) (a' := ?_) #[true, true, false, true, false, false, true, false, false, false, false, false, false, false] rfl rfl (take_ofW HT_.out HW_.out (by kernel_rfl)) (fun _ _ _ h => h) (Or.inl ⟨by rfl, ?_⟩) hHeld ?_ ?_
           rotate_left
           ·rintro w' ⟨s0, s1, s2⟩
            go_simp
            with_reducible rfl
           rotate_left
           ·simp only [Act.put, List.setIfInBounds_toArray, List.set_cons_zero, List.set_cons_succ, i64_w, i32_w]
            rfl
           refine join_ (σ := Value × Nat) 2 #[true, true, true, true, true, true, true, true, true, true, true, true, false, false] (fun s_ => [(37, .int .i64 t289), (42, .tuple #[.agg #[.bool t290, s_.1, .int .i64 t294], .int .i64 t295]), (11, .pointer (some ⟨s_.2, 0, none⟩)), (39, .int .i64 (wrap64 (t289 - (wrap64 ((wrap64 (Int.tmod a1 60)) + 1))))), (40, .int .i64 (wrap64 ((wrap64 (t289 - (wrap64 ((wrap64 (Int.tmod a1 60)) + 1)))) + 1))), (34, .tuple #[.agg #[.bool t290, s_.1, .int .i64 t294], .int .i64 t295]), (43, .agg #[.bool t290, s_.1, .int .i64 t294]), (44, .int .i64 t295)]) (fun s_ w' => (w'.cell? ⟨gb278, 0, none⟩ = some (.bool a0_0) ∧ w'.cell? ⟨gb278, 1, none⟩ = some (.slice A0_1 l0_1.length c0_1) ∧ w'.cell? ⟨gb278, 2, none⟩ = some (.int .i64 a0_2)) ∧ (Kd.V (Kd.int .u8) 5 w' w.heap.size (fun k_ => k_ ≠ gb278 ∧ k_ ≠ gb288 ∧ k_ ≠ s_.2) (.slice Ao99 t283.length co99) t283) ∧ (Kd.V (Kd.int .u8) 5 w' w.heap.size (fun k_ => k_ ≠ gb278 ∧ k_ ≠ gb288 ∧ k_ ≠ s_.2) s_.1 t291) ∧ (w'.heap[gb278]? = some (.cells #[.bool a0_0, .slice A0_1 l0_1.length c0_1, .int .i64 a0_2] 24 (0, 0))) ∧ (w'.heap[gb288]? = some (.cells #[.bool t282, .slice Ao99 t283.length co99, .int .i64 t286] 24 (0, 0))) ∧ (w'.heap[s_.2]? = some (.cells #[.bool false, .slice none 0 0, .int .i64 0] 24 (0, 0))) ∧ (w.heap.size ≤ s_.2) ∧ (w.heap.size ≤ s_.2) ∧ (gb278 ≠ s_.2) ∧ (s_.2 ≠ gb278) ∧ (gb288 ≠ s_.2) ∧ (s_.2 ≠ gb288) ∧ (Below w.heap.size w w')) ?_ ?_
           rotate_left
           ·intro hCont
            refine two_ (i := 2) (j := 11) (Ni := some 37) (Nj := some 11) #[true, true, true, true, false, false, true, false, false, false, false, false, false, false] #[true, true, false, true, false, false, true, false, false, false, false, true, false, false] rfl rfl rfl rfl (two_of HT_.out (by kernel_rfl)) (by decide) (by decide) (fun K hK => ?_) (fun K hK => ?_)
            ·skip
             refine goes_ Tryd.func20 (by kernel_rfl) rfl #[.agg #[.bool a0_0, .slice A0_1 l0_1.length c0_1, .int .i64 a0_2]] (by rfl) rfl rfl (by (try simp only [List.map_toArray, List.map_cons, List.map_nil]); first | done | rfl | (simp only [List.length_drop, List.length_take]; rfl)) ?_
             with_reducible refine (exergueref05_Mag.calls a0_0 _ _ l0_1 a0_2 t289 _ ?side1 ?side2 A17.out).mono ?_
             (case side1 => repeat (first | exact (Kd.C_below HR0_1.out HB.out) | (with_reducible refine Kd.C_alloc ?_ _) | (with_reducible refine Kd.C_drewN ?_ _) | (with_reducible refine Kd.C_drew ?_)))
             (case side2 => exact HC0_1.out)
             rintro e w102 ⟨rfl, hb⟩
             refine ⟨_, rfl, ?_⟩
             have n0_ := Aside0.mk (Kd.V_below (by (with_reducible repeat (first | apply Kd.V_alloc | apply Kd.V_drewN | apply Kd.V_drew)); exact HO285.out) hb)
             have n1_ := Aside0.mk (blk_below (g := gb278) (o := .cells #[.bool a0_0, .slice A0_1 l0_1.length c0_1, .int .i64 a0_2] 24 (0, 0)) (by (with_reducible repeat (first | refine blk_drewN ?_ _ | refine blk_drew ?_ | refine blk_alloc ?_ _)); exact BK278.out) hb)
             have n2_ := Aside0.mk (blk_below (g := gb288) (o := .cells #[.bool t282, .slice Ao99 t283.length co99, .int .i64 t286] 24 (0, 0)) (by (with_reducible repeat (first | refine blk_drewN ?_ _ | refine blk_drew ?_ | refine blk_alloc ?_ _)); exact BK288.out) hb)
             have n3_ := Aside0.mk (below_step (by repeat (first | (with_reducible first | exact HB.out | apply below_alloc | apply pw_below_drewN | apply below_drew1 | refine below_set ?_ GE278.out | refine below_set ?_ GE288.out) | exact HB.out)) hb)
             clear HO285
             clear BK278
             clear BK288
             clear HB
             have HO285 := n0_
             have BK278 := n1_
             have BK288 := n2_
             have HB := n3_
             clear n0_ n1_ n2_ n3_
             (try clear hb)
             (try clear hb2)
             (try clear hk)
             (try clear hi)
             refine hK.out _ _ ⟨(blk_cell BK278.out 0).trans rfl, (blk_cell BK278.out 1).trans rfl, (blk_cell BK278.out 2).trans rfl⟩ (fun hHeld => ?_)
             clear hK K
             refine norm_ (a' := ?_) ?_ ?_
             rotate_left
             ·show Act.put _ (some 37) _ = _
              simp only [Act.put, List.setIfInBounds_toArray, List.set_cons_zero, List.set_cons_succ, i64_w, i32_w]
              rfl
             refine pure_ (i := 4) (N := some 39) (v := ?_) (a' := ?_) #[true, true, true, true, true, false, true, false, false, false, false, false, false, false] rfl rfl (any_of HT_.out (by kernel_rfl)) (fun _ _ _ h => h) (Or.inl ⟨by rfl, ?_⟩) ?_ ?_
             rotate_left
             ·intro w'
              go_simp
              with_reducible rfl
             rotate_left
             ·simp only [Act.put, List.setIfInBounds_toArray, List.set_cons_zero, List.set_cons_succ, i64_w, i32_w]
              rfl
             refine pure_ (i := 5) (N := some 40) (v := ?_) (a' := ?_) #[true, true, true, true, true, true, true, false, false, false, false, false, false, false] rfl rfl (any_of HT_.out (by kernel_rfl)) (fun _ _ _ h => h) (Or.inl ⟨by rfl, ?_⟩) ?_ ?_
             rotate_left
             ·intro w'
              go_simp
              with_reducible rfl
             rotate_left
             ·simp only [Act.put, List.setIfInBounds_toArray, List.set_cons_zero, List.set_cons_succ, i64_w, i32_w]
              rfl
             refine two_ (i := 7) (j := 11) (Ni := some 42) (Nj := some 11) #[true, true, true, true, true, true, true, true, false, false, false, false, false, false] #[true, true, true, true, true, true, true, false, false, false, false, true, false, false] rfl rfl rfl rfl (two_of HT_.out (by kernel_rfl)) (by decide) (by decide) (fun K hK => ?_) (fun K hK => ?_)
             ·skip
              refine goes_ Tryd.func19 (by kernel_rfl) rfl #[.agg #[.bool a0_0, .slice A0_1 l0_1.length c0_1, .int .i64 a0_2], .int .i64 (wrap64 ((wrap64 (t289 - (wrap64 ((wrap64 (Int.tmod a1 60)) + 1)))) + 1)), .int .i64 a2] (by rfl) rfl rfl (by (try simp only [List.map_toArray, List.map_cons, List.map_nil]); first | done | rfl | (simp only [List.length_drop, List.length_take]; rfl)) ?_
              with_reducible refine (round_To.calls kj4 a0_0 (fun k_ => k_ < w.heap.size) _ _ l0_1 a0_2 (wrap64 ((wrap64 (t289 - (wrap64 ((wrap64 (Int.tmod a1 60)) + 1)))) + 1)) a2 t290 t291 t294 t295 _ ?side2 ?side1 A18.out).mono ?_
              (case side1 => exact Kd.V_mk HC0_1.out (Kd.F_below (Kd.C_F (Kd.heap_int .u8) HR0_1.out) (by repeat (first | (with_reducible first | exact HB.out | apply below_alloc | apply pw_below_drewN | apply below_drew1 | refine below_set ?_ GE278.out | refine below_set ?_ GE288.out) | exact HB.out))))
              (case side2 => refine GL.below HG.out ?_; repeat (first | (with_reducible first | exact HB.out | apply below_alloc | apply pw_below_drewN | apply below_drew1 | refine below_set ?_ GE278.out | refine below_set ?_ GE288.out) | exact HB.out))
              rintro e w103 ⟨v292, rfl, ho0, hb⟩
              refine ⟨_, rfl, ?_⟩
              have n0_ := Aside0.mk (Kd.V_below (by (with_reducible repeat (first | apply Kd.V_alloc | apply Kd.V_drewN | apply Kd.V_drew)); exact HO285.out) hb)
              have n1_ := Aside0.mk (Kd.V_lower (Kd.V_mono (ok' := fun k_ => k_ ≠ gb278 ∧ k_ ≠ gb288) ho0 (fun k_ hk_ => ⟨Or.elim hk_ (fun hs_ => fun e_ => Nat.not_le.2 hs_ (by rw [e_]; exact GW278.out)) (fun hn_ => (Kd.freshB (g := gb278) (o := .cells #[.bool a0_0, .slice A0_1 l0_1.length c0_1, .int .i64 a0_2] 24 (0, 0)) (by (with_reducible repeat (first | refine blk_drewN ?_ _ | refine blk_drew ?_ | refine blk_alloc ?_ _)); exact BK278.out) k_ hn_)), Or.elim hk_ (fun hs_ => fun e_ => Nat.not_le.2 hs_ (by rw [e_]; exact GW288.out)) (fun hn_ => (Kd.freshB (g := gb288) (o := .cells #[.bool t282, .slice Ao99 t283.length co99, .int .i64 t286] 24 (0, 0)) (by (with_reducible repeat (first | refine blk_drewN ?_ _ | refine blk_drew ?_ | refine blk_alloc ?_ _)); exact BK288.out) k_ hn_))⟩)) (below_size (by repeat (first | (with_reducible first | exact HB.out | apply below_alloc | apply pw_below_drewN | apply below_drew1 | refine below_set ?_ GE278.out | refine below_set ?_ GE288.out) | exact HB.out))))
              have n2_ := Aside0.mk (blk_below (g := gb278) (o := .cells #[.bool a0_0, .slice A0_1 l0_1.length c0_1, .int .i64 a0_2] 24 (0, 0)) (by (with_reducible repeat (first | refine blk_drewN ?_ _ | refine blk_drew ?_ | refine blk_alloc ?_ _)); exact BK278.out) hb)
              have n3_ := Aside0.mk (blk_below (g := gb288) (o := .cells #[.bool t282, .slice Ao99 t283.length co99, .int .i64 t286] 24 (0, 0)) (by (with_reducible repeat (first | refine blk_drewN ?_ _ | refine blk_drew ?_ | refine blk_alloc ?_ _)); exact BK288.out) hb)
              have n4_ := Aside0.mk (below_step (by repeat (first | (with_reducible first | exact HB.out | apply below_alloc | apply pw_below_drewN | apply below_drew1 | refine below_set ?_ GE278.out | refine below_set ?_ GE288.out) | exact HB.out)) hb)
              clear HO285
              clear BK278
              clear BK288
              clear HB
              have HO285 := n0_
              have HO293 := n1_
              have BK278 := n2_
              have BK288 := n3_
              have HB := n4_
              clear n0_ n1_ n2_ n3_ n4_
              (try clear hb)
              (try clear hb2)
              (try clear hk)
              (try clear hi)
              (try clear ho0)
              refine hK.out _ _ ⟨(blk_cell BK278.out 0).trans rfl, (blk_cell BK278.out 1).trans rfl, (blk_cell BK278.out 2).trans rfl⟩ (fun hHeld => ?_)
              clear hK K
              refine norm_ (a' := ?_) ?_ ?_
              rotate_left
              ·show Act.put _ (some 42) _ = _
               simp only [Act.put, List.setIfInBounds_toArray, List.set_cons_zero, List.set_cons_succ, i64_w, i32_w]
               rfl
              refine pure_ (i := 8) (N := some 34) (v := ?_) (a' := ?_) #[true, true, true, true, true, true, true, true, true, false, false, false, false, false] rfl rfl (any_of HT_.out (by kernel_rfl)) (fun _ _ _ h => h) (Or.inl ⟨by rfl, ?_⟩) ?_ ?_
              rotate_left
              ·intro w'
               go_simp
               with_reducible rfl
              rotate_left
              ·simp only [Act.put, List.setIfInBounds_toArray, List.set_cons_zero, List.set_cons_succ, i64_w, i32_w]
               rfl
              refine pure_ (i := 9) (N := some 43) (v := ?_) (a' := ?_) #[true, true, true, true, true, true, true, true, true, true, false, false, false, false] rfl rfl (any_of HT_.out (by kernel_rfl)) (fun _ _ _ h => h) (Or.inl ⟨by rfl, ?_⟩) ?_ ?_
              rotate_left
              ·intro w'
               go_simp
               with_reducible rfl
              rotate_left
              ·simp only [Act.put, List.setIfInBounds_toArray, List.set_cons_zero, List.set_cons_succ, i64_w, i32_w]
               rfl
              refine pure_ (i := 10) (N := some 44) (v := ?_) (a' := ?_) #[true, true, true, true, true, true, true, true, true, true, true, false, false, false] rfl rfl (any_of HT_.out (by kernel_rfl)) (fun _ _ _ h => h) (Or.inl ⟨by rfl, ?_⟩) ?_ ?_
              rotate_left
              ·intro w'
               go_simp
               with_reducible rfl
              rotate_left
              ·simp only [Act.put, List.setIfInBounds_toArray, List.set_cons_zero, List.set_cons_succ, i64_w, i32_w]
               rfl
              refine one_ (i := 11) (N := some 11) #[true, true, true, true, true, true, true, true, true, true, true, true, false, false] rfl rfl (one_of HT_.out (by kernel_rfl)) (by decide) (fun K hK => ?_)
              refine box_step ?hg (N := 11) ?hd (cs := #[.bool false, .slice none 0 0, .int .i64 0]) (t := 24) ?hr ?_; (case hd => rfl); (case hg => rfl); (case hr => first | (go_simp; done) | (go_simp; rfl))
              intro gb296 hg w104 hbox hb
              have n0_ := Aside0.mk (Kd.V_below (Kd.V_elderB (by (with_reducible repeat (first | apply Kd.V_alloc | apply Kd.V_drewN | apply Kd.V_drew)); exact HO285.out) gb296 (Nat.le_of_eq hg.symm)) hb)
              have n1_ := Aside0.mk (Kd.V_below (Kd.V_elderB (by (with_reducible repeat (first | apply Kd.V_alloc | apply Kd.V_drewN | apply Kd.V_drew)); exact HO293.out) gb296 (Nat.le_of_eq hg.symm)) hb)
              have n2_ := Aside0.mk (blk_below (g := gb278) (o := .cells #[.bool a0_0, .slice A0_1 l0_1.length c0_1, .int .i64 a0_2] 24 (0, 0)) (by (with_reducible repeat (first | refine blk_drewN ?_ _ | refine blk_drew ?_ | refine blk_alloc ?_ _)); exact BK278.out) hb)
              have n3_ := Aside0.mk (blk_below (g := gb288) (o := .cells #[.bool t282, .slice Ao99 t283.length co99, .int .i64 t286] 24 (0, 0)) (by (with_reducible repeat (first | refine blk_drewN ?_ _ | refine blk_drew ?_ | refine blk_alloc ?_ _)); exact BK288.out) hb)
              have n4_ := Aside0.mk (below_step (by repeat (first | (with_reducible first | exact HB.out | apply below_alloc | apply pw_below_drewN | apply below_drew1 | refine below_set ?_ GE278.out | refine below_set ?_ GE288.out) | exact HB.out)) hb)
              have n5_ := Aside0.mk (hbox)
              have n6_ := Aside0.mk ((by rw [hg]; exact (below_size (by repeat (first | (with_reducible first | exact HB.out | apply below_alloc | apply pw_below_drewN | apply below_drew1 | refine below_set ?_ GE278.out | refine below_set ?_ GE288.out) | exact HB.out))) : w.heap.size ≤ gb296))
              have n7_ := Aside0.mk ((by rw [hg]; exact (below_size (by repeat (first | (with_reducible first | exact HB.out | apply below_alloc | apply pw_below_drewN | apply below_drew1 | refine below_set ?_ GE278.out | refine below_set ?_ GE288.out) | exact HB.out))) : w.heap.size ≤ gb296))
              have n8_ := Aside0.mk ((by rw [hg]; exact Nat.ne_of_lt (blk_lt (g := gb278) (o := .cells #[.bool a0_0, .slice A0_1 l0_1.length c0_1, .int .i64 a0_2] 24 (0, 0)) (by (with_reducible repeat (first | refine blk_drewN ?_ _ | refine blk_drew ?_ | refine blk_alloc ?_ _)); exact BK278.out)) : gb278 ≠ gb296))
              have n9_ := Aside0.mk ((by rw [hg]; exact Nat.ne_of_gt (blk_lt (g := gb278) (o := .cells #[.bool a0_0, .slice A0_1 l0_1.length c0_1, .int .i64 a0_2] 24 (0, 0)) (by (with_reducible repeat (first | refine blk_drewN ?_ _ | refine blk_drew ?_ | refine blk_alloc ?_ _)); exact BK278.out)) : gb296 ≠ gb278))
              have n10_ := Aside0.mk ((by rw [hg]; exact Nat.ne_of_lt (blk_lt (g := gb288) (o := .cells #[.bool t282, .slice Ao99 t283.length co99, .int .i64 t286] 24 (0, 0)) (by (with_reducible repeat (first | refine blk_drewN ?_ _ | refine blk_drew ?_ | refine blk_alloc ?_ _)); exact BK288.out)) : gb288 ≠ gb296))
              have n11_ := Aside0.mk ((by rw [hg]; exact Nat.ne_of_gt (blk_lt (g := gb288) (o := .cells #[.bool t282, .slice Ao99 t283.length co99, .int .i64 t286] 24 (0, 0)) (by (with_reducible repeat (first | refine blk_drewN ?_ _ | refine blk_drew ?_ | refine blk_alloc ?_ _)); exact BK288.out)) : gb296 ≠ gb288))
              clear HO285
              clear HO293
              clear BK278
              clear BK288
              clear HB
              have HO285 := n0_
              have HO293 := n1_
              have BK278 := n2_
              have BK288 := n3_
              have HB := n4_
              have BK296 := n5_
              have GW296 := n6_
              have GE296 := n7_
              have NB278_296 := n8_
              have NB296_278 := n9_
              have NB288_296 := n10_
              have NB296_288 := n11_
              clear n0_ n1_ n2_ n3_ n4_ n5_ n6_ n7_ n8_ n9_ n10_ n11_
              clear hb hbox hg
              refine hK.out _ _ ⟨(blk_cell BK278.out 0).trans rfl, (blk_cell BK278.out 1).trans rfl, (blk_cell BK278.out 2).trans rfl⟩ (fun hHeld => ?_)
              clear hK K
              refine norm_ (a' := ?_) ?_ ?_
              rotate_left
              ·show Act.put _ (some 11) _ = _
               simp only [Act.put, List.setIfInBounds_toArray, List.set_cons_zero, List.set_cons_succ, i64_w, i32_w]
               rfl
              exact norm_ (by simp only [putAll, Act.put, List.setIfInBounds_toArray, List.set_cons_zero, List.set_cons_succ]) (hCont (v292, gb296) _ ⟨hHeld, (by (with_reducible repeat (first | apply Kd.V_alloc | apply Kd.V_drewN | apply Kd.V_drew)); exact Kd.V_mono HO285.out (fun _ hk => ⟨hk.1.1, ⟨hk.1.2, hk.2⟩⟩)), (by (with_reducible repeat (first | apply Kd.V_alloc | apply Kd.V_drewN | apply Kd.V_drew)); exact Kd.V_mono HO293.out (fun _ hk => ⟨hk.1.1, ⟨hk.1.2, hk.2⟩⟩)), (by (with_reducible repeat (first | refine blk_drewN ?_ _ | refine blk_drew ?_ | refine blk_alloc ?_ _)); exact BK278.out), (by (with_reducible repeat (first | refine blk_drewN ?_ _ | refine blk_drew ?_ | refine blk_alloc ?_ _)); exact BK288.out), (by (with_reducible repeat (first | refine blk_drewN ?_ _ | refine blk_drew ?_ | refine blk_alloc ?_ _)); exact BK296.out), GW296.out, GE296.out, NB278_296.out, NB296_278.out, NB288_296.out, NB296_288.out, (by repeat (first | (with_reducible first | exact HB.out | apply below_alloc | apply pw_below_drewN | apply below_drew1 | refine below_set ?_ GE278.out | refine below_set ?_ GE288.out | refine below_set ?_ GE296.out) | exact HB.out))⟩)
             ·skip
              refine box_step ?hg (N := 11) ?hd (cs := #[.bool false, .slice none 0 0, .int .i64 0]) (t := 24) ?hr ?_; (case hd => rfl); (case hg => rfl); (case hr => first | (go_simp; done) | (go_simp; rfl))
              intro gb296 hg w103 hbox hb
              have n0_ := Aside0.mk (Kd.V_below (Kd.V_elderB (by (with_reducible repeat (first | apply Kd.V_alloc | apply Kd.V_drewN | apply Kd.V_drew)); exact HO285.out) gb296 (Nat.le_of_eq hg.symm)) hb)
              have n1_ := Aside0.mk (blk_below (g := gb278) (o := .cells #[.bool a0_0, .slice A0_1 l0_1.length c0_1, .int .i64 a0_2] 24 (0, 0)) (by (with_reducible repeat (first | refine blk_drewN ?_ _ | refine blk_drew ?_ | refine blk_alloc ?_ _)); exact BK278.out) hb)
              have n2_ := Aside0.mk (blk_below (g := gb288) (o := .cells #[.bool t282, .slice Ao99 t283.length co99, .int .i64 t286] 24 (0, 0)) (by (with_reducible repeat (first | refine blk_drewN ?_ _ | refine blk_drew ?_ | refine blk_alloc ?_ _)); exact BK288.out) hb)
              have n3_ := Aside0.mk (below_step (by repeat (first | (with_reducible first | exact HB.out | apply below_alloc | apply pw_below_drewN | apply below_drew1 | refine below_set ?_ GE278.out | refine below_set ?_ GE288.out) | exact HB.out)) hb)
              have n4_ := Aside0.mk (hbox)
              have n5_ := Aside0.mk ((by rw [hg]; exact (below_size (by repeat (first | (with_reducible first | exact HB.out | apply below_alloc | apply pw_below_drewN | apply below_drew1 | refine below_set ?_ GE278.out | refine below_set ?_ GE288.out) | exact HB.out))) : w.heap.size ≤ gb296))
              have n6_ := Aside0.mk ((by rw [hg]; exact (below_size (by repeat (first | (with_reducible first | exact HB.out | apply below_alloc | apply pw_below_drewN | apply below_drew1 | refine below_set ?_ GE278.out | refine below_set ?_ GE288.out) | exact HB.out))) : w.heap.size ≤ gb296))
              have n7_ := Aside0.mk ((by rw [hg]; exact Nat.ne_of_lt (blk_lt (g := gb278) (o := .cells #[.bool a0_0, .slice A0_1 l0_1.length c0_1, .int .i64 a0_2] 24 (0, 0)) (by (with_reducible repeat (first | refine blk_drewN ?_ _ | refine blk_drew ?_ | refine blk_alloc ?_ _)); exact BK278.out)) : gb278 ≠ gb296))
              have n8_ := Aside0.mk ((by rw [hg]; exact Nat.ne_of_gt (blk_lt (g := gb278) (o := .cells #[.bool a0_0, .slice A0_1 l0_1.length c0_1, .int .i64 a0_2] 24 (0, 0)) (by (with_reducible repeat (first | refine blk_drewN ?_ _ | refine blk_drew ?_ | refine blk_alloc ?_ _)); exact BK278.out)) : gb296 ≠ gb278))
              have n9_ := Aside0.mk ((by rw [hg]; exact Nat.ne_of_lt (blk_lt (g := gb288) (o := .cells #[.bool t282, .slice Ao99 t283.length co99, .int .i64 t286] 24 (0, 0)) (by (with_reducible repeat (first | refine blk_drewN ?_ _ | refine blk_drew ?_ | refine blk_alloc ?_ _)); exact BK288.out)) : gb288 ≠ gb296))
              have n10_ := Aside0.mk ((by rw [hg]; exact Nat.ne_of_gt (blk_lt (g := gb288) (o := .cells #[.bool t282, .slice Ao99 t283.length co99, .int .i64 t286] 24 (0, 0)) (by (with_reducible repeat (first | refine blk_drewN ?_ _ | refine blk_drew ?_ | refine blk_alloc ?_ _)); exact BK288.out)) : gb296 ≠ gb288))
              clear HO285
              clear BK278
              clear BK288
              clear HB
              have HO285 := n0_
              have BK278 := n1_
              have BK288 := n2_
              have HB := n3_
              have BK296 := n4_
              have GW296 := n5_
              have GE296 := n6_
              have NB278_296 := n7_
              have NB296_278 := n8_
              have NB288_296 := n9_
              have NB296_288 := n10_
              clear n0_ n1_ n2_ n3_ n4_ n5_ n6_ n7_ n8_ n9_ n10_
              clear hb hbox hg
              refine hK.out _ _ ⟨(blk_cell BK278.out 0).trans rfl, (blk_cell BK278.out 1).trans rfl, (blk_cell BK278.out 2).trans rfl⟩ (fun hHeld => ?_)
              clear hK K
              refine norm_ (a' := ?_) ?_ ?_
              rotate_left
              ·show Act.put _ (some 11) _ = _
               simp only [Act.put, List.setIfInBounds_toArray, List.set_cons_zero, List.set_cons_succ, i64_w, i32_w]
               rfl
              refine one_ (i := 7) (N := some 42) #[true, true, true, true, true, true, true, true, false, false, false, true, false, false] rfl rfl (one_of HT_.out (by kernel_rfl)) (by decide) (fun K hK => ?_)
              refine goes_ Tryd.func19 (by kernel_rfl) rfl #[.agg #[.bool a0_0, .slice A0_1 l0_1.length c0_1, .int .i64 a0_2], .int .i64 (wrap64 ((wrap64 (t289 - (wrap64 ((wrap64 (Int.tmod a1 60)) + 1)))) + 1)), .int .i64 a2] (by rfl) rfl rfl (by (try simp only [List.map_toArray, List.map_cons, List.map_nil]); first | done | rfl | (simp only [List.length_drop, List.length_take]; rfl)) ?_
              with_reducible refine (round_To.calls kj4 a0_0 (fun k_ => k_ < w.heap.size) _ _ l0_1 a0_2 (wrap64 ((wrap64 (t289 - (wrap64 ((wrap64 (Int.tmod a1 60)) + 1)))) + 1)) a2 t290 t291 t294 t295 _ ?side2 ?side1 A18.out).mono ?_
              (case side1 => exact Kd.V_mk HC0_1.out (Kd.F_below (Kd.C_F (Kd.heap_int .u8) HR0_1.out) (by repeat (first | (with_reducible first | exact HB.out | apply below_alloc | apply pw_below_drewN | apply below_drew1 | refine below_set ?_ GE278.out | refine below_set ?_ GE288.out | refine below_set ?_ GE296.out) | exact HB.out))))
              (case side2 => refine GL.below HG.out ?_; repeat (first | (with_reducible first | exact HB.out | apply below_alloc | apply pw_below_drewN | apply below_drew1 | refine below_set ?_ GE278.out | refine below_set ?_ GE288.out | refine below_set ?_ GE296.out) | exact HB.out))
              rintro e w104 ⟨v292, rfl, ho0, hb⟩
              refine ⟨_, rfl, ?_⟩
              have n0_ := Aside0.mk (Kd.V_below (by (with_reducible repeat (first | apply Kd.V_alloc | apply Kd.V_drewN | apply Kd.V_drew)); exact HO285.out) hb)
              have n1_ := Aside0.mk (Kd.V_lower (Kd.V_mono (ok' := fun k_ => k_ ≠ gb278 ∧ k_ ≠ gb288 ∧ k_ ≠ gb296) ho0 (fun k_ hk_ => ⟨Or.elim hk_ (fun hs_ => fun e_ => Nat.not_le.2 hs_ (by rw [e_]; exact GW278.out)) (fun hn_ => (Kd.freshB (g := gb278) (o := .cells #[.bool a0_0, .slice A0_1 l0_1.length c0_1, .int .i64 a0_2] 24 (0, 0)) (by (with_reducible repeat (first | refine blk_drewN ?_ _ | refine blk_drew ?_ | refine blk_alloc ?_ _)); exact BK278.out) k_ hn_)), Or.elim hk_ (fun hs_ => fun e_ => Nat.not_le.2 hs_ (by rw [e_]; exact GW288.out)) (fun hn_ => (Kd.freshB (g := gb288) (o := .cells #[.bool t282, .slice Ao99 t283.length co99, .int .i64 t286] 24 (0, 0)) (by (with_reducible repeat (first | refine blk_drewN ?_ _ | refine blk_drew ?_ | refine blk_alloc ?_ _)); exact BK288.out) k_ hn_)), Or.elim hk_ (fun hs_ => fun e_ => Nat.not_le.2 hs_ (by rw [e_]; exact GW296.out)) (fun hn_ => (Kd.freshB (g := gb296) (o := .cells #[.bool false, .slice none 0 0, .int .i64 0] 24 (0, 0)) (by (with_reducible repeat (first | refine blk_drewN ?_ _ | refine blk_drew ?_ | refine blk_alloc ?_ _)); exact BK296.out) k_ hn_))⟩)) (below_size (by repeat (first | (with_reducible first | exact HB.out | apply below_alloc | apply pw_below_drewN | apply below_drew1 | refine below_set ?_ GE278.out | refine below_set ?_ GE288.out | refine below_set ?_ GE296.out) | exact HB.out))))
              have n2_ := Aside0.mk (blk_below (g := gb278) (o := .cells #[.bool a0_0, .slice A0_1 l0_1.length c0_1, .int .i64 a0_2] 24 (0, 0)) (by (with_reducible repeat (first | refine blk_drewN ?_ _ | refine blk_drew ?_ | refine blk_alloc ?_ _)); exact BK278.out) hb)
              have n3_ := Aside0.mk (blk_below (g := gb288) (o := .cells #[.bool t282, .slice Ao99 t283.length co99, .int .i64 t286] 24 (0, 0)) (by (with_reducible repeat (first | refine blk_drewN ?_ _ | refine blk_drew ?_ | refine blk_alloc ?_ _)); exact BK288.out) hb)
              have n4_ := Aside0.mk (blk_below (g := gb296) (o := .cells #[.bool false, .slice none 0 0, .int .i64 0] 24 (0, 0)) (by (with_reducible repeat (first | refine blk_drewN ?_ _ | refine blk_drew ?_ | refine blk_alloc ?_ _)); exact BK296.out) hb)
              have n5_ := Aside0.mk (below_step (by repeat (first | (with_reducible first | exact HB.out | apply below_alloc | apply pw_below_drewN | apply below_drew1 | refine below_set ?_ GE278.out | refine below_set ?_ GE288.out | refine below_set ?_ GE296.out) | exact HB.out)) hb)
              clear HO285
              clear BK278
              clear BK288
              clear BK296
              clear HB
              have HO285 := n0_
              have HO293 := n1_
              have BK278 := n2_
              have BK288 := n3_
              have BK296 := n4_
              have HB := n5_
              clear n0_ n1_ n2_ n3_ n4_ n5_
              (try clear hb)
              (try clear hb2)
              (try clear hk)
              (try clear hi)
              (try clear ho0)
              refine hK.out _ _ ⟨(blk_cell BK278.out 0).trans rfl, (blk_cell BK278.out 1).trans rfl, (blk_cell BK278.out 2).trans rfl⟩ (fun hHeld => ?_)
              clear hK K
              refine norm_ (a' := ?_) ?_ ?_
              rotate_left
              ·show Act.put _ (some 42) _ = _
               simp only [Act.put, List.setIfInBounds_toArray, List.set_cons_zero, List.set_cons_succ, i64_w, i32_w]
               rfl
              refine pure_ (i := 8) (N := some 34) (v := ?_) (a' := ?_) #[true, true, true, true, true, true, true, true, true, false, false, true, false, false] rfl rfl (any_of HT_.out (by kernel_rfl)) (fun _ _ _ h => h) (Or.inl ⟨by rfl, ?_⟩) ?_ ?_
              rotate_left
              ·intro w'
               go_simp
               with_reducible rfl
              rotate_left
              ·simp only [Act.put, List.setIfInBounds_toArray, List.set_cons_zero, List.set_cons_succ, i64_w, i32_w]
               rfl
              refine pure_ (i := 9) (N := some 43) (v := ?_) (a' := ?_) #[true, true, true, true, true, true, true, true, true, true, false, true, false, false] rfl rfl (any_of HT_.out (by kernel_rfl)) (fun _ _ _ h => h) (Or.inl ⟨by rfl, ?_⟩) ?_ ?_
              rotate_left
              ·intro w'
               go_simp
               with_reducible rfl
              rotate_left
              ·simp only [Act.put, List.setIfInBounds_toArray, List.set_cons_zero, List.set_cons_succ, i64_w, i32_w]
               rfl
              refine pure_ (i := 10) (N := some 44) (v := ?_) (a' := ?_) #[true, true, true, true, true, true, true, true, true, true, true, true, false, false] rfl rfl (any_of HT_.out (by kernel_rfl)) (fun _ _ _ h => h) (Or.inl ⟨by rfl, ?_⟩) ?_ ?_
              rotate_left
              ·intro w'
               go_simp
               with_reducible rfl
              rotate_left
              ·simp only [Act.put, List.setIfInBounds_toArray, List.set_cons_zero, List.set_cons_succ, i64_w, i32_w]
               rfl
              exact norm_ (by simp only [putAll, Act.put, List.setIfInBounds_toArray, List.set_cons_zero, List.set_cons_succ]) (hCont (v292, gb296) _ ⟨hHeld, (by (with_reducible repeat (first | apply Kd.V_alloc | apply Kd.V_drewN | apply Kd.V_drew)); exact Kd.V_mono HO285.out (fun _ hk => ⟨hk.1.1, ⟨hk.1.2, hk.2⟩⟩)), (by (with_reducible repeat (first | apply Kd.V_alloc | apply Kd.V_drewN | apply Kd.V_drew)); exact HO293.out), (by (with_reducible repeat (first | refine blk_drewN ?_ _ | refine blk_drew ?_ | refine blk_alloc ?_ _)); exact BK278.out), (by (with_reducible repeat (first | refine blk_drewN ?_ _ | refine blk_drew ?_ | refine blk_alloc ?_ _)); exact BK288.out), (by (with_reducible repeat (first | refine blk_drewN ?_ _ | refine blk_drew ?_ | refine blk_alloc ?_ _)); exact BK296.out), GW296.out, GE296.out, NB278_296.out, NB296_278.out, NB288_296.out, NB296_288.out, (by repeat (first | (with_reducible first | exact HB.out | apply below_alloc | apply pw_below_drewN | apply below_drew1 | refine below_set ?_ GE278.out | refine below_set ?_ GE288.out | refine below_set ?_ GE296.out) | exact HB.out))⟩)
            ·skip
             refine box_step ?hg (N := 11) ?hd (cs := #[.bool false, .slice none 0 0, .int .i64 0]) (t := 24) ?hr ?_; (case hd => rfl); (case hg => rfl); (case hr => first | (go_simp; done) | (go_simp; rfl))
             intro gb296 hg w102 hbox hb
             have n0_ := Aside0.mk (Kd.V_below (Kd.V_elderB (by (with_reducible repeat (first | apply Kd.V_alloc | apply Kd.V_drewN | apply Kd.V_drew)); exact HO285.out) gb296 (Nat.le_of_eq hg.symm)) hb)
             have n1_ := Aside0.mk (blk_below (g := gb278) (o := .cells #[.bool a0_0, .slice A0_1 l0_1.length c0_1, .int .i64 a0_2] 24 (0, 0)) (by (with_reducible repeat (first | refine blk_drewN ?_ _ | refine blk_drew ?_ | refine blk_alloc ?_ _)); exact BK278.out) hb)
             have n2_ := Aside0.mk (blk_below (g := gb288) (o := .cells #[.bool t282, .slice Ao99 t283.length co99, .int .i64 t286] 24 (0, 0)) (by (with_reducible repeat (first | refine blk_drewN ?_ _ | refine blk_drew ?_ | refine blk_alloc ?_ _)); exact BK288.out) hb)
             have n3_ := Aside0.mk (below_step (by repeat (first | (with_reducible first | exact HB.out | apply below_alloc | apply pw_below_drewN | apply below_drew1 | refine below_set ?_ GE278.out | refine below_set ?_ GE288.out) | exact HB.out)) hb)
             have n4_ := Aside0.mk (hbox)
             have n5_ := Aside0.mk ((by rw [hg]; exact (below_size (by repeat (first | (with_reducible first | exact HB.out | apply below_alloc | apply pw_below_drewN | apply below_drew1 | refine below_set ?_ GE278.out | refine below_set ?_ GE288.out) | exact HB.out))) : w.heap.size ≤ gb296))
             have n6_ := Aside0.mk ((by rw [hg]; exact (below_size (by repeat (first | (with_reducible first | exact HB.out | apply below_alloc | apply pw_below_drewN | apply below_drew1 | refine below_set ?_ GE278.out | refine below_set ?_ GE288.out) | exact HB.out))) : w.heap.size ≤ gb296))
             have n7_ := Aside0.mk ((by rw [hg]; exact Nat.ne_of_lt (blk_lt (g := gb278) (o := .cells #[.bool a0_0, .slice A0_1 l0_1.length c0_1, .int .i64 a0_2] 24 (0, 0)) (by (with_reducible repeat (first | refine blk_drewN ?_ _ | refine blk_drew ?_ | refine blk_alloc ?_ _)); exact BK278.out)) : gb278 ≠ gb296))
             have n8_ := Aside0.mk ((by rw [hg]; exact Nat.ne_of_gt (blk_lt (g := gb278) (o := .cells #[.bool a0_0, .slice A0_1 l0_1.length c0_1, .int .i64 a0_2] 24 (0, 0)) (by (with_reducible repeat (first | refine blk_drewN ?_ _ | refine blk_drew ?_ | refine blk_alloc ?_ _)); exact BK278.out)) : gb296 ≠ gb278))
             have n9_ := Aside0.mk ((by rw [hg]; exact Nat.ne_of_lt (blk_lt (g := gb288) (o := .cells #[.bool t282, .slice Ao99 t283.length co99, .int .i64 t286] 24 (0, 0)) (by (with_reducible repeat (first | refine blk_drewN ?_ _ | refine blk_drew ?_ | refine blk_alloc ?_ _)); exact BK288.out)) : gb288 ≠ gb296))
             have n10_ := Aside0.mk ((by rw [hg]; exact Nat.ne_of_gt (blk_lt (g := gb288) (o := .cells #[.bool t282, .slice Ao99 t283.length co99, .int .i64 t286] 24 (0, 0)) (by (with_reducible repeat (first | refine blk_drewN ?_ _ | refine blk_drew ?_ | refine blk_alloc ?_ _)); exact BK288.out)) : gb296 ≠ gb288))
             clear HO285
             clear BK278
             clear BK288
             clear HB
             have HO285 := n0_
             have BK278 := n1_
             have BK288 := n2_
             have HB := n3_
             have BK296 := n4_
             have GW296 := n5_
             have GE296 := n6_
             have NB278_296 := n7_
             have NB296_278 := n8_
             have NB288_296 := n9_
             have NB296_288 := n10_
             clear n0_ n1_ n2_ n3_ n4_ n5_ n6_ n7_ n8_ n9_ n10_
             clear hb hbox hg
             refine hK.out _ _ ⟨(blk_cell BK278.out 0).trans rfl, (blk_cell BK278.out 1).trans rfl, (blk_cell BK278.out 2).trans rfl⟩ (fun hHeld => ?_)
             clear hK K
             refine norm_ (a' := ?_) ?_ ?_
             rotate_left
             ·show Act.put _ (some 11) _ = _
              simp only [Act.put, List.setIfInBounds_toArray, List.set_cons_zero, List.set_cons_succ, i64_w, i32_w]
              rfl
             refine one_ (i := 2) (N := some 37) #[true, true, true, true, false, false, true, false, false, false, false, true, false, false] rfl rfl (one_of HT_.out (by kernel_rfl)) (by decide) (fun K hK => ?_)
             refine goes_ Tryd.func20 (by kernel_rfl) rfl #[.agg #[.bool a0_0, .slice A0_1 l0_1.length c0_1, .int .i64 a0_2]] (by rfl) rfl rfl (by (try simp only [List.map_toArray, List.map_cons, List.map_nil]); first | done | rfl | (simp only [List.length_drop, List.length_take]; rfl)) ?_
             with_reducible refine (exergueref05_Mag.calls a0_0 _ _ l0_1 a0_2 t289 _ ?side1 ?side2 A17.out).mono ?_
             (case side1 => repeat (first | exact (Kd.C_below HR0_1.out HB.out) | (with_reducible refine Kd.C_alloc ?_ _) | (with_reducible refine Kd.C_drewN ?_ _) | (with_reducible refine Kd.C_drew ?_)))
             (case side2 => exact HC0_1.out)
             rintro e w103 ⟨rfl, hb⟩
             refine ⟨_, rfl, ?_⟩
             have n0_ := Aside0.mk (Kd.V_below (by (with_reducible repeat (first | apply Kd.V_alloc | apply Kd.V_drewN | apply Kd.V_drew)); exact HO285.out) hb)
             have n1_ := Aside0.mk (blk_below (g := gb278) (o := .cells #[.bool a0_0, .slice A0_1 l0_1.length c0_1, .int .i64 a0_2] 24 (0, 0)) (by (with_reducible repeat (first | refine blk_drewN ?_ _ | refine blk_drew ?_ | refine blk_alloc ?_ _)); exact BK278.out) hb)
             have n2_ := Aside0.mk (blk_below (g := gb288) (o := .cells #[.bool t282, .slice Ao99 t283.length co99, .int .i64 t286] 24 (0, 0)) (by (with_reducible repeat (first | refine blk_drewN ?_ _ | refine blk_drew ?_ | refine blk_alloc ?_ _)); exact BK288.out) hb)
             have n3_ := Aside0.mk (blk_below (g := gb296) (o := .cells #[.bool false, .slice none 0 0, .int .i64 0] 24 (0, 0)) (by (with_reducible repeat (first | refine blk_drewN ?_ _ | refine blk_drew ?_ | refine blk_alloc ?_ _)); exact BK296.out) hb)
             have n4_ := Aside0.mk (below_step (by repeat (first | (with_reducible first | exact HB.out | apply below_alloc | apply pw_below_drewN | apply below_drew1 | refine below_set ?_ GE278.out | refine below_set ?_ GE288.out | refine below_set ?_ GE296.out) | exact HB.out)) hb)
             clear HO285
             clear BK278
             clear BK288
             clear BK296
             clear HB
             have HO285 := n0_
             have BK278 := n1_
             have BK288 := n2_
             have BK296 := n3_
             have HB := n4_
             clear n0_ n1_ n2_ n3_ n4_
             (try clear hb)
             (try clear hb2)
             (try clear hk)
             (try clear hi)
             refine hK.out _ _ ⟨(blk_cell BK278.out 0).trans rfl, (blk_cell BK278.out 1).trans rfl, (blk_cell BK278.out 2).trans rfl⟩ (fun hHeld => ?_)
             clear hK K
             refine norm_ (a' := ?_) ?_ ?_
             rotate_left
             ·show Act.put _ (some 37) _ = _
              simp only [Act.put, List.setIfInBounds_toArray, List.set_cons_zero, List.set_cons_succ, i64_w, i32_w]
              rfl
             refine pure_ (i := 4) (N := some 39) (v := ?_) (a' := ?_) #[true, true, true, true, true, false, true, false, false, false, false, true, false, false] rfl rfl (any_of HT_.out (by kernel_rfl)) (fun _ _ _ h => h) (Or.inl ⟨by rfl, ?_⟩) ?_ ?_
             rotate_left
             ·intro w'
              go_simp
              with_reducible rfl
             rotate_left
             ·simp only [Act.put, List.setIfInBounds_toArray, List.set_cons_zero, List.set_cons_succ, i64_w, i32_w]
              rfl
             refine pure_ (i := 5) (N := some 40) (v := ?_) (a' := ?_) #[true, true, true, true, true, true, true, false, false, false, false, true, false, false] rfl rfl (any_of HT_.out (by kernel_rfl)) (fun _ _ _ h => h) (Or.inl ⟨by rfl, ?_⟩) ?_ ?_
             rotate_left
             ·intro w'
              go_simp
              with_reducible rfl
             rotate_left
             ·simp only [Act.put, List.setIfInBounds_toArray, List.set_cons_zero, List.set_cons_succ, i64_w, i32_w]
              rfl
             refine one_ (i := 7) (N := some 42) #[true, true, true, true, true, true, true, true, false, false, false, true, false, false] rfl rfl (one_of HT_.out (by kernel_rfl)) (by decide) (fun K hK => ?_)
             refine goes_ Tryd.func19 (by kernel_rfl) rfl #[.agg #[.bool a0_0, .slice A0_1 l0_1.length c0_1, .int .i64 a0_2], .int .i64 (wrap64 ((wrap64 (t289 - (wrap64 ((wrap64 (Int.tmod a1 60)) + 1)))) + 1)), .int .i64 a2] (by rfl) rfl rfl (by (try simp only [List.map_toArray, List.map_cons, List.map_nil]); first | done | rfl | (simp only [List.length_drop, List.length_take]; rfl)) ?_
             with_reducible refine (round_To.calls kj4 a0_0 (fun k_ => k_ < w.heap.size) _ _ l0_1 a0_2 (wrap64 ((wrap64 (t289 - (wrap64 ((wrap64 (Int.tmod a1 60)) + 1)))) + 1)) a2 t290 t291 t294 t295 _ ?side2 ?side1 A18.out).mono ?_
             (case side1 => exact Kd.V_mk HC0_1.out (Kd.F_below (Kd.C_F (Kd.heap_int .u8) HR0_1.out) (by repeat (first | (with_reducible first | exact HB.out | apply below_alloc | apply pw_below_drewN | apply below_drew1 | refine below_set ?_ GE278.out | refine below_set ?_ GE288.out | refine below_set ?_ GE296.out) | exact HB.out))))
             (case side2 => refine GL.below HG.out ?_; repeat (first | (with_reducible first | exact HB.out | apply below_alloc | apply pw_below_drewN | apply below_drew1 | refine below_set ?_ GE278.out | refine below_set ?_ GE288.out | refine below_set ?_ GE296.out) | exact HB.out))
             rintro e w104 ⟨v292, rfl, ho0, hb⟩
             refine ⟨_, rfl, ?_⟩
             have n0_ := Aside0.mk (Kd.V_below (by (with_reducible repeat (first | apply Kd.V_alloc | apply Kd.V_drewN | apply Kd.V_drew)); exact HO285.out) hb)
             have n1_ := Aside0.mk (Kd.V_lower (Kd.V_mono (ok' := fun k_ => k_ ≠ gb278 ∧ k_ ≠ gb288 ∧ k_ ≠ gb296) ho0 (fun k_ hk_ => ⟨Or.elim hk_ (fun hs_ => fun e_ => Nat.not_le.2 hs_ (by rw [e_]; exact GW278.out)) (fun hn_ => (Kd.freshB (g := gb278) (o := .cells #[.bool a0_0, .slice A0_1 l0_1.length c0_1, .int .i64 a0_2] 24 (0, 0)) (by (with_reducible repeat (first | refine blk_drewN ?_ _ | refine blk_drew ?_ | refine blk_alloc ?_ _)); exact BK278.out) k_ hn_)), Or.elim hk_ (fun hs_ => fun e_ => Nat.not_le.2 hs_ (by rw [e_]; exact GW288.out)) (fun hn_ => (Kd.freshB (g := gb288) (o := .cells #[.bool t282, .slice Ao99 t283.length co99, .int .i64 t286] 24 (0, 0)) (by (with_reducible repeat (first | refine blk_drewN ?_ _ | refine blk_drew ?_ | refine blk_alloc ?_ _)); exact BK288.out) k_ hn_)), Or.elim hk_ (fun hs_ => fun e_ => Nat.not_le.2 hs_ (by rw [e_]; exact GW296.out)) (fun hn_ => (Kd.freshB (g := gb296) (o := .cells #[.bool false, .slice none 0 0, .int .i64 0] 24 (0, 0)) (by (with_reducible repeat (first | refine blk_drewN ?_ _ | refine blk_drew ?_ | refine blk_alloc ?_ _)); exact BK296.out) k_ hn_))⟩)) (below_size (by repeat (first | (with_reducible first | exact HB.out | apply below_alloc | apply pw_below_drewN | apply below_drew1 | refine below_set ?_ GE278.out | refine below_set ?_ GE288.out | refine below_set ?_ GE296.out) | exact HB.out))))
             have n2_ := Aside0.mk (blk_below (g := gb278) (o := .cells #[.bool a0_0, .slice A0_1 l0_1.length c0_1, .int .i64 a0_2] 24 (0, 0)) (by (with_reducible repeat (first | refine blk_drewN ?_ _ | refine blk_drew ?_ | refine blk_alloc ?_ _)); exact BK278.out) hb)
             have n3_ := Aside0.mk (blk_below (g := gb288) (o := .cells #[.bool t282, .slice Ao99 t283.length co99, .int .i64 t286] 24 (0, 0)) (by (with_reducible repeat (first | refine blk_drewN ?_ _ | refine blk_drew ?_ | refine blk_alloc ?_ _)); exact BK288.out) hb)
             have n4_ := Aside0.mk (blk_below (g := gb296) (o := .cells #[.bool false, .slice none 0 0, .int .i64 0] 24 (0, 0)) (by (with_reducible repeat (first | refine blk_drewN ?_ _ | refine blk_drew ?_ | refine blk_alloc ?_ _)); exact BK296.out) hb)
             have n5_ := Aside0.mk (below_step (by repeat (first | (with_reducible first | exact HB.out | apply below_alloc | apply pw_below_drewN | apply below_drew1 | refine below_set ?_ GE278.out | refine below_set ?_ GE288.out | refine below_set ?_ GE296.out) | exact HB.out)) hb)
             clear HO285
             clear BK278
             clear BK288
             clear BK296
             clear HB
             have HO285 := n0_
             have HO293 := n1_
             have BK278 := n2_
             have BK288 := n3_
             have BK296 := n4_
             have HB := n5_
             clear n0_ n1_ n2_ n3_ n4_ n5_
             (try clear hb)
             (try clear hb2)
             (try clear hk)
             (try clear hi)
             (try clear ho0)
             refine hK.out _ _ ⟨(blk_cell BK278.out 0).trans rfl, (blk_cell BK278.out 1).trans rfl, (blk_cell BK278.out 2).trans rfl⟩ (fun hHeld => ?_)
             clear hK K
             refine norm_ (a' := ?_) ?_ ?_
             rotate_left
             ·show Act.put _ (some 42) _ = _
              simp only [Act.put, List.setIfInBounds_toArray, List.set_cons_zero, List.set_cons_succ, i64_w, i32_w]
              rfl
             refine pure_ (i := 8) (N := some 34) (v := ?_) (a' := ?_) #[true, true, true, true, true, true, true, true, true, false, false, true, false, false] rfl rfl (any_of HT_.out (by kernel_rfl)) (fun _ _ _ h => h) (Or.inl ⟨by rfl, ?_⟩) ?_ ?_
             rotate_left
             ·intro w'
              go_simp
              with_reducible rfl
             rotate_left
             ·simp only [Act.put, List.setIfInBounds_toArray, List.set_cons_zero, List.set_cons_succ, i64_w, i32_w]
              rfl
             refine pure_ (i := 9) (N := some 43) (v := ?_) (a' := ?_) #[true, true, true, true, true, true, true, true, true, true, false, true, false, false] rfl rfl (any_of HT_.out (by kernel_rfl)) (fun _ _ _ h => h) (Or.inl ⟨by rfl, ?_⟩) ?_ ?_
             rotate_left
             ·intro w'
              go_simp
              with_reducible rfl
             rotate_left
             ·simp only [Act.put, List.setIfInBounds_toArray, List.set_cons_zero, List.set_cons_succ, i64_w, i32_w]
              rfl
             refine pure_ (i := 10) (N := some 44) (v := ?_) (a' := ?_) #[true, true, true, true, true, true, true, true, true, true, true, true, false, false] rfl rfl (any_of HT_.out (by kernel_rfl)) (fun _ _ _ h => h) (Or.inl ⟨by rfl, ?_⟩) ?_ ?_
             rotate_left
             ·intro w'
              go_simp
              with_reducible rfl
             rotate_left
             ·simp only [Act.put, List.setIfInBounds_toArray, List.set_cons_zero, List.set_cons_succ, i64_w, i32_w]
              rfl
             exact norm_ (by simp only [putAll, Act.put, List.setIfInBounds_toArray, List.set_cons_zero, List.set_cons_succ]) (hCont (v292, gb296) _ ⟨hHeld, (by (with_reducible repeat (first | apply Kd.V_alloc | apply Kd.V_drewN | apply Kd.V_drew)); exact Kd.V_mono HO285.out (fun _ hk => ⟨hk.1.1, ⟨hk.1.2, hk.2⟩⟩)), (by (with_reducible repeat (first | apply Kd.V_alloc | apply Kd.V_drewN | apply Kd.V_drew)); exact HO293.out), (by (with_reducible repeat (first | refine blk_drewN ?_ _ | refine blk_drew ?_ | refine blk_alloc ?_ _)); exact BK278.out), (by (with_reducible repeat (first | refine blk_drewN ?_ _ | refine blk_drew ?_ | refine blk_alloc ?_ _)); exact BK288.out), (by (with_reducible repeat (first | refine blk_drewN ?_ _ | refine blk_drew ?_ | refine blk_alloc ?_ _)); exact BK296.out), GW296.out, GE296.out, NB278_296.out, NB296_278.out, NB288_296.out, NB296_288.out, (by repeat (first | (with_reducible first | exact HB.out | apply below_alloc | apply pw_below_drewN | apply below_drew1 | refine below_set ?_ GE278.out | refine below_set ?_ GE288.out | refine below_set ?_ GE296.out) | exact HB.out))⟩)
           rintro ⟨v292, gb296⟩ w105 ⟨hS_, h0_, h1_, h2_, h3_, h4_, h5_, h6_, h7_, h8_, h9_, h10_, h11_⟩
           have n0_ : Aside0 (Kd.V (Kd.int .u8) 5 w105 w.heap.size (fun k_ => k_ ≠ gb278 ∧ k_ ≠ gb288 ∧ k_ ≠ gb296) (.slice Ao99 t283.length co99) t283) := ⟨h0_⟩
           have n1_ : Aside0 (Kd.V (Kd.int .u8) 5 w105 w.heap.size (fun k_ => k_ ≠ gb278 ∧ k_ ≠ gb288 ∧ k_ ≠ gb296) v292 t291) := ⟨h1_⟩
           have n2_ : Aside0 (w105.heap[gb278]? = some (.cells #[.bool a0_0, .slice A0_1 l0_1.length c0_1, .int .i64 a0_2] 24 (0, 0))) := ⟨h2_⟩
           have n3_ : Aside0 (w105.heap[gb288]? = some (.cells #[.bool t282, .slice Ao99 t283.length co99, .int .i64 t286] 24 (0, 0))) := ⟨h3_⟩
           have n4_ : Aside0 (w105.heap[gb296]? = some (.cells #[.bool false, .slice none 0 0, .int .i64 0] 24 (0, 0))) := ⟨h4_⟩
           have n5_ : Aside0 (w.heap.size ≤ gb296) := ⟨h5_⟩
           have n6_ : Aside0 (w.heap.size ≤ gb296) := ⟨h6_⟩
           have n7_ : Aside0 (gb278 ≠ gb296) := ⟨h7_⟩
           have n8_ : Aside0 (gb296 ≠ gb278) := ⟨h8_⟩
           have n9_ : Aside0 (gb288 ≠ gb296) := ⟨h9_⟩
           have n10_ : Aside0 (gb296 ≠ gb288) := ⟨h10_⟩
           have n11_ : Aside0 (Below w.heap.size w w105) := ⟨h11_⟩
           clear HO285
           clear BK278
           clear BK288
           clear HB
           clear h0_ h1_ h2_ h3_ h4_ h5_ h6_ h7_ h8_ h9_ h10_ h11_
           have HO285 := n0_
           have HO293 := n1_
           have BK278 := n2_
           have BK288 := n3_
           have BK296 := n4_
           have GW296 := n5_
           have GE296 := n6_
           have NB278_296 := n7_
           have NB296_278 := n8_
           have NB288_296 := n9_
           have NB296_288 := n10_
           have HB := n11_
           clear n0_ n1_ n2_ n3_ n4_ n5_ n6_ n7_ n8_ n9_ n10_ n11_
           have hHeld : w105.cell? ⟨gb278, 0, none⟩ = some (.bool a0_0) ∧ w105.cell? ⟨gb278, 1, none⟩ = some (.slice A0_1 l0_1.length c0_1) ∧ w105.cell? ⟨gb278, 2, none⟩ = some (.int .i64 a0_2) := hS_
           obtain ⟨Ao107, co107, eo107⟩ := Kd.V_slice HO293.out
           (first | subst eo107 | (injection eo107 with f1_ f2_ f3_; have f4_ := f1_.symm; have f5_ := f3_.symm; clear f1_ f2_ f3_; subst f4_; subst f5_))
           refine norm_ (a' := ?_) ?_ ?_
           rotate_left
           ·simp only [putAll, Act.put, List.setIfInBounds_toArray, List.set_cons_zero, List.set_cons_succ]
            rfl
           refine one_ (i := 12) (N := none) #[true, true, true, true, true, true, true, true, true, true, true, true, true, false] rfl rfl (one_of HT_.out (by kernel_rfl)) (by decide) (fun K hK => ?_)
           have hs106 : w105.cell? ⟨gb296, 0, none⟩ = some (.bool false) := (blk_cell BK296.out 0).trans rfl
           have hfs106 := blk_frozen BK296.out 0
           have hns106_0 := NB278_296.out
           have hns106_1 := NB288_296.out
           have hms106_0 := NB296_278.out
           have hms106_1 := NB296_288.out
           have hs108 : w105.cell? ⟨gb296, 1, none⟩ = some (.slice none 0 0) := (blk_cell BK296.out 1).trans rfl
           have hfs108 := blk_frozen BK296.out 1
           have hns108_0 := NB278_296.out
           have hns108_1 := NB288_296.out
           have hms108_0 := NB296_278.out
           have hms108_1 := NB296_288.out
           have hs109 : w105.cell? ⟨gb296, 2, none⟩ = some (.int .i64 0) := (blk_cell BK296.out 2).trans rfl
           have hfs109 := blk_frozen BK296.out 2
           have hns109_0 := NB278_296.out
           have hns109_1 := NB288_296.out
           have hms109_0 := NB296_278.out
           have hms109_1 := NB296_288.out
           refine skip_ (w1 := ?_) (by rfl) rfl ?_ ?_
           rotate_left
           ·go_simp
            rfl
           refine hK.out _ _ ⟨((cell_far (p := ⟨gb296, _, none⟩) NB278_296.out _).trans (((cell_far (p := ⟨gb296, _, none⟩) NB278_296.out _).trans (((cell_far (p := ⟨gb296, _, none⟩) NB278_296.out _).trans (hHeld.1)))))), ((cell_far (p := ⟨gb296, _, none⟩) NB278_296.out _).trans (((cell_far (p := ⟨gb296, _, none⟩) NB278_296.out _).trans (((cell_far (p := ⟨gb296, _, none⟩) NB278_296.out _).trans (hHeld.2.1)))))), ((cell_far (p := ⟨gb296, _, none⟩) NB278_296.out _).trans (((cell_far (p := ⟨gb296, _, none⟩) NB278_296.out _).trans (((cell_far (p := ⟨gb296, _, none⟩) NB278_296.out _).trans (hHeld.2.2))))))⟩ (fun hHeld => ?_)
           clear hK K
           refine pure_ (i := 13) (N := some 12) (v := ?_) (a' := ?_) #[true, true, true, true, true, true, true, true, true, true, true, true, true, true] rfl rfl (any_of HT_.out (by kernel_rfl)) (fun _ _ _ h => h) (Or.inl ⟨by rfl, ?_⟩) ?_ ?_
           rotate_left
           ·intro w'
            go_simp
            with_reducible rfl
           rotate_left
           ·simp only [Act.put, List.setIfInBounds_toArray, List.set_cons_zero, List.set_cons_succ, i64_w, i32_w]
            rfl
           refine done_ (done_of HT_.out (by kernel_rfl)) ?_
           have hnb110 := NB288_296.out
           have hnc110 := NB296_288.out
           have hcz111_0 : w105.cell? ⟨gb288, 0, none⟩ = some (.bool t282) := (blk_cell BK288.out 0).trans rfl
           have hcz111_1 : w105.cell? ⟨gb288, 1, none⟩ = some (.slice Ao99 t283.length co99) := (blk_cell BK288.out 1).trans rfl
           have hcz111_2 : w105.cell? ⟨gb288, 2, none⟩ = some (.int .i64 t286) := (blk_cell BK288.out 2).trans rfl
           have hfz111_0 := blk_frozen BK288.out 0
           have hfz111_1 := blk_frozen BK288.out 1
           have hfz111_2 := blk_frozen BK288.out 2
           have hnb112 := NB278_296.out
           have hnc112 := NB296_278.out
           have hcz113_0 : w105.cell? ⟨gb278, 0, none⟩ = some (.bool a0_0) := (blk_cell BK278.out 0).trans rfl
           have hcz113_1 : w105.cell? ⟨gb278, 1, none⟩ = some (.slice A0_1 l0_1.length c0_1) := (blk_cell BK278.out 1).trans rfl
           have hcz113_2 : w105.cell? ⟨gb278, 2, none⟩ = some (.int .i64 a0_2) := (blk_cell BK278.out 2).trans rfl
           have hfz113_0 := blk_frozen BK278.out 0
           have hfz113_1 := blk_frozen BK278.out 1
           have hfz113_2 := blk_frozen BK278.out 2
           try go_wp2_with (first | (go_at_call 15; (with_reducible refine (exergueref05_Same.calls kj4 t282 _ _ t283 t286 a0_0 _ _ l0_1 a0_2 true _ ?side1 ?side2 ?side3 ?side4 A68.out).mono ?_); (case side1 => refine (Kd.V_reads' (e := 5) (base := w.heap.size) (ok := fun k_ => (k_ ≠ gb278 ∧ (k_ ≠ gb288 ∧ k_ ≠ gb296))) (n := t283.length) (c := co99) ?_).2.2; exact (by (with_reducible repeat (first | apply Kd.V_alloc | apply Kd.V_drewN | apply Kd.V_drew)); exact (Kd.V_mono (Kd.V_far (p := ⟨gb296, 2, none⟩) (Kd.V_far (p := ⟨gb296, 1, none⟩) (Kd.V_far (p := ⟨gb296, 0, none⟩) (Kd.V_mono HO285.out (fun k_ hk => (⟨hk, hk.2.2⟩ : _ ∧ k_ ≠ gb296))) (fun _ hk => hk.2) (.bool t290)) (fun _ hk => hk.2) (.slice Ao107 t291.length co107)) (fun _ hk => hk.2) (.int .i64 t294)) (fun _ h_ => h_.1)))); (case side2 => exact (Kd.V_reads' HO285.out).2.1); (case side3 => exact Kd.C_below HR0_1.out (by repeat (first | (with_reducible first | exact HB.out | apply below_alloc | apply pw_below_drewN | apply below_drew1 | refine below_set ?_ GE278.out | refine below_set ?_ GE288.out | refine below_set ?_ GE296.out) | exact HB.out))); (case side4 => exact HC0_1.out); rintro e w114 ⟨rfl, hb⟩; have n0_ := Aside0.mk (Kd.V_below (by (with_reducible repeat (first | apply Kd.V_alloc | apply Kd.V_drewN | apply Kd.V_drew)); exact (Kd.V_mono (Kd.V_far (p := ⟨gb296, 2, none⟩) (Kd.V_far (p := ⟨gb296, 1, none⟩) (Kd.V_far (p := ⟨gb296, 0, none⟩) (Kd.V_mono HO285.out (fun k_ hk => (⟨hk, hk.2.2⟩ : _ ∧ k_ ≠ gb296))) (fun _ hk => hk.2) (.bool t290)) (fun _ hk => hk.2) (.slice Ao107 t291.length co107)) (fun _ hk => hk.2) (.int .i64 t294)) (fun _ h_ => h_.1))) hb); have n1_ := Aside0.mk (Kd.V_below (by (with_reducible repeat (first | apply Kd.V_alloc | apply Kd.V_drewN | apply Kd.V_drew)); exact (Kd.V_mono (Kd.V_far (p := ⟨gb296, 2, none⟩) (Kd.V_far (p := ⟨gb296, 1, none⟩) (Kd.V_far (p := ⟨gb296, 0, none⟩) (Kd.V_mono HO293.out (fun k_ hk => (⟨hk, hk.2.2⟩ : _ ∧ k_ ≠ gb296))) (fun _ hk => hk.2) (.bool t290)) (fun _ hk => hk.2) (.slice Ao107 t291.length co107)) (fun _ hk => hk.2) (.int .i64 t294)) (fun _ h_ => h_.1))) hb); have n2_ := Aside0.mk (blk_below (g := gb278) (o := .cells #[.bool a0_0, .slice A0_1 l0_1.length c0_1, .int .i64 a0_2] 24 (0, 0)) (by (with_reducible repeat (first | refine blk_drewN ?_ _ | refine blk_drew ?_ | refine blk_alloc ?_ _)); refine blk_far ?_ NB278_296.out _; (with_reducible repeat (first | refine blk_drewN ?_ _ | refine blk_drew ?_ | refine blk_alloc ?_ _)); refine blk_far ?_ NB278_296.out _; (with_reducible repeat (first | refine blk_drewN ?_ _ | refine blk_drew ?_ | refine blk_alloc ?_ _)); refine blk_far ?_ NB278_296.out _; (with_reducible repeat (first | refine blk_drewN ?_ _ | refine blk_drew ?_ | refine blk_alloc ?_ _)); exact BK278.out) hb); have n3_ := Aside0.mk (blk_below (g := gb288) (o := .cells #[.bool t282, .slice Ao99 t283.length co99, .int .i64 t286] 24 (0, 0)) (by (with_reducible repeat (first | refine blk_drewN ?_ _ | refine blk_drew ?_ | refine blk_alloc ?_ _)); refine blk_far ?_ NB288_296.out _; (with_reducible repeat (first | refine blk_drewN ?_ _ | refine blk_drew ?_ | refine blk_alloc ?_ _)); refine blk_far ?_ NB288_296.out _; (with_reducible repeat (first | refine blk_drewN ?_ _ | refine blk_drew ?_ | refine blk_alloc ?_ _)); refine blk_far ?_ NB288_296.out _; (with_reducible repeat (first | refine blk_drewN ?_ _ | refine blk_drew ?_ | refine blk_alloc ?_ _)); exact BK288.out) hb); have n4_ := Aside0.mk (blk_below (g := gb296) (o := .cells #[.bool t290, .slice Ao107 t291.length co107, .int .i64 t294] 24 (0, 0)) (by (with_reducible repeat (first | refine blk_drewN ?_ _ | refine blk_drew ?_ | refine blk_alloc ?_ _)); refine blk_put (cs := #[.bool t290, .slice Ao107 t291.length co107, .int .i64 0]) ?_ 2 _ rfl; (with_reducible repeat (first | refine blk_drewN ?_ _ | refine blk_drew ?_ | refine blk_alloc ?_ _)); refine blk_put (cs := #[.bool t290, .slice none 0 0, .int .i64 0]) ?_ 1 _ rfl; (with_reducible repeat (first | refine blk_drewN ?_ _ | refine blk_drew ?_ | refine blk_alloc ?_ _)); refine blk_put (cs := #[.bool false, .slice none 0 0, .int .i64 0]) ?_ 0 _ rfl; (with_reducible repeat (first | refine blk_drewN ?_ _ | refine blk_drew ?_ | refine blk_alloc ?_ _)); exact BK296.out) hb); have n5_ := Aside0.mk (below_step (by repeat (first | (with_reducible first | exact HB.out | apply below_alloc | apply pw_below_drewN | apply below_drew1 | refine below_set ?_ GE278.out | refine below_set ?_ GE288.out | refine below_set ?_ GE296.out) | exact HB.out)) hb); clear HO285; clear HO293; clear BK278; clear BK288; clear BK296; clear HB; have HO285 := n0_; have HO293 := n1_; have BK278 := n2_; have BK288 := n3_; have BK296 := n4_; have HB := n5_; clear n0_ n1_ n2_ n3_ n4_ n5_; (try clear hb); (try clear hb2); (try clear hk); (try clear hi); have hcz115_0 : w114.cell? ⟨gb278, 0, none⟩ = some (.bool a0_0) := (blk_cell BK278.out 0).trans rfl; have hcz115_1 : w114.cell? ⟨gb278, 1, none⟩ = some (.slice A0_1 l0_1.length c0_1) := (blk_cell BK278.out 1).trans rfl; have hcz115_2 : w114.cell? ⟨gb278, 2, none⟩ = some (.int .i64 a0_2) := (blk_cell BK278.out 2).trans rfl; have hfz115_0 := blk_frozen BK278.out 0; have hfz115_1 := blk_frozen BK278.out 1; have hfz115_2 := blk_frozen BK278.out 2; have hcz116_0 : w114.cell? ⟨gb288, 0, none⟩ = some (.bool t282) := (blk_cell BK288.out 0).trans rfl; have hcz116_1 : w114.cell? ⟨gb288, 1, none⟩ = some (.slice Ao99 t283.length co99) := (blk_cell BK288.out 1).trans rfl; have hcz116_2 : w114.cell? ⟨gb288, 2, none⟩ = some (.int .i64 t286) := (blk_cell BK288.out 2).trans rfl; have hfz116_0 := blk_frozen BK288.out 0; have hfz116_1 := blk_frozen BK288.out 1; have hfz116_2 := blk_frozen BK288.out 2; have hcz117_0 : w114.cell? ⟨gb296, 0, none⟩ = some (.bool t290) := (blk_cell BK296.out 0).trans rfl; have hcz117_1 : w114.cell? ⟨gb296, 1, none⟩ = some (.slice Ao107 t291.length co107) := (blk_cell BK296.out 1).trans rfl; have hcz117_2 : w114.cell? ⟨gb296, 2, none⟩ = some (.int .i64 t294) := (blk_cell BK296.out 2).trans rfl; have hfz117_0 := blk_frozen BK296.out 0; have hfz117_1 := blk_frozen BK296.out 1; have hfz117_2 := blk_frozen BK296.out 2) | (go_at_call 15; (with_reducible refine (exergueref05_Same.calls kj4 t282 _ _ t283 t286 t290 _ _ t291 t294 t299 _ ?side1 ?side2 ?side3 ?side4 A93.out).mono ?_); (case side1 => repeat (first | exact (Kd.V_reads' HO285.out).2.2 | (with_reducible refine Kd.C_alloc ?_ _) | (with_reducible refine Kd.C_drewN ?_ _) | (with_reducible refine Kd.C_drew ?_))); (case side2 => exact (Kd.V_reads' HO285.out).2.1); (case side3 => repeat (first | exact (Kd.V_reads' HO293.out).2.2 | (with_reducible refine Kd.C_alloc ?_ _) | (with_reducible refine Kd.C_drewN ?_ _) | (with_reducible refine Kd.C_drew ?_))); (case side4 => exact (Kd.V_reads' HO293.out).2.1); rintro e w118 ⟨rfl, hb⟩; have n0_ := Aside0.mk (Kd.V_below (by (with_reducible repeat (first | apply Kd.V_alloc | apply Kd.V_drewN | apply Kd.V_drew)); exact HO285.out) hb); have n1_ := Aside0.mk (Kd.V_below (by (with_reducible repeat (first | apply Kd.V_alloc | apply Kd.V_drewN | apply Kd.V_drew)); exact HO293.out) hb); have n2_ := Aside0.mk (blk_below (g := gb278) (o := .cells #[.bool a0_0, .slice A0_1 l0_1.length c0_1, .int .i64 a0_2] 24 (0, 0)) (by (with_reducible repeat (first | refine blk_drewN ?_ _ | refine blk_drew ?_ | refine blk_alloc ?_ _)); exact BK278.out) hb); have n3_ := Aside0.mk (blk_below (g := gb288) (o := .cells #[.bool t282, .slice Ao99 t283.length co99, .int .i64 t286] 24 (0, 0)) (by (with_reducible repeat (first | refine blk_drewN ?_ _ | refine blk_drew ?_ | refine blk_alloc ?_ _)); exact BK288.out) hb); have n4_ := Aside0.mk (blk_below (g := gb296) (o := .cells #[.bool t290, .slice Ao107 t291.length co107, .int .i64 t294] 24 (0, 0)) (by (with_reducible repeat (first | refine blk_drewN ?_ _ | refine blk_drew ?_ | refine blk_alloc ?_ _)); exact BK296.out) hb); have n5_ := Aside0.mk (below_step (by repeat (first | (with_reducible first | exact HB.out | apply below_alloc | apply pw_below_drewN | apply below_drew1 | refine below_set ?_ GE278.out | refine below_set ?_ GE288.out | refine below_set ?_ GE296.out) | exact HB.out)) hb); clear HO285; clear HO293; clear BK278; clear BK288; clear BK296; clear HB; have HO285 := n0_; have HO293 := n1_; have BK278 := n2_; have BK288 := n3_; have BK296 := n4_; have HB := n5_; clear n0_ n1_ n2_ n3_ n4_ n5_; (try clear hb); (try clear hb2); (try clear hk); (try clear hi)))
           go_ret
           exact ⟨by first | rfl | (simp [errW_none, errW_some] <;> rfl) | (simp [*, errW_none, errW_some] <;> rfl), by repeat (first | (with_reducible first | exact HB.out | apply below_alloc | apply pw_below_drewN | apply below_drew1 | refine below_set ?_ GE278.out | refine below_set ?_ GE288.out | refine below_set ?_ GE296.out) | exact HB.out)⟩
         ·replace c69 := Bool.eq_false_iff.mpr c69
          subst c69
          have H1 : (none) = some r := by rw [if_neg (show ¬ (false = true) by decide)] at H; exact H
          clear H
          have H := H1
          clear H1
          exact absurd H (by simp)
       ·rw [if_neg c22] at H
        exact absurd H (by simp)
      ·rw [if_neg c21] at H
       exact absurd H (by simp)
     ·rw [if_neg c20] at H
      exact absurd H (by simp)
    ·replace c19 := Bool.eq_false_iff.mpr c19
     subst c19
     have H1 : (none) = some r := by rw [if_neg (show ¬ (false = true) by decide)] at H; exact H
     clear H
     have H := H1
     clear H1
     exact absurd H (by simp)

end Go.Proofs.YtogfokpmpdclbaaDoor.PZ
