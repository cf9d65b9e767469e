-- made by wip/xprint.py (a program of this session over the kit's print.py). Not trusted: Lean checks it.
import Derived.Test.YtahkamggdbibiaaDoorPZx0
import Derived.Test.YtahkamggdbibiaaDoorPZx5
import Derived.Test.YtahkamggdbibiaaDoorPZx6
import Derived.Test.YtahkamggdbibiaaDoorSl
namespace Go.Proofs.YtahkamggdbibiaaDoor.PZ
open Go.RowKit Go.Proofs.YtahkamggdbibiaaDoorW.PrintWords Go.Proofs.YtahkamggdbibiaaDoorW.PrintLast Go.Proofs.YtahkamggdbibiaaDoorW.PrintMore
attribute [local go_sem] max2_int min2_int max_two min_two max_three min_three max_four min_four   -- for this text's walks alone
set_option linter.unusedVariables false
set_option linter.unusedSimpArgs false

/-! ### dec_Norm: function 20 -/
mutual
def dec_Norm.j1 : Nat → List Int → Int → Bool → Int → Option (Bool × List Int × Int × Int)
  | 0, _, _, _, _ => none
  | k + 1, x1, x2, x129000, x129002 => if (x1.length : Int) = 0 then (some (x129000, ([] : List Int), x129002, 0)) else (dec_Norm.l1 k x1 x2 x129000 x129002)
def dec_Norm.l1 : Nat → List Int → Int → Bool → Int → Option (Bool × List Int × Int × Int)
  | 0, _, _, _, _ => none
  | k + 1, x1, x2, x129000, x129002 => if 0 ≤ (wrap64 ((x1.length : Int) - 1)) then (if (wrap64 ((x1.length : Int) - 1)) < (x1.length : Int) then (if (rd x1 (wrap64 ((x1.length : Int) - 1))) = 0 then (if (wrap64 ((x1.length : Int) - 1)) ≤ (x1.length : Int) then (dec_Norm.l1 k (x1.take ((wrap64 ((x1.length : Int) - 1)) : Int).toNat) (wrap64 (x2 + 1)) x129000 x129002) else (none)) else ((slices_Clone_byte_byte.f x1).bind fun t141 => ((dec_Right.f x129000 t141 x2).bind fun t144 => (if t144 = true then (some (x129000, t141, x2, 0)) else (some (false, ([] : List Int), 0, 11)))))) else (none)) else (none)
def dec_Norm.l0 : Nat → List Int → Int → Bool → Int → Option (Bool × List Int × Int × Int)
  | 0, _, _, _, _ => none
  | k + 1, x1, x2, x129000, x129002 => if (x1.length : Int) > 0 then (if 0 < (x1.length : Int) then (if (rd x1 0) = 0 then (if 1 ≤ (x1.length : Int) then (dec_Norm.l0 k (x1.drop 1) x2 x129000 x129002) else (none)) else (dec_Norm.j1 k x1 x2 x129000 x129002)) else (none)) else (dec_Norm.j1 k x1 x2 x129000 x129002)
end
def dec_Norm.f (k : Nat) (a0 : Bool) (l1 : List Int) (a2 : Int) : Option (Bool × List Int × Int × Int) := (slices_ContainsFunc_byte_byte.f l1 38).bind fun t126 => (if t126 = true then (some (false, ([] : List Int), 0, 1)) else ((dec_tooFar.f a2 1099511627776).bind fun t127 => (if t127 = true then (some (false, ([] : List Int), 0, 11)) else (dec_Norm.l0 k l1 a2 a0 0))))
theorem dec_Norm.mono_l : ∀ k, (∀ y0 y1 y2 y3, LeO (dec_Norm.j1 k y0 y1 y2 y3) (dec_Norm.j1 (k + 1) y0 y1 y2 y3)) ∧ (∀ y0 y1 y2 y3, LeO (dec_Norm.l1 k y0 y1 y2 y3) (dec_Norm.l1 (k + 1) y0 y1 y2 y3)) ∧ (∀ y0 y1 y2 y3, LeO (dec_Norm.l0 k y0 y1 y2 y3) (dec_Norm.l0 (k + 1) y0 y1 y2 y3))
  | 0 => ⟨fun _ _ _ _ r h => by simp [dec_Norm.j1] at h, fun _ _ _ _ r h => by simp [dec_Norm.l1] at h, fun _ _ _ _ r h => by simp [dec_Norm.l0] at h⟩
  | k + 1 => by
    obtain ⟨ih0, ih1, ih2⟩ := dec_Norm.mono_l k
    refine ⟨?_, ?_, ?_⟩
    · intro y0 y1 y2 y3
      unfold dec_Norm.j1
      repeat' first
      | (with_reducible exact ih0 _ _ _ _)
      | (with_reducible exact ih1 _ _ _ _)
      | (with_reducible exact ih2 _ _ _ _)
      | (with_reducible exact LeO.refl _)
      | (with_reducible exact LeO.none _)
      | (with_reducible refine LeO.ite ?_ ?_)
      | (with_reducible refine LeO.bind ?_ (fun _ => ?_))
      | exact ih0 _ _ _ _
      | exact ih1 _ _ _ _
      | exact ih2 _ _ _ _
      | exact LeO.none _
      | refine LeO.ite ?_ ?_
      | refine LeO.bind ?_ (fun _ => ?_)
    · intro y0 y1 y2 y3
      unfold dec_Norm.l1
      repeat' first
      | (with_reducible exact ih0 _ _ _ _)
      | (with_reducible exact ih1 _ _ _ _)
      | (with_reducible exact ih2 _ _ _ _)
      | (with_reducible exact LeO.refl _)
      | (with_reducible exact LeO.none _)
      | (with_reducible refine LeO.ite ?_ ?_)
      | (with_reducible refine LeO.bind ?_ (fun _ => ?_))
      | exact ih0 _ _ _ _
      | exact ih1 _ _ _ _
      | exact ih2 _ _ _ _
      | exact LeO.none _
      | refine LeO.ite ?_ ?_
      | refine LeO.bind ?_ (fun _ => ?_)
    · intro y0 y1 y2 y3
      unfold dec_Norm.l0
      repeat' first
      | (with_reducible exact ih0 _ _ _ _)
      | (with_reducible exact ih1 _ _ _ _)
      | (with_reducible exact ih2 _ _ _ _)
      | (with_reducible exact LeO.refl _)
      | (with_reducible exact LeO.none _)
      | (with_reducible refine LeO.ite ?_ ?_)
      | (with_reducible refine LeO.bind ?_ (fun _ => ?_))
      | exact ih0 _ _ _ _
      | exact ih1 _ _ _ _
      | exact ih2 _ _ _ _
      | exact LeO.none _
      | refine LeO.ite ?_ ?_
      | refine LeO.bind ?_ (fun _ => ?_)
theorem dec_Norm.mono : ∀ a0 a1 a2 k, LeO (dec_Norm.f k a0 a1 a2) (dec_Norm.f (k + 1) a0 a1 a2) := by
  intro a0 a1 a2 k
  obtain ⟨ih0, ih1, ih2⟩ := dec_Norm.mono_l k
  unfold dec_Norm.f
  repeat' first
      | (with_reducible exact ih0 _ _ _ _)
      | (with_reducible exact ih1 _ _ _ _)
      | (with_reducible exact ih2 _ _ _ _)
      | (with_reducible exact LeO.refl _)
      | (with_reducible exact LeO.none _)
      | (with_reducible refine LeO.ite ?_ ?_)
      | (with_reducible refine LeO.bind ?_ (fun _ => ?_))
      | exact ih0 _ _ _ _
      | exact ih1 _ _ _ _
      | exact ih2 _ _ _ _
      | exact LeO.none _
      | refine LeO.ite ?_ ?_
      | refine LeO.bind ?_ (fun _ => ?_)
set_option maxHeartbeats 8000000 in
set_option maxRecDepth 100000 in
theorem dec_Norm.calls (k : Nat) (a0 : Bool) (P1_ : Nat → Prop) (A1 : Option Addr) (c1 : Nat) (l1 : List Int) (a2 : Int) (r1 : Bool) (r2 : List Int) (r3 : Int) (r4 : Int) (w : World) (hs1 : Kd.V (Kd.int .u8) 5 w w.heap.size (fun k_ => P1_ k_) (.slice A1 l1.length c1) l1) (h : dec_Norm.f k a0 l1 a2 = some (r1, r2, r3, r4)) :
    Calls Tryd.prog 20 #[.bool a0, .slice A1 l1.length c1, .int .i64 a2] w fun e w' => ∃ v1_ : Value, e = .returned (.tuple #[.agg #[.bool r1, v1_, .int .i64 r3], .int .i64 r4]) ∧ Kd.R (Kd.int .u8) 5 w' w.heap.size (fun k_ => (w.heap.size ≤ k_)) v1_ r2 ∧ Below w.heap.size w w' := by
  have hu24 := Tryd.underlying24
  have HO1 := Aside0.mk (show Kd.V (Kd.int .u8) 5 w w.heap.size (fun k_ => (P1_ k_ ∨ w.heap.size ≤ k_)) (.slice A1 l1.length c1) l1 from Kd.V_mono hs1 (fun k_ hk => .inl hk))
  have HB := Aside0.mk (Below.refl w.heap.size w)
  have H : ((slices_ContainsFunc_byte_byte.f l1 38).bind fun t126 => (if t126 = true then (some (false, ([] : List Int), 0, 1)) else ((dec_tooFar.f a2 1099511627776).bind fun t127 => (if t127 = true then (some (false, ([] : List Int), 0, 11)) else (dec_Norm.l0 k l1 a2 a0 0))))) = some (r1, r2, r3, r4) := h
  clear h
  replace H := Option.bind_eq_some_iff.mp H
  obtain ⟨t126, A40, H⟩ := H
  replace H : (if t126 = true then (some (false, ([] : List Int), 0, 1)) else ((dec_tooFar.f a2 1099511627776).bind fun t127 => (if t127 = true then (some (false, ([] : List Int), 0, 11)) else (dec_Norm.l0 k l1 a2 a0 0)))) = some (r1, r2, r3, r4) := H
  have A4 := Aside0.mk A40
  clear A40
  by_cases c5 : t126 = true
  · subst c5
    have H1 : (some (false, ([] : List Int), 0, 1)) = some (r1, r2, r3, r4) := by rw [if_pos rfl] at H; exact H
    clear H
    have H := H1
    clear H1
    simp only [Option.some.injEq, Prod.mk.injEq] at H
    obtain ⟨rfl, rfl, rfl, rfl⟩ := H
    go_enter Tryd.func20, Tryd.ntmps20
    go_wp2_with (first | ((with_reducible refine gate_dst (N := 6) rfl ?_); refine box_event ?hg (N := 6) ?hd (cs := #[.bool false, .slice none 0 0, .int .i64 0]) (t := 24) ?hr ?_; (case hd => rfl); (case hg => rfl); (case hr => first | (go_simp; done) | (go_simp; rfl)); intro gb125 hg w6 hbox hb; have n0_ := Aside0.mk (Kd.V_below (Kd.V_elderB (by (with_reducible repeat (first | apply Kd.V_alloc | apply Kd.V_drewN | apply Kd.V_drew)); exact HO1.out) gb125 (Nat.le_of_eq hg.symm)) hb); have n1_ := Aside0.mk (below_step (by repeat (first | (with_reducible first | exact HB.out | apply below_alloc | apply pw_below_drewN | apply below_drew1) | exact HB.out)) hb); have n2_ := Aside0.mk (hbox); have n3_ := Aside0.mk ((by rw [hg]; exact (below_size (by repeat (first | (with_reducible first | exact HB.out | apply below_alloc | apply pw_below_drewN | apply below_drew1) | exact HB.out))) : w.heap.size ≤ gb125)); have n4_ := Aside0.mk ((by rw [hg]; exact (below_size (by repeat (first | (with_reducible first | exact HB.out | apply below_alloc | apply pw_below_drewN | apply below_drew1) | exact HB.out))) : w.heap.size ≤ gb125)); clear HO1; clear HB; have HO1 := n0_; have HB := n1_; have BK125 := n2_; have GW125 := n3_; have GE125 := n4_; clear n0_ n1_ n2_ n3_ n4_; clear hb hbox hg) | ((with_reducible refine gate_callee (f := 37) rfl ?_); refine goesL_ (some 10) rfl rfl Tryd.func37 (by kernel_rfl) rfl #[.slice A1 l1.length c1, .func (.func 38) #[] #[]] rfl (by (try simp only [List.map_toArray, List.map_cons, List.map_nil]); first | done | rfl | (simp only [List.length_drop, List.length_take]; rfl)) ?_; (with_reducible refine (slices_ContainsFunc_byte_byte.calls _ _ l1 38 true _ ?side1 ?side2 A4.out).mono ?_); (case side1 => repeat (first | exact (Kd.V_reads' HO1.out).2.2 | (with_reducible refine Kd.C_alloc ?_ _) | (with_reducible refine Kd.C_drewN ?_ _) | (with_reducible refine Kd.C_drew ?_))); (case side2 => exact (Kd.V_reads' HO1.out).2.1); rintro e w7 ⟨rfl, hb⟩; refine ⟨_, rfl, ?_⟩; have n0_ := Aside0.mk (Kd.V_below (by (with_reducible repeat (first | apply Kd.V_alloc | apply Kd.V_drewN | apply Kd.V_drew)); exact HO1.out) hb); have n1_ := Aside0.mk (blk_below (g := gb125) (o := .cells #[.bool false, .slice none 0 0, .int .i64 0] 24 (0, 0)) (by (with_reducible repeat (first | refine blk_drewN ?_ _ | refine blk_drew ?_ | refine blk_alloc ?_ _)); exact BK125.out) hb); have n2_ := Aside0.mk (below_step (by repeat (first | (with_reducible first | exact HB.out | apply below_alloc | apply pw_below_drewN | apply below_drew1 | refine below_set ?_ GE125.out) | exact HB.out)) hb); clear HO1; clear BK125; clear HB; have HO1 := n0_; have BK125 := n1_; have HB := n2_; clear n0_ n1_ n2_; (try clear hb); (try clear hb2); (try clear hk); (try clear hi); have hcz8_0 : w7.cell? ⟨gb125, 0, none⟩ = some (.bool false) := (blk_cell BK125.out 0).trans rfl; have hcz8_1 : w7.cell? ⟨gb125, 1, none⟩ = some (.slice none 0 0) := (blk_cell BK125.out 1).trans rfl; have hcz8_2 : w7.cell? ⟨gb125, 2, none⟩ = some (.int .i64 0) := (blk_cell BK125.out 2).trans rfl; have hfz8_0 := blk_frozen BK125.out 0; have hfz8_1 := blk_frozen BK125.out 1; have hfz8_2 := blk_frozen BK125.out 2))
    refine bodyPost_ret (results_ct rfl _ _ gb125 24 #[.bool false, .slice none 0 0, .int .i64 0] (0, 0) _ rfl (by (with_reducible repeat (first | refine blk_drewN ?_ _ | refine blk_drew ?_ | refine blk_alloc ?_ _)); refine blk_put (cs := #[.bool false, .slice none 0 0, .int .i64 0]) ?_ 2 _ rfl; (with_reducible repeat (first | refine blk_drewN ?_ _ | refine blk_drew ?_ | refine blk_alloc ?_ _)); refine blk_put (cs := #[.bool false, .slice none 0 0, .int .i64 0]) ?_ 1 _ rfl; (with_reducible repeat (first | refine blk_drewN ?_ _ | refine blk_drew ?_ | refine blk_alloc ?_ _)); refine blk_put (cs := #[.bool false, .slice none 0 0, .int .i64 0]) ?_ 0 _ rfl; (with_reducible repeat (first | refine blk_drewN ?_ _ | refine blk_drew ?_ | refine blk_alloc ?_ _)); exact BK125.out) Tryd.underlying24 rfl (by kernel_rfl)) rfl ?_
    exact ⟨_, by first | rfl | (simp [errW_none, errW_some] <;> rfl) | (simp [*, errW_none, errW_some] <;> rfl), by first | exact Kd.R_nil _ _ _ _ _ | exact Kd.N_nil _ _ _ _ _ | exact Kd.V_nil _ _ _ _ _ | exact Kd.Q_nil _ _ _ _ _ | exact Kd.S_nil _ _ _ _ _, by repeat (first | (with_reducible first | exact HB.out | apply below_alloc | apply pw_below_drewN | apply below_drew1 | refine below_set ?_ GE125.out) | exact HB.out)⟩
  · replace c5 := Bool.eq_false_iff.mpr c5
    subst c5
    have H1 : ((dec_tooFar.f a2 1099511627776).bind fun t127 => (if t127 = true then (some (false, ([] : List Int), 0, 11)) else (dec_Norm.l0 k l1 a2 a0 0))) = some (r1, r2, r3, r4) := by rw [if_neg (show ¬ (false = true) by decide)] at H; exact H
    clear H
    have H := H1
    clear H1
    replace H := Option.bind_eq_some_iff.mp H
    obtain ⟨t127, A90, H⟩ := H
    replace H : (if t127 = true then (some (false, ([] : List Int), 0, 11)) else (dec_Norm.l0 k l1 a2 a0 0)) = some (r1, r2, r3, r4) := H
    have A9 := Aside0.mk A90
    clear A90
    by_cases c10 : t127 = true
    · subst c10
      have H1 : (some (false, ([] : List Int), 0, 11)) = some (r1, r2, r3, r4) := by rw [if_pos rfl] at H; exact H
      clear H
      have H := H1
      clear H1
      simp only [Option.some.injEq, Prod.mk.injEq] at H
      obtain ⟨rfl, rfl, rfl, rfl⟩ := H
      go_enter Tryd.func20, Tryd.ntmps20
      go_wp2_with (first | ((with_reducible refine gate_dst (N := 6) rfl ?_); refine box_event ?hg (N := 6) ?hd (cs := #[.bool false, .slice none 0 0, .int .i64 0]) (t := 24) ?hr ?_; (case hd => rfl); (case hg => rfl); (case hr => first | (go_simp; done) | (go_simp; rfl)); intro gb125 hg w11 hbox hb; have n0_ := Aside0.mk (Kd.V_below (Kd.V_elderB (by (with_reducible repeat (first | apply Kd.V_alloc | apply Kd.V_drewN | apply Kd.V_drew)); exact HO1.out) gb125 (Nat.le_of_eq hg.symm)) hb); have n1_ := Aside0.mk (below_step (by repeat (first | (with_reducible first | exact HB.out | apply below_alloc | apply pw_below_drewN | apply below_drew1) | exact HB.out)) hb); have n2_ := Aside0.mk (hbox); have n3_ := Aside0.mk ((by rw [hg]; exact (below_size (by repeat (first | (with_reducible first | exact HB.out | apply below_alloc | apply pw_below_drewN | apply below_drew1) | exact HB.out))) : w.heap.size ≤ gb125)); have n4_ := Aside0.mk ((by rw [hg]; exact (below_size (by repeat (first | (with_reducible first | exact HB.out | apply below_alloc | apply pw_below_drewN | apply below_drew1) | exact HB.out))) : w.heap.size ≤ gb125)); clear HO1; clear HB; have HO1 := n0_; have HB := n1_; have BK125 := n2_; have GW125 := n3_; have GE125 := n4_; clear n0_ n1_ n2_ n3_ n4_; clear hb hbox hg) | ((with_reducible refine gate_callee (f := 37) rfl ?_); refine goesL_ (some 10) rfl rfl Tryd.func37 (by kernel_rfl) rfl #[.slice A1 l1.length c1, .func (.func 38) #[] #[]] rfl (by (try simp only [List.map_toArray, List.map_cons, List.map_nil]); first | done | rfl | (simp only [List.length_drop, List.length_take]; rfl)) ?_; (with_reducible refine (slices_ContainsFunc_byte_byte.calls _ _ l1 38 false _ ?side1 ?side2 A4.out).mono ?_); (case side1 => repeat (first | exact (Kd.V_reads' HO1.out).2.2 | (with_reducible refine Kd.C_alloc ?_ _) | (with_reducible refine Kd.C_drewN ?_ _) | (with_reducible refine Kd.C_drew ?_))); (case side2 => exact (Kd.V_reads' HO1.out).2.1); rintro e w12 ⟨rfl, hb⟩; refine ⟨_, rfl, ?_⟩; have n0_ := Aside0.mk (Kd.V_below (by (with_reducible repeat (first | apply Kd.V_alloc | apply Kd.V_drewN | apply Kd.V_drew)); exact HO1.out) hb); have n1_ := Aside0.mk (blk_below (g := gb125) (o := .cells #[.bool false, .slice none 0 0, .int .i64 0] 24 (0, 0)) (by (with_reducible repeat (first | refine blk_drewN ?_ _ | refine blk_drew ?_ | refine blk_alloc ?_ _)); exact BK125.out) hb); have n2_ := Aside0.mk (below_step (by repeat (first | (with_reducible first | exact HB.out | apply below_alloc | apply pw_below_drewN | apply below_drew1 | refine below_set ?_ GE125.out) | exact HB.out)) hb); clear HO1; clear BK125; clear HB; have HO1 := n0_; have BK125 := n1_; have HB := n2_; clear n0_ n1_ n2_; (try clear hb); (try clear hb2); (try clear hk); (try clear hi)) | ((with_reducible refine gate_callee (f := 39) rfl ?_); refine goesL_ (some 13) rfl rfl Tryd.func39 (by kernel_rfl) rfl #[.int .i64 a2, .int .i64 1099511627776] rfl (by (try simp only [List.map_toArray, List.map_cons, List.map_nil]); first | done | rfl | (simp only [List.length_drop, List.length_take]; rfl)) ?_; (with_reducible refine (dec_tooFar.calls a2 1099511627776 true _ A9.out).mono ?_); rintro e w' ⟨rfl, ⟨nd, rfl⟩⟩; refine ⟨_, rfl, ?_⟩; (try (rw [drewN_self w12]; generalize hq_ : World.drewN w12 _ = w12; have n0_ : Aside0 (Kd.V (Kd.int .u8) 5 w12 w.heap.size (fun k_ => (P1_ k_ ∨ w.heap.size ≤ k_) ∧ k_ ≠ gb125) (.slice A1 l1.length c1) l1) := ⟨by rw [← hq_]; exact (by (with_reducible repeat (first | apply Kd.V_alloc | apply Kd.V_drewN | apply Kd.V_drew)); exact HO1.out)⟩; have n1_ : Aside0 (w12.heap[gb125]? = some (.cells #[.bool false, .slice none 0 0, .int .i64 0] 24 (0, 0))) := ⟨by rw [← hq_]; exact (by (with_reducible repeat (first | refine blk_drewN ?_ _ | refine blk_drew ?_ | refine blk_alloc ?_ _)); exact BK125.out)⟩; have n2_ : Aside0 (Below w.heap.size w w12) := ⟨by rw [← hq_]; exact (by repeat (first | (with_reducible first | exact HB.out | apply below_alloc | apply pw_below_drewN | apply below_drew1 | refine below_set ?_ GE125.out) | exact HB.out))⟩; clear HO1 BK125 HB hq_; have HO1 := n0_; have BK125 := n1_; have HB := n2_; clear n0_ n1_ n2_)); have hcz13_0 : w12.cell? ⟨gb125, 0, none⟩ = some (.bool false) := (blk_cell BK125.out 0).trans rfl; have hcz13_1 : w12.cell? ⟨gb125, 1, none⟩ = some (.slice none 0 0) := (blk_cell BK125.out 1).trans rfl; have hcz13_2 : w12.cell? ⟨gb125, 2, none⟩ = some (.int .i64 0) := (blk_cell BK125.out 2).trans rfl; have hfz13_0 := blk_frozen BK125.out 0; have hfz13_1 := blk_frozen BK125.out 1; have hfz13_2 := blk_frozen BK125.out 2))
      refine bodyPost_ret (results_ct rfl _ _ gb125 24 #[.bool false, .slice none 0 0, .int .i64 0] (0, 0) _ rfl (by (with_reducible repeat (first | refine blk_drewN ?_ _ | refine blk_drew ?_ | refine blk_alloc ?_ _)); refine blk_put (cs := #[.bool false, .slice none 0 0, .int .i64 0]) ?_ 2 _ rfl; (with_reducible repeat (first | refine blk_drewN ?_ _ | refine blk_drew ?_ | refine blk_alloc ?_ _)); refine blk_put (cs := #[.bool false, .slice none 0 0, .int .i64 0]) ?_ 1 _ rfl; (with_reducible repeat (first | refine blk_drewN ?_ _ | refine blk_drew ?_ | refine blk_alloc ?_ _)); refine blk_put (cs := #[.bool false, .slice none 0 0, .int .i64 0]) ?_ 0 _ rfl; (with_reducible repeat (first | refine blk_drewN ?_ _ | refine blk_drew ?_ | refine blk_alloc ?_ _)); exact BK125.out) Tryd.underlying24 rfl (by kernel_rfl)) rfl ?_
      exact ⟨_, by first | rfl | (simp [errW_none, errW_some] <;> rfl) | (simp [*, errW_none, errW_some] <;> rfl), by first | exact Kd.R_nil _ _ _ _ _ | exact Kd.N_nil _ _ _ _ _ | exact Kd.V_nil _ _ _ _ _ | exact Kd.Q_nil _ _ _ _ _ | exact Kd.S_nil _ _ _ _ _, by repeat (first | (with_reducible first | exact HB.out | apply below_alloc | apply pw_below_drewN | apply below_drew1 | refine below_set ?_ GE125.out) | exact HB.out)⟩
    · replace c10 := Bool.eq_false_iff.mpr c10
      subst c10
      have H1 : (dec_Norm.l0 k l1 a2 a0 0) = some (r1, r2, r3, r4) := by rw [if_neg (show ¬ (false = true) by decide)] at H; exact H
      clear H
      have H := H1
      clear H1
      have HC14 := Aside0.mk H
      clear H
      go_enter Tryd.func20, Tryd.ntmps20
      go_upto_block 0 with (first | ((with_reducible refine gate_dst (N := 6) rfl ?_); refine box_event ?hg (N := 6) ?hd (cs := #[.bool false, .slice none 0 0, .int .i64 0]) (t := 24) ?hr ?_; (case hd => rfl); (case hg => rfl); (case hr => first | (go_simp; done) | (go_simp; rfl)); intro gb125 hg w15 hbox hb; have n0_ := Aside0.mk (Kd.V_below (Kd.V_elderB (by (with_reducible repeat (first | apply Kd.V_alloc | apply Kd.V_drewN | apply Kd.V_drew)); exact HO1.out) gb125 (Nat.le_of_eq hg.symm)) hb); have n1_ := Aside0.mk (below_step (by repeat (first | (with_reducible first | exact HB.out | apply below_alloc | apply pw_below_drewN | apply below_drew1) | exact HB.out)) hb); have n2_ := Aside0.mk (hbox); have n3_ := Aside0.mk ((by rw [hg]; exact (below_size (by repeat (first | (with_reducible first | exact HB.out | apply below_alloc | apply pw_below_drewN | apply below_drew1) | exact HB.out))) : w.heap.size ≤ gb125)); have n4_ := Aside0.mk ((by rw [hg]; exact (below_size (by repeat (first | (with_reducible first | exact HB.out | apply below_alloc | apply pw_below_drewN | apply below_drew1) | exact HB.out))) : w.heap.size ≤ gb125)); clear HO1; clear HB; have HO1 := n0_; have HB := n1_; have BK125 := n2_; have GW125 := n3_; have GE125 := n4_; clear n0_ n1_ n2_ n3_ n4_; clear hb hbox hg) | ((with_reducible refine gate_callee (f := 37) rfl ?_); refine goesL_ (some 10) rfl rfl Tryd.func37 (by kernel_rfl) rfl #[.slice A1 l1.length c1, .func (.func 38) #[] #[]] rfl (by (try simp only [List.map_toArray, List.map_cons, List.map_nil]); first | done | rfl | (simp only [List.length_drop, List.length_take]; rfl)) ?_; (with_reducible refine (slices_ContainsFunc_byte_byte.calls _ _ l1 38 false _ ?side1 ?side2 A4.out).mono ?_); (case side1 => repeat (first | exact (Kd.V_reads' HO1.out).2.2 | (with_reducible refine Kd.C_alloc ?_ _) | (with_reducible refine Kd.C_drewN ?_ _) | (with_reducible refine Kd.C_drew ?_))); (case side2 => exact (Kd.V_reads' HO1.out).2.1); rintro e w16 ⟨rfl, hb⟩; refine ⟨_, rfl, ?_⟩; have n0_ := Aside0.mk (Kd.V_below (by (with_reducible repeat (first | apply Kd.V_alloc | apply Kd.V_drewN | apply Kd.V_drew)); exact HO1.out) hb); have n1_ := Aside0.mk (blk_below (g := gb125) (o := .cells #[.bool false, .slice none 0 0, .int .i64 0] 24 (0, 0)) (by (with_reducible repeat (first | refine blk_drewN ?_ _ | refine blk_drew ?_ | refine blk_alloc ?_ _)); exact BK125.out) hb); have n2_ := Aside0.mk (below_step (by repeat (first | (with_reducible first | exact HB.out | apply below_alloc | apply pw_below_drewN | apply below_drew1 | refine below_set ?_ GE125.out) | exact HB.out)) hb); clear HO1; clear BK125; clear HB; have HO1 := n0_; have BK125 := n1_; have HB := n2_; clear n0_ n1_ n2_; (try clear hb); (try clear hb2); (try clear hk); (try clear hi)) | ((with_reducible refine gate_callee (f := 39) rfl ?_); refine goesL_ (some 13) rfl rfl Tryd.func39 (by kernel_rfl) rfl #[.int .i64 a2, .int .i64 1099511627776] rfl (by (try simp only [List.map_toArray, List.map_cons, List.map_nil]); first | done | rfl | (simp only [List.length_drop, List.length_take]; rfl)) ?_; (with_reducible refine (dec_tooFar.calls a2 1099511627776 false _ A9.out).mono ?_); rintro e w' ⟨rfl, ⟨nd, rfl⟩⟩; refine ⟨_, rfl, ?_⟩; (try (rw [drewN_self w16]; generalize hq_ : World.drewN w16 _ = w16; have n0_ : Aside0 (Kd.V (Kd.int .u8) 5 w16 w.heap.size (fun k_ => (P1_ k_ ∨ w.heap.size ≤ k_) ∧ k_ ≠ gb125) (.slice A1 l1.length c1) l1) := ⟨by rw [← hq_]; exact (by (with_reducible repeat (first | apply Kd.V_alloc | apply Kd.V_drewN | apply Kd.V_drew)); exact HO1.out)⟩; have n1_ : Aside0 (w16.heap[gb125]? = some (.cells #[.bool false, .slice none 0 0, .int .i64 0] 24 (0, 0))) := ⟨by rw [← hq_]; exact (by (with_reducible repeat (first | refine blk_drewN ?_ _ | refine blk_drew ?_ | refine blk_alloc ?_ _)); exact BK125.out)⟩; have n2_ : Aside0 (Below w.heap.size w w16) := ⟨by rw [← hq_]; exact (by repeat (first | (with_reducible first | exact HB.out | apply below_alloc | apply pw_below_drewN | apply below_drew1 | refine below_set ?_ GE125.out) | exact HB.out))⟩; clear HO1 BK125 HB hq_; have HO1 := n0_; have BK125 := n1_; have HB := n2_; clear n0_ n1_ n2_))) | ((with_reducible refine gate_dst (N := 8) rfl ?_); refine box_event ?hg (N := 8) ?hd (cs := #[.bool false, .slice none 0 0, .int .i64 0]) (t := 24) ?hr ?_; (case hd => rfl); (case hg => rfl); (case hr => first | (go_simp; done) | (go_simp; rfl)); intro gb128 hg w17 hbox hb; have n0_ := Aside0.mk (Kd.V_below (Kd.V_elderB (by (with_reducible repeat (first | apply Kd.V_alloc | apply Kd.V_drewN | apply Kd.V_drew)); exact HO1.out) gb128 (Nat.le_of_eq hg.symm)) hb); have n1_ := Aside0.mk (blk_below (g := gb125) (o := .cells #[.bool false, .slice none 0 0, .int .i64 0] 24 (0, 0)) (by (with_reducible repeat (first | refine blk_drewN ?_ _ | refine blk_drew ?_ | refine blk_alloc ?_ _)); exact BK125.out) hb); have n2_ := Aside0.mk (below_step (by repeat (first | (with_reducible first | exact HB.out | apply below_alloc | apply pw_below_drewN | apply below_drew1 | refine below_set ?_ GE125.out) | exact HB.out)) hb); have n3_ := Aside0.mk (hbox); have n4_ := Aside0.mk ((by rw [hg]; exact (below_size (by repeat (first | (with_reducible first | exact HB.out | apply below_alloc | apply pw_below_drewN | apply below_drew1 | refine below_set ?_ GE125.out) | exact HB.out))) : w.heap.size ≤ gb128)); have n5_ := Aside0.mk ((by rw [hg]; exact (below_size (by repeat (first | (with_reducible first | exact HB.out | apply below_alloc | apply pw_below_drewN | apply below_drew1 | refine below_set ?_ GE125.out) | exact HB.out))) : w.heap.size ≤ gb128)); have n6_ := Aside0.mk ((by rw [hg]; exact Nat.ne_of_lt (blk_lt (g := gb125) (o := .cells #[.bool false, .slice none 0 0, .int .i64 0] 24 (0, 0)) (by (with_reducible repeat (first | refine blk_drewN ?_ _ | refine blk_drew ?_ | refine blk_alloc ?_ _)); exact BK125.out)) : gb125 ≠ gb128)); have n7_ := Aside0.mk ((by rw [hg]; exact Nat.ne_of_gt (blk_lt (g := gb125) (o := .cells #[.bool false, .slice none 0 0, .int .i64 0] 24 (0, 0)) (by (with_reducible repeat (first | refine blk_drewN ?_ _ | refine blk_drew ?_ | refine blk_alloc ?_ _)); exact BK125.out)) : gb128 ≠ gb125)); clear HO1; clear BK125; clear HB; have HO1 := n0_; have BK125 := n1_; have HB := n2_; have BK128 := n3_; have GW128 := n4_; have GE128 := n5_; have NB125_128 := n6_; have NB128_125 := n7_; clear n0_ n1_ n2_ n3_ n4_ n5_ n6_ n7_; clear hb hbox hg; have hnb18 := NB128_125.out; have hnc18 := NB125_128.out; have hcz19_0 : w17.cell? ⟨gb128, 0, none⟩ = some (.bool false) := (blk_cell BK128.out 0).trans rfl; have hcz19_1 : w17.cell? ⟨gb128, 1, none⟩ = some (.slice none 0 0) := (blk_cell BK128.out 1).trans rfl; have hcz19_2 : w17.cell? ⟨gb128, 2, none⟩ = some (.int .i64 0) := (blk_cell BK128.out 2).trans rfl; have hfz19_0 := blk_frozen BK128.out 0; have hfz19_1 := blk_frozen BK128.out 1; have hfz19_2 := blk_frozen BK128.out 2))
      (try simp only [Act.put, List.setIfInBounds_toArray, List.set_cons_zero, List.set_cons_succ])
      go_cut [1] (fun v1 wc => ∃ (kq : Nat) (x1_13 : List Int), Aside0 (dec_Norm.j1 kq x1_13 a2 a0 0 = some (r1, r2, r3, r4)) ∧ Aside0 (kq ≤ k) ∧ Aside0 (Kd.V (Kd.int .u8) 5 wc w.heap.size (fun k_ => (P1_ k_ ∨ w.heap.size ≤ k_) ∧ k_ ≠ gb125 ∧ k_ ≠ gb128) v1 x1_13) ∧ Aside0 (wc.heap[gb125]? = some (.cells #[.bool false, (.slice none 0 0), .int .i64 0] 24 (0, 0))) ∧ Aside0 (wc.heap[gb128]? = some (.cells #[.bool a0, (.slice none 0 0), .int .i64 0] 24 (0, 0))) ∧ Aside0 (Below w.heap.size w wc))
      case first =>
        have H := HC14.out
        clear HC14
        have H' := Aside0.mk H
        clear H
        go_wp2
        go_loopg [1] k (fun kq v1 w' => ∃ (x1_1 : List Int), Aside0 (dec_Norm.l0 kq x1_1 a2 a0 0 = some (r1, r2, r3, r4)) ∧ Aside0 (kq ≤ k) ∧ Aside0 (Kd.V (Kd.int .u8) 5 w' w.heap.size (fun k_ => (P1_ k_ ∨ w.heap.size ≤ k_) ∧ k_ ≠ gb125 ∧ k_ ≠ gb128) v1 x1_1) ∧ Aside0 (w'.heap[gb125]? = some (.cells #[.bool false, (.slice none 0 0), .int .i64 0] 24 (0, 0))) ∧ Aside0 (w'.heap[gb128]? = some (.cells #[.bool a0, (.slice none 0 0), .int .i64 0] 24 (0, 0))) ∧ Aside0 (Below w.heap.size w w'))
        case atStart => exact ⟨(l1), H', ⟨Nat.le_refl _⟩, ⟨by (with_reducible repeat (first | apply Kd.V_alloc | apply Kd.V_drewN | apply Kd.V_drew)); exact Kd.V_mono (Kd.V_far (p := ⟨gb128, 2, none⟩) (Kd.V_far (p := ⟨gb128, 1, none⟩) (Kd.V_far (p := ⟨gb128, 0, none⟩) (Kd.V_mono HO1.out (fun k_ hk => (⟨hk, hk.2⟩ : _ ∧ k_ ≠ gb128))) (fun _ hk => hk.2) (.bool a0)) (fun _ hk => hk.2) (.slice none 0 0)) (fun _ hk => hk.2) (.int .i64 0)) (fun _ hk => ⟨hk.1.1.1, ⟨hk.1.1.2, hk.1.2⟩⟩)⟩, ⟨by (with_reducible repeat (first | refine blk_drewN ?_ _ | refine blk_drew ?_ | refine blk_alloc ?_ _)); refine blk_far ?_ NB125_128.out _; (with_reducible repeat (first | refine blk_drewN ?_ _ | refine blk_drew ?_ | refine blk_alloc ?_ _)); refine blk_far ?_ NB125_128.out _; (with_reducible repeat (first | refine blk_drewN ?_ _ | refine blk_drew ?_ | refine blk_alloc ?_ _)); refine blk_far ?_ NB125_128.out _; (with_reducible repeat (first | refine blk_drewN ?_ _ | refine blk_drew ?_ | refine blk_alloc ?_ _)); exact BK125.out⟩, ⟨by (with_reducible repeat (first | refine blk_drewN ?_ _ | refine blk_drew ?_ | refine blk_alloc ?_ _)); refine blk_put (cs := #[.bool a0, .slice none 0 0, .int .i64 0]) ?_ 2 _ rfl; (with_reducible repeat (first | refine blk_drewN ?_ _ | refine blk_drew ?_ | refine blk_alloc ?_ _)); refine blk_put (cs := #[.bool a0, .slice none 0 0, .int .i64 0]) ?_ 1 _ rfl; (with_reducible repeat (first | refine blk_drewN ?_ _ | refine blk_drew ?_ | refine blk_alloc ?_ _)); refine blk_put (cs := #[.bool false, .slice none 0 0, .int .i64 0]) ?_ 0 _ rfl; (with_reducible repeat (first | refine blk_drewN ?_ _ | refine blk_drew ?_ | refine blk_alloc ?_ _)); exact BK128.out⟩, ⟨by repeat (first | (with_reducible first | exact HB.out | apply below_alloc | apply pw_below_drewN | apply below_drew1 | refine below_set ?_ GE125.out | refine below_set ?_ GE128.out) | exact HB.out)⟩⟩
        case round =>
          clear H'
          try clear c1
          try clear c2
          try clear p2
          try clear c3
          try clear c5
          try clear c10
          try clear c18
          try clear hcz13_0
          try clear hcz13_1
          try clear hcz13_2
          try clear hcz19_0
          try clear hcz19_1
          try clear hcz19_2
          try clear hcz8_0
          try clear hcz8_1
          try clear hcz8_2
          try clear hfz13_0
          try clear hfz13_1
          try clear hfz13_2
          try clear hfz19_0
          try clear hfz19_1
          try clear hfz19_2
          try clear hfz8_0
          try clear hfz8_1
          try clear hfz8_2
          obtain ⟨x1_1, HA, HK1, HO_1, BK125, BK128, HB⟩ := hrel
          cases gk with
          | zero => exact absurd HA.out (by simp [dec_Norm.l0])
          | succ k1 =>
            have H := HA.out
            clear HA
            simp only [dec_Norm.l0] at H
            by_cases c20 : (x1_1.length : Int) > 0
            · rw [if_pos c20] at H
              have c20b0 : decide (0 < (x1_1.length : Int)) = true := decide_eq_true c20
              have c20b1 : decide (0 < x1_1.length) = true := decide_eq_true (by omega)
              clear c20
              (first | rw [c20b0] | (simp only [i64_w, i32_w]; rw [c20b0]) | skip)
              by_cases c21 : 0 < (x1_1.length : Int)
              · rw [if_pos c21] at H
                have c21b0 : decide (0 < (x1_1.length : Int)) = true := decide_eq_true c21
                have c21b1 : decide (0 < x1_1.length) = true := decide_eq_true (by omega)
                clear c21
                by_cases c22 : (rd x1_1 0) = 0
                · rw [if_pos c22] at H
                  have c22b0 : ((rd x1_1 0) == 0) = true := beq_iff_eq.mpr c22
                  have c22b1 : ((rd x1_1 0) != 0) = false := bne_eq_false_iff_eq.mpr c22
                  clear c22
                  by_cases c23 : 1 ≤ (x1_1.length : Int)
                  · rw [if_pos c23] at H
                    have c23b0 := eq_true c23
                    have c23b1 : decide (1 ≤ (x1_1.length : Int)) = true := decide_eq_true c23
                    clear c23
                    obtain ⟨y130, hy130⟩ : ∃ y_ : List Int, y_ = (x1_1.drop 1) := ⟨_, rfl⟩
                    replace H : (dec_Norm.l0 k1 y130 a2 a0 0) = some (r1, r2, r3, r4) := by first | (rw [hy130]; with_reducible exact H) | (have H2_ := (Option.bind_some _ _).symm.trans H; rw [hy130]; with_reducible exact H2_) | (have H2_ := (Option.bind_some _ _).symm.trans H; with_reducible exact H2_) | with_reducible exact H | (rw [hy130]; exact H) | exact H
                    have Ny130 := Aside0.mk hy130
                    clear hy130
                    have H' := Aside0.mk H
                    clear H
                    obtain ⟨Ao24, co24, eo24⟩ := Kd.V_slice HO_1.out
                    subst eo24
                    have p129 : 0 ≤ (0 : Int) := (by omega)
                    have q129 : 0 < (x1_1.length : Int) := of_decide_eq_true (by first | (with_reducible assumption) | assumption)
                    obtain ⟨ad129, e129, hx129_0⟩ := Kd.at_int (Kd.V_reads' HO_1.out).2.2 0 p129 q129
                    cases e129
                    have qi129 : (0 < x1_1.length) = True := eq_true (by omega)
                    (try rw [show ((0 : Int)).toNat = 0 from rfl] at hx129_0)
                    (try rw [Addr.add_zero'] at hx129_0)
                    replace p129 := eq_true p129
                    replace q129 := eq_true q129
                    have q25 : (1 : Int) ≤ ((x1_1.length : Int) : Int) := of_decide_eq_true (by first | (with_reducible assumption) | assumption)
                    obtain ⟨i025, hi025, _, hsz25, _⟩ := info_parts info5
                    have hroom25 : x1_1.length ≤ co24 := (Kd.V_reads' HO_1.out).2.1
                    have hC25 : Kd.F (Kd.int .u8) _ _ (some ad129) x1_1.length x1_1 := (Kd.V_at (base := w.heap.size) HO_1.out).2.2
                    have hcut25 := cut_from (P := Tryd.prog) 22 5 .i64 Tryd.underlying22 hi025 1 hsz25 (some ad129) x1_1.length co24 1 (by omega) q25
                    have hr25 := Kd.F_cut (m := (1 : Int).toNat) (c := co24) hC25 (by omega) hroom25
                    obtain ⟨A25, hA25⟩ : ∃ A1, A1 = (if co24 = (1 : Int).toNat then (some ad129) else ((some ad129) : Option Addr).map (·.add ((1 : Int).toNat * 1))) := ⟨_, rfl⟩
                    obtain ⟨c25, hc25⟩ : ∃ c1, c1 = co24 - (1 : Int).toNat := ⟨_, rfl⟩
                    have hy25 : y130.length = x1_1.length - (1 : Int).toNat := (by rw [Ny130.out, List.length_drop] <;> omega)
                    rw [show (x1_1).drop (1 : Int).toNat = y130 from Ny130.out.symm] at hr25
                    replace hr25 : Kd.F (Kd.int .u8) _ _ A25 y130.length y130 := (by rw [hA25]; exact hr25)
                    rw [← hy25, ← hA25, ← hc25] at hcut25
                    have HO134 := Aside0.mk (show Kd.V (Kd.int .u8) 5 _ w.heap.size _ (.slice A25 y130.length c25) y130 from Kd.V_mk (by rw [hy25, hc25]; exact Nat.sub_le_sub_right hroom25 _) hr25)
                    have HC134 := Aside0.mk (show y130.length ≤ c25 from by rw [hy25, hc25]; exact Nat.sub_le_sub_right hroom25 _)
                    clear hr25 hC25 hroom25 hi025 hsz25 hc25
                    have KY25 := Aside0.mk hy25
                    have KA25 := Aside0.mk hA25
                    clear hy25 hA25
                    replace q25 := eq_true q25
                    go_wp2
                    go_roundg k1
                    case measure => have := HK1.out; omega
                    case rel => exact ⟨(y130), H', ⟨by have := HK1.out; omega⟩, ⟨by (with_reducible repeat (first | apply Kd.V_alloc | apply Kd.V_drewN | apply Kd.V_drew)); exact HO134.out⟩, ⟨by (with_reducible repeat (first | refine blk_drewN ?_ _ | refine blk_drew ?_ | refine blk_alloc ?_ _)); exact BK125.out⟩, ⟨by (with_reducible repeat (first | refine blk_drewN ?_ _ | refine blk_drew ?_ | refine blk_alloc ?_ _)); exact BK128.out⟩, ⟨by repeat (first | (with_reducible first | exact HB.out | apply below_alloc | apply pw_below_drewN | apply below_drew1 | refine below_set ?_ GE125.out | refine below_set ?_ GE128.out) | exact HB.out)⟩⟩
                  · rw [if_neg c23] at H
                    exact absurd H (by simp)
                · rw [if_neg c22] at H
                  have c22b0 : ((rd x1_1 0) == 0) = false := beq_eq_false_iff_ne.mpr c22
                  have c22b1 : ((rd x1_1 0) != 0) = true := bne_iff_ne.mpr c22
                  have H' := Aside0.mk H
                  clear H
                  obtain ⟨Ao26, co26, eo26⟩ := Kd.V_slice HO_1.out
                  subst eo26
                  have p129 : 0 ≤ (0 : Int) := (by omega)
                  have q129 : 0 < (x1_1.length : Int) := of_decide_eq_true (by first | (with_reducible assumption) | assumption)
                  obtain ⟨ad129, e129, hx129_0⟩ := Kd.at_int (Kd.V_reads' HO_1.out).2.2 0 p129 q129
                  cases e129
                  have qi129 : (0 < x1_1.length) = True := eq_true (by omega)
                  (try rw [show ((0 : Int)).toNat = 0 from rfl] at hx129_0)
                  (try rw [Addr.add_zero'] at hx129_0)
                  replace p129 := eq_true p129
                  replace q129 := eq_true q129
                  go_wp2
                  go_meet
                  case rel => exact ⟨_, (x1_1), H', ⟨by have := HK1.out; first | omega | exact Nat.le_refl _⟩, ⟨by (with_reducible repeat (first | apply Kd.V_alloc | apply Kd.V_drewN | apply Kd.V_drew)); exact HO_1.out⟩, ⟨by (with_reducible repeat (first | refine blk_drewN ?_ _ | refine blk_drew ?_ | refine blk_alloc ?_ _)); exact BK125.out⟩, ⟨by (with_reducible repeat (first | refine blk_drewN ?_ _ | refine blk_drew ?_ | refine blk_alloc ?_ _)); exact BK128.out⟩, ⟨by repeat (first | (with_reducible first | exact HB.out | apply below_alloc | apply pw_below_drewN | apply below_drew1 | refine below_set ?_ GE125.out | refine below_set ?_ GE128.out) | exact HB.out)⟩⟩
              · rw [if_neg c21] at H
                exact absurd H (by simp)
            · rw [if_neg c20] at H
              have c20b0 : decide (0 < (x1_1.length : Int)) = false := decide_eq_false c20
              have c20b1 : decide (0 < x1_1.length) = false := decide_eq_false (by omega)
              clear c20
              (first | rw [c20b0] | (simp only [i64_w, i32_w]; rw [c20b0]) | skip)
              have H' := Aside0.mk H
              clear H
              obtain ⟨Ao27, co27, eo27⟩ := Kd.V_slice HO_1.out
              subst eo27
              go_wp2
              go_meet
              case rel => exact ⟨_, (x1_1), H', ⟨by have := HK1.out; first | omega | exact Nat.le_refl _⟩, ⟨by (with_reducible repeat (first | apply Kd.V_alloc | apply Kd.V_drewN | apply Kd.V_drew)); exact HO_1.out⟩, ⟨by (with_reducible repeat (first | refine blk_drewN ?_ _ | refine blk_drew ?_ | refine blk_alloc ?_ _)); exact BK125.out⟩, ⟨by (with_reducible repeat (first | refine blk_drewN ?_ _ | refine blk_drew ?_ | refine blk_alloc ?_ _)); exact BK128.out⟩, ⟨by repeat (first | (with_reducible first | exact HB.out | apply below_alloc | apply pw_below_drewN | apply below_drew1 | refine below_set ?_ GE125.out | refine below_set ?_ GE128.out) | exact HB.out)⟩⟩
      case rest =>
        clear HC14
        try clear c1
        try clear p1
        try clear q1
        try clear hx1
        try clear qi1
        try clear c2
        try clear p2
        try clear q2
        try clear c3
        try clear c5
        try clear c10
        try clear p12
        try clear q12
        try clear hx12
        try clear qi12
        try clear c18
        try clear c20
        try clear c20b0
        try clear c20b1
        try clear c21
        try clear c21b0
        try clear c21b1
        try clear c22
        try clear c22b0
        try clear c22b1
        try clear c23
        try clear c23b0
        try clear c23b1
        try clear c25
        try clear q25
        try clear hcz13_0
        try clear hcz13_1
        try clear hcz13_2
        try clear hcz19_0
        try clear hcz19_1
        try clear hcz19_2
        try clear hcz8_0
        try clear hcz8_1
        try clear hcz8_2
        try clear hfz13_0
        try clear hfz13_1
        try clear hfz13_2
        try clear hfz19_0
        try clear hfz19_1
        try clear hfz19_2
        try clear hfz8_0
        try clear hfz8_1
        try clear hfz8_2
        try clear hx129_0
        try clear p129
        try clear p2
        try clear q129
        try clear q25
        obtain ⟨kq, x1_13, HA, HJ13, HO_1, BK125, BK128, HB⟩ := hcut
        cases kq with
        | zero => exact absurd HA.out (by simp [dec_Norm.j1])
        | succ kj13 =>
          have H := HA.out
          clear HA
          simp only [dec_Norm.j1] at H
          by_cases c28 : (x1_13.length : Int) = 0
          · rw [if_pos c28] at H
            have c28b0 : ((x1_13.length : Int) == 0) = true := beq_iff_eq.mpr c28
            have c28b1 : ((x1_13.length : Int) != 0) = false := bne_eq_false_iff_eq.mpr c28
            clear c28
            simp only [Option.some.injEq, Prod.mk.injEq] at H
            obtain ⟨rfl, rfl, rfl, rfl⟩ := H
            obtain ⟨Ao29, co29, eo29⟩ := Kd.V_slice HO_1.out
            subst eo29
            have hnb30 := NB128_125.out
            have hnc30 := NB125_128.out
            have hcz31_0 : wc.cell? ⟨gb128, 0, none⟩ = some (.bool a0) := (blk_cell BK128.out 0).trans rfl
            have hcz31_1 : wc.cell? ⟨gb128, 1, none⟩ = some (.slice none 0 0) := (blk_cell BK128.out 1).trans rfl
            have hcz31_2 : wc.cell? ⟨gb128, 2, none⟩ = some (.int .i64 0) := (blk_cell BK128.out 2).trans rfl
            have hfz31_0 := blk_frozen BK128.out 0
            have hfz31_1 := blk_frozen BK128.out 1
            have hfz31_2 := blk_frozen BK128.out 2
            have hcz32_0 : wc.cell? ⟨gb125, 0, none⟩ = some (.bool false) := (blk_cell BK125.out 0).trans rfl
            have hcz32_1 : wc.cell? ⟨gb125, 1, none⟩ = some (.slice none 0 0) := (blk_cell BK125.out 1).trans rfl
            have hcz32_2 : wc.cell? ⟨gb125, 2, none⟩ = some (.int .i64 0) := (blk_cell BK125.out 2).trans rfl
            have hfz32_0 := blk_frozen BK125.out 0
            have hfz32_1 := blk_frozen BK125.out 1
            have hfz32_2 := blk_frozen BK125.out 2
            go_wp2
            refine bodyPost_ret (results_ct rfl _ _ gb125 24 #[.bool a0, .slice none 0 0, .int .i64 0] (0, 0) _ rfl (by (with_reducible repeat (first | refine blk_drewN ?_ _ | refine blk_drew ?_ | refine blk_alloc ?_ _)); refine blk_put (cs := #[.bool a0, .slice none 0 0, .int .i64 0]) ?_ 2 _ rfl; (with_reducible repeat (first | refine blk_drewN ?_ _ | refine blk_drew ?_ | refine blk_alloc ?_ _)); refine blk_put (cs := #[.bool a0, .slice none 0 0, .int .i64 0]) ?_ 1 _ rfl; (with_reducible repeat (first | refine blk_drewN ?_ _ | refine blk_drew ?_ | refine blk_alloc ?_ _)); refine blk_put (cs := #[.bool false, .slice none 0 0, .int .i64 0]) ?_ 0 _ rfl; (with_reducible repeat (first | refine blk_drewN ?_ _ | refine blk_drew ?_ | refine blk_alloc ?_ _)); exact BK125.out) Tryd.underlying24 rfl (by kernel_rfl)) rfl ?_
            exact ⟨_, by first | rfl | (simp [errW_none, errW_some] <;> rfl) | (simp [*, errW_none, errW_some] <;> rfl), by first | exact Kd.R_nil _ _ _ _ _ | exact Kd.N_nil _ _ _ _ _ | exact Kd.V_nil _ _ _ _ _ | exact Kd.Q_nil _ _ _ _ _ | exact Kd.S_nil _ _ _ _ _, by repeat (first | (with_reducible first | exact HB.out | apply below_alloc | apply pw_below_drewN | apply below_drew1 | refine below_set ?_ GE125.out | refine below_set ?_ GE128.out) | exact HB.out)⟩
          · rw [if_neg c28] at H
            have c28b0 : ((x1_13.length : Int) == 0) = false := beq_eq_false_iff_ne.mpr c28
            have c28b1 : ((x1_13.length : Int) != 0) = true := bne_iff_ne.mpr c28
            have c28b2 : ¬ (x1_13 = []) := fun h_ => c28 (by rw [h_]; rfl)
            have H' := Aside0.mk H
            clear H
            obtain ⟨Ao33, co33, eo33⟩ := Kd.V_slice HO_1.out
            subst eo33
            go_wp2
            go_loopg [1, 2] kj13 (fun kq v1 v2 w' => ∃ (x1_2 : List Int) (x2_2 : Int), v2 = .int .i64 x2_2 ∧ Aside0 (dec_Norm.l1 kq x1_2 x2_2 a0 0 = some (r1, r2, r3, r4)) ∧ Aside0 (kq ≤ kj13) ∧ Aside0 (Kd.V (Kd.int .u8) 5 w' w.heap.size (fun k_ => (P1_ k_ ∨ w.heap.size ≤ k_) ∧ k_ ≠ gb125 ∧ k_ ≠ gb128) v1 x1_2) ∧ Aside0 (w'.heap[gb125]? = some (.cells #[.bool false, (.slice none 0 0), .int .i64 0] 24 (0, 0))) ∧ Aside0 (w'.heap[gb128]? = some (.cells #[.bool a0, (.slice none 0 0), .int .i64 0] 24 (0, 0))) ∧ Aside0 (Below w.heap.size w w'))
            case atStart => exact ⟨(x1_13), (a2), (by first | rfl | (simp; done) | (simp [*]; done)), H', ⟨Nat.le_refl _⟩, ⟨by (with_reducible repeat (first | apply Kd.V_alloc | apply Kd.V_drewN | apply Kd.V_drew)); exact HO_1.out⟩, ⟨by (with_reducible repeat (first | refine blk_drewN ?_ _ | refine blk_drew ?_ | refine blk_alloc ?_ _)); exact BK125.out⟩, ⟨by (with_reducible repeat (first | refine blk_drewN ?_ _ | refine blk_drew ?_ | refine blk_alloc ?_ _)); exact BK128.out⟩, ⟨by repeat (first | (with_reducible first | exact HB.out | apply below_alloc | apply pw_below_drewN | apply below_drew1 | refine below_set ?_ GE125.out | refine below_set ?_ GE128.out) | exact HB.out)⟩⟩
            case round =>
              clear H'
              try clear c1
              try clear p1
              try clear q1
              try clear hx1
              try clear qi1
              try clear c2
              try clear p2
              try clear q2
              try clear c3
              try clear c5
              try clear c10
              try clear p12
              try clear q12
              try clear hx12
              try clear qi12
              try clear c18
              try clear c20
              try clear c20b0
              try clear c20b1
              try clear c21
              try clear c21b0
              try clear c21b1
              try clear c22
              try clear c22b0
              try clear c22b1
              try clear c23
              try clear c23b0
              try clear c23b1
              try clear c25
              try clear q25
              try clear c28
              try clear c28b0
              try clear c28b1
              try clear c28b2
              try clear c30
              try clear hcz13_0
              try clear hcz13_1
              try clear hcz13_2
              try clear hcz19_0
              try clear hcz19_1
              try clear hcz19_2
              try clear hcz31_0
              try clear hcz31_1
              try clear hcz31_2
              try clear hcz32_0
              try clear hcz32_1
              try clear hcz32_2
              try clear hcz8_0
              try clear hcz8_1
              try clear hcz8_2
              try clear hfz13_0
              try clear hfz13_1
              try clear hfz13_2
              try clear hfz19_0
              try clear hfz19_1
              try clear hfz19_2
              try clear hfz31_0
              try clear hfz31_1
              try clear hfz31_2
              try clear hfz32_0
              try clear hfz32_1
              try clear hfz32_2
              try clear hfz8_0
              try clear hfz8_1
              try clear hfz8_2
              try clear hx129_0
              try clear p1
              try clear p12
              try clear p129
              try clear p2
              try clear q1
              try clear q12
              try clear q129
              try clear q2
              try clear q25
              obtain ⟨x1_2, x2_2, rfl, HA, HK2, HO_1, BK125, BK128, HB⟩ := hrel
              cases gk with
              | zero => exact absurd HA.out (by simp [dec_Norm.l1])
              | succ k2 =>
                have H := HA.out
                clear HA
                simp only [dec_Norm.l1] at H
                obtain ⟨ji34, hji34⟩ : ∃ j_ : Int, (wrap64 ((x1_2.length : Int) - 1)) = j_ := ⟨_, rfl⟩
                replace H : (if 0 ≤ (ji34) then (if (ji34) < (x1_2.length : Int) then (if (rd x1_2 (ji34)) = 0 then (if (ji34) ≤ (x1_2.length : Int) then (dec_Norm.l1 k2 (x1_2.take ((ji34) : Int).toNat) (wrap64 (x2_2 + 1)) a0 0) else (none)) else ((slices_Clone_byte_byte.f x1_2).bind fun t141 => ((dec_Right.f a0 t141 x2_2).bind fun t144 => (if t144 = true then (some (a0, t141, x2_2, 0)) else (some (false, ([] : List Int), 0, 11)))))) else (none)) else (none)) = some (r1, r2, r3, r4) := by first | (rw [hji34] at H; exact H) | (simp only [hji34] at H ⊢; exact H)
                have hji34w : (IntKind.i64.wrap ((x1_2.length : Int) - 1)) = ji34 := (i64_w _).trans hji34
                by_cases c35 : 0 ≤ (ji34)
                · rw [if_pos c35] at H
                  have c35b0 : decide (0 ≤ (ji34)) = true := decide_eq_true c35
                  clear c35
                  by_cases c36 : (ji34) < (x1_2.length : Int)
                  · rw [if_pos c36] at H
                    have c36b0 : decide ((ji34) < (x1_2.length : Int)) = true := decide_eq_true c36
                    clear c36
                    by_cases c37 : (rd x1_2 (ji34)) = 0
                    · rw [if_pos c37] at H
                      have c37b0 : ((rd x1_2 (ji34)) == 0) = true := beq_iff_eq.mpr c37
                      have c37b1 : ((rd x1_2 (ji34)) != 0) = false := bne_eq_false_iff_eq.mpr c37
                      clear c37
                      have c38b0 := eq_true (of_decide_eq_true (by first | (with_reducible assumption) | assumption) : 0 ≤ (ji34))
                      by_cases c39 : (ji34) ≤ (x1_2.length : Int)
                      · rw [if_pos c39] at H
                        have c39b0 := eq_true c39
                        have c39b1 : decide ((ji34) ≤ (x1_2.length : Int)) = true := decide_eq_true c39
                        clear c39
                        obtain ⟨y136, hy136⟩ : ∃ y_ : List Int, y_ = (x1_2.take ((ji34) : Int).toNat) := ⟨_, rfl⟩
                        replace H : (dec_Norm.l1 k2 y136 (wrap64 (x2_2 + 1)) a0 0) = some (r1, r2, r3, r4) := by first | (rw [hy136]; with_reducible exact H) | (have H2_ := (Option.bind_some _ _).symm.trans H; rw [hy136]; with_reducible exact H2_) | (have H2_ := (Option.bind_some _ _).symm.trans H; with_reducible exact H2_) | with_reducible exact H | (rw [hy136]; exact H) | exact H
                        have Ny136 := Aside0.mk hy136
                        clear hy136
                        have H' := Aside0.mk H
                        clear H
                        obtain ⟨Ao40, co40, eo40⟩ := Kd.V_slice HO_1.out
                        subst eo40
                        have p135 : 0 ≤ ((ji34) : Int) := of_decide_eq_true (by first | (with_reducible assumption) | assumption)
                        have q135 : (ji34) < (x1_2.length : Int) := of_decide_eq_true (by first | (with_reducible assumption) | assumption)
                        obtain ⟨ad135, e135, hx135_0⟩ := Kd.at_int (Kd.V_reads' HO_1.out).2.2 (ji34) p135 q135
                        cases e135
                        replace p135 := eq_true p135
                        replace q135 := eq_true q135
                        have q41 : ((ji34) : Int) ≤ ((x1_2.length : Int) : Int) := of_decide_eq_true (by first | (with_reducible assumption) | assumption)
                        obtain ⟨i041, hi041, _, hsz41, _⟩ := info_parts info5
                        have hroom41 : x1_2.length ≤ co40 := (Kd.V_reads' HO_1.out).2.1
                        have hC41 : Kd.F (Kd.int .u8) _ _ (some ad135) x1_2.length x1_2 := (Kd.V_at (base := w.heap.size) HO_1.out).2.2
                        have hcut41 := cut_to (P := Tryd.prog) 22 5 .i64 Tryd.underlying22 hi041 (some ad135) x1_2.length co40 (ji34) (of_decide_eq_true (by first | (with_reducible assumption) | assumption)) q41 hroom41
                        have hr41 := Kd.F_take (m := ((ji34) : Int).toNat) hC41 (by omega)
                        have hy41 : y136.length = ((ji34) : Int).toNat := (by rw [Ny136.out, List.length_take]; omega)
                        rw [← Ny136.out] at hr41
                        rw [← hy41] at hcut41
                        have HO140 := Aside0.mk (show Kd.V (Kd.int .u8) 5 _ w.heap.size _ (.slice (some ad135) y136.length co40) y136 from Kd.V_mk (by omega) hr41)
                        have HC140 := Aside0.mk (show y136.length ≤ co40 from by omega)
                        clear hr41 hC41 hroom41 hi041 hsz41
                        have KY41 := Aside0.mk hy41
                        clear hy41
                        replace q41 := eq_true q41
                        go_wp2
                        go_roundg k2
                        case measure => have := HJ13.out; have := HK2.out; omega
                        case rel => exact ⟨(y136), (wrap64 (x2_2 + 1)), (by first | rfl | (simp; done) | (simp [*]; done)), H', ⟨by have := HJ13.out; have := HK2.out; omega⟩, ⟨by (with_reducible repeat (first | apply Kd.V_alloc | apply Kd.V_drewN | apply Kd.V_drew)); exact HO140.out⟩, ⟨by (with_reducible repeat (first | refine blk_drewN ?_ _ | refine blk_drew ?_ | refine blk_alloc ?_ _)); exact BK125.out⟩, ⟨by (with_reducible repeat (first | refine blk_drewN ?_ _ | refine blk_drew ?_ | refine blk_alloc ?_ _)); exact BK128.out⟩, ⟨by repeat (first | (with_reducible first | exact HB.out | apply below_alloc | apply pw_below_drewN | apply below_drew1 | refine below_set ?_ GE125.out | refine below_set ?_ GE128.out) | exact HB.out)⟩⟩
                      · rw [if_neg c39] at H
                        exact absurd H (by simp)
                    · rw [if_neg c37] at H
                      have c37b0 : ((rd x1_2 (ji34)) == 0) = false := beq_eq_false_iff_ne.mpr c37
                      have c37b1 : ((rd x1_2 (ji34)) != 0) = true := bne_iff_ne.mpr c37
                      replace H := Option.bind_eq_some_iff.mp H
                      obtain ⟨t141, A420, H⟩ := H
                      replace H : ((dec_Right.f a0 t141 x2_2).bind fun t144 => (if t144 = true then (some (a0, t141, x2_2, 0)) else (some (false, ([] : List Int), 0, 11)))) = some (r1, r2, r3, r4) := H
                      have A42 := Aside0.mk A420
                      clear A420
                      replace H := Option.bind_eq_some_iff.mp H
                      obtain ⟨t144, A430, H⟩ := H
                      replace H : (if t144 = true then (some (a0, t141, x2_2, 0)) else (some (false, ([] : List Int), 0, 11))) = some (r1, r2, r3, r4) := H
                      have A43 := Aside0.mk A430
                      clear A430
                      by_cases c44 : t144 = true
                      · subst c44
                        have H1 : (some (a0, t141, x2_2, 0)) = some (r1, r2, r3, r4) := by rw [if_pos rfl] at H; exact H
                        clear H
                        have H := H1
                        clear H1
                        simp only [Option.some.injEq, Prod.mk.injEq] at H
                        obtain ⟨rfl, rfl, rfl, rfl⟩ := H
                        obtain ⟨Ao45, co45, eo45⟩ := Kd.V_slice HO_1.out
                        subst eo45
                        have p135 : 0 ≤ ((ji34) : Int) := of_decide_eq_true (by first | (with_reducible assumption) | assumption)
                        have q135 : (ji34) < (x1_2.length : Int) := of_decide_eq_true (by first | (with_reducible assumption) | assumption)
                        obtain ⟨ad135, e135, hx135_0⟩ := Kd.at_int (Kd.V_reads' HO_1.out).2.2 (ji34) p135 q135
                        cases e135
                        replace p135 := eq_true p135
                        replace q135 := eq_true q135
                        go_wp2_with (first | ((with_reducible refine gate_callee (f := 40) rfl ?_); refine goesL_ (some 47) rfl rfl Tryd.func40 (by kernel_rfl) rfl #[.slice (some ad135) x1_2.length co45] rfl (by (try simp only [List.map_toArray, List.map_cons, List.map_nil]); first | done | rfl | (simp only [List.length_drop, List.length_take]; rfl)) ?_; (with_reducible refine (slices_Clone_byte_byte.calls _ _ x1_2 t141 _ ?side1 ?side2 A42.out).mono ?_); (case side1 => repeat (first | exact (Kd.V_reads' HO_1.out).2.2 | (with_reducible refine Kd.C_alloc ?_ _) | (with_reducible refine Kd.C_drewN ?_ _) | (with_reducible refine Kd.C_drew ?_))); (case side2 => exact (Kd.V_reads' HO_1.out).2.1); rintro e w46 ⟨v142, rfl, ho0, hb⟩; refine ⟨_, rfl, ?_⟩; have n0_ := Aside0.mk (Kd.V_elder' (by (with_reducible repeat (first | apply Kd.V_alloc | apply Kd.V_drewN | apply Kd.V_drew)); exact HO_1.out) (Kd.R_base ho0) hb); have n1_ := Aside0.mk (Kd.R_lower (Kd.R_newM (M := fun k_ => (w.heap.size ≤ k_)) ho0 (below_size (by repeat (first | (with_reducible first | exact HB.out | apply below_alloc | apply pw_below_drewN | apply below_drew1 | refine below_set ?_ GE125.out | refine below_set ?_ GE128.out) | exact HB.out))) (fun k_ h_ => h_)) (below_size (by repeat (first | (with_reducible first | exact HB.out | apply below_alloc | apply pw_below_drewN | apply below_drew1 | refine below_set ?_ GE125.out | refine below_set ?_ GE128.out) | exact HB.out)))); have n2_ := Aside0.mk (blk_below (g := gb125) (o := .cells #[.bool false, .slice none 0 0, .int .i64 0] 24 (0, 0)) (by (with_reducible repeat (first | refine blk_drewN ?_ _ | refine blk_drew ?_ | refine blk_alloc ?_ _)); exact BK125.out) hb); have n3_ := Aside0.mk (blk_below (g := gb128) (o := .cells #[.bool a0, .slice none 0 0, .int .i64 0] 24 (0, 0)) (by (with_reducible repeat (first | refine blk_drewN ?_ _ | refine blk_drew ?_ | refine blk_alloc ?_ _)); exact BK128.out) hb); have n4_ := Aside0.mk (below_step (by repeat (first | (with_reducible first | exact HB.out | apply below_alloc | apply pw_below_drewN | apply below_drew1 | refine below_set ?_ GE125.out | refine below_set ?_ GE128.out) | exact HB.out)) hb); clear HO_1; clear BK125; clear BK128; clear HB; have HO_1 := n0_; have HO143 := n1_; have BK125 := n2_; have BK128 := n3_; have HB := n4_; clear n0_ n1_ n2_ n3_ n4_; (try clear hb); (try clear hb2); (try clear hk); (try clear hi); (try clear ho0); obtain ⟨Ao47, co47, eo47⟩ := Kd.R_slice HO143.out; subst eo47; have hnb48 := NB128_125.out; have hnc48 := NB125_128.out; have hcz49_0 : w46.cell? ⟨gb128, 0, none⟩ = some (.bool a0) := (blk_cell BK128.out 0).trans rfl; have hcz49_1 : w46.cell? ⟨gb128, 1, none⟩ = some (.slice none 0 0) := (blk_cell BK128.out 1).trans rfl; have hcz49_2 : w46.cell? ⟨gb128, 2, none⟩ = some (.int .i64 0) := (blk_cell BK128.out 2).trans rfl; have hfz49_0 := blk_frozen BK128.out 0; have hfz49_1 := blk_frozen BK128.out 1; have hfz49_2 := blk_frozen BK128.out 2) | ((with_reducible refine gate_callee (f := 24) rfl ?_); refine goesL_ (some 52) rfl rfl Tryd.func24 (by kernel_rfl) rfl #[.agg #[.bool a0, .slice Ao47 t141.length co47, .int .i64 x2_2]] rfl (by (try simp only [List.map_toArray, List.map_cons, List.map_nil]); first | done | rfl | (simp only [List.length_drop, List.length_take]; rfl)) ?_; (with_reducible refine (dec_Right.calls a0 _ _ t141 x2_2 true _ ?side1 ?side2 A43.out).mono ?_); (case side1 => refine (Kd.R_reads' (e := 5) (base := w.heap.size) (ok := fun k_ => ((w.heap.size ≤ k_) ∧ True)) (n := t141.length) (c := co47) ?_).2.2; exact (by (with_reducible repeat (first | apply Kd.R_alloc | apply Kd.R_drewN | apply Kd.R_drew)); exact (Kd.R_mono (Kd.R_far (p := ⟨gb128, 2, none⟩) (Kd.R_far (p := ⟨gb128, 1, none⟩) (Kd.R_types HO143.out BK128.out (by decide)) (fun _ hk => hk.2) (.slice Ao47 t141.length co47)) (fun _ hk => hk.2) (.int .i64 x2_2)) (fun _ h_ => h_.1)))); (case side2 => exact (Kd.R_reads' HO143.out).2.1); rintro e w50 ⟨rfl, hb⟩; refine ⟨_, rfl, ?_⟩; have n0_ := Aside0.mk (Kd.V_below (by (with_reducible repeat (first | apply Kd.V_alloc | apply Kd.V_drewN | apply Kd.V_drew)); exact (Kd.V_mono (Kd.V_far (p := ⟨gb128, 2, none⟩) (Kd.V_far (p := ⟨gb128, 1, none⟩) (Kd.V_mono HO_1.out (fun k_ hk => (⟨hk, hk.1.2.2⟩ : _ ∧ k_ ≠ gb128))) (fun _ hk => hk.2) (.slice Ao47 t141.length co47)) (fun _ hk => hk.2) (.int .i64 x2_2)) (fun _ h_ => h_.1))) hb); have n1_ := Aside0.mk (Kd.R_below (by (with_reducible repeat (first | apply Kd.R_alloc | apply Kd.R_drewN | apply Kd.R_drew)); exact (Kd.R_mono (Kd.R_far (p := ⟨gb128, 2, none⟩) (Kd.R_far (p := ⟨gb128, 1, none⟩) (Kd.R_types HO143.out BK128.out (by decide)) (fun _ hk => hk.2) (.slice Ao47 t141.length co47)) (fun _ hk => hk.2) (.int .i64 x2_2)) (fun _ h_ => h_.1))) hb); have n2_ := Aside0.mk (blk_below (g := gb125) (o := .cells #[.bool false, .slice none 0 0, .int .i64 0] 24 (0, 0)) (by (with_reducible repeat (first | refine blk_drewN ?_ _ | refine blk_drew ?_ | refine blk_alloc ?_ _)); refine blk_far ?_ NB125_128.out _; (with_reducible repeat (first | refine blk_drewN ?_ _ | refine blk_drew ?_ | refine blk_alloc ?_ _)); refine blk_far ?_ NB125_128.out _; (with_reducible repeat (first | refine blk_drewN ?_ _ | refine blk_drew ?_ | refine blk_alloc ?_ _)); exact BK125.out) hb); have n3_ := Aside0.mk (blk_below (g := gb128) (o := .cells #[.bool a0, .slice Ao47 t141.length co47, .int .i64 x2_2] 24 (0, 0)) (by (with_reducible repeat (first | refine blk_drewN ?_ _ | refine blk_drew ?_ | refine blk_alloc ?_ _)); refine blk_put (cs := #[.bool a0, .slice Ao47 t141.length co47, .int .i64 0]) ?_ 2 _ rfl; (with_reducible repeat (first | refine blk_drewN ?_ _ | refine blk_drew ?_ | refine blk_alloc ?_ _)); refine blk_put (cs := #[.bool a0, .slice none 0 0, .int .i64 0]) ?_ 1 _ rfl; (with_reducible repeat (first | refine blk_drewN ?_ _ | refine blk_drew ?_ | refine blk_alloc ?_ _)); exact BK128.out) hb); have n4_ := Aside0.mk (below_step (by repeat (first | (with_reducible first | exact HB.out | apply below_alloc | apply pw_below_drewN | apply below_drew1 | refine below_set ?_ GE125.out | refine below_set ?_ GE128.out) | exact HB.out)) hb); clear HO_1; clear HO143; clear BK125; clear BK128; clear HB; have HO_1 := n0_; have HO143 := n1_; have BK125 := n2_; have BK128 := n3_; have HB := n4_; clear n0_ n1_ n2_ n3_ n4_; (try clear hb); (try clear hb2); (try clear hk); (try clear hi); have hcz51_0 : w50.cell? ⟨gb128, 0, none⟩ = some (.bool a0) := (blk_cell BK128.out 0).trans rfl; have hcz51_1 : w50.cell? ⟨gb128, 1, none⟩ = some (.slice Ao47 t141.length co47) := (blk_cell BK128.out 1).trans rfl; have hcz51_2 : w50.cell? ⟨gb128, 2, none⟩ = some (.int .i64 x2_2) := (blk_cell BK128.out 2).trans rfl; have hfz51_0 := blk_frozen BK128.out 0; have hfz51_1 := blk_frozen BK128.out 1; have hfz51_2 := blk_frozen BK128.out 2; have hcz52_0 : w50.cell? ⟨gb125, 0, none⟩ = some (.bool false) := (blk_cell BK125.out 0).trans rfl; have hcz52_1 : w50.cell? ⟨gb125, 1, none⟩ = some (.slice none 0 0) := (blk_cell BK125.out 1).trans rfl; have hcz52_2 : w50.cell? ⟨gb125, 2, none⟩ = some (.int .i64 0) := (blk_cell BK125.out 2).trans rfl; have hfz52_0 := blk_frozen BK125.out 0; have hfz52_1 := blk_frozen BK125.out 1; have hfz52_2 := blk_frozen BK125.out 2))
                        refine bodyPost_ret (results_ct rfl _ _ gb125 24 #[.bool a0, .slice Ao47 t141.length co47, .int .i64 x2_2] (0, 0) _ rfl (by (with_reducible repeat (first | refine blk_drewN ?_ _ | refine blk_drew ?_ | refine blk_alloc ?_ _)); refine blk_put (cs := #[.bool a0, .slice Ao47 t141.length co47, .int .i64 0]) ?_ 2 _ rfl; (with_reducible repeat (first | refine blk_drewN ?_ _ | refine blk_drew ?_ | refine blk_alloc ?_ _)); refine blk_put (cs := #[.bool a0, .slice none 0 0, .int .i64 0]) ?_ 1 _ rfl; (with_reducible repeat (first | refine blk_drewN ?_ _ | refine blk_drew ?_ | refine blk_alloc ?_ _)); refine blk_put (cs := #[.bool false, .slice none 0 0, .int .i64 0]) ?_ 0 _ rfl; (with_reducible repeat (first | refine blk_drewN ?_ _ | refine blk_drew ?_ | refine blk_alloc ?_ _)); exact BK125.out) Tryd.underlying24 rfl (by kernel_rfl)) rfl ?_
                        exact ⟨_, by first | rfl | (simp [errW_none, errW_some] <;> rfl) | (simp only [← hji34]; first | rfl | (simp [errW_none, errW_some] <;> rfl)) | (simp [*, errW_none, errW_some] <;> rfl), by (with_reducible repeat (first | apply Kd.R_alloc | apply Kd.R_drewN | apply Kd.R_drew)); exact Kd.R_mono (Kd.R_far (p := ⟨gb125, 2, none⟩) (Kd.R_far (p := ⟨gb125, 1, none⟩) (Kd.R_far (p := ⟨gb125, 0, none⟩) (Kd.R_types HO143.out BK125.out (by decide)) (fun _ hk => hk.2) (.bool a0)) (fun _ hk => hk.2) (.slice Ao47 t141.length co47)) (fun _ hk => hk.2) (.int .i64 x2_2)) (fun _ hk => hk.1.1), by repeat (first | (with_reducible first | exact HB.out | apply below_alloc | apply pw_below_drewN | apply below_drew1 | refine below_set ?_ GE125.out | refine below_set ?_ GE128.out) | exact HB.out)⟩
                      · replace c44 := Bool.eq_false_iff.mpr c44
                        subst c44
                        have H1 : (some (false, ([] : List Int), 0, 11)) = some (r1, r2, r3, r4) := by rw [if_neg (show ¬ (false = true) by decide)] at H; exact H
                        clear H
                        have H := H1
                        clear H1
                        simp only [Option.some.injEq, Prod.mk.injEq] at H
                        obtain ⟨rfl, rfl, rfl, rfl⟩ := H
                        obtain ⟨Ao53, co53, eo53⟩ := Kd.V_slice HO_1.out
                        subst eo53
                        have p135 : 0 ≤ ((ji34) : Int) := of_decide_eq_true (by first | (with_reducible assumption) | assumption)
                        have q135 : (ji34) < (x1_2.length : Int) := of_decide_eq_true (by first | (with_reducible assumption) | assumption)
                        obtain ⟨ad135, e135, hx135_0⟩ := Kd.at_int (Kd.V_reads' HO_1.out).2.2 (ji34) p135 q135
                        cases e135
                        replace p135 := eq_true p135
                        replace q135 := eq_true q135
                        go_wp2_with (first | ((with_reducible refine gate_callee (f := 40) rfl ?_); refine goesL_ (some 47) rfl rfl Tryd.func40 (by kernel_rfl) rfl #[.slice (some ad135) x1_2.length co53] rfl (by (try simp only [List.map_toArray, List.map_cons, List.map_nil]); first | done | rfl | (simp only [List.length_drop, List.length_take]; rfl)) ?_; (with_reducible refine (slices_Clone_byte_byte.calls _ _ x1_2 t141 _ ?side1 ?side2 A42.out).mono ?_); (case side1 => repeat (first | exact (Kd.V_reads' HO_1.out).2.2 | (with_reducible refine Kd.C_alloc ?_ _) | (with_reducible refine Kd.C_drewN ?_ _) | (with_reducible refine Kd.C_drew ?_))); (case side2 => exact (Kd.V_reads' HO_1.out).2.1); rintro e w54 ⟨v142, rfl, ho0, hb⟩; refine ⟨_, rfl, ?_⟩; have n0_ := Aside0.mk (Kd.V_elder' (by (with_reducible repeat (first | apply Kd.V_alloc | apply Kd.V_drewN | apply Kd.V_drew)); exact HO_1.out) (Kd.R_base ho0) hb); have n1_ := Aside0.mk (Kd.R_lower (Kd.R_newM (M := fun k_ => (w.heap.size ≤ k_)) ho0 (below_size (by repeat (first | (with_reducible first | exact HB.out | apply below_alloc | apply pw_below_drewN | apply below_drew1 | refine below_set ?_ GE125.out | refine below_set ?_ GE128.out) | exact HB.out))) (fun k_ h_ => h_)) (below_size (by repeat (first | (with_reducible first | exact HB.out | apply below_alloc | apply pw_below_drewN | apply below_drew1 | refine below_set ?_ GE125.out | refine below_set ?_ GE128.out) | exact HB.out)))); have n2_ := Aside0.mk (blk_below (g := gb125) (o := .cells #[.bool false, .slice none 0 0, .int .i64 0] 24 (0, 0)) (by (with_reducible repeat (first | refine blk_drewN ?_ _ | refine blk_drew ?_ | refine blk_alloc ?_ _)); exact BK125.out) hb); have n3_ := Aside0.mk (blk_below (g := gb128) (o := .cells #[.bool a0, .slice none 0 0, .int .i64 0] 24 (0, 0)) (by (with_reducible repeat (first | refine blk_drewN ?_ _ | refine blk_drew ?_ | refine blk_alloc ?_ _)); exact BK128.out) hb); have n4_ := Aside0.mk (below_step (by repeat (first | (with_reducible first | exact HB.out | apply below_alloc | apply pw_below_drewN | apply below_drew1 | refine below_set ?_ GE125.out | refine below_set ?_ GE128.out) | exact HB.out)) hb); clear HO_1; clear BK125; clear BK128; clear HB; have HO_1 := n0_; have HO143 := n1_; have BK125 := n2_; have BK128 := n3_; have HB := n4_; clear n0_ n1_ n2_ n3_ n4_; (try clear hb); (try clear hb2); (try clear hk); (try clear hi); (try clear ho0); obtain ⟨Ao55, co55, eo55⟩ := Kd.R_slice HO143.out; subst eo55; have hnb56 := NB128_125.out; have hnc56 := NB125_128.out; have hcz57_0 : w54.cell? ⟨gb128, 0, none⟩ = some (.bool a0) := (blk_cell BK128.out 0).trans rfl; have hcz57_1 : w54.cell? ⟨gb128, 1, none⟩ = some (.slice none 0 0) := (blk_cell BK128.out 1).trans rfl; have hcz57_2 : w54.cell? ⟨gb128, 2, none⟩ = some (.int .i64 0) := (blk_cell BK128.out 2).trans rfl; have hfz57_0 := blk_frozen BK128.out 0; have hfz57_1 := blk_frozen BK128.out 1; have hfz57_2 := blk_frozen BK128.out 2) | ((with_reducible refine gate_callee (f := 24) rfl ?_); refine goesL_ (some 52) rfl rfl Tryd.func24 (by kernel_rfl) rfl #[.agg #[.bool a0, .slice Ao55 t141.length co55, .int .i64 x2_2]] rfl (by (try simp only [List.map_toArray, List.map_cons, List.map_nil]); first | done | rfl | (simp only [List.length_drop, List.length_take]; rfl)) ?_; (with_reducible refine (dec_Right.calls a0 _ _ t141 x2_2 false _ ?side1 ?side2 A43.out).mono ?_); (case side1 => refine (Kd.R_reads' (e := 5) (base := w.heap.size) (ok := fun k_ => ((w.heap.size ≤ k_) ∧ True)) (n := t141.length) (c := co55) ?_).2.2; exact (by (with_reducible repeat (first | apply Kd.R_alloc | apply Kd.R_drewN | apply Kd.R_drew)); exact (Kd.R_mono (Kd.R_far (p := ⟨gb128, 2, none⟩) (Kd.R_far (p := ⟨gb128, 1, none⟩) (Kd.R_types HO143.out BK128.out (by decide)) (fun _ hk => hk.2) (.slice Ao55 t141.length co55)) (fun _ hk => hk.2) (.int .i64 x2_2)) (fun _ h_ => h_.1)))); (case side2 => exact (Kd.R_reads' HO143.out).2.1); rintro e w58 ⟨rfl, hb⟩; refine ⟨_, rfl, ?_⟩; have n0_ := Aside0.mk (Kd.V_below (by (with_reducible repeat (first | apply Kd.V_alloc | apply Kd.V_drewN | apply Kd.V_drew)); exact (Kd.V_mono (Kd.V_far (p := ⟨gb128, 2, none⟩) (Kd.V_far (p := ⟨gb128, 1, none⟩) (Kd.V_mono HO_1.out (fun k_ hk => (⟨hk, hk.1.2.2⟩ : _ ∧ k_ ≠ gb128))) (fun _ hk => hk.2) (.slice Ao55 t141.length co55)) (fun _ hk => hk.2) (.int .i64 x2_2)) (fun _ h_ => h_.1))) hb); have n1_ := Aside0.mk (Kd.R_below (by (with_reducible repeat (first | apply Kd.R_alloc | apply Kd.R_drewN | apply Kd.R_drew)); exact (Kd.R_mono (Kd.R_far (p := ⟨gb128, 2, none⟩) (Kd.R_far (p := ⟨gb128, 1, none⟩) (Kd.R_types HO143.out BK128.out (by decide)) (fun _ hk => hk.2) (.slice Ao55 t141.length co55)) (fun _ hk => hk.2) (.int .i64 x2_2)) (fun _ h_ => h_.1))) hb); have n2_ := Aside0.mk (blk_below (g := gb125) (o := .cells #[.bool false, .slice none 0 0, .int .i64 0] 24 (0, 0)) (by (with_reducible repeat (first | refine blk_drewN ?_ _ | refine blk_drew ?_ | refine blk_alloc ?_ _)); refine blk_far ?_ NB125_128.out _; (with_reducible repeat (first | refine blk_drewN ?_ _ | refine blk_drew ?_ | refine blk_alloc ?_ _)); refine blk_far ?_ NB125_128.out _; (with_reducible repeat (first | refine blk_drewN ?_ _ | refine blk_drew ?_ | refine blk_alloc ?_ _)); exact BK125.out) hb); have n3_ := Aside0.mk (blk_below (g := gb128) (o := .cells #[.bool a0, .slice Ao55 t141.length co55, .int .i64 x2_2] 24 (0, 0)) (by (with_reducible repeat (first | refine blk_drewN ?_ _ | refine blk_drew ?_ | refine blk_alloc ?_ _)); refine blk_put (cs := #[.bool a0, .slice Ao55 t141.length co55, .int .i64 0]) ?_ 2 _ rfl; (with_reducible repeat (first | refine blk_drewN ?_ _ | refine blk_drew ?_ | refine blk_alloc ?_ _)); refine blk_put (cs := #[.bool a0, .slice none 0 0, .int .i64 0]) ?_ 1 _ rfl; (with_reducible repeat (first | refine blk_drewN ?_ _ | refine blk_drew ?_ | refine blk_alloc ?_ _)); exact BK128.out) hb); have n4_ := Aside0.mk (below_step (by repeat (first | (with_reducible first | exact HB.out | apply below_alloc | apply pw_below_drewN | apply below_drew1 | refine below_set ?_ GE125.out | refine below_set ?_ GE128.out) | exact HB.out)) hb); clear HO_1; clear HO143; clear BK125; clear BK128; clear HB; have HO_1 := n0_; have HO143 := n1_; have BK125 := n2_; have BK128 := n3_; have HB := n4_; clear n0_ n1_ n2_ n3_ n4_; (try clear hb); (try clear hb2); (try clear hk); (try clear hi); have hcz59_0 : w58.cell? ⟨gb125, 0, none⟩ = some (.bool false) := (blk_cell BK125.out 0).trans rfl; have hcz59_1 : w58.cell? ⟨gb125, 1, none⟩ = some (.slice none 0 0) := (blk_cell BK125.out 1).trans rfl; have hcz59_2 : w58.cell? ⟨gb125, 2, none⟩ = some (.int .i64 0) := (blk_cell BK125.out 2).trans rfl; have hfz59_0 := blk_frozen BK125.out 0; have hfz59_1 := blk_frozen BK125.out 1; have hfz59_2 := blk_frozen BK125.out 2))
                        refine bodyPost_ret (results_ct rfl _ _ gb125 24 #[.bool false, .slice none 0 0, .int .i64 0] (0, 0) _ rfl (by (with_reducible repeat (first | refine blk_drewN ?_ _ | refine blk_drew ?_ | refine blk_alloc ?_ _)); refine blk_put (cs := #[.bool false, .slice none 0 0, .int .i64 0]) ?_ 2 _ rfl; (with_reducible repeat (first | refine blk_drewN ?_ _ | refine blk_drew ?_ | refine blk_alloc ?_ _)); refine blk_put (cs := #[.bool false, .slice none 0 0, .int .i64 0]) ?_ 1 _ rfl; (with_reducible repeat (first | refine blk_drewN ?_ _ | refine blk_drew ?_ | refine blk_alloc ?_ _)); refine blk_put (cs := #[.bool false, .slice none 0 0, .int .i64 0]) ?_ 0 _ rfl; (with_reducible repeat (first | refine blk_drewN ?_ _ | refine blk_drew ?_ | refine blk_alloc ?_ _)); exact BK125.out) Tryd.underlying24 rfl (by kernel_rfl)) rfl ?_
                        exact ⟨_, by first | rfl | (simp [errW_none, errW_some] <;> rfl) | (simp only [← hji34]; first | rfl | (simp [errW_none, errW_some] <;> rfl)) | (simp [*, errW_none, errW_some] <;> rfl), by first | exact Kd.R_nil _ _ _ _ _ | exact Kd.N_nil _ _ _ _ _ | exact Kd.V_nil _ _ _ _ _ | exact Kd.Q_nil _ _ _ _ _ | exact Kd.S_nil _ _ _ _ _, by repeat (first | (with_reducible first | exact HB.out | apply below_alloc | apply pw_below_drewN | apply below_drew1 | refine below_set ?_ GE125.out | refine below_set ?_ GE128.out) | exact HB.out)⟩
                  · rw [if_neg c36] at H
                    exact absurd H (by simp)
                · rw [if_neg c35] at H
                  exact absurd H (by simp)

end Go.Proofs.YtahkamggdbibiaaDoor.PZ
