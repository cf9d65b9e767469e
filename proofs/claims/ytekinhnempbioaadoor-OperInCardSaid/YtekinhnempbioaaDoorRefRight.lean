/- exergueref07.Right: is an Oper right?
   Conditions: none. -/
import Derived.Test.YtekinhnempbioaaDoorPZx10
import Derived.Test.YtekinhnempbioaaDoorPZx20
import Derived.Test.YtekinhnempbioaaDoorOperRight
namespace Go.Proofs.YtekinhnempbioaaDoor.PZ
open Go.RowKit Go.Proofs.YtekinhnempbioaaDoorW.PrintWords Go.Proofs.YtekinhnempbioaaDoorW.PrintLast
def exergueref07_Right.f (k : Nat) (l0_0 : List Int) (l0_1 : List Int) (a0_2 : Int) (a0_3 : Int) : Option (Bool) := (exergueref07_Figures.f k l0_0).bind fun t354 => ((exergueref07_Figures.f k l0_1).bind fun t355 => (if t354 = true then (if t355 = true then (if (l0_0.length : Int) > 0 then (if (rd l0_0 0) = 0 then (some false) else ((exergueref07_Full.f k l0_1).bind fun t357 => (some (decide (a0_2 = t357) && (decide (0 ≤ a0_3) && decide (a0_3 ≤ 1000)))))) else ((exergueref07_Full.f k l0_1).bind fun t358 => (some (decide (a0_2 = t358) && (decide (0 ≤ a0_3) && decide (a0_3 ≤ 1000)))))) else (some false)) else (some false)))
theorem exergueref07_Right.mono : ∀ a0 a1 a2 a3 k, LeO (exergueref07_Right.f k a0 a1 a2 a3) (exergueref07_Right.f (k + 1) a0 a1 a2 a3) := by
  intro a0 a1 a2 a3 k
  unfold exergueref07_Right.f
  refine LeO.bind (exergueref07_Figures.mono _ k) fun _ => LeO.bind (exergueref07_Figures.mono _ k) fun _ => LeO.ite (LeO.ite (LeO.ite (LeO.ite (LeO.refl _) (LeO.bind (exergueref07_Full.mono _ k) fun _ => LeO.refl _)) (LeO.bind (exergueref07_Full.mono _ k) fun _ => LeO.refl _)) (LeO.refl _)) (LeO.refl _)
section
variable (k : Nat) (A0 : Option Addr) (c0 : Nat) (l0 : List Int) (A1 : Option Addr) (c1 : Nat) (l1 : List Int) (a2 a3 : Int) (w : World)
  (hr0 : Kd.C (Kd.int .u8) w A0 l0.length l0) (hc0 : l0.length ≤ c0) (hr1 : Kd.C (Kd.int .u8) w A1 l1.length l1) (hc1 : l1.length ≤ c1)
set_option linter.unusedSectionVars false
include hr0 hc0 hr1 hc1
set_option maxHeartbeats 4000000 in
set_option maxRecDepth 100000 in
theorem refRight_f_t (ht : exergueref07_Figures.f k l0 = some false) (hu : exergueref07_Figures.f k l1 = some true) : Calls Tryd.prog 21 #[.agg #[.slice A0 l0.length c0, .slice A1 l1.length c1, .int .i64 a2, .int .i64 a3]] w (RPost w (false)) := by
  have k0 := fun W (hb : Below w.heap.size w W) => exergueref07_Figures.calls k A0 c0 l0 _ W (Kd.C_below hr0 hb) hc0 ht
  have hb := Aside0.mk (fun (o : Obj) (n : Nat) => pw_below_drewN ((Below.refl _ w).alloc (Nat.le_refl _) o) n)
  have hb0 := Aside0.mk (fun (o : Obj) => (Below.refl _ w).alloc (Nat.le_refl _) o)
  have K0 := Aside0.mk k0
  have k1 := fun W (hb : Below w.heap.size w W) => exergueref07_Figures.calls k A1 c1 l1 _ W (Kd.C_below hr1 hb) hc1 hu
  have K1 := Aside0.mk k1
  clear hr0 hc0 hr1 hc1 k0 k1 ht hu
  generalize l0.length = n0 at K0 ⊢
  generalize l1.length = n1 at K1 ⊢
  go_enter Tryd.func21, Tryd.ntmps21
  go_wp2_with (first | (go_at_call 11; (with_reducible refine (K0.out _ (hb0.out _)).mono ?_); rintro e w1 ⟨rfl, ⟨q, rfl⟩⟩) | (go_at_call 11; (with_reducible refine (K1.out _ (hb.out _ q)).mono ?_); rintro e w1 ⟨rfl, ⟨q2, rfl⟩⟩))
  repeat (go_quiet (fail); try go_wp2)
  go_ret
  exact ⟨rfl, by repeat (first | exact hb.out _ _ | apply pw_below_drewN)⟩
set_option maxHeartbeats 4000000 in
set_option maxRecDepth 100000 in
theorem refRight_f_f (ht : exergueref07_Figures.f k l0 = some false) (hu : exergueref07_Figures.f k l1 = some false) : Calls Tryd.prog 21 #[.agg #[.slice A0 l0.length c0, .slice A1 l1.length c1, .int .i64 a2, .int .i64 a3]] w (RPost w (false)) := by
  have k0 := fun W (hb : Below w.heap.size w W) => exergueref07_Figures.calls k A0 c0 l0 _ W (Kd.C_below hr0 hb) hc0 ht
  have hb := Aside0.mk (fun (o : Obj) (n : Nat) => pw_below_drewN ((Below.refl _ w).alloc (Nat.le_refl _) o) n)
  have hb0 := Aside0.mk (fun (o : Obj) => (Below.refl _ w).alloc (Nat.le_refl _) o)
  have K0 := Aside0.mk k0
  have k1 := fun W (hb : Below w.heap.size w W) => exergueref07_Figures.calls k A1 c1 l1 _ W (Kd.C_below hr1 hb) hc1 hu
  have K1 := Aside0.mk k1
  clear hr0 hc0 hr1 hc1 k0 k1 ht hu
  generalize l0.length = n0 at K0 ⊢
  generalize l1.length = n1 at K1 ⊢
  go_enter Tryd.func21, Tryd.ntmps21
  go_wp2_with (first | (go_at_call 11; (with_reducible refine (K0.out _ (hb0.out _)).mono ?_); rintro e w1 ⟨rfl, ⟨q, rfl⟩⟩) | (go_at_call 11; (with_reducible refine (K1.out _ (hb.out _ q)).mono ?_); rintro e w1 ⟨rfl, ⟨q2, rfl⟩⟩))
  repeat (go_quiet (fail); try go_wp2)
  go_ret
  exact ⟨rfl, by repeat (first | exact hb.out _ _ | apply pw_below_drewN)⟩
set_option maxHeartbeats 4000000 in
set_option maxRecDepth 100000 in
theorem refRight_t_f (ht : exergueref07_Figures.f k l0 = some true) (hu : exergueref07_Figures.f k l1 = some false) : Calls Tryd.prog 21 #[.agg #[.slice A0 l0.length c0, .slice A1 l1.length c1, .int .i64 a2, .int .i64 a3]] w (RPost w (false)) := by
  have k0 := fun W (hb : Below w.heap.size w W) => exergueref07_Figures.calls k A0 c0 l0 _ W (Kd.C_below hr0 hb) hc0 ht
  have hb := Aside0.mk (fun (o : Obj) (n : Nat) => pw_below_drewN ((Below.refl _ w).alloc (Nat.le_refl _) o) n)
  have hb0 := Aside0.mk (fun (o : Obj) => (Below.refl _ w).alloc (Nat.le_refl _) o)
  have K0 := Aside0.mk k0
  have k1 := fun W (hb : Below w.heap.size w W) => exergueref07_Figures.calls k A1 c1 l1 _ W (Kd.C_below hr1 hb) hc1 hu
  have K1 := Aside0.mk k1
  clear hr0 hc0 hr1 hc1 k0 k1 ht hu
  generalize l0.length = n0 at K0 ⊢
  generalize l1.length = n1 at K1 ⊢
  go_enter Tryd.func21, Tryd.ntmps21
  go_wp2_with (first | (go_at_call 11; (with_reducible refine (K0.out _ (hb0.out _)).mono ?_); rintro e w1 ⟨rfl, ⟨q, rfl⟩⟩) | (go_at_call 11; (with_reducible refine (K1.out _ (hb.out _ q)).mono ?_); rintro e w1 ⟨rfl, ⟨q2, rfl⟩⟩))
  repeat (go_quiet (fail); try go_wp2)
  go_ret
  exact ⟨rfl, by repeat (first | exact hb.out _ _ | apply pw_below_drewN)⟩
set_option maxHeartbeats 4000000 in
set_option maxRecDepth 100000 in
theorem refRight_nought (ht : exergueref07_Figures.f k l0 = some true) (hu : exergueref07_Figures.f k l1 = some true) (h0 : 0 < l0.length) (h1 : rd l0 0 = 0) : Calls Tryd.prog 21 #[.agg #[.slice A0 l0.length c0, .slice A1 l1.length c1, .int .i64 a2, .int .i64 a3]] w (RPost w (false)) := by
  have k0 := fun W (hb : Below w.heap.size w W) => exergueref07_Figures.calls k A0 c0 l0 _ W (Kd.C_below hr0 hb) hc0 ht
  have hb := Aside0.mk (fun (o : Obj) (n : Nat) => pw_below_drewN ((Below.refl _ w).alloc (Nat.le_refl _) o) n)
  have hb0 := Aside0.mk (fun (o : Obj) => (Below.refl _ w).alloc (Nat.le_refl _) o)
  have K0 := Aside0.mk k0
  have k1 := fun W (hb : Below w.heap.size w W) => exergueref07_Figures.calls k A1 c1 l1 _ W (Kd.C_below hr1 hb) hc1 hu
  have K1 := Aside0.mk k1
  clear k0 k1 ht hu
  obtain ⟨ad, e1, hcell⟩ := Kd.at_int hr0 0 (by omega) (by omega)
  cases e1
  rw [show ((0 : Int)).toNat = 0 from rfl, Addr.add_zero', h1] at hcell
  have hlt : ad.block < w.heap.size := World.block_lt_of_cell? w _ hcell
  clear hr0 hc0 hr1 hc1 h1
  have d1 : decide (0 < l0.length) = true := decide_eq_true h0
  have d2 : decide (0 < (l0.length : Int)) = true := decide_eq_true (by omega)
  have d3 : (0 < l0.length) = True := eq_true h0
  generalize l0.length = n0 at K0 d1 d2 d3 ⊢
  generalize l1.length = n1 at K1 ⊢
  clear h0
  go_enter Tryd.func21, Tryd.ntmps21
  go_wp2_with (first | (go_at_call 11; (with_reducible refine (K0.out _ (hb0.out _)).mono ?_); rintro e w1 ⟨rfl, ⟨q, rfl⟩⟩) | (go_at_call 11; (with_reducible refine (K1.out _ (hb.out _ q)).mono ?_); rintro e w1 ⟨rfl, ⟨q2, rfl⟩⟩))
  repeat (go_quiet (fail); try go_wp2)
  go_ret
  exact ⟨rfl, by repeat (first | exact hb.out _ _ | apply pw_below_drewN)⟩
set_option maxHeartbeats 4000000 in
set_option maxRecDepth 100000 in
theorem refRight_none (nf : Int) (ht : exergueref07_Figures.f k l0 = some true) (hu : exergueref07_Figures.f k l1 = some true) (hn : exergueref07_Full.f k l1 = some nf) (h0 : l0.length = 0) : Calls Tryd.prog 21 #[.agg #[.slice A0 l0.length c0, .slice A1 l1.length c1, .int .i64 a2, .int .i64 a3]] w (RPost w (decide (a2 = nf) && (decide (0 ≤ a3) && decide (a3 ≤ 1000)))) := by
  have k0 := fun W (hb : Below w.heap.size w W) => exergueref07_Figures.calls k A0 c0 l0 _ W (Kd.C_below hr0 hb) hc0 ht
  have hb := Aside0.mk (fun (o : Obj) (n : Nat) => pw_below_drewN ((Below.refl _ w).alloc (Nat.le_refl _) o) n)
  have hb0 := Aside0.mk (fun (o : Obj) => (Below.refl _ w).alloc (Nat.le_refl _) o)
  have K0 := Aside0.mk k0
  have k1 := fun W (hb : Below w.heap.size w W) => exergueref07_Figures.calls k A1 c1 l1 _ W (Kd.C_below hr1 hb) hc1 hu
  have K1 := Aside0.mk k1
  clear k0 k1 ht hu
  have k2 := fun W (hb : Below w.heap.size w W) => (exergueref07_Full.calls k A1 c1 l1 nf W (Kd.C_below hr1 hb) hc1 hn).mono (fun e w' (h : e = .returned (.int .i64 nf) ∧ Drawn0 W w') => (⟨h.1, h.2.out⟩ : e = .returned (.int .i64 nf) ∧ ∃ m, w' = W.drewN m))
  have K2 := Aside0.mk k2
  clear hr0 hc0 hr1 hc1 k2 hn
  have d1 : decide (0 < l0.length) = false := decide_eq_false (by omega)
  have d2 : decide (0 < (l0.length : Int)) = false := decide_eq_false (by omega)
  generalize l0.length = n0 at K0 d1 d2 h0 ⊢
  clear h0
  generalize l1.length = n1 at K1 K2 ⊢
  by_cases e2 : a2 = nf
  · have f2 : (a2 == nf) = true := by simpa using e2
    rw [decide_eq_true e2]
    clear e2
    by_cases e3 : 0 ≤ a3
    · have f3 : decide (0 ≤ a3) = true := decide_eq_true e3
      rw [f3]
      clear e3
      go_enter Tryd.func21, Tryd.ntmps21
      go_wp2_with (first | (go_at_call 11; (with_reducible refine (K0.out _ (hb0.out _)).mono ?_); rintro e w1 ⟨rfl, ⟨q, rfl⟩⟩) | (go_at_call 11; (with_reducible refine (K1.out _ (hb.out _ q)).mono ?_); rintro e w1 ⟨rfl, ⟨q2, rfl⟩⟩))
      repeat (go_quiet ((go_at_call 38; exact quiet_addO (K2.out _ (hb.out _ _)))); try go_wp2)
      go_ret
      exact ⟨rfl, by repeat (first | exact hb.out _ _ | apply pw_below_drewN)⟩
    · have f3 : decide (0 ≤ a3) = false := decide_eq_false e3
      rw [f3]
      clear e3
      go_enter Tryd.func21, Tryd.ntmps21
      go_wp2_with (first | (go_at_call 11; (with_reducible refine (K0.out _ (hb0.out _)).mono ?_); rintro e w1 ⟨rfl, ⟨q, rfl⟩⟩) | (go_at_call 11; (with_reducible refine (K1.out _ (hb.out _ q)).mono ?_); rintro e w1 ⟨rfl, ⟨q2, rfl⟩⟩))
      repeat (go_quiet ((go_at_call 38; exact quiet_addO (K2.out _ (hb.out _ _)))); try go_wp2)
      go_ret
      exact ⟨rfl, by repeat (first | exact hb.out _ _ | apply pw_below_drewN)⟩
  · have f2 : (a2 == nf) = false := by simpa using e2
    rw [decide_eq_false e2]
    clear e2
    go_enter Tryd.func21, Tryd.ntmps21
    go_wp2_with (first | (go_at_call 11; (with_reducible refine (K0.out _ (hb0.out _)).mono ?_); rintro e w1 ⟨rfl, ⟨q, rfl⟩⟩) | (go_at_call 11; (with_reducible refine (K1.out _ (hb.out _ q)).mono ?_); rintro e w1 ⟨rfl, ⟨q2, rfl⟩⟩))
    repeat (go_quiet ((go_at_call 38; exact quiet_addO (K2.out _ (hb.out _ _)))); try go_wp2)
    go_ret
    exact ⟨rfl, by repeat (first | exact hb.out _ _ | apply pw_below_drewN)⟩
set_option maxHeartbeats 4000000 in
set_option maxRecDepth 100000 in
theorem refRight_some (nf : Int) (ht : exergueref07_Figures.f k l0 = some true) (hu : exergueref07_Figures.f k l1 = some true) (hn : exergueref07_Full.f k l1 = some nf) (h0 : 0 < l0.length) (h1 : ¬ rd l0 0 = 0) : Calls Tryd.prog 21 #[.agg #[.slice A0 l0.length c0, .slice A1 l1.length c1, .int .i64 a2, .int .i64 a3]] w (RPost w (decide (a2 = nf) && (decide (0 ≤ a3) && decide (a3 ≤ 1000)))) := by
  have k0 := fun W (hb : Below w.heap.size w W) => exergueref07_Figures.calls k A0 c0 l0 _ W (Kd.C_below hr0 hb) hc0 ht
  have hb := Aside0.mk (fun (o : Obj) (n : Nat) => pw_below_drewN ((Below.refl _ w).alloc (Nat.le_refl _) o) n)
  have hb0 := Aside0.mk (fun (o : Obj) => (Below.refl _ w).alloc (Nat.le_refl _) o)
  have K0 := Aside0.mk k0
  have k1 := fun W (hb : Below w.heap.size w W) => exergueref07_Figures.calls k A1 c1 l1 _ W (Kd.C_below hr1 hb) hc1 hu
  have K1 := Aside0.mk k1
  clear k0 k1 ht hu
  have k2 := fun W (hb : Below w.heap.size w W) => (exergueref07_Full.calls k A1 c1 l1 nf W (Kd.C_below hr1 hb) hc1 hn).mono (fun e w' (h : e = .returned (.int .i64 nf) ∧ Drawn0 W w') => (⟨h.1, h.2.out⟩ : e = .returned (.int .i64 nf) ∧ ∃ m, w' = W.drewN m))
  have K2 := Aside0.mk k2
  obtain ⟨ad, e1, hcell⟩ := Kd.at_int hr0 0 (by omega) (by omega)
  cases e1
  rw [show ((0 : Int)).toNat = 0 from rfl, Addr.add_zero'] at hcell
  have hlt : ad.block < w.heap.size := World.block_lt_of_cell? w _ hcell
  clear hr0 hc0 hr1 hc1 k2 hn
  have d0 : (rd l0 0 == 0) = false := by simpa using h1
  generalize rd l0 0 = v0 at hcell d0 h1
  have d1 : decide (0 < l0.length) = true := decide_eq_true h0
  have d2 : decide (0 < (l0.length : Int)) = true := decide_eq_true (by omega)
  have d3 : (0 < l0.length) = True := eq_true h0
  generalize l0.length = n0 at K0 d1 d2 d3 ⊢
  clear h0 h1
  generalize l1.length = n1 at K1 K2 ⊢
  by_cases e2 : a2 = nf
  · have f2 : (a2 == nf) = true := by simpa using e2
    rw [decide_eq_true e2]
    clear e2
    by_cases e3 : 0 ≤ a3
    · have f3 : decide (0 ≤ a3) = true := decide_eq_true e3
      rw [f3]
      clear e3
      go_enter Tryd.func21, Tryd.ntmps21
      go_wp2_with (first | (go_at_call 11; (with_reducible refine (K0.out _ (hb0.out _)).mono ?_); rintro e w1 ⟨rfl, ⟨q, rfl⟩⟩) | (go_at_call 11; (with_reducible refine (K1.out _ (hb.out _ q)).mono ?_); rintro e w1 ⟨rfl, ⟨q2, rfl⟩⟩))
      repeat (go_quiet ((go_at_call 38; exact quiet_addO (K2.out _ (hb.out _ _)))); try go_wp2)
      go_ret
      exact ⟨rfl, by repeat (first | exact hb.out _ _ | apply pw_below_drewN)⟩
    · have f3 : decide (0 ≤ a3) = false := decide_eq_false e3
      rw [f3]
      clear e3
      go_enter Tryd.func21, Tryd.ntmps21
      go_wp2_with (first | (go_at_call 11; (with_reducible refine (K0.out _ (hb0.out _)).mono ?_); rintro e w1 ⟨rfl, ⟨q, rfl⟩⟩) | (go_at_call 11; (with_reducible refine (K1.out _ (hb.out _ q)).mono ?_); rintro e w1 ⟨rfl, ⟨q2, rfl⟩⟩))
      repeat (go_quiet ((go_at_call 38; exact quiet_addO (K2.out _ (hb.out _ _)))); try go_wp2)
      go_ret
      exact ⟨rfl, by repeat (first | exact hb.out _ _ | apply pw_below_drewN)⟩
  · have f2 : (a2 == nf) = false := by simpa using e2
    rw [decide_eq_false e2]
    clear e2
    go_enter Tryd.func21, Tryd.ntmps21
    go_wp2_with (first | (go_at_call 11; (with_reducible refine (K0.out _ (hb0.out _)).mono ?_); rintro e w1 ⟨rfl, ⟨q, rfl⟩⟩) | (go_at_call 11; (with_reducible refine (K1.out _ (hb.out _ q)).mono ?_); rintro e w1 ⟨rfl, ⟨q2, rfl⟩⟩))
    repeat (go_quiet ((go_at_call 38; exact quiet_addO (K2.out _ (hb.out _ _)))); try go_wp2)
    go_ret
    exact ⟨rfl, by repeat (first | exact hb.out _ _ | apply pw_below_drewN)⟩
end
theorem exergueref07_Right.calls (k : Nat) (A0_0 : Option Addr) (c0_0 : Nat) (l0_0 : List Int) (A0_1 : Option Addr) (c0_1 : Nat) (l0_1 : List Int) (a0_2 : Int) (a0_3 : Int) (r : Bool) (w : World) (hr0_0 : Kd.C (Kd.int .u8) w A0_0 l0_0.length l0_0) (hc0_0 : l0_0.length ≤ c0_0) (hr0_1 : Kd.C (Kd.int .u8) w A0_1 l0_1.length l0_1) (hc0_1 : l0_1.length ≤ c0_1) (h : exergueref07_Right.f k l0_0 l0_1 a0_2 a0_3 = some r) :
    Calls Tryd.prog 21 #[.agg #[.slice A0_0 l0_0.length c0_0, .slice A0_1 l0_1.length c0_1, .int .i64 a0_2, .int .i64 a0_3]] w fun e w' => e = .returned (.bool r) ∧ Below w.heap.size w w' := by
  unfold exergueref07_Right.f at h
  obtain ⟨t, ht, h⟩ := Option.bind_eq_some_iff.1 h
  obtain ⟨u, hu, h⟩ := Option.bind_eq_some_iff.1 h
  cases t with
  | false =>
    obtain rfl : false = r := by simpa using h
    cases u with
    | false => exact refRight_f_f k A0_0 c0_0 l0_0 A0_1 c0_1 l0_1 a0_2 a0_3 w hr0_0 hc0_0 hr0_1 hc0_1 ht hu
    | true => exact refRight_f_t k A0_0 c0_0 l0_0 A0_1 c0_1 l0_1 a0_2 a0_3 w hr0_0 hc0_0 hr0_1 hc0_1 ht hu
  | true =>
    cases u with
    | false =>
      obtain rfl : false = r := by simpa using h
      exact refRight_t_f k A0_0 c0_0 l0_0 A0_1 c0_1 l0_1 a0_2 a0_3 w hr0_0 hc0_0 hr0_1 hc0_1 ht hu
    | true =>
      simp only [if_true] at h
      by_cases h0 : (l0_0.length : Int) > 0
      · rw [if_pos h0] at h
        by_cases h1 : rd l0_0 0 = 0
        · rw [if_pos h1] at h
          obtain rfl := Option.some.inj h
          exact refRight_nought k A0_0 c0_0 l0_0 A0_1 c0_1 l0_1 a0_2 a0_3 w hr0_0 hc0_0 hr0_1 hc0_1 ht hu (by omega) h1
        · rw [if_neg h1] at h
          obtain ⟨nf, hn, h⟩ := Option.bind_eq_some_iff.1 h
          obtain rfl := Option.some.inj h
          exact refRight_some k A0_0 c0_0 l0_0 A0_1 c0_1 l0_1 a0_2 a0_3 w hr0_0 hc0_0 hr0_1 hc0_1 nf ht hu hn (by omega) h1
      · rw [if_neg h0] at h
        obtain ⟨nf, hn, h⟩ := Option.bind_eq_some_iff.1 h
        obtain rfl := Option.some.inj h
        exact refRight_none k A0_0 c0_0 l0_0 A0_1 c0_1 l0_1 a0_2 a0_3 w hr0_0 hc0_0 hr0_1 hc0_1 nf ht hu hn (by omega)
end Go.Proofs.YtekinhnempbioaaDoor.PZ
