/- oper.Right and the document's: is an Oper right?
   Conditions: none. -/
import Derived.Test.YtekinhnempbioaaDoorSl
import Derived.Test.YtekinhnempbioaaDoorTrim
import Derived.Deep.QuietTactic
import Derived.BigQuiet
namespace Go.Proofs.YtekinhnempbioaaDoor.PZ
open Go.RowKit Go.Proofs.YtekinhnempbioaaDoorW.PrintWords Go.Proofs.YtekinhnempbioaaDoorW.PrintLast
/-- The figures of a row are figures: as a test. -/
def figsB (l : List Int) : Bool := !(l.any fun c => decide (c > 9))
theorem quiet_addO {P : Program} {f : FuncId} {args : Array Value} {w : World} {a n : Nat} {v : Value}
    (h : Calls P f args (w.drewN (a + n)) fun e w' => e = .returned v ∧ ∃ m, w' = (w.drewN (a + n)).drewN m) :
    Calls P f args (w.drewN (a + n)) fun e w'' => e = .returned v ∧ ∃ m, w'' = w.drewN (a + m) :=
  h.mono fun _ _ ⟨he, m, hm⟩ => ⟨he, n + m, by rw [hm, World.drewN_drewN, Nat.add_assoc]⟩
set_option maxHeartbeats 1000000 in
theorem contOdd_quiet (A0 : Option Addr) (c0 : Nat) (l0 : List Int) (w : World) (hr0 : Kd.C (Kd.int .u8) w A0 l0.length l0) :
    Calls Tryd.prog 39 #[.slice A0 l0.length c0, .func (.func 40) #[] #[]] w fun e w' => e = .returned (.bool (!figsB l0)) ∧ ∃ n, w' = w.drewN n := by
  have hq := indexOdd_calls A0 c0 l0 w hr0
  clear hr0
  have H := Aside0.mk (firstAt_ge (fun c => decide (c > 9)) l0 0)
  go_enter Tryd.func39, Tryd.ntmps39
  go_wp2_with (go_at_call 47; refine hq.mono ?_; rintro e w' ⟨rfl, q, rfl⟩)
  go_ret
  exact ⟨by unfold figsB; rw [Bool.not_not, ← H.out]; rfl, q, rfl⟩
def oper_Right.f (l0 l1 : List Int) (a2 a3 : Int) : Option Bool := some (figsB l0 && (figsB l1 && (decide ((bareL l0).length = l0.length) && (decide (a2 = (fullN l1 : Int)) && (decide (0 ≤ a3) && decide (a3 ≤ 1000))))))
theorem full_quiet (A0 : Option Addr) (c0 : Nat) (l0 : List Int) (w : World) (hr0 : Kd.C (Kd.int .u8) w A0 l0.length l0) (hc0 : l0.length ≤ c0) :
    Calls Tryd.prog 31 #[.slice A0 l0.length c0] w fun e w' => e = .returned (.int .i64 (fullN l0 : Int)) ∧ ∃ q, w' = w.drewN q :=
  (oper_full_quiet A0 c0 l0 _ w hr0 hc0 rfl).mono fun _ _ h => ⟨h.1, h.2.out⟩
section
variable (A0 : Option Addr) (c0 : Nat) (l0 : List Int) (A1 : Option Addr) (c1 : Nat) (l1 : List Int) (a2 a3 : Int) (w : World)
  (hr0 : Kd.C (Kd.int .u8) w A0 l0.length l0) (hc0 : l0.length ≤ c0) (hr1 : Kd.C (Kd.int .u8) w A1 l1.length l1) (hc1 : l1.length ≤ c1)
def RPost (w : World) (r : Bool) (e : Ending) (w' : World) : Prop := e = .returned (.bool r) ∧ Below w.heap.size w w'
set_option linter.unusedSectionVars false
include hr0 hc0 hr1 hc1
set_option maxHeartbeats 2000000 in
set_option maxRecDepth 100000 in
theorem right_figs (hf : (figsB l0 && figsB l1) = false) : Calls Tryd.prog 23 #[.agg #[.slice A0 l0.length c0, .slice A1 l1.length c1, .int .i64 a2, .int .i64 a3]] w (RPost w false) := by
  have k0 := fun W (hb : Below w.heap.size w W) => contOdd_quiet A0 c0 l0 W (Kd.C_below hr0 hb)
  have k1 := fun W (hb : Below w.heap.size w W) => contOdd_quiet A1 c1 l1 W (Kd.C_below hr1 hb)
  have hb := Aside0.mk (fun (o : Obj) (n : Nat) => pw_below_drewN ((Below.refl _ w).alloc (Nat.le_refl _) o) n)
  have hb0 := Aside0.mk (fun (o : Obj) => (Below.refl _ w).alloc (Nat.le_refl _) o)
  have K0 := Aside0.mk k0
  have K1 := Aside0.mk k1
  clear hr0 hc0 hr1 hc1 k0 k1
  cases h0 : figsB l0 with
  | false =>
    rw [h0] at K0
    clear hf h0 K1
    go_enter Tryd.func23, Tryd.ntmps23
    go_wp2_with (go_at_call 39; refine (K0.out _ (hb0.out _)).mono ?_; rintro e w1 ⟨rfl, q, rfl⟩)
    go_quiet (fail)
    go_wp2
    go_ret
    exact ⟨rfl, pw_below_drewN (hb.out _ _) _⟩
  | true =>
    have h1 : figsB l1 = false := by rw [h0] at hf; simpa using hf
    rw [h0] at K0
    rw [h1] at K1
    clear hf h0 h1
    generalize l0.length = n0 at K0 K1 ⊢
    generalize l1.length = n1 at K0 K1 ⊢
    go_enter Tryd.func23, Tryd.ntmps23
    go_wp2_with (first | (go_at_call 39; (with_reducible refine (K0.out _ (hb0.out _)).mono ?_); rintro e w1 ⟨rfl, q, rfl⟩) | (go_at_call 39; (with_reducible refine (K1.out _ (hb.out _ q)).mono ?_); rintro e w1 ⟨rfl, q2, rfl⟩))
    go_quiet (fail)
    go_wp2
    go_ret
    exact ⟨rfl, pw_below_drewN (hb.out _ _) _⟩
set_option maxHeartbeats 4000000 in
set_option maxRecDepth 100000 in
theorem right_rest (hf0 : figsB l0 = true) (hf1 : figsB l1 = true) : Calls Tryd.prog 23 #[.agg #[.slice A0 l0.length c0, .slice A1 l1.length c1, .int .i64 a2, .int .i64 a3]] w (RPost w (decide ((bareL l0).length = l0.length) && (decide (a2 = (fullN l1 : Int)) && (decide (0 ≤ a3) && decide (a3 ≤ 1000))))) := by
  have k0 := fun W (hb : Below w.heap.size w W) => contOdd_quiet A0 c0 l0 W (Kd.C_below hr0 hb)
  have k1 := fun W (hb : Below w.heap.size w W) => contOdd_quiet A1 c1 l1 W (Kd.C_below hr1 hb)
  rw [hf0] at k0
  rw [hf1] at k1
  obtain ⟨A2, c2, hv⟩ := Kd.V_slice (trimV_V w 0 (fun k => k < w.heap.size) l0 A0 c0 hc0 (Kd.C_F (Kd.heap_int .u8) hr0))
  have k2 := fun W (hb : Below w.heap.size w W) => bare_quiet (fun k => k < W.heap.size) A0 c0 l0 W (Kd.V_mk hc0 (Kd.C_F (Kd.heap_int .u8) (Kd.C_below hr0 hb)))
  rw [hv] at k2
  have k3 := fun W (hb : Below w.heap.size w W) => full_quiet A1 c1 l1 W (Kd.C_below hr1 hb) hc1
  have hb := Aside0.mk (fun (o : Obj) (n : Nat) => pw_below_drewN ((Below.refl _ w).alloc (Nat.le_refl _) o) n)
  have hb0 := Aside0.mk (fun (o : Obj) => (Below.refl _ w).alloc (Nat.le_refl _) o)
  have K0 := Aside0.mk k0
  have K1 := Aside0.mk k1
  have K2 := Aside0.mk k2
  have K3 := Aside0.mk k3
  have hm0 : l0.length ≤ 9223372036854775807 := Kd.C_max hr0
  have hm1 : (bareL l0).length ≤ 9223372036854775807 := Nat.le_trans (List.dropWhile_sublist _).length_le hm0
  clear hr0 hc0 hr1 hc1 k0 k1 k2 k3 hv hf0 hf1
  generalize (bareL l0).length = nb at K2 hm1 ⊢
  generalize l0.length = n0 at K0 K2 hm0 ⊢
  generalize fullN l1 = nf at K3 ⊢
  generalize l1.length = n1 at K1 K3 ⊢
  by_cases e1 : nb = n0
  · have f1 : (nb == n0) = true := by simpa using e1
    have f1' : ((nb : Int) == (n0 : Int)) = true := by rw [beq_iff_eq]; omega
    rw [decide_eq_true e1]
    clear e1
    by_cases e2 : a2 = (nf : Int)
    · have f2 : (a2 == (nf : Int)) = true := by simpa using e2
      rw [decide_eq_true e2]
      clear e2
      by_cases e3 : 0 ≤ a3
      · have f3 : decide (0 ≤ a3) = true := decide_eq_true e3
        rw [f3]
        clear e3
        go_enter Tryd.func23, Tryd.ntmps23
        go_wp2_with (first | (go_at_call 39; (with_reducible refine (K0.out _ (hb0.out _)).mono ?_); rintro e w1 ⟨rfl, q, rfl⟩) | (go_at_call 39; (with_reducible refine (K1.out _ (hb.out _ q)).mono ?_); rintro e w1 ⟨rfl, q2, rfl⟩))
        go_quiet ((first | (go_at_call 26; exact quiet_addO (K2.out _ (hb.out _ _))) | (go_at_call 31; exact quiet_addO (K3.out _ (hb.out _ _)))))
        go_wp2
        go_ret
        exact ⟨rfl, pw_below_drewN (hb.out _ _) _⟩
      · have f3 : decide (0 ≤ a3) = false := decide_eq_false e3
        rw [f3]
        clear e3
        go_enter Tryd.func23, Tryd.ntmps23
        go_wp2_with (first | (go_at_call 39; (with_reducible refine (K0.out _ (hb0.out _)).mono ?_); rintro e w1 ⟨rfl, q, rfl⟩) | (go_at_call 39; (with_reducible refine (K1.out _ (hb.out _ q)).mono ?_); rintro e w1 ⟨rfl, q2, rfl⟩))
        go_quiet ((first | (go_at_call 26; exact quiet_addO (K2.out _ (hb.out _ _))) | (go_at_call 31; exact quiet_addO (K3.out _ (hb.out _ _)))))
        go_wp2
        go_ret
        exact ⟨rfl, pw_below_drewN (hb.out _ _) _⟩
    · have f2 : (a2 == (nf : Int)) = false := by simpa using e2
      rw [decide_eq_false e2]
      clear e2
      go_enter Tryd.func23, Tryd.ntmps23
      go_wp2_with (first | (go_at_call 39; (with_reducible refine (K0.out _ (hb0.out _)).mono ?_); rintro e w1 ⟨rfl, q, rfl⟩) | (go_at_call 39; (with_reducible refine (K1.out _ (hb.out _ q)).mono ?_); rintro e w1 ⟨rfl, q2, rfl⟩))
      go_quiet ((first | (go_at_call 26; exact quiet_addO (K2.out _ (hb.out _ _))) | (go_at_call 31; exact quiet_addO (K3.out _ (hb.out _ _)))))
      go_wp2
      go_ret
      exact ⟨rfl, pw_below_drewN (hb.out _ _) _⟩
  · have f1 : (nb == n0) = false := by simpa using e1
    have f1' : ((nb : Int) == (n0 : Int)) = false := by rw [beq_eq_false_iff_ne]; omega
    rw [decide_eq_false e1]
    clear e1
    go_enter Tryd.func23, Tryd.ntmps23
    go_wp2_with (first | (go_at_call 39; (with_reducible refine (K0.out _ (hb0.out _)).mono ?_); rintro e w1 ⟨rfl, q, rfl⟩) | (go_at_call 39; (with_reducible refine (K1.out _ (hb.out _ q)).mono ?_); rintro e w1 ⟨rfl, q2, rfl⟩))
    go_quiet ((first | (go_at_call 26; exact quiet_addO (K2.out _ (hb.out _ _))) | (go_at_call 31; exact quiet_addO (K3.out _ (hb.out _ _)))))
    go_wp2
    go_ret
    exact ⟨rfl, pw_below_drewN (hb.out _ _) _⟩
end
theorem oper_Right.calls (A0_0 : Option Addr) (c0_0 : Nat) (l0_0 : List Int) (A0_1 : Option Addr) (c0_1 : Nat) (l0_1 : List Int) (a0_2 : Int) (a0_3 : Int) (r : Bool) (w : World) (hr0_0 : Kd.C (Kd.int .u8) w A0_0 l0_0.length l0_0) (hc0_0 : l0_0.length ≤ c0_0) (hr0_1 : Kd.C (Kd.int .u8) w A0_1 l0_1.length l0_1) (hc0_1 : l0_1.length ≤ c0_1) (h : oper_Right.f l0_0 l0_1 a0_2 a0_3 = some r) :
    Calls Tryd.prog 23 #[.agg #[.slice A0_0 l0_0.length c0_0, .slice A0_1 l0_1.length c0_1, .int .i64 a0_2, .int .i64 a0_3]] w fun e w' => e = .returned (.bool r) ∧ Below w.heap.size w w' := by
  unfold oper_Right.f at h
  obtain rfl := Option.some.inj h
  cases h0 : figsB l0_0 with
  | false => exact right_figs A0_0 c0_0 l0_0 A0_1 c0_1 l0_1 a0_2 a0_3 w hr0_0 hc0_0 hr0_1 hc0_1 (by rw [h0]; rfl)
  | true =>
    cases h1 : figsB l0_1 with
    | false => exact right_figs A0_0 c0_0 l0_0 A0_1 c0_1 l0_1 a0_2 a0_3 w hr0_0 hc0_0 hr0_1 hc0_1 (by rw [h1, Bool.and_false])
    | true => exact right_rest A0_0 c0_0 l0_0 A0_1 c0_1 l0_1 a0_2 a0_3 w hr0_0 hc0_0 hr0_1 hc0_1 h0 h1
end Go.Proofs.YtekinhnempbioaaDoor.PZ
