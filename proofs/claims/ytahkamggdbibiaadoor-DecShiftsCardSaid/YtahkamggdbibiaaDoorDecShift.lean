/- dec.Shift: the number that it answers, its figures those that came in.
   Conditions: none. -/
import Derived.Test.YtahkamggdbibiaaDoorPZx0
import Derived.Test.YtahkamggdbibiaaDoorGl
namespace Go.Proofs.YtahkamggdbibiaaDoor.PZ
open Go.RowKit Go.Proofs.YtahkamggdbibiaaDoorW.PrintWords Go.Proofs.YtahkamggdbibiaaDoorW.PrintLast

def decFar (e most : Int) : Bool := decide (e < -most) || decide (e > most)
def dec_Shift.f (a0_0 : Bool) (l0_1 : List Int) (a0_2 : Int) (a1 : Int) : Option (Bool × List Int × Int × Int) :=
  some (if decFar a1 1099511627776 = true then (false, [], 0, 11) else if l0_1.length = 0 then (a0_0, l0_1, a0_2, 0) else if decFar (wrap64 (a0_2 + a1)) 1000 = true then (false, [], 0, 11) else (a0_0, l0_1, wrap64 (a0_2 + a1), 0))

theorem decTooFar_calls (a0 a1 : Int) (h1 : 0 ≤ a1) (h2 : a1 ≤ 1099511627776) (w : World) :
    Calls Tryd.prog 39 #[.int .i64 a0, .int .i64 a1] w fun e w' => e = .returned (.bool (decFar a0 a1)) ∧ ∃ n, w' = w.drewN n := by
  by_cases h : a0 < -a1
  · have e : decFar a0 a1 = true := by unfold decFar; simp [h]
    rw [e]
    go_enter Tryd.func39, Tryd.ntmps39
    go_wp2
    go_ret
    exact ⟨rfl, 0, rfl⟩
  · have e : decFar a0 a1 = decide (a0 > a1) := by unfold decFar; simp [h]
    rw [e]
    have hd : decide (a0 < -a1) = false := by simpa using h
    go_enter Tryd.func39, Tryd.ntmps39
    go_wp2
    go_ret
    exact ⟨rfl, 0, rfl⟩

theorem dec_Shift.calls (a0_0 : Bool) (P0_1_ : Nat → Prop) (A0_1 : Option Addr) (c0_1 : Nat) (l0_1 : List Int) (a0_2 : Int) (a1 : Int) (r1 : Bool) (r2 : List Int) (r3 : Int) (r4 : Int) (w : World) (hs0_1 : Kd.V (Kd.int .u8) 5 w w.heap.size (fun k_ => P0_1_ k_) (.slice A0_1 l0_1.length c0_1) l0_1) (h : dec_Shift.f a0_0 l0_1 a0_2 a1 = some (r1, r2, r3, r4)) :
    Calls Tryd.prog 22 #[.agg #[.bool a0_0, .slice A0_1 l0_1.length c0_1, .int .i64 a0_2], .int .i64 a1] w fun e w' => ∃ v1_ : Value, e = .returned (.tuple #[.agg #[.bool r1, v1_, .int .i64 r3], .int .i64 r4]) ∧ Kd.V (Kd.int .u8) 5 w' w.heap.size (fun k_ => (P0_1_ k_ ∨ w.heap.size ≤ k_)) v1_ r2 ∧ Below w.heap.size w w' := by
  have hb0 := hs0_1
  clear hs0_1
  have hB : Below w.heap.size w w := Below.refl _ _
  have fin : ∀ (W : World) (n : Bool) (v : Value) (l : List Int) (x : Int), Below w.heap.size w W → W.heap[w.heap.size + 1]? = some (.cells #[.bool false, .slice none 0 0, .int .i64 0] 24 (0, 0)) →
      (Kd.V (Kd.int .u8) 5 W w.heap.size (fun k_ => (P0_1_ k_ ∨ w.heap.size ≤ k_)) v l) →
      Below w.heap.size w (((W.setCell ⟨w.heap.size + 1, 0, none⟩ (.bool n)).setCell ⟨w.heap.size + 1, 1, none⟩ v).setCell ⟨w.heap.size + 1, 2, none⟩ (.int .i64 x)) ∧
      (((W.setCell ⟨w.heap.size + 1, 0, none⟩ (.bool n)).setCell ⟨w.heap.size + 1, 1, none⟩ v).setCell ⟨w.heap.size + 1, 2, none⟩ (.int .i64 x)).heap[w.heap.size + 1]? = some (.cells #[.bool n, v, .int .i64 x] 24 (0, 0)) := by
    intro W n v l x h1 h2 _
    refine ⟨Below.setCell (Below.setCell (Below.setCell h1 (by simp) _) (by simp) _) (by simp) _, ?_⟩
    exact blk_put (cs := #[.bool n, v, .int .i64 0]) (blk_put (cs := #[.bool n, .slice none 0 0, .int .i64 0]) (blk_put (cs := #[.bool false, .slice none 0 0, .int .i64 0]) h2 0 _ rfl) 1 _ rfl) 2 _ rfl
  have two : ∀ (o1 : Obj) (nd : Nat), (((w.alloc o1).alloc (.cells #[.bool false, .slice none 0 0, .int .i64 0] 24)).drewN nd).heap[w.heap.size + 1]? = some (.cells #[.bool false, .slice none 0 0, .int .i64 0] 24 (0, 0)) := by
    intro o1 nd
    show ((w.alloc o1).alloc _).heap[w.heap.size + 1]? = _
    have := heap_alloc_new (w.alloc o1) (.cells #[.bool false, .slice none 0 0, .int .i64 0] 24)
    simpa using this
  have bel : ∀ (o1 o2 : Obj) (nd : Nat), Below w.heap.size w (((w.alloc o1).alloc o2).drewN nd) := fun o1 o2 nd => pw_below_drewN ((hB.alloc (Nat.le_refl _) _).alloc (by simp) _) nd
  have keep : ∀ (W : World), Below w.heap.size w W → Kd.V (Kd.int .u8) 5 W w.heap.size (fun k_ => (P0_1_ k_ ∨ w.heap.size ≤ k_)) (.slice A0_1 l0_1.length c0_1) l0_1 := fun W hW => Kd.V_mono (Kd.V_below hb0 hW) (fun k hk => .inl hk)
  have hb1 := Aside0.mk hb0
  clear hb0
  have FIN := Aside0.mk fin
  have TWO := Aside0.mk two
  have BEL := Aside0.mk bel
  have KEEP := Aside0.mk keep
  have BEL3 := Aside0.mk (fun (o1 o2 : Obj) (nd nd2 : Nat) (u : Value) => (pw_below_drewN (Below.setCell (bel o1 o2 nd) (p := ⟨w.heap.size, 2, none⟩) (Nat.le_refl _) u) nd2 : Below w.heap.size w (((((w.alloc o1).alloc o2).drewN nd).setCell ⟨w.heap.size, 2, none⟩ u).drewN nd2)))
  have TWO3 := Aside0.mk (fun (o1 : Obj) (nd nd2 : Nat) (u : Value) => (blk_far (two o1 nd) (p := ⟨w.heap.size, 2, none⟩) (by simp) u : (((((w.alloc o1).alloc (.cells #[.bool false, .slice none 0 0, .int .i64 0] 24)).drewN nd).setCell ⟨w.heap.size, 2, none⟩ u).drewN nd2).heap[w.heap.size + 1]? = some (.cells #[.bool false, .slice none 0 0, .int .i64 0] 24 (0, 0))))
  clear fin two bel keep hB
  by_cases h1 : decFar a1 1099511627776 = true
  · simp only [dec_Shift.f, h1, if_true, Option.some.injEq, Prod.mk.injEq] at h
    obtain ⟨rfl, rfl, rfl, rfl⟩ := h
    go_enter Tryd.func22, Tryd.ntmps22
    go_wp2_with (go_at_call 39; refine (decTooFar_calls _ _ (by omega) (by omega) _).mono ?_; rintro e w' ⟨rfl, nd, rfl⟩)
    obtain ⟨z1, z2⟩ := FIN.out _ false (.slice none 0 0) [] 0 (BEL.out _ _ nd) (TWO.out _ nd) (Kd.V_nil _ _ _ _ _)
    exact bodyPost_ret (results_ct rfl _ _ _ 24 _ (0, 0) _ rfl z2 Tryd.underlying24 rfl (by kernel_rfl)) rfl ⟨_, rfl, Kd.V_nil _ _ _ _ _, z1⟩
  · have h1' : decFar a1 1099511627776 = false := by simpa using h1
    by_cases h2 : l0_1.length = 0
    · simp only [dec_Shift.f, h1', h2, if_true, Option.some.injEq] at h
      have e1 : ((l0_1.length : Int) == 0) = true := by simp [h2]
      clear h2
      simp only [Bool.false_eq_true, if_false, Prod.mk.injEq] at h
      obtain ⟨rfl, rfl, rfl, rfl⟩ := h
      go_enter Tryd.func22, Tryd.ntmps22
      go_wp2_with (go_at_call 39; refine (decTooFar_calls _ _ (by omega) (by omega) _).mono ?_; rintro e w' ⟨rfl, nd, rfl⟩)
      obtain ⟨z1, z2⟩ := FIN.out _ a0_0 (.slice A0_1 l0_1.length c0_1) l0_1 a0_2 (BEL.out _ _ nd) (TWO.out _ nd) (KEEP.out _ (BEL.out _ _ nd))
      exact bodyPost_ret (results_ct rfl _ _ _ 24 _ (0, 0) _ rfl z2 Tryd.underlying24 rfl (by kernel_rfl)) rfl ⟨_, rfl, KEEP.out _ z1, z1⟩
    · have e1 : ((l0_1.length : Int) == 0) = false := by simpa using h2
      simp only [dec_Shift.f, h1', h2, if_false, Bool.false_eq_true] at h
      by_cases h3 : decFar (wrap64 (a0_2 + a1)) 1000 = true
      · simp only [h3, if_true, Option.some.injEq, Prod.mk.injEq] at h
        obtain ⟨rfl, rfl, rfl, rfl⟩ := h
        go_enter Tryd.func22, Tryd.ntmps22
        go_wp2_with (go_at_call 39; refine (decTooFar_calls _ _ (by omega) (by omega) _).mono ?_; rintro e w' ⟨rfl, nd, rfl⟩)
        obtain ⟨z1, z2⟩ := FIN.out _ false (.slice none 0 0) [] 0 (BEL3.out _ _ _ nd _) (TWO3.out _ _ nd _) (Kd.V_nil _ _ _ _ _)
        exact bodyPost_ret (results_ct rfl _ _ _ 24 _ (0, 0) _ rfl z2 Tryd.underlying24 rfl (by kernel_rfl)) rfl ⟨_, rfl, Kd.V_nil _ _ _ _ _, z1⟩
      · have h3' : decFar (wrap64 (a0_2 + a1)) 1000 = false := by simpa using h3
        simp only [h3', Bool.false_eq_true, if_false, Option.some.injEq, Prod.mk.injEq] at h
        obtain ⟨rfl, rfl, rfl, rfl⟩ := h
        go_enter Tryd.func22, Tryd.ntmps22
        go_wp2_with (go_at_call 39; refine (decTooFar_calls _ _ (by omega) (by omega) _).mono ?_; rintro e w' ⟨rfl, nd, rfl⟩)
        obtain ⟨z1, z2⟩ := FIN.out _ a0_0 (.slice A0_1 l0_1.length c0_1) l0_1 (wrap64 (a0_2 + a1)) (BEL3.out _ _ _ nd _) (TWO3.out _ _ nd _) (KEEP.out _ (BEL3.out _ _ _ nd _))
        exact bodyPost_ret (results_ct rfl _ _ _ 24 _ (0, 0) _ rfl z2 Tryd.underlying24 rfl (by kernel_rfl)) rfl ⟨_, rfl, KEEP.out _ z1, z1⟩
end Go.Proofs.YtahkamggdbibiaaDoor.PZ
