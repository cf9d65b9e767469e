/- The law RoundFits, walked: it answers true.
   Conditions: the laid table of powers of ten reads. -/
import Derived.Test.YtogfokpmpdclbaaDoorLaw06
import Derived.Test.YtogfokpmpdclbaaDoorPureNear
set_option linter.unusedVariables false
set_option linter.unusedSimpArgs false
namespace Go.Proofs.YtogfokpmpdclbaaDoor.PZ
open Go.RowKit Go.Sort Go.Proofs.YtogfokpmpdclbaaDoorW.PrintWords Go.Proofs.YtogfokpmpdclbaaDoorW.PrintLast
def exerguelaw06_RoundFits.f (k : Nat) (g : Bool) (l : List Int) (e kk place m mode : Int) : Option Bool := if (l.length * 1 ≤ 140737488351232 ∧ ∀ b_ ∈ l, (Lit.int .u8 b_).wf = true) ∧ 0 ≤ m ∧ m ≤ 255 then some true else none
set_option maxRecDepth 100000 in
set_option maxHeartbeats 2000000 in
theorem exerguelaw06_RoundFits.calls (k : Nat) (a0_0 : Bool) (A0_1 : Option Addr) (c0_1 : Nat) (l0_1 : List Int) (a0_2 : Int) (a0_3 : Int) (a0_4 : Int) (a0_5 : Int) (a0_6 : Int) (r : Bool) (w : World) (hG : GL w) (hr0_1 : Kd.C (Kd.int .u8) w A0_1 l0_1.length l0_1) (hc0_1 : l0_1.length ≤ c0_1) (h : exerguelaw06_RoundFits.f k a0_0 l0_1 a0_2 a0_3 a0_4 a0_5 a0_6 = some r) :
    Calls Tryd.prog 8 #[.agg #[.bool a0_0, .slice A0_1 l0_1.length c0_1, .int .i64 a0_2, .int .i64 a0_3, .int .i64 a0_4, .int .u8 a0_5, .int .i64 a0_6]] w fun e w' => e = .returned (.bool r) ∧ Below w.heap.size w w' := by
  unfold exerguelaw06_RoundFits.f at h
  split at h
  · obtain rfl := Option.some.inj h
    rename_i hb
    obtain ⟨⟨hz, hw⟩, m0, m1⟩ := hb
    have hR := Aside0.mk (DRow.mk hr0_1 hc0_1)
    have HG := Aside0.mk hG
    have hu1 := Tryd.underlying48
    have hu2 := Tryd.underlying24
    have HB := Aside0.mk (Below.refl w.heap.size w)
    have hnear := near_ev a0_0 a0_3 a0_4 a0_6 hz hw (e := a0_2)
    have hB0 : Below w.heap.size w ((w.alloc (.cells #[.bool a0_0, .slice A0_1 l0_1.length c0_1, .int .i64 a0_2, .int .i64 a0_3, .int .i64 a0_4, .int .u8 a0_5, .int .i64 a0_6] 48)).alloc (.cells #[.bool a0_0, .slice A0_1 l0_1.length c0_1, .int .i64 a0_2] 24)) := ((Below.refl _ w).alloc (Nat.le_refl _) _).alloc (by simp) _
    have hX0 : DBox (w.heap.size + 1) a0_0 A0_1 l0_1.length c0_1 a0_2 ((w.alloc (.cells #[.bool a0_0, .slice A0_1 l0_1.length c0_1, .int .i64 a0_2, .int .i64 a0_3, .int .i64 a0_4, .int .u8 a0_5, .int .i64 a0_6] 48)).alloc (.cells #[.bool a0_0, .slice A0_1 l0_1.length c0_1, .int .i64 a0_2] 24)) := by
      have := heap_alloc_new (w.alloc (.cells #[.bool a0_0, .slice A0_1 l0_1.length c0_1, .int .i64 a0_2, .int .i64 a0_3, .int .i64 a0_4, .int .u8 a0_5, .int .i64 a0_6] 48)) (.cells #[.bool a0_0, .slice A0_1 l0_1.length c0_1, .int .i64 a0_2] 24)
      simpa [DBox] using this
    have HB0 := Aside0.mk hB0
    have HX0 := Aside0.mk hX0
    clear hr0_1 hc0_1 hz hw hG h hB0 hX0 HB
    rcases hnear with ⟨n1, hd, hun⟩ | n1
    · obtain ⟨n, hn⟩ := n1.rounds
      have HNR := Aside0.mk hn
      clear n1 hn
      have hk := hun.k
      have hp := hun.p
      have hm := hun.m
      obtain ⟨q, hq⟩ : ∃ q, a0_5 % 9 + 1 = q := ⟨_, rfl⟩
      have hq1 : 1 ≤ q ∧ q ≤ 9 := by omega
      have hpr : 0 ≤ a0_3 * q := Int.mul_nonneg (by omega) (by omega)
      have hpr2 : a0_3 * q ≤ 1000000000 * 9 := Int.mul_le_mul hk.2 hq1.2 (by omega) (by omega)
      have hun2 := refunit_f (a0_3 * q) a0_4
      by_cases hu : 1 ≤ a0_3 * q ∧ a0_3 * q ≤ 1000000000
      · rw [decide_eq_true ⟨hu, by omega⟩] at hun2
        have HUN := Aside0.mk hun2
        obtain ⟨l', e', x1, x2, x3, x4⟩ := inc_of a0_0 hd hun
        obtain ⟨n4, hn4⟩ := x1.rounds
        have HIN := Aside0.mk hn4
        have hf1 := fits_f a0_0 hd.r hk (place := a0_4) (by omega)
        have hf2 := fits_f a0_0 hd.r hu (place := a0_4) (by omega)
        have hf3 := fits_f a0_0 hd.r hk (place := a0_4 + 1) (by omega)
        have hsm := same_e a0_0 a0_0 l' l0_1 e' a0_2 (by have := x2.len; omega)
        have hs1 : decide (a0_0 = a0_0 ∧ l' = l0_1 ∧ e' = a0_2) = decide (valN l0_1 a0_2 % unitV a0_3 a0_4 = 0) := by
          rw [decide_eq_decide]
          constructor
          · rintro ⟨_, rfl, rfl⟩
            rw [x3]
            exact fits_self _ _
          · intro h0
            exact ⟨rfl, x4 h0⟩
        rw [hs1] at hsm
        obtain ⟨n5, hn5⟩ := hsm.rounds
        have hi2 : valN l0_1 a0_2 % unitV (a0_3 * q) a0_4 = 0 → valN l0_1 a0_2 % unitV a0_3 a0_4 = 0 := by
          intro h0
          refine Int.emod_eq_zero_of_dvd (Int.dvd_trans ⟨q, ?_⟩ (Int.dvd_of_emod_eq_zero h0))
          unfold unitV
          grind
        have hi3 : valN l0_1 a0_2 % unitV a0_3 (a0_4 + 1) = 0 → valN l0_1 a0_2 % unitV a0_3 a0_4 = 0 := by
          intro h0
          refine Int.emod_eq_zero_of_dvd (Int.dvd_trans ⟨10, ?_⟩ (Int.dvd_of_emod_eq_zero h0))
          unfold unitV
          rw [show (a0_4 + 1 + 3000).toNat = (a0_4 + 3000).toNat + 1 by omega, T10_succ]
          grind
        have hb2 : decide (valN l0_1 a0_2 % unitV (a0_3 * q) a0_4 = 0) = true → decide (valN l0_1 a0_2 % unitV a0_3 a0_4 = 0) = true := by simpa using hi2
        have hb3 : decide (valN l0_1 a0_2 % unitV a0_3 (a0_4 + 1) = 0) = true → decide (valN l0_1 a0_2 % unitV a0_3 a0_4 = 0) = true := by simpa using hi3
        generalize decide (valN l0_1 a0_2 % unitV a0_3 a0_4 = 0) = b1 at *
        generalize decide (valN l0_1 a0_2 % unitV (a0_3 * q) a0_4 = 0) = b2 at *
        generalize decide (valN l0_1 a0_2 % unitV a0_3 (a0_4 + 1) = 0) = b3 at *
        have HF1 := Aside0.mk hf1
        have HF2 := Aside0.mk hf2
        have HF3 := Aside0.mk hf3
        have HSM := Aside0.mk hn5
        clear hi2 hi3 hs1 hsm hn5 hf1 hf2 hf3 x1 x2 x3 x4 hn4 hun2 hd hun hu
        cases b1 <;> cases b2 <;> cases b3 <;> (first | (exfalso; first | exact absurd (hb2 rfl) (by decide) | exact absurd (hb3 rfl) (by decide)) | skip)
        all_goals
          clear hb2 hb3
          go_enter Tryd.func8, Tryd.ntmps8
          go_wp2_with (first | (go_at_call 9; refine (shown_c HG.out HB0.out).mono ?_; rintro e w1 ⟨rfl, hb1⟩; have HX1 := Aside0.mk (HX0.out.below hb1); have HB1 := Aside0.mk (HB0.out.trans (hb1.mono HB0.out.size)); obtain ⟨hc0, hc1, hc2⟩ := HX1.out.cells; clear hb1) | (go_at_call 10; refine (near_c hR.out HB1.out HNR.out).mono ?_; rintro e w2 ⟨rfl, hb2⟩; have HX2 := Aside0.mk (HX1.out.below hb2); have HB2 := Aside0.mk (HB1.out.trans (hb2.mono HB1.out.size)); obtain ⟨hd0, hd1, hd2⟩ := HX2.out.cells; clear hb2) | (go_at_call 21; refine (exergueref06_Unit.calls _ _ _ _ HUN.out).mono ?_; rintro e w3 ⟨rfl, ⟨nd, rfl⟩⟩) | (go_at_call 12; refine (inc_c HG.out hR.out (pw_below_drewN HB2.out nd) HIN.out).mono ?_; rintro e w4 ⟨Ax, cx, rfl, hx, hb4⟩; have HX4 := Aside0.mk ((show DBox (w.heap.size + 1) a0_0 A0_1 l0_1.length c0_1 a0_2 (w2.drewN nd) from HX2.out).below hb4); have HB4 := Aside0.mk ((pw_below_drewN HB2.out nd).trans (hb4.mono HB2.out.size)); have HW4 := Aside0.mk hx; obtain ⟨hg0, hg1, hg2⟩ := HX4.out.cells; clear hb4 hx))
          have HBW := Aside0.mk (HB4.out.alloc HB4.out.size (.cells #[.bool a0_0, .slice Ax l'.length cx, .int .i64 e'] 24))
          have HXD := Aside0.mk (HX4.out.below ((Below.refl _ w4).alloc (Nat.le_refl _) (.cells #[.bool a0_0, .slice Ax l'.length cx, .int .i64 e'] 24)))
          have HXX := Aside0.mk (show DBox w4.heap.size a0_0 Ax l'.length cx e' (w4.alloc (.cells #[.bool a0_0, .slice Ax l'.length cx, .int .i64 e'] 24)) from heap_alloc_new _ _)
          have HRX := Aside0.mk (HW4.out.below ((Below.refl _ w4).alloc (Nat.le_refl _) (.cells #[.bool a0_0, .slice Ax l'.length cx, .int .i64 e'] 24)))
          have HRD := Aside0.mk (hR.out.below HBW.out)
          obtain ⟨W, hW⟩ : ∃ W, w4.alloc (.cells #[.bool a0_0, .slice Ax l'.length cx, .int .i64 e'] 24) = W := ⟨_, rfl⟩
          rw [hW] at HBW HXD HXX HRX HRD ⊢
          have hq0 := fun d os => (HXD.out.regrown d os).1
          have hq1 := fun d os => (HXD.out.regrown d os).2.1
          have hq2 := fun d os => (HXD.out.regrown d os).2.2
          have hr0 := fun d os => (HXX.out.regrown d os).1
          have hr1 := fun d os => (HXX.out.regrown d os).2.1
          have hr2 := fun d os => (HXX.out.regrown d os).2.2
          clear hW hg0 hg1 hg2 hc0 hc1 hc2 hd0 hd1 hd2
          have hwp : IntKind.i64.wrap (a0_3 * q) = a0_3 * q := by rw [IntKind.wrap_i64]; omega
          have hwp1 : IntKind.i64.wrap (a0_4 + 1) = a0_4 + 1 := by rw [IntKind.wrap_i64]; omega
          refine wp_region_quiet_below (by kernel_rfl) (by kernel_rfl) ?_
          repeat (quiet_step (first | (with_reducible exact fits_q HG.out hR.out HBW.out HF1.out _ _) | (with_reducible exact fits_q HG.out hR.out HBW.out HF2.out _ _) | (with_reducible exact fits_q HG.out hR.out HBW.out HF3.out _ _) | (with_reducible exact same_q HRX.out HRD.out HSM.out _ _)))
          refine wpQuiet_nil ?_
          intro _ hw'
          obtain ⟨⟨dq, osq⟩, hw''⟩ := hw'
          subst hw''
          go_wp2_with fail
          go_ret
          exact ⟨rfl, bq HBW.out dq osq⟩
      · rw [decide_eq_false (fun z => hu z.1)] at hun2
        have HUN := Aside0.mk hun2
        clear hun2 hu hd hun
        go_enter Tryd.func8, Tryd.ntmps8
        go_wp2_with (first | (go_at_call 9; refine (shown_c HG.out HB0.out).mono ?_; rintro e w1 ⟨rfl, hb1⟩; have HX1 := Aside0.mk (HX0.out.below hb1); have HB1 := Aside0.mk (HB0.out.trans (hb1.mono HB0.out.size)); obtain ⟨hc0, hc1, hc2⟩ := HX1.out.cells; clear hb1) | (go_at_call 10; refine (near_c hR.out HB1.out HNR.out).mono ?_; rintro e w2 ⟨rfl, hb2⟩; have HX2 := Aside0.mk (HX1.out.below hb2); have HB2 := Aside0.mk (HB1.out.trans (hb2.mono HB1.out.size)); obtain ⟨hd0, hd1, hd2⟩ := HX2.out.cells; clear hb2) | (go_at_call 21; refine (exergueref06_Unit.calls _ _ _ _ HUN.out).mono ?_; rintro e w3 ⟨rfl, ⟨nd, rfl⟩⟩))
        go_ret
        exact ⟨rfl, pw_below_drewN HB2.out nd⟩
    · obtain ⟨n, hn⟩ := n1.rounds
      have HNR := Aside0.mk hn
      clear n1 hn
      go_enter Tryd.func8, Tryd.ntmps8
      go_wp2_with (first | (go_at_call 9; refine (shown_c HG.out HB0.out).mono ?_; rintro e w1 ⟨rfl, hb1⟩; have HX1 := Aside0.mk (HX0.out.below hb1); have HB1 := Aside0.mk (HB0.out.trans (hb1.mono HB0.out.size)); obtain ⟨hc0, hc1, hc2⟩ := HX1.out.cells; clear hb1) | (go_at_call 10; refine (near_c hR.out HB1.out HNR.out).mono ?_; rintro e w2 ⟨rfl, hb2⟩; have HB2 := Aside0.mk (HB1.out.trans (hb2.mono HB1.out.size)); clear hb2))
      go_ret
      exact ⟨rfl, HB2.out⟩
  · cases h
end Go.Proofs.YtogfokpmpdclbaaDoor.PZ
