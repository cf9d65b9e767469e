/- The law OperIn, walked: it answers true.
   Conditions: the laid table of powers of ten reads. -/
import Derived.Lib.QuietBelow
import Derived.BigGuard
import Derived.Test.YtekinhnempbioaaDoorPureShown07
import Derived.Test.YtekinhnempbioaaDoorPZx4
import Derived.Test.YtekinhnempbioaaDoorPZx10
set_option linter.unusedVariables false
set_option linter.unusedSimpArgs false
namespace Go.Proofs.YtekinhnempbioaaDoor.PZ
open Go.RowKit Go.Sort Go.Proofs.YtekinhnempbioaaDoorW.PrintWords Go.Proofs.YtekinhnempbioaaDoorW.PrintLast Go.Proofs.YtekinhnempbioaaDoorW.PrintMore
attribute [local go_sem] max2_int min2_int max_two min_two
theorem inD_iff (l : List Int) (a b : Int) : inD l a b = true ↔ (0 ≤ b ∧ (0 ≤ a → a ≤ num l) ∧ num l ≤ b) := by unfold inD; rw [decide_eq_true_eq]
theorem inD_no {l : List Int} {a b : Int} (h : ¬ (0 ≤ b ∧ (0 ≤ a → a ≤ num l) ∧ num l ≤ b)) : inD l a b = false := by unfold inD; exact decide_eq_false h
theorem figs_below {P : Program} {f : Nat} {vs : Array Value} {w : World} {b : Bool} (h : Calls P f vs w fun e w' => e = .returned (.bool b) ∧ Drawn0 w w') : Calls P f vs w fun e w' => e = .returned (.bool b) ∧ Below w.heap.size w w' := h.mono fun _ _ ⟨h1, h2⟩ => ⟨h1, h2.below⟩
def ParkedX (p : Prop) : Prop := p
theorem parkedX {p : Prop} (h : ParkedX p) : p := h
theorem no_undef {b : Bool} (h : some undef = some (Value.bool b)) : False := by simp [undef] at h
theorem bq {w W : World} (hb : Below w.heap.size w W) (d : Nat) (os : Array Obj) : Below w.heap.size w (grow (redrawn W d) os) := hb.trans ((below_regrown W d os).mono hb.size)
theorem in_q {w W : World} {A : Option Addr} {l : List Int} {c : Nat} {x y : Int} {r : Bool} (hG : GL w) (hR : Kd.C (Kd.int .u8) w A l.length l) (hc : l.length ≤ c) (hb : Below w.heap.size w W) (h : oper_In.f l x y = some r) (d : Nat) (os : Array Obj) :
    Calls Tryd.prog 14 #[.slice A l.length c, .int .i64 x, .int .i64 y] (grow (redrawn W d) os) fun e w' => e = .returned (.bool r) ∧ ∃ p : Regrown, w' = grow (redrawn W p.d) p.os :=
  Calls.regrown_of (oper_In.calls A c l x y r _ (GL.below hG (bq hb d os)) (Kd.C_below hR (bq hb d os)) hc h)
def exerguelaw07_OperIn.f (k : Nat) (l : List Int) (a b c : Int) : Option Bool :=
  if (l.length * 1 ≤ 140737488351232 ∧ ∀ b_ ∈ l, (Lit.int .u8 b_).wf = true) ∧ ((Lit.int .i64 a).wf = true ∧ (Lit.int .i64 b).wf = true ∧ (Lit.int .i64 c).wf = true) then some true else none
set_option maxRecDepth 100000 in
set_option maxHeartbeats 8000000 in
theorem exerguelaw07_OperIn.calls (k : Nat) (A0_0 : Option Addr) (c0_0 : Nat) (l0_0 : List Int) (a0_1 : Int) (a0_2 : Int) (a0_3 : Int) (r : Bool) (w : World) (hG : GL w) (hr0_0 : Kd.C (Kd.int .u8) w A0_0 l0_0.length l0_0) (hc0_0 : l0_0.length ≤ c0_0) (h : exerguelaw07_OperIn.f k l0_0 a0_1 a0_2 a0_3 = some r) :
    Calls Tryd.prog 7 #[.agg #[.slice A0_0 l0_0.length c0_0, .int .i64 a0_1, .int .i64 a0_2, .int .i64 a0_3]] w fun e w' => e = .returned (.bool r) ∧ Below w.heap.size w w' := by
  unfold exerguelaw07_OperIn.f at h
  split at h
  · obtain rfl := Option.some.inj h
    rename_i hb
    obtain ⟨⟨hz, hw⟩, wa, wb, wc⟩ := hb
    have ba := wf_i64 wa
    have bb := wf_i64 wb
    have bc := wf_i64 wc
    obtain ⟨ns, hs⟩ := shown_ev.rounds
    have HSH := Aside0.mk hs
    have HG := Aside0.mk hG
    have HR := Aside0.mk hr0_0
    have HC := Aside0.mk hc0_0
    have hu1 := Tryd.underlying46
    have HB := Aside0.mk ((Below.refl _ w).alloc (Nat.le_refl _) (.cells #[.slice A0_0 l0_0.length c0_0, .int .i64 a0_1, .int .i64 a0_2, .int .i64 a0_3] 46))
    clear hG hr0_0 hc0_0 hs wa wb wc
    by_cases h1 : (l0_0.length : Int) > 1000
    · have D1 : decide ((l0_0.length : Int) > 1000) = true := decide_eq_true h1
      clear ba bb bc h1 hw hz
      go_enter Tryd.func7, Tryd.ntmps7
      go_wp2_with (first | (go_at_call 10; have hq := exerguelaw07_shown.calls _ _ _ (GL.below HG.out HB.out) HSH.out; (with_reducible refine hq.mono ?_); clear hq; rintro e_ w' ⟨rfl, hb_⟩; have HB' := Aside0.mk (HB.out.trans (hb_.mono HB.out.size)); clear HB; have HB := HB'; clear HB' hb_))
      go_ret
      exact ⟨rfl, HB.out⟩
    · have D1 : decide ((l0_0.length : Int) > 1000) = false := decide_eq_false h1
      obtain ⟨nf, hfg⟩ := (refFig_ev l0_0 (by omega)).rounds
      cases hb' : figsB l0_0 with
      | false =>
        rw [hb'] at hfg
        have HFG := Aside0.mk hfg
        clear ba bb bc h1 hw hz hfg
        go_enter Tryd.func7, Tryd.ntmps7
        go_wp2_with (first | (go_at_call 10; have hq := exerguelaw07_shown.calls _ _ _ (GL.below HG.out HB.out) HSH.out; (with_reducible refine hq.mono ?_); clear hq; rintro e_ w' ⟨rfl, hb_⟩; have HB' := Aside0.mk (HB.out.trans (hb_.mono HB.out.size)); clear HB; have HB := HB'; clear HB' hb_) | (go_at_call 11; have hq := figs_below (exergueref07_Figures.calls _ _ _ _ _ _ (Kd.C_below HR.out HB.out) HC.out HFG.out); (with_reducible refine hq.mono ?_); clear hq; rintro e_ w' ⟨rfl, hb_⟩; have HB' := Aside0.mk (HB.out.trans (hb_.mono HB.out.size)); clear HB; have HB := HB'; clear HB' hb_))
        go_ret
        exact ⟨rfl, HB.out⟩
      | true =>
        rw [hb'] at hfg
        have HFG := Aside0.mk hfg
        have hf := (figsB_iff hw).1 hb'
        have hp := num_lt hf
        have inx : ∀ x y, (-9223372036854775808 ≤ x ∧ x ≤ 9223372036854775807) → (-9223372036854775808 ≤ y ∧ y ≤ 9223372036854775807) → oper_In.f l0_0 x y = some (inD l0_0 x y) := by
          intro x y hx hy
          obtain ⟨_, h⟩ := (in_ev hf (by omega) x y hx hy).rounds
          exact h
        have i0 := inx a0_1 a0_2 ba bb
        clear hfg hb' h1 hw hz
        by_cases hab : a0_1 ≤ a0_2
        · by_cases hin : (0 ≤ a0_2 ∧ (0 ≤ a0_1 → a0_1 ≤ num l0_0) ∧ num l0_0 ≤ a0_2)
          · rw [(inD_iff _ _ _).2 hin] at i0
            have I0 := Aside0.mk i0
            by_cases hca : a0_3 < a0_1
            · skip
              have i1 := inx a0_3 a0_2 bc bb
              rw [(inD_iff _ _ _).2 (by omega)] at i1
              have I1 := Aside0.mk i1
              have i2 := inx a0_1 a0_2 ba bb
              rw [(inD_iff _ _ _).2 (by omega)] at i2
              have I2 := Aside0.mk i2
              have D2 : decide (a0_1 ≤ a0_2) = true := decide_eq_true hab
              have D3 : decide (a0_1 > a0_2) = false := decide_eq_false (by omega)
              have D4 : decide (a0_3 < a0_1) = true := decide_eq_true hca
              have D5 : decide (a0_2 < a0_3) = false := decide_eq_false (by omega)
              have D6 : decide (a0_3 ≤ a0_1) = true := decide_eq_true (by omega)
              have hx1 : ¬ a0_2 < a0_3 := by omega
              clear inx ba bb bc hp hf hin i0 i1 i2
              go_enter Tryd.func7, Tryd.ntmps7
              go_wp2_with (first | (go_at_call 10; have hq := exerguelaw07_shown.calls _ _ _ (GL.below HG.out HB.out) HSH.out; (with_reducible refine hq.mono ?_); clear hq; rintro e_ w' ⟨rfl, hb_⟩; have HB' := Aside0.mk (HB.out.trans (hb_.mono HB.out.size)); clear HB; have HB := HB'; clear HB' hb_) | (go_at_call 11; have hq := figs_below (exergueref07_Figures.calls _ _ _ _ _ _ (Kd.C_below HR.out HB.out) HC.out HFG.out); (with_reducible refine hq.mono ?_); clear hq; rintro e_ w' ⟨rfl, hb_⟩; have HB' := Aside0.mk (HB.out.trans (hb_.mono HB.out.size)); clear HB; have HB := HB'; clear HB' hb_) | (go_at_call 14; have hq := oper_In.calls _ _ _ _ _ _ _ (GL.below HG.out HB.out) (Kd.C_below HR.out HB.out) HC.out I0.out; (with_reducible refine hq.mono ?_); clear hq; rintro e_ w' ⟨rfl, hb_⟩; have HB' := Aside0.mk (HB.out.trans (hb_.mono HB.out.size)); clear HB; have HB := HB'; clear HB' hb_; apply parkedX))
              unfold ParkedX
              iterate 9 (first | go_values | go_big_skip | go_skip | go_guarded | go_step | go_upon | go_back | go_simp)
              simp only [List.append_eq, List.cons_append, List.nil_append]
              go_wp2_with (first | (go_at_call 14; have hq := oper_In.calls _ _ _ _ _ _ _ (GL.below HG.out HB.out) (Kd.C_below HR.out HB.out) HC.out I1.out; (with_reducible refine hq.mono ?_); clear hq; rintro e_ w' ⟨rfl, hb_⟩; have HB' := Aside0.mk (HB.out.trans (hb_.mono HB.out.size)); clear HB; have HB := HB'; clear HB' hb_) | (go_at_call 14; have hq := oper_In.calls _ _ _ _ _ _ _ (GL.below HG.out HB.out) (Kd.C_below HR.out HB.out) HC.out I2.out; (with_reducible refine hq.mono ?_); clear hq; rintro e_ w' ⟨rfl, hb_⟩; have HB' := Aside0.mk (HB.out.trans (hb_.mono HB.out.size)); clear HB; have HB := HB'; clear HB' hb_))
              go_ret
              exact ⟨rfl, HB.out⟩
            by_cases hcb : a0_3 > a0_2
            · skip
              have i1 := inx a0_1 a0_2 ba bb
              rw [(inD_iff _ _ _).2 (by omega)] at i1
              have I1 := Aside0.mk i1
              have i2 := inx a0_1 a0_3 ba bc
              rw [(inD_iff _ _ _).2 (by omega)] at i2
              have I2 := Aside0.mk i2
              have D2 : decide (a0_1 ≤ a0_2) = true := decide_eq_true hab
              have D3 : decide (a0_1 > a0_2) = false := decide_eq_false (by omega)
              have D4 : decide (a0_3 < a0_1) = false := decide_eq_false hca
              have D5 : decide (a0_3 > a0_2) = true := decide_eq_true hcb
              have hx2 : a0_2 < a0_3 := hcb
              clear inx ba bb bc hp hf hin i0 i1 i2
              go_enter Tryd.func7, Tryd.ntmps7
              go_wp2_with (first | (go_at_call 10; have hq := exerguelaw07_shown.calls _ _ _ (GL.below HG.out HB.out) HSH.out; (with_reducible refine hq.mono ?_); clear hq; rintro e_ w' ⟨rfl, hb_⟩; have HB' := Aside0.mk (HB.out.trans (hb_.mono HB.out.size)); clear HB; have HB := HB'; clear HB' hb_) | (go_at_call 11; have hq := figs_below (exergueref07_Figures.calls _ _ _ _ _ _ (Kd.C_below HR.out HB.out) HC.out HFG.out); (with_reducible refine hq.mono ?_); clear hq; rintro e_ w' ⟨rfl, hb_⟩; have HB' := Aside0.mk (HB.out.trans (hb_.mono HB.out.size)); clear HB; have HB := HB'; clear HB' hb_) | (go_at_call 14; have hq := oper_In.calls _ _ _ _ _ _ _ (GL.below HG.out HB.out) (Kd.C_below HR.out HB.out) HC.out I0.out; (with_reducible refine hq.mono ?_); clear hq; rintro e_ w' ⟨rfl, hb_⟩; have HB' := Aside0.mk (HB.out.trans (hb_.mono HB.out.size)); clear HB; have HB := HB'; clear HB' hb_; apply parkedX))
              unfold ParkedX
              iterate 9 (first | go_values | go_big_skip | go_skip | go_guarded | go_step | go_upon | go_back | go_simp)
              simp only [List.append_eq, List.cons_append, List.nil_append]
              go_wp2_with (first | (go_at_call 14; have hq := oper_In.calls _ _ _ _ _ _ _ (GL.below HG.out HB.out) (Kd.C_below HR.out HB.out) HC.out I1.out; (with_reducible refine hq.mono ?_); clear hq; rintro e_ w' ⟨rfl, hb_⟩; have HB' := Aside0.mk (HB.out.trans (hb_.mono HB.out.size)); clear HB; have HB := HB'; clear HB' hb_) | (go_at_call 14; have hq := oper_In.calls _ _ _ _ _ _ _ (GL.below HG.out HB.out) (Kd.C_below HR.out HB.out) HC.out I2.out; (with_reducible refine hq.mono ?_); clear hq; rintro e_ w' ⟨rfl, hb_⟩; have HB' := Aside0.mk (HB.out.trans (hb_.mono HB.out.size)); clear HB; have HB := HB'; clear HB' hb_))
              go_ret
              exact ⟨rfl, HB.out⟩
            skip
            · skip
              have i1 := inx a0_1 a0_2 ba bb
              rw [(inD_iff _ _ _).2 (by omega)] at i1
              have I1 := Aside0.mk i1
              have i2 := inx a0_1 a0_2 ba bb
              rw [(inD_iff _ _ _).2 (by omega)] at i2
              have I2 := Aside0.mk i2
              have hx1 : ¬ a0_2 < a0_3 := hcb
              have i3 := inx a0_1 a0_3 ba bc
              by_cases hq : num l0_0 ≤ a0_3
              · rw [(inD_iff _ _ _).2 (by omega)] at i3
                have I3 := Aside0.mk i3
                have D2 : decide (a0_1 ≤ a0_2) = true := decide_eq_true hab
                have D3 : decide (a0_1 > a0_2) = false := decide_eq_false (by omega)
                have D4 : decide (a0_3 < a0_1) = false := decide_eq_false hca
                have D5 : decide (a0_3 > a0_2) = false := decide_eq_false hcb
                clear inx ba bb bc hp hf hin i0 i1 i2 i3 hq
                go_enter Tryd.func7, Tryd.ntmps7
                go_wp2_with (first | (go_at_call 10; have hq := exerguelaw07_shown.calls _ _ _ (GL.below HG.out HB.out) HSH.out; (with_reducible refine hq.mono ?_); clear hq; rintro e_ w' ⟨rfl, hb_⟩; have HB' := Aside0.mk (HB.out.trans (hb_.mono HB.out.size)); clear HB; have HB := HB'; clear HB' hb_) | (go_at_call 11; have hq := figs_below (exergueref07_Figures.calls _ _ _ _ _ _ (Kd.C_below HR.out HB.out) HC.out HFG.out); (with_reducible refine hq.mono ?_); clear hq; rintro e_ w' ⟨rfl, hb_⟩; have HB' := Aside0.mk (HB.out.trans (hb_.mono HB.out.size)); clear HB; have HB := HB'; clear HB' hb_) | (go_at_call 14; have hq := oper_In.calls _ _ _ _ _ _ _ (GL.below HG.out HB.out) (Kd.C_below HR.out HB.out) HC.out I0.out; (with_reducible refine hq.mono ?_); clear hq; rintro e_ w' ⟨rfl, hb_⟩; have HB' := Aside0.mk (HB.out.trans (hb_.mono HB.out.size)); clear HB; have HB := HB'; clear HB' hb_; apply parkedX))
                unfold ParkedX
                iterate 9 (first | go_values | go_big_skip | go_skip | go_guarded | go_step | go_upon | go_back | go_simp)
                simp only [List.append_eq, List.cons_append, List.nil_append]
                go_wp2_with (first | (go_at_call 14; have hq := oper_In.calls _ _ _ _ _ _ _ (GL.below HG.out HB.out) (Kd.C_below HR.out HB.out) HC.out I1.out; (with_reducible refine hq.mono ?_); clear hq; rintro e_ w' ⟨rfl, hb_⟩; have HB' := Aside0.mk (HB.out.trans (hb_.mono HB.out.size)); clear HB; have HB := HB'; clear HB' hb_) | (go_at_call 14; have hq := oper_In.calls _ _ _ _ _ _ _ (GL.below HG.out HB.out) (Kd.C_below HR.out HB.out) HC.out I2.out; (with_reducible refine hq.mono ?_); clear hq; rintro e_ w' ⟨rfl, hb_⟩; have HB' := Aside0.mk (HB.out.trans (hb_.mono HB.out.size)); clear HB; have HB := HB'; clear HB' hb_) | (go_at_call 14; have hq := oper_In.calls _ _ _ _ _ _ _ (GL.below HG.out HB.out) (Kd.C_below HR.out HB.out) HC.out I3.out; (with_reducible refine hq.mono ?_); clear hq; rintro e_ w' ⟨rfl, hb_⟩; have HB' := Aside0.mk (HB.out.trans (hb_.mono HB.out.size)); clear HB; have HB := HB'; clear HB' hb_))
                go_ret
                exact ⟨rfl, HB.out⟩
              · rw [inD_no (by omega)] at i3
                have I3 := Aside0.mk i3
                have hcl : a0_3 < a0_2 := by omega
                have i4 := inx (a0_3 + 1) a0_2 (by omega) bb
                rw [(inD_iff _ _ _).2 (by omega)] at i4
                have I4 := Aside0.mk i4
                have hwp : IntKind.i64.wrap (a0_3 + 1) = a0_3 + 1 := by rw [IntKind.wrap_i64]; omega
                have D2 : decide (a0_1 ≤ a0_2) = true := decide_eq_true hab
                have D3 : decide (a0_1 > a0_2) = false := decide_eq_false (by omega)
                have D4 : decide (a0_3 < a0_1) = false := decide_eq_false hca
                have D5 : decide (a0_3 > a0_2) = false := decide_eq_false hcb
                have D6 : decide (a0_3 < a0_2) = true := decide_eq_true hcl
                clear inx ba bb bc hp hf hin i0 i1 i2 i3 i4 hq
                go_enter Tryd.func7, Tryd.ntmps7
                go_wp2_with (first | (go_at_call 10; have hq := exerguelaw07_shown.calls _ _ _ (GL.below HG.out HB.out) HSH.out; (with_reducible refine hq.mono ?_); clear hq; rintro e_ w' ⟨rfl, hb_⟩; have HB' := Aside0.mk (HB.out.trans (hb_.mono HB.out.size)); clear HB; have HB := HB'; clear HB' hb_) | (go_at_call 11; have hq := figs_below (exergueref07_Figures.calls _ _ _ _ _ _ (Kd.C_below HR.out HB.out) HC.out HFG.out); (with_reducible refine hq.mono ?_); clear hq; rintro e_ w' ⟨rfl, hb_⟩; have HB' := Aside0.mk (HB.out.trans (hb_.mono HB.out.size)); clear HB; have HB := HB'; clear HB' hb_) | (go_at_call 14; have hq := oper_In.calls _ _ _ _ _ _ _ (GL.below HG.out HB.out) (Kd.C_below HR.out HB.out) HC.out I0.out; (with_reducible refine hq.mono ?_); clear hq; rintro e_ w' ⟨rfl, hb_⟩; have HB' := Aside0.mk (HB.out.trans (hb_.mono HB.out.size)); clear HB; have HB := HB'; clear HB' hb_; apply parkedX))
                unfold ParkedX
                iterate 9 (first | go_values | go_big_skip | go_skip | go_guarded | go_step | go_upon | go_back | go_simp)
                simp only [List.append_eq, List.cons_append, List.nil_append]
                go_wp2_with (first | (go_at_call 14; have hq := oper_In.calls _ _ _ _ _ _ _ (GL.below HG.out HB.out) (Kd.C_below HR.out HB.out) HC.out I1.out; (with_reducible refine hq.mono ?_); clear hq; rintro e_ w' ⟨rfl, hb_⟩; have HB' := Aside0.mk (HB.out.trans (hb_.mono HB.out.size)); clear HB; have HB := HB'; clear HB' hb_) | (go_at_call 14; have hq := oper_In.calls _ _ _ _ _ _ _ (GL.below HG.out HB.out) (Kd.C_below HR.out HB.out) HC.out I2.out; (with_reducible refine hq.mono ?_); clear hq; rintro e_ w' ⟨rfl, hb_⟩; have HB' := Aside0.mk (HB.out.trans (hb_.mono HB.out.size)); clear HB; have HB := HB'; clear HB' hb_) | (go_at_call 14; have hq := oper_In.calls _ _ _ _ _ _ _ (GL.below HG.out HB.out) (Kd.C_below HR.out HB.out) HC.out I3.out; (with_reducible refine hq.mono ?_); clear hq; rintro e_ w' ⟨rfl, hb_⟩; have HB' := Aside0.mk (HB.out.trans (hb_.mono HB.out.size)); clear HB; have HB := HB'; clear HB' hb_) | (go_at_call 14; have hq := oper_In.calls _ _ _ _ _ _ _ (GL.below HG.out HB.out) (Kd.C_below HR.out HB.out) HC.out I4.out; (with_reducible refine hq.mono ?_); clear hq; rintro e_ w' ⟨rfl, hb_⟩; have HB' := Aside0.mk (HB.out.trans (hb_.mono HB.out.size)); clear HB; have HB := HB'; clear HB' hb_))
                go_ret
                exact ⟨rfl, HB.out⟩
          · rw [inD_no hin] at i0
            have I0 := Aside0.mk i0
            by_cases hca : a0_3 < a0_1
            · skip
              have D2 : decide (a0_1 ≤ a0_2) = true := decide_eq_true hab
              have D3 : decide (a0_1 > a0_2) = false := decide_eq_false (by omega)
              have D4 : decide (a0_3 < a0_1) = true := decide_eq_true hca
              clear inx ba bb bc hp hf hin i0
              go_enter Tryd.func7, Tryd.ntmps7
              go_wp2_with (first | (go_at_call 10; have hq := exerguelaw07_shown.calls _ _ _ (GL.below HG.out HB.out) HSH.out; (with_reducible refine hq.mono ?_); clear hq; rintro e_ w' ⟨rfl, hb_⟩; have HB' := Aside0.mk (HB.out.trans (hb_.mono HB.out.size)); clear HB; have HB := HB'; clear HB' hb_) | (go_at_call 11; have hq := figs_below (exergueref07_Figures.calls _ _ _ _ _ _ (Kd.C_below HR.out HB.out) HC.out HFG.out); (with_reducible refine hq.mono ?_); clear hq; rintro e_ w' ⟨rfl, hb_⟩; have HB' := Aside0.mk (HB.out.trans (hb_.mono HB.out.size)); clear HB; have HB := HB'; clear HB' hb_) | (go_at_call 14; have hq := oper_In.calls _ _ _ _ _ _ _ (GL.below HG.out HB.out) (Kd.C_below HR.out HB.out) HC.out I0.out; (with_reducible refine hq.mono ?_); clear hq; rintro e_ w' ⟨rfl, hb_⟩; have HB' := Aside0.mk (HB.out.trans (hb_.mono HB.out.size)); clear HB; have HB := HB'; clear HB' hb_; apply parkedX))
              unfold ParkedX
              iterate 9 (first | go_values | go_big_skip | go_skip | go_guarded | go_step | go_upon | go_back | go_simp)
              simp only [List.append_eq, List.cons_append, List.nil_append]
              go_wp2_with (first | fail)
              go_ret
              exact ⟨rfl, HB.out⟩
            by_cases hcb : a0_3 > a0_2
            · skip
              have D2 : decide (a0_1 ≤ a0_2) = true := decide_eq_true hab
              have D3 : decide (a0_1 > a0_2) = false := decide_eq_false (by omega)
              have D4 : decide (a0_3 < a0_1) = false := decide_eq_false hca
              have D5 : decide (a0_3 > a0_2) = true := decide_eq_true hcb
              clear inx ba bb bc hp hf hin i0
              go_enter Tryd.func7, Tryd.ntmps7
              go_wp2_with (first | (go_at_call 10; have hq := exerguelaw07_shown.calls _ _ _ (GL.below HG.out HB.out) HSH.out; (with_reducible refine hq.mono ?_); clear hq; rintro e_ w' ⟨rfl, hb_⟩; have HB' := Aside0.mk (HB.out.trans (hb_.mono HB.out.size)); clear HB; have HB := HB'; clear HB' hb_) | (go_at_call 11; have hq := figs_below (exergueref07_Figures.calls _ _ _ _ _ _ (Kd.C_below HR.out HB.out) HC.out HFG.out); (with_reducible refine hq.mono ?_); clear hq; rintro e_ w' ⟨rfl, hb_⟩; have HB' := Aside0.mk (HB.out.trans (hb_.mono HB.out.size)); clear HB; have HB := HB'; clear HB' hb_) | (go_at_call 14; have hq := oper_In.calls _ _ _ _ _ _ _ (GL.below HG.out HB.out) (Kd.C_below HR.out HB.out) HC.out I0.out; (with_reducible refine hq.mono ?_); clear hq; rintro e_ w' ⟨rfl, hb_⟩; have HB' := Aside0.mk (HB.out.trans (hb_.mono HB.out.size)); clear HB; have HB := HB'; clear HB' hb_; apply parkedX))
              unfold ParkedX
              iterate 9 (first | go_values | go_big_skip | go_skip | go_guarded | go_step | go_upon | go_back | go_simp)
              simp only [List.append_eq, List.cons_append, List.nil_append]
              go_wp2_with (first | fail)
              go_ret
              exact ⟨rfl, HB.out⟩
            have i3 := inx a0_1 a0_3 ba bc
            rw [inD_no (by omega)] at i3
            have I3 := Aside0.mk i3
            by_cases hcl : a0_3 < a0_2
            · have i4 := inx (a0_3 + 1) a0_2 (by omega) bb
              rw [inD_no (by omega)] at i4
              have I4 := Aside0.mk i4
              have hwp : IntKind.i64.wrap (a0_3 + 1) = a0_3 + 1 := by rw [IntKind.wrap_i64]; omega
              have D2 : decide (a0_1 ≤ a0_2) = true := decide_eq_true hab
              have D3 : decide (a0_1 > a0_2) = false := decide_eq_false (by omega)
              have D4 : decide (a0_3 < a0_1) = false := decide_eq_false hca
              have D5 : decide (a0_3 > a0_2) = false := decide_eq_false hcb
              have D6 : decide (a0_3 < a0_2) = true := decide_eq_true hcl
              clear inx ba bb bc hp hf hin i0 i3 i4
              go_enter Tryd.func7, Tryd.ntmps7
              go_wp2_with (first | (go_at_call 10; have hq := exerguelaw07_shown.calls _ _ _ (GL.below HG.out HB.out) HSH.out; (with_reducible refine hq.mono ?_); clear hq; rintro e_ w' ⟨rfl, hb_⟩; have HB' := Aside0.mk (HB.out.trans (hb_.mono HB.out.size)); clear HB; have HB := HB'; clear HB' hb_) | (go_at_call 11; have hq := figs_below (exergueref07_Figures.calls _ _ _ _ _ _ (Kd.C_below HR.out HB.out) HC.out HFG.out); (with_reducible refine hq.mono ?_); clear hq; rintro e_ w' ⟨rfl, hb_⟩; have HB' := Aside0.mk (HB.out.trans (hb_.mono HB.out.size)); clear HB; have HB := HB'; clear HB' hb_) | (go_at_call 14; have hq := oper_In.calls _ _ _ _ _ _ _ (GL.below HG.out HB.out) (Kd.C_below HR.out HB.out) HC.out I0.out; (with_reducible refine hq.mono ?_); clear hq; rintro e_ w' ⟨rfl, hb_⟩; have HB' := Aside0.mk (HB.out.trans (hb_.mono HB.out.size)); clear HB; have HB := HB'; clear HB' hb_; apply parkedX))
              unfold ParkedX
              iterate 9 (first | go_values | go_big_skip | go_skip | go_guarded | go_step | go_upon | go_back | go_simp)
              simp only [List.append_eq, List.cons_append, List.nil_append]
              go_wp2_with (first | (go_at_call 14; have hq := oper_In.calls _ _ _ _ _ _ _ (GL.below HG.out HB.out) (Kd.C_below HR.out HB.out) HC.out I3.out; (with_reducible refine hq.mono ?_); clear hq; rintro e_ w' ⟨rfl, hb_⟩; have HB' := Aside0.mk (HB.out.trans (hb_.mono HB.out.size)); clear HB; have HB := HB'; clear HB' hb_) | (go_at_call 14; have hq := oper_In.calls _ _ _ _ _ _ _ (GL.below HG.out HB.out) (Kd.C_below HR.out HB.out) HC.out I4.out; (with_reducible refine hq.mono ?_); clear hq; rintro e_ w' ⟨rfl, hb_⟩; have HB' := Aside0.mk (HB.out.trans (hb_.mono HB.out.size)); clear HB; have HB := HB'; clear HB' hb_))
              go_ret
              exact ⟨rfl, HB.out⟩
            ·
              have D2 : decide (a0_1 ≤ a0_2) = true := decide_eq_true hab
              have D3 : decide (a0_1 > a0_2) = false := decide_eq_false (by omega)
              have D4 : decide (a0_3 < a0_1) = false := decide_eq_false hca
              have D5 : decide (a0_3 > a0_2) = false := decide_eq_false hcb
              have D6 : decide (a0_3 < a0_2) = false := decide_eq_false hcl
              clear inx ba bb bc hp hf hin i0 i3
              go_enter Tryd.func7, Tryd.ntmps7
              go_wp2_with (first | (go_at_call 10; have hq := exerguelaw07_shown.calls _ _ _ (GL.below HG.out HB.out) HSH.out; (with_reducible refine hq.mono ?_); clear hq; rintro e_ w' ⟨rfl, hb_⟩; have HB' := Aside0.mk (HB.out.trans (hb_.mono HB.out.size)); clear HB; have HB := HB'; clear HB' hb_) | (go_at_call 11; have hq := figs_below (exergueref07_Figures.calls _ _ _ _ _ _ (Kd.C_below HR.out HB.out) HC.out HFG.out); (with_reducible refine hq.mono ?_); clear hq; rintro e_ w' ⟨rfl, hb_⟩; have HB' := Aside0.mk (HB.out.trans (hb_.mono HB.out.size)); clear HB; have HB := HB'; clear HB' hb_) | (go_at_call 14; have hq := oper_In.calls _ _ _ _ _ _ _ (GL.below HG.out HB.out) (Kd.C_below HR.out HB.out) HC.out I0.out; (with_reducible refine hq.mono ?_); clear hq; rintro e_ w' ⟨rfl, hb_⟩; have HB' := Aside0.mk (HB.out.trans (hb_.mono HB.out.size)); clear HB; have HB := HB'; clear HB' hb_; apply parkedX))
              unfold ParkedX
              iterate 9 (first | go_values | go_big_skip | go_skip | go_guarded | go_step | go_upon | go_back | go_simp)
              simp only [List.append_eq, List.cons_append, List.nil_append]
              go_wp2_with (first | (go_at_call 14; have hq := oper_In.calls _ _ _ _ _ _ _ (GL.below HG.out HB.out) (Kd.C_below HR.out HB.out) HC.out I3.out; (with_reducible refine hq.mono ?_); clear hq; rintro e_ w' ⟨rfl, hb_⟩; have HB' := Aside0.mk (HB.out.trans (hb_.mono HB.out.size)); clear HB; have HB := HB'; clear HB' hb_))
              go_ret
              exact ⟨rfl, HB.out⟩
        · rw [inD_no (by omega)] at i0
          have I0 := Aside0.mk i0
          have D2 : decide (a0_1 ≤ a0_2) = false := decide_eq_false hab
          have D3 : decide (a0_1 > a0_2) = true := decide_eq_true (by omega)
          clear inx ba bb bc hp hf i0
          go_enter Tryd.func7, Tryd.ntmps7
          go_wp2_with (first | (go_at_call 10; have hq := exerguelaw07_shown.calls _ _ _ (GL.below HG.out HB.out) HSH.out; (with_reducible refine hq.mono ?_); clear hq; rintro e_ w' ⟨rfl, hb_⟩; have HB' := Aside0.mk (HB.out.trans (hb_.mono HB.out.size)); clear HB; have HB := HB'; clear HB' hb_) | (go_at_call 11; have hq := figs_below (exergueref07_Figures.calls _ _ _ _ _ _ (Kd.C_below HR.out HB.out) HC.out HFG.out); (with_reducible refine hq.mono ?_); clear hq; rintro e_ w' ⟨rfl, hb_⟩; have HB' := Aside0.mk (HB.out.trans (hb_.mono HB.out.size)); clear HB; have HB := HB'; clear HB' hb_) | (go_at_call 14; have hq := oper_In.calls _ _ _ _ _ _ _ (GL.below HG.out HB.out) (Kd.C_below HR.out HB.out) HC.out I0.out; (with_reducible refine hq.mono ?_); clear hq; rintro e_ w' ⟨rfl, hb_⟩; have HB' := Aside0.mk (HB.out.trans (hb_.mono HB.out.size)); clear HB; have HB := HB'; clear HB' hb_; apply parkedX))
          unfold ParkedX
          iterate 9 (first | go_values | go_big_skip | go_skip | go_guarded | go_step | go_upon | go_back | go_simp)
          simp only [List.append_eq, List.cons_append, List.nil_append]
          go_wp2_with (first | fail)
          go_ret
          exact ⟨rfl, HB.out⟩
  · cases h
end Go.Proofs.YtekinhnempbioaaDoor.PZ
