/- The row and the card of the law DecSides: its walk, and the pure statement that is proved in YtahkamggdbibiaaDoorPureDecSides.
   Conditions: those of the row (its listed tables read as listed, which the card ties to the program's text). -/
import Derived.Test.YtahkamggdbibiaaDoorRows
import Derived.Test.YtahkamggdbibiaaDoorTie
import Derived.Test.YtahkamggdbibiaaDoorCards
import Derived.Test.YtahkamggdbibiaaDoorOpen
import Derived.Test.YtahkamggdbibiaaDoorPZx30
import Derived.Test.YtahkamggdbibiaaDoorPureDecSides
import Derived.WalkKit
import Derived.ProofKit
import Derived.OpenShut
import Derived.ShutString
import Derived.ChangeOld
import Derived.Below
import Derived.SizedLaws
import Derived.LaidMore
import Derived.Lay
import Derived.SevenTiedAt
import Derived.Stop.Joined
import Derived.Carry
namespace Go.Proofs.YtahkamggdbibiaaDoor.decSides
open Go.ChangeShapes Go.WideShapes Go.ChangeAt Go.RowKit Go.Proofs.YtahkamggdbibiaaDoor.PZ
open Go.ChangeMaps (open_string shut_string)
set_option linter.unusedVariables false
theorem own : ownKnob Tryd.prog.godebug = none := by kernel_rfl
theorem laidOut : laidOutB Tryd.prog = true := by kernel_rfl
set_option maxRecDepth 100000 in
theorem lifted (os : Os) (started : os.Started) (H : Type) (enc : TypeId × Value → H) :
    ReturnsInHanded {} Tryd.checked os 8 .any (fun w args => (Rows.decSidesSpec.pre enc Tryd.prog Tryd.f8 Rows.decSidesRow.domain false w args ∧ laidMetH Tryd.prog Rows.decSidesRow.laid w) ∧ sizedMet enc Tryd.prog Tryd.f8 (OpenSpec.ofChange Rows.decSidesSpec) false w args)
      (Rows.decSidesSpec.post enc Tryd.prog Tryd.f8 false true false false) := by
  refine returnsInHanded_of_change_and (C := Tryd.checked) (X := fun w _ => laidMetH Tryd.prog Rows.decSidesRow.laid w) (fun _ _ _ hh h => h.of_heap hh) own started (by kernel_rfl) Tryd.func8
    (ChangeSpec.witness_shaped (enc := enc) (C := Tryd.checked) (os := os) (X := fun w _ => laidMetH Tryd.prog Rows.decSidesRow.laid w) false (World.laidAll Tryd.prog os Rows.decSidesRow.laid) #[.agg #[.bool false, .slice none 0 0, .int .i64 0], .agg #[.bool false, .slice none 0 0, .int .i64 0]] 8 (World.laidAll_os _ _ _)
      (World.shaped_of_ZipB (by kernel_rfl) (by kernel_rfl)) (by kernel_rfl) (by kernel_rfl) (by kernel_rfl)
      (by rw [MakeChecks.laidMetH_plain _ _ _ (by kernel_rfl)]; exact laidMet_laidAll _ (by kernel_rfl) (by kernel_rfl))) ?_
  intro W base args ds gs before hval0 hW hcnd _ hL hsz0
  have hval : ∀ (j : Nat) t v, Tryd.f8.params[j]? = some t → args[j]? = some v → Value.okWide Tryd.prog W .any base t v := hval0
  have hW' := hW
  obtain ⟨p, q, hA0, hV, rfl, hfz, hnd⟩ := hW
  have hA : DataW.TrodAll enc Tryd.prog W 0 (fun _ => true) true Tryd.f8.params.toList args.toList ds p := hA0
  rw [Tryd.params8] at hA hval
  obtain ⟨v0, vs0, d0, ds0, p0, q0, hargs, rfl, rfl, h0, r0⟩ := trodAll_cons hA
  obtain ⟨v1, vs1, d1, ds1, p1, q1, rfl, rfl, rfl, h1, r1⟩ := trodAll_cons r0
  obtain ⟨rfl, rfl, rfl⟩ := trodAll_nil r1
  obtain rfl : args = #[v0, v1] := by cases args; simp_all
  obtain ⟨rfl, rfl⟩ := trodVars_none hV
  have k0 := h0
  have lt0 : ∀ x ∈ p0, x.block < W.heap.size := by obtain ⟨m, hm⟩ := k0; exact DataW.trod_lt m _ _ _ hm
  obtain ⟨fuel0, hf0⟩ := h0
  obtain ⟨x0_0, Ax0_1, x0_1, cx0_1, x0_2, hcs0, rx0_1, qx0_1, mx0_1, wx0_1, wx0_2⟩ := open_t24 hf0
  obtain ⟨cs0, rfl, _⟩ := okWide_struct Tryd.underlying24 (hval 0 24 v0 rfl rfl)
  have hv0 : cs0.toList = [.bool x0_0, .slice Ax0_1 x0_1.length cx0_1, .int .i64 x0_2] := hcs0
  obtain rfl : cs0 = #[.bool x0_0, .slice Ax0_1 x0_1.length cx0_1, .int .i64 x0_2] := by cases cs0; simpa using hv0
  have k1 := h1
  have lt1 : ∀ x ∈ p1, x.block < W.heap.size := by obtain ⟨m, hm⟩ := k1; exact DataW.trod_lt m _ _ _ hm
  obtain ⟨fuel1, hf1⟩ := h1
  obtain ⟨x1_0, Ax1_1, x1_1, cx1_1, x1_2, hcs1, rx1_1, qx1_1, mx1_1, wx1_1, wx1_2⟩ := open_t24 hf1
  obtain ⟨cs1, rfl, _⟩ := okWide_struct Tryd.underlying24 (hval 1 24 v1 rfl rfl)
  have hv1 : cs1.toList = [.bool x1_0, .slice Ax1_1 x1_1.length cx1_1, .int .i64 x1_2] := hcs1
  obtain rfl : cs1 = #[.bool x1_0, .slice Ax1_1 x1_1.length cx1_1, .int .i64 x1_2] := by cases cs1; simpa using hv1
  clear hA0 hval0 hsz0
  obtain ⟨k, hk⟩ := Pure.DecSides x0_0 x0_1 x0_2 x1_0 x1_1 x1_2 mx0_1 wx0_1 wx0_2 mx1_1 wx1_1 wx1_2
  refine (exerguelaw05_DecSides.calls k x0_0 Ax0_1 cx0_1 x0_1 x0_2 x1_0 Ax1_1 cx1_1 x1_1 x1_2 true W (gl_of_laid hL) rx0_1 qx0_1 rx1_1 qx1_1 hk).mono fun e W' ⟨he, bel⟩ => ?_
  subst he
  exact ⟨_, rfl, _, _, _, [], _, [], hW', trodAll_mk1 (shut_bool Tryd.underlying4 _), (trodAll_cons_mk (Below.trod laidOut (by kernel_rfl) (of_decide_eq_true (by kernel_rfl)) k0 bel lt0) (trodAll_cons_mk (Below.trod laidOut (by kernel_rfl) (of_decide_eq_true (by kernel_rfl)) k1 bel lt1) trodAll_mk0)), rfl, bel.frame _, fun h => by cases h⟩
theorem over : Rows.decSidesRow.holds Tryd.pinned (OpenSpec.ofChange Rows.decSidesSpec) :=
  OpenClaim.holds_of_wide 8 Tryd.f8 rfl rfl rfl rfl rfl rfl rfl ⟨rfl, rfl, rfl, rfl, rfl⟩ rfl rfl rfl rfl rfl (by kernel_rfl) Tryd.func8 (by kernel_rfl)
    (of_decide_eq_true (by kernel_rfl)) (by unfold Func.isWrapper; first | (rw [if_pos (by decide +kernel)]; kernel_rfl) | (rw [if_neg (by decide +kernel)]; exact ⟨rfl, rfl⟩))
    (fun os started H enc _ => lifted os started H enc)
theorem proved : Rows.DecSidesSaid := over
theorem card : Rows.DecSidesCardSaid :=
  Claim7.holds_tied_plain_at .later [] [.data, .data, .data] true (true, "fa412157624a065f0cbecf93665c5bd2cde5ebde44aeca86cf671fc01c2deaf9") false proved (fun _ h => by cases h) (by kernel_rfl) (fun _ h => by cases h) decSides_row_tie rfl ⟨rfl, rfl⟩ (by kernel_rfl) rfl
    (fun f fn hf hfn => by
      obtain rfl : f = 8 := Option.some.inj ((show Tryd.prog.funcNamed "exergue/exerguelaw05.DecSides" = some 8 by kernel_rfl).symm.trans hf) |>.symm
      obtain rfl : fn = Tryd.f8 := (Option.some.inj (Tryd.func8.symm.trans hfn)).symm
      exact ⟨by kernel_rfl, fun j t ht => by
        rw [Tryd.params8] at ht
        have hm : t ∈ [24, 24] := by simpa using Array.mem_of_getElem? ht
        have hall : ([24, 24].all fun u => !Tryd.prog.wantsStandIn u) = true := by kernel_rfl
        exact (show Tryd.prog.wantsStandIn t = false by simpa using List.all_eq_true.1 hall t hm)⟩)
    (by kernel_rfl)
end Go.Proofs.YtahkamggdbibiaaDoor.decSides
namespace Go.Proofs.YtahkamggdbibiaaDoor
/-- The card, under a short name, for the claim. -/
theorem decSides_card : Rows.DecSidesCardSaid := decSides.card
end Go.Proofs.YtahkamggdbibiaaDoor
