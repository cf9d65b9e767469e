/- The row and the card of the law DecReads: its walk, and the pure statement that is proved in YtahkamggdbibiaaDoorPureDecReads.
   Conditions: those of the row (its listed tables read as listed, which the card ties to the program's text). -/
import Derived.Test.YtahkamggdbibiaaDoorRows
import Derived.Test.YtahkamggdbibiaaDoorTie
import Derived.Test.YtahkamggdbibiaaDoorCards
import Derived.Test.YtahkamggdbibiaaDoorOpen
import Derived.Test.YtahkamggdbibiaaDoorPZx19
import Derived.Test.YtahkamggdbibiaaDoorPureDecReads
import Derived.WalkKit
import Derived.ProofKit
import Derived.OpenShut
import Derived.ShutString
import Derived.ChangeOld
import Derived.Below
import Derived.SizedLaws
import Derived.LaidMore
import Derived.Lay
import Derived.SevenTiedAt
import Derived.Stop.Joined
import Derived.Carry
namespace Go.Proofs.YtahkamggdbibiaaDoor.decReads
open Go.ChangeShapes Go.WideShapes Go.ChangeAt Go.RowKit Go.Proofs.YtahkamggdbibiaaDoor.PZ
open Go.ChangeMaps (open_string shut_string)
set_option linter.unusedVariables false
theorem own : ownKnob Tryd.prog.godebug = none := by kernel_rfl
theorem laidOut : laidOutB Tryd.prog = true := by kernel_rfl
set_option maxRecDepth 100000 in
theorem lifted (os : Os) (started : os.Started) (H : Type) (enc : TypeId × Value → H) :
    ReturnsInHanded {} Tryd.checked os 3 .any (fun w args => (Rows.decReadsSpec.pre enc Tryd.prog Tryd.f3 Rows.decReadsRow.domain false w args ∧ laidMetH Tryd.prog Rows.decReadsRow.laid w) ∧ sizedMet enc Tryd.prog Tryd.f3 (OpenSpec.ofChange Rows.decReadsSpec) false w args)
      (Rows.decReadsSpec.post enc Tryd.prog Tryd.f3 false true false false) := by
  refine returnsInHanded_of_change_and (C := Tryd.checked) (X := fun w _ => laidMetH Tryd.prog Rows.decReadsRow.laid w) (fun _ _ _ hh h => h.of_heap hh) own started (by kernel_rfl) Tryd.func3
    (ChangeSpec.witness_shaped (enc := enc) (C := Tryd.checked) (os := os) (X := fun w _ => laidMetH Tryd.prog Rows.decReadsRow.laid w) false (World.laidAll Tryd.prog os Rows.decReadsRow.laid) #[.agg #[.bool false, .slice none 0 0, .int .i64 0], .string ByteArray.empty] 8 (World.laidAll_os _ _ _)
      (World.shaped_of_ZipB (by kernel_rfl) (by kernel_rfl)) (by kernel_rfl) (by kernel_rfl) (by kernel_rfl)
      (by rw [MakeChecks.laidMetH_plain _ _ _ (by kernel_rfl)]; exact laidMet_laidAll _ (by kernel_rfl) (by kernel_rfl))) ?_
  intro W base args ds gs before hval0 hW hcnd hz0 hL hsz0
  have hval : ∀ (j : Nat) t v, Tryd.f3.params[j]? = some t → args[j]? = some v → Value.okWide Tryd.prog W .any base t v := hval0
  have hW' := hW
  obtain ⟨p, q, hA0, hV, rfl, hfz, hnd⟩ := hW
  have hA : DataW.TrodAll enc Tryd.prog W 0 (fun _ => true) true Tryd.f3.params.toList args.toList ds p := hA0
  rw [Tryd.params3] at hA hval hz0
  obtain ⟨v0, vs0, d0, ds0, p0, q0, hargs, rfl, rfl, h0, r0⟩ := trodAll_cons hA
  obtain ⟨v1, vs1, d1, ds1, p1, q1, rfl, rfl, rfl, h1, r1⟩ := trodAll_cons r0
  obtain ⟨rfl, rfl, rfl⟩ := trodAll_nil r1
  obtain rfl : args = #[v0, v1] := by cases args; simp_all
  obtain ⟨rfl, rfl⟩ := trodVars_none hV
  have k0 := h0
  have lt0 : ∀ x ∈ p0, x.block < W.heap.size := by obtain ⟨m, hm⟩ := k0; exact DataW.trod_lt m _ _ _ hm
  obtain ⟨fuel0, hf0⟩ := h0
  have zz0 : ∀ n ∈ d0.weights Tryd.prog 24, n ≤ reachBytes := fun n hn => by have hk := List.all_eq_true.1 hz0 n (DataW.weights_mem_each (j := 0) (t := 24) (d := d0) rfl rfl n hn); simpa using hk
  obtain ⟨x0_0, Ax0_1, x0_1, cx0_1, x0_2, hcs0, rx0_1, qx0_1, mx0_1, zx0_1, wx0_1, wx0_2⟩ := open_t24 hf0 zz0
  obtain ⟨cs0, rfl, _⟩ := okWide_struct Tryd.underlying24 (hval 0 24 v0 rfl rfl)
  have hv0 : cs0.toList = [.bool x0_0, .slice Ax0_1 x0_1.length cx0_1, .int .i64 x0_2] := hcs0
  obtain rfl : cs0 = #[.bool x0_0, .slice Ax0_1 x0_1.length cx0_1, .int .i64 x0_2] := by cases cs0; simpa using hv0
  obtain ⟨x1, rfl, rfl, rfl, yx1⟩ := open_string Tryd.underlying9 (hval 1 9 v1 rfl rfl) h1
  clear hA0 hval0 hsz0 hz0
  obtain ⟨k, hk⟩ := Pure.DecReads x0_0 x0_1 x0_2 x1 mx0_1 wx0_1 wx0_2
  refine (exerguelaw05_DecReads.calls k x0_0 _ _ x0_1 x0_2 x1 true W (gl_of_laid hL) rx0_1 qx0_1 hk).mono fun e W' ⟨he, bel⟩ => ?_
  subst he
  exact ⟨_, rfl, _, _, _, [], _, [], hW', trodAll_mk1 (shut_bool Tryd.underlying4 _), (trodAll_cons_mk (Below.trod laidOut (by kernel_rfl) (of_decide_eq_true (by kernel_rfl)) k0 bel lt0) (trodAll_cons_mk (shut_string Tryd.underlying9 yx1) trodAll_mk0)), rfl, bel.frame _, fun h => by cases h⟩
theorem over : Rows.decReadsRow.holds Tryd.pinned (OpenSpec.ofChange Rows.decReadsSpec) :=
  OpenClaim.holds_of_wide 3 Tryd.f3 rfl rfl rfl rfl rfl rfl rfl ⟨rfl, rfl, rfl, rfl, rfl⟩ rfl rfl rfl rfl rfl (by kernel_rfl) Tryd.func3 (by kernel_rfl)
    (of_decide_eq_true (by kernel_rfl)) (by unfold Func.isWrapper; first | (rw [if_pos (by decide +kernel)]; kernel_rfl) | (rw [if_neg (by decide +kernel)]; exact ⟨rfl, rfl⟩))
    (fun os started H enc _ => lifted os started H enc)
theorem proved : Rows.DecReadsSaid := over
theorem card : Rows.DecReadsCardSaid :=
  Claim7.holds_tied_plain_at .later [] [.data, .data, .data] true (true, "fa412157624a065f0cbecf93665c5bd2cde5ebde44aeca86cf671fc01c2deaf9") false proved (fun _ h => by cases h) (by kernel_rfl) (fun _ h => by cases h) decReads_row_tie rfl ⟨rfl, rfl⟩ (by kernel_rfl) rfl
    (fun f fn hf hfn => by
      obtain rfl : f = 3 := Option.some.inj ((show Tryd.prog.funcNamed "exergue/exerguelaw05.DecReads" = some 3 by kernel_rfl).symm.trans hf) |>.symm
      obtain rfl : fn = Tryd.f3 := (Option.some.inj (Tryd.func3.symm.trans hfn)).symm
      exact ⟨by kernel_rfl, fun j t ht => by
        rw [Tryd.params3] at ht
        have hm : t ∈ [24, 9] := by simpa using Array.mem_of_getElem? ht
        have hall : ([24, 9].all fun u => !Tryd.prog.wantsStandIn u) = true := by kernel_rfl
        exact (show Tryd.prog.wantsStandIn t = false by simpa using List.all_eq_true.1 hall t hm)⟩)
    (by kernel_rfl)
end Go.Proofs.YtahkamggdbibiaaDoor.decReads
namespace Go.Proofs.YtahkamggdbibiaaDoor
/-- The card, under a short name, for the claim. -/
theorem decReads_card : Rows.DecReadsCardSaid := decReads.card
end Go.Proofs.YtahkamggdbibiaaDoor
