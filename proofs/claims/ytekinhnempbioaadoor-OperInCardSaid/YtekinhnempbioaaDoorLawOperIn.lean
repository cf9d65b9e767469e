/- The row and the card of the law OperIn: its walk, and the pure statement that is proved in YtekinhnempbioaaDoorPureOperIn.
   Conditions: those of the row (its listed tables read as listed, which the card ties to the program's text). -/
import Derived.Test.YtekinhnempbioaaDoorRows
import Derived.Test.YtekinhnempbioaaDoorTie
import Derived.Test.YtekinhnempbioaaDoorCards
import Derived.Test.YtekinhnempbioaaDoorOpen
import Derived.Test.YtekinhnempbioaaDoorOperIn
import Derived.Test.YtekinhnempbioaaDoorPureOperIn
import Derived.WalkKit
import Derived.ProofKit
import Derived.OpenShut
import Derived.ShutString
import Derived.ChangeOld
import Derived.Below
import Derived.SizedLaws
import Derived.LaidMore
import Derived.Lay
import Derived.SevenTiedAt
import Derived.Stop.Joined
import Derived.Carry
namespace Go.Proofs.YtekinhnempbioaaDoor.operIn
open Go.ChangeShapes Go.WideShapes Go.ChangeAt Go.RowKit Go.Proofs.YtekinhnempbioaaDoor.PZ
open Go.ChangeMaps (open_string shut_string)
set_option linter.unusedVariables false
theorem own : ownKnob Tryd.prog.godebug = none := by kernel_rfl
theorem laidOut : laidOutB Tryd.prog = true := by kernel_rfl
set_option maxRecDepth 100000 in
theorem lifted (os : Os) (started : os.Started) (H : Type) (enc : TypeId × Value → H) :
    ReturnsInHanded {} Tryd.checked os 7 .any (fun w args => (Rows.operInSpec.pre enc Tryd.prog Tryd.f7 Rows.operInRow.domain false w args ∧ laidMetH Tryd.prog Rows.operInRow.laid w) ∧ sizedMet enc Tryd.prog Tryd.f7 (OpenSpec.ofChange Rows.operInSpec) false w args)
      (Rows.operInSpec.post enc Tryd.prog Tryd.f7 false true false false) := by
  refine returnsInHanded_of_change_and (C := Tryd.checked) (X := fun w _ => laidMetH Tryd.prog Rows.operInRow.laid w) (fun _ _ _ hh h => h.of_heap hh) own started (by kernel_rfl) Tryd.func7
    (ChangeSpec.witness_shaped (enc := enc) (C := Tryd.checked) (os := os) (X := fun w _ => laidMetH Tryd.prog Rows.operInRow.laid w) false (World.laidAll Tryd.prog os Rows.operInRow.laid) #[.agg #[.slice none 0 0, .int .i64 0, .int .i64 0, .int .i64 0]] 8 (World.laidAll_os _ _ _)
      (World.shaped_of_ZipB (by kernel_rfl) (by kernel_rfl)) (by kernel_rfl) (by kernel_rfl) (by kernel_rfl)
      (by rw [MakeChecks.laidMetH_plain _ _ _ (by kernel_rfl)]; exact laidMet_laidAll _ (by kernel_rfl) (by kernel_rfl))) ?_
  intro W base args ds gs before hval0 hW hcnd hz0 hL hsz0
  have hval : ∀ (j : Nat) t v, Tryd.f7.params[j]? = some t → args[j]? = some v → Value.okWide Tryd.prog W .any base t v := hval0
  have hW' := hW
  obtain ⟨p, q, hA0, hV, rfl, hfz, hnd⟩ := hW
  have hA : DataW.TrodAll enc Tryd.prog W 0 (fun _ => true) true Tryd.f7.params.toList args.toList ds p := hA0
  rw [Tryd.params7] at hA hval hz0
  obtain ⟨v0, vs0, d0, ds0, p0, q0, hargs, rfl, rfl, h0, r0⟩ := trodAll_cons hA
  obtain ⟨rfl, rfl, rfl⟩ := trodAll_nil r0
  obtain rfl : args = #[v0] := by cases args; simp_all
  obtain ⟨rfl, rfl⟩ := trodVars_none hV
  have k0 := h0
  have lt0 : ∀ x ∈ p0, x.block < W.heap.size := by obtain ⟨m, hm⟩ := k0; exact DataW.trod_lt m _ _ _ hm
  obtain ⟨fuel0, hf0⟩ := h0
  have zz0 : ∀ n ∈ d0.weights Tryd.prog 46, n ≤ reachBytes := fun n hn => by have hk := List.all_eq_true.1 hz0 n (DataW.weights_mem_each (j := 0) (t := 46) (d := d0) rfl rfl n hn); simpa using hk
  obtain ⟨Ax0_0, x0_0, cx0_0, x0_1, x0_2, x0_3, hcs0, rx0_0, qx0_0, mx0_0, zx0_0, wx0_0, wx0_1, wx0_2, wx0_3⟩ := open_t46 hf0 zz0
  obtain ⟨cs0, rfl, _⟩ := okWide_struct Tryd.underlying46 (hval 0 46 v0 rfl rfl)
  have hv0 : cs0.toList = [.slice Ax0_0 x0_0.length cx0_0, .int .i64 x0_1, .int .i64 x0_2, .int .i64 x0_3] := hcs0
  obtain rfl : cs0 = #[.slice Ax0_0 x0_0.length cx0_0, .int .i64 x0_1, .int .i64 x0_2, .int .i64 x0_3] := by cases cs0; simpa using hv0
  clear hA0 hval0 hsz0 hz0
  obtain ⟨k, hk⟩ := Pure.OperIn x0_0 x0_1 x0_2 x0_3 zx0_0 wx0_0 wx0_1 wx0_2 wx0_3
  refine (exerguelaw07_OperIn.calls k _ _ x0_0 x0_1 x0_2 x0_3 true W (gl_of_laid hL) rx0_0 qx0_0 hk).mono fun e W' ⟨he, bel⟩ => ?_
  subst he
  exact ⟨_, rfl, _, _, _, [], _, [], hW', trodAll_mk1 (shut_bool Tryd.underlying4 _), (trodAll_cons_mk (Below.trod laidOut (by kernel_rfl) (of_decide_eq_true (by kernel_rfl)) k0 bel lt0) trodAll_mk0), rfl, bel.frame _, fun h => by cases h⟩
theorem over : Rows.operInRow.holds Tryd.pinned (OpenSpec.ofChange Rows.operInSpec) :=
  OpenClaim.holds_of_wide 7 Tryd.f7 rfl rfl rfl rfl rfl rfl rfl ⟨rfl, rfl, rfl, rfl, rfl⟩ rfl rfl rfl rfl rfl (by kernel_rfl) Tryd.func7 (by kernel_rfl)
    (of_decide_eq_true (by kernel_rfl)) (by unfold Func.isWrapper; first | (rw [if_pos (by decide +kernel)]; kernel_rfl) | (rw [if_neg (by decide +kernel)]; exact ⟨rfl, rfl⟩))
    (fun os started H enc _ => lifted os started H enc)
theorem proved : Rows.OperInSaid := over
theorem card : Rows.OperInCardSaid :=
  Claim7.holds_tied_plain_at .later [] [.data, .data, .data, .data, .pinned] true (true, "ab513a59666e6eb712109b42514731a4d262794ec063f29be4c5f2bc483840d8") false proved (fun _ h => by cases h) (by kernel_rfl) (fun _ h => by cases h) operIn_row_tie rfl ⟨rfl, rfl⟩ (by kernel_rfl) rfl
    (fun f fn hf hfn => by
      obtain rfl : f = 7 := Option.some.inj ((show Tryd.prog.funcNamed "exergue/exerguelaw07.OperIn" = some 7 by kernel_rfl).symm.trans hf) |>.symm
      obtain rfl : fn = Tryd.f7 := (Option.some.inj (Tryd.func7.symm.trans hfn)).symm
      exact ⟨by kernel_rfl, fun j t ht => by
        rw [Tryd.params7] at ht
        have hm : t ∈ [46] := by simpa using Array.mem_of_getElem? ht
        have hall : ([46].all fun u => !Tryd.prog.wantsStandIn u) = true := by kernel_rfl
        exact (show Tryd.prog.wantsStandIn t = false by simpa using List.all_eq_true.1 hall t hm)⟩)
    (by kernel_rfl)
end Go.Proofs.YtekinhnempbioaaDoor.operIn
namespace Go.Proofs.YtekinhnempbioaaDoor
/-- The card, under a short name, for the claim. -/
theorem operIn_card : Rows.OperInCardSaid := operIn.card
end Go.Proofs.YtekinhnempbioaaDoor
