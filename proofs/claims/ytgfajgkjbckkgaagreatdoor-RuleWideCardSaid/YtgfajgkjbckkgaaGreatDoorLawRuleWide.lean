/- The row and the card of the law RuleWide: its walk, and the pure statement that is proved in YtgfajgkjbckkgaaGreatDoorPureRuleWide.
   Conditions: those of the row (its listed tables read as listed, which the card ties to the program's text). -/
import Derived.Test.YtgfajgkjbckkgaaGreatDoorRows
import Derived.Test.YtgfajgkjbckkgaaGreatDoorTie
import Derived.Test.YtgfajgkjbckkgaaGreatDoorCards
import Derived.Test.YtgfajgkjbckkgaaGreatDoorPc16
import Derived.Test.YtgfajgkjbckkgaaGreatDoorPc27
import Derived.WalkKit
import Derived.ProofKit
import Derived.OpenShut
import Derived.ShutString
import Derived.ChangeOld
import Derived.Below
import Derived.SizedLaws
import Derived.LaidMore
import Derived.Lay
import Derived.SevenTiedAt
import Derived.Stop.Joined
import Derived.Carry
namespace Go.Proofs.YtgfajgkjbckkgaaGreatDoor.ruleWide
open Go.ChangeShapes Go.WideShapes Go.ChangeAt Go.RowKit Go.Proofs.YtgfajgkjbckkgaaGreatDoor.PZ
open Go.ChangeMaps (open_string shut_string)
theorem own:ownKnob Tryz.prog.godebug=none:=by kernel_rfl
theorem laidOut:laidOutB Tryz.prog=true:=by kernel_rfl
set_option maxRecDepth 100000 in
theorem lifted (os:Os)(started:os.Started)(H:Type)(enc:TypeId×Value→H) :
    ReturnsInHanded {} Tryz.checked os 8 .any (fun w args=>(Rows.ruleWideSpec.pre enc Tryz.prog Tryz.f8 Rows.ruleWideRow.domain false w args∧laidMetH Tryz.prog Rows.ruleWideRow.laid w)∧sizedMet enc Tryz.prog Tryz.f8 (OpenSpec.ofChange Rows.ruleWideSpec) false w args)
      (Rows.ruleWideSpec.post enc Tryz.prog Tryz.f8 false true false false):=by
 refine returnsInHanded_of_change_and (C:=Tryz.checked) (X:=fun w _=>laidMetH Tryz.prog Rows.ruleWideRow.laid w) (fun _ _ _ hh h=>h.of_heap hh) own started (by kernel_rfl) Tryz.func8
  (ChangeSpec.witness_shaped (enc:=enc) (C:=Tryz.checked) (os:=os) (X:=fun w _=>laidMetH Tryz.prog Rows.ruleWideRow.laid w) false (World.laidAll Tryz.prog os Rows.ruleWideRow.laid) #[.agg #[.int .u8 0,.int .u16 0,.int .u8 0,.int .u8 0,.int .u8 0,.slice none 0 0,.slice none 0 0,.int .i64 0,.int .i64 0]] 8 (World.laidAll_os _ _ _)
    (World.shaped_of_ZipB (by kernel_rfl) (by kernel_rfl)) (by kernel_rfl) (by kernel_rfl) (by kernel_rfl)
    (by rw [MakeChecks.laidMetH_plain _ _ _ (by kernel_rfl)];exact laidMet_laidAll _ (by kernel_rfl) (by kernel_rfl))) ?_
 intro W base args ds gs before hval0 hW hcnd hz0 hL hsz0
 have hval:∀ (j:Nat) t v,Tryz.f8.params[j]?=some t→args[j]?=some v→Value.okWide Tryz.prog W .any base t v:=hval0
 have hW':=hW
 obtain ⟨p,q,hA0,hV,rfl,hfz,hnd⟩:=hW
 have hA:DataW.TrodAll enc Tryz.prog W 0 (fun _=>true) true Tryz.f8.params.toList args.toList ds p:=hA0
 rw [Tryz.params8] at hA hval hz0
 obtain ⟨v0,vs0,d0,ds0,p0,q0,hargs,rfl,rfl,h0,r0⟩:=trodAll_cons hA
 obtain ⟨rfl,rfl,rfl⟩:=trodAll_nil r0
 obtain rfl:args = #[v0]:=by cases args;simp_all
 obtain ⟨rfl,rfl⟩:=trodVars_none hV
 have k0:=h0
 have lt0:∀ x ∈ p0,x.block<W.heap.size:=by obtain ⟨m,hm⟩:=k0;exact DataW.trod_lt m _ _ _ hm
 obtain ⟨fuel0,hf0⟩:=h0
 have zz0:∀ n ∈ d0.weights Tryz.prog 54,n≤reachBytes:=fun n hn=>by have hk:=List.all_eq_true.1 hz0 n (DataW.weights_mem_each (j:=0) (t:=54) (d:=d0) rfl rfl n hn);simpa using hk
 obtain ⟨x0_0,x0_1,x0_2,x0_3,x0_4,Ax0_5_0,x0_5_0,cx0_5_0,Ax0_5_1,x0_5_1,cx0_5_1,x0_5_2,x0_5_3,hcs0,wx0_0,wx0_1,wx0_2,wx0_3,wx0_4,rx0_5_0,qx0_5_0,mx0_5_0,zx0_5_0,wx0_5_0,rx0_5_1,qx0_5_1,mx0_5_1,zx0_5_1,wx0_5_1,wx0_5_2,wx0_5_3⟩:=open_t54 hf0 zz0
 obtain ⟨cs0,rfl,_⟩:=okWide_struct Tryz.underlying54 (hval 0 54 v0 rfl rfl)
 have hv0:cs0.toList=[.int .u8 x0_0,.int .u16 x0_1,.int .u8 x0_2,.int .u8 x0_3,.int .u8 x0_4,.slice Ax0_5_0 x0_5_0.length cx0_5_0,.slice Ax0_5_1 x0_5_1.length cx0_5_1,.int .i64 x0_5_2,.int .i64 x0_5_3]:=hcs0
 obtain rfl:cs0 = #[.int .u8 x0_0,.int .u16 x0_1,.int .u8 x0_2,.int .u8 x0_3,.int .u8 x0_4,.slice Ax0_5_0 x0_5_0.length cx0_5_0,.slice Ax0_5_1 x0_5_1.length cx0_5_1,.int .i64 x0_5_2,.int .i64 x0_5_3]:=by cases cs0;simpa using hv0
 clear hA0 hval0 hsz0 hz0
 obtain ⟨k,hk⟩:=Pure.RuleWide x0_0 x0_1 x0_2 x0_3 x0_4 x0_5_0 x0_5_1 x0_5_2 x0_5_3 wx0_0 wx0_1 wx0_2 wx0_3 wx0_4 zx0_5_0 wx0_5_0 zx0_5_1 wx0_5_1 wx0_5_2 wx0_5_3
 refine (exerguelaw11_RuleWide.calls k x0_0 x0_1 x0_2 x0_3 x0_4 _ _ x0_5_0 _ _ x0_5_1 x0_5_2 x0_5_3 true W (gl_of_laid hL) rx0_5_0 qx0_5_0 rx0_5_1 qx0_5_1 hk).mono fun e W' ⟨he,bel⟩=>?_
 subst he
 exact ⟨_,rfl,_,_,_,[],_,[],hW',trodAll_mk1 (shut_bool Tryz.underlying4 _),(trodAll_cons_mk (Below.trod laidOut (by kernel_rfl) (of_decide_eq_true (by kernel_rfl)) k0 bel lt0) trodAll_mk0),rfl,bel.frame _,fun h=>by cases h⟩
theorem over:Rows.ruleWideRow.holds Tryz.pinned (OpenSpec.ofChange Rows.ruleWideSpec):=
  OpenClaim.holds_of_wide 8 Tryz.f8 rfl rfl rfl rfl rfl rfl rfl ⟨rfl,rfl,rfl,rfl,rfl⟩ rfl rfl rfl rfl rfl (by kernel_rfl) Tryz.func8 (by kernel_rfl)
    (of_decide_eq_true (by kernel_rfl)) (by unfold Func.isWrapper;first|(rw [if_pos (by decide +kernel)];kernel_rfl)|(rw [if_neg (by decide +kernel)];exact ⟨rfl,rfl⟩))
    (fun os started H enc _=>lifted os started H enc)
theorem proved:Rows.RuleWideSaid:=over
theorem card:Rows.RuleWideCardSaid:=
  Claim7.holds_tied_plain_at .later [] [.data, .data, .data, .data, .sentinel, .sentinel, .pinned] true (true, "4194f9b11aa4e30952e175991b751fcfc80ce279dfda3f5c2569b14561fedf99") true proved (fun _ h => by cases h) (by kernel_rfl) (fun _ h => by cases h) ruleWide_row_tie rfl ⟨rfl, rfl⟩ (by kernel_rfl) rfl
    (fun f fn hf hfn=>by
      obtain rfl : f = 8 := Option.some.inj ((show Tryz.prog.funcNamed "exergue/exerguelaw11.RuleWide" = some 8 by kernel_rfl).symm.trans hf) |>.symm
      obtain rfl:fn=Tryz.f8:=(Option.some.inj (Tryz.func8.symm.trans hfn)).symm
      exact ⟨by kernel_rfl,fun j t ht=>by
        rw [Tryz.params8] at ht
        have hm:t ∈ [54]:=by simpa using Array.mem_of_getElem? ht
        have hall:([54].all fun u=>!Tryz.prog.wantsStandIn u)=true:=by kernel_rfl
        exact (show Tryz.prog.wantsStandIn t=false by simpa using List.all_eq_true.1 hall t hm)⟩)
    (by kernel_rfl)
end Go.Proofs.YtgfajgkjbckkgaaGreatDoor.ruleWide
namespace Go.Proofs.YtgfajgkjbckkgaaGreatDoor
theorem ruleWide_card:Rows.RuleWideCardSaid:=ruleWide.card
end Go.Proofs.YtgfajgkjbckkgaaGreatDoor
