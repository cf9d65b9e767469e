/- The row and the card of the law PlurTells: its walk, and the pure statement that is proved in YtgfajgkjbckkgaaGreatDoorPurePlurTells.
   Conditions: those of the row (its listed tables read as listed, which the card ties to the program's text). -/
import Derived.Test.YtgfajgkjbckkgaaGreatDoorRows
import Derived.Test.YtgfajgkjbckkgaaGreatDoorTie
import Derived.Test.YtgfajgkjbckkgaaGreatDoorCards
import Derived.Test.YtgfajgkjbckkgaaGreatDoorPb16
import Derived.Test.YtgfajgkjbckkgaaGreatDoorPb33
import Derived.WalkKit
import Derived.ProofKit
import Derived.OpenShut
import Derived.ShutString
import Derived.ChangeOld
import Derived.Below
import Derived.SizedLaws
import Derived.LaidMore
import Derived.Lay
import Derived.SevenTiedAt
import Derived.Stop.Joined
import Derived.Carry
namespace Go.Proofs.YtgfajgkjbckkgaaGreatDoor.plurTells
open Go.ChangeShapes Go.WideShapes Go.ChangeAt Go.RowKit Go.Proofs.YtgfajgkjbckkgaaGreatDoor.PZ
open Go.ChangeMaps (open_string shut_string)
theorem own:ownKnob Tryz.prog.godebug=none:=by kernel_rfl
theorem laidOut:laidOutB Tryz.prog=true:=by kernel_rfl
set_option maxRecDepth 100000 in
theorem lifted (os:Os)(started:os.Started)(H:Type)(enc:TypeId×Value→H) :
    ReturnsInHanded {} Tryz.checked os 4 .any (fun w args=>(Rows.plurTellsSpec.pre enc Tryz.prog Tryz.f4 Rows.plurTellsRow.domain false w args∧laidMetH Tryz.prog Rows.plurTellsRow.laid w)∧sizedMet enc Tryz.prog Tryz.f4 (OpenSpec.ofChange Rows.plurTellsSpec) false w args)
      (Rows.plurTellsSpec.post enc Tryz.prog Tryz.f4 false true false false):=by
 refine returnsInHanded_of_change_and (C:=Tryz.checked) (X:=fun w _=>laidMetH Tryz.prog Rows.plurTellsRow.laid w) (fun _ _ _ hh h=>h.of_heap hh) own started (by kernel_rfl) Tryz.func4
  (ChangeSpec.witness_shaped (enc:=enc) (C:=Tryz.checked) (os:=os) (X:=fun w _=>laidMetH Tryz.prog Rows.plurTellsRow.laid w) false (World.laidAll Tryz.prog os Rows.plurTellsRow.laid) #[.agg #[.slice none 0 0,.slice none 0 0,.slice none 0 0,.slice none 0 0,.int .i64 0,.int .i64 0,.int .i64 0,.string ByteArray.empty]] 8 (World.laidAll_os _ _ _)
    (World.shaped_of_ZipB (by kernel_rfl) (by kernel_rfl)) (by kernel_rfl) (by kernel_rfl) (by kernel_rfl)
    (by rw [MakeChecks.laidMetH_plain _ _ _ (by kernel_rfl)];exact laidMet_laidAll _ (by kernel_rfl) (by kernel_rfl))) ?_
 intro W base args ds gs before hval0 hW hcnd hz0 hL hsz0
 have hval:∀ (j:Nat) t v,Tryz.f4.params[j]?=some t→args[j]?=some v→Value.okWide Tryz.prog W .any base t v:=hval0
 have hW':=hW
 obtain ⟨p,q,hA0,hV,rfl,hfz,hnd⟩:=hW
 have hA:DataW.TrodAll enc Tryz.prog W 0 (fun _=>true) true Tryz.f4.params.toList args.toList ds p:=hA0
 rw [Tryz.params4] at hA hval hz0
 obtain ⟨v0,vs0,d0,ds0,p0,q0,hargs,rfl,rfl,h0,r0⟩:=trodAll_cons hA
 obtain ⟨rfl,rfl,rfl⟩:=trodAll_nil r0
 obtain rfl:args = #[v0]:=by cases args;simp_all
 obtain ⟨rfl,rfl⟩:=trodVars_none hV
 have k0:=h0
 have lt0:∀ x ∈ p0,x.block<W.heap.size:=by obtain ⟨m,hm⟩:=k0;exact DataW.trod_lt m _ _ _ hm
 obtain ⟨fuel0,hf0⟩:=h0
 have zz0:∀ n ∈ d0.weights Tryz.prog 38,n≤reachBytes:=fun n hn=>by have hk:=List.all_eq_true.1 hz0 n (DataW.weights_mem_each (j:=0) (t:=38) (d:=d0) rfl rfl n hn);simpa using hk
 obtain ⟨Ax0_0,x0_0,cx0_0,Ax0_1,x0_1,cx0_1,Ax0_2_0,x0_2_0,cx0_2_0,Ax0_2_1,x0_2_1,cx0_2_1,x0_2_2,x0_2_3,x0_3,x0_4,hcs0,rx0_0,qx0_0,zx0_0,rx0_1,qx0_1,zx0_1,rx0_2_0,qx0_2_0,mx0_2_0,zx0_2_0,wx0_2_0,rx0_2_1,qx0_2_1,mx0_2_1,zx0_2_1,wx0_2_1,wx0_2_2,wx0_2_3,wx0_3,zx0_4⟩:=open_t38 hf0 zz0
 obtain ⟨cs0,rfl,_⟩:=okWide_struct Tryz.underlying38 (hval 0 38 v0 rfl rfl)
 have hv0:cs0.toList=[.slice Ax0_0 x0_0.length cx0_0,.slice Ax0_1 x0_1.length cx0_1,.slice Ax0_2_0 x0_2_0.length cx0_2_0,.slice Ax0_2_1 x0_2_1.length cx0_2_1,.int .i64 x0_2_2,.int .i64 x0_2_3,.int .i64 x0_3,.string x0_4]:=hcs0
 obtain rfl:cs0 = #[.slice Ax0_0 x0_0.length cx0_0,.slice Ax0_1 x0_1.length cx0_1,.slice Ax0_2_0 x0_2_0.length cx0_2_0,.slice Ax0_2_1 x0_2_1.length cx0_2_1,.int .i64 x0_2_2,.int .i64 x0_2_3,.int .i64 x0_3,.string x0_4]:=by cases cs0;simpa using hv0
 clear hA0 hval0 hsz0 hz0
 obtain ⟨k,hk⟩:=Pure.PlurTells x0_0 x0_1 x0_2_0 x0_2_1 x0_2_2 x0_2_3 x0_3 x0_4 zx0_0 zx0_1 zx0_2_0 wx0_2_0 zx0_2_1 wx0_2_1 wx0_2_2 wx0_2_3 wx0_3 zx0_4
 refine (exerguelaw12_PlurTells.calls k _ _ x0_0 _ _ x0_1 _ _ x0_2_0 _ _ x0_2_1 x0_2_2 x0_2_3 x0_3 x0_4 true W (gl_of_laid hL) rx0_0 qx0_0 rx0_1 qx0_1 rx0_2_0 qx0_2_0 rx0_2_1 qx0_2_1 hk).mono fun e W' ⟨he,bel⟩=>?_
 subst he
 exact ⟨_,rfl,_,_,_,[],_,[],hW',trodAll_mk1 (shut_bool Tryz.underlying4 _),(trodAll_cons_mk (Below.trod laidOut (by kernel_rfl) (of_decide_eq_true (by kernel_rfl)) k0 bel lt0) trodAll_mk0),rfl,bel.frame _,fun h=>by cases h⟩
theorem over:Rows.plurTellsRow.holds Tryz.pinned (OpenSpec.ofChange Rows.plurTellsSpec):=
  OpenClaim.holds_of_wide 4 Tryz.f4 rfl rfl rfl rfl rfl rfl rfl ⟨rfl,rfl,rfl,rfl,rfl⟩ rfl rfl rfl rfl rfl (by kernel_rfl) Tryz.func4 (by kernel_rfl)
    (of_decide_eq_true (by kernel_rfl)) (by unfold Func.isWrapper;first|(rw [if_pos (by decide +kernel)];kernel_rfl)|(rw [if_neg (by decide +kernel)];exact ⟨rfl,rfl⟩))
    (fun os started H enc _=>lifted os started H enc)
theorem proved:Rows.PlurTellsSaid:=over
theorem card:Rows.PlurTellsCardSaid:=
  Claim7.holds_tied_plain_at .later [] [.data, .data, .data, .data, .sentinel, .sentinel, .pinned] true (true, "4194f9b11aa4e30952e175991b751fcfc80ce279dfda3f5c2569b14561fedf99") true proved (fun _ h => by cases h) (by kernel_rfl) (fun _ h => by cases h) plurTells_row_tie rfl ⟨rfl, rfl⟩ (by kernel_rfl) rfl
    (fun f fn hf hfn=>by
      obtain rfl : f = 4 := Option.some.inj ((show Tryz.prog.funcNamed "exergue/exerguelaw12.PlurTells" = some 4 by kernel_rfl).symm.trans hf) |>.symm
      obtain rfl:fn=Tryz.f4:=(Option.some.inj (Tryz.func4.symm.trans hfn)).symm
      exact ⟨by kernel_rfl,fun j t ht=>by
        rw [Tryz.params4] at ht
        have hm:t ∈ [38]:=by simpa using Array.mem_of_getElem? ht
        have hall:([38].all fun u=>!Tryz.prog.wantsStandIn u)=true:=by kernel_rfl
        exact (show Tryz.prog.wantsStandIn t=false by simpa using List.all_eq_true.1 hall t hm)⟩)
    (by kernel_rfl)
end Go.Proofs.YtgfajgkjbckkgaaGreatDoor.plurTells
namespace Go.Proofs.YtgfajgkjbckkgaaGreatDoor
theorem plurTells_card:Rows.PlurTellsCardSaid:=plurTells.card
end Go.Proofs.YtgfajgkjbckkgaaGreatDoor
