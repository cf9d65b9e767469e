/- The row and the card of the law PlurSames: its walk, and the pure statement that is proved in YtgfajgkjbckkgaaGreatDoorPurePlurSames.
   Conditions: those of the row (its listed tables read as listed, which the card ties to the program's text). -/
import Derived.Test.YtgfajgkjbckkgaaGreatDoorRows
import Derived.Test.YtgfajgkjbckkgaaGreatDoorTie
import Derived.Test.YtgfajgkjbckkgaaGreatDoorCards
import Derived.Test.YtgfajgkjbckkgaaGreatDoorPd11
import Derived.Test.YtgfajgkjbckkgaaGreatDoorPd19
import Derived.Test.YtgfajgkjbckkgaaGreatDoorPd20
import Derived.WalkKit
import Derived.ProofKit
import Derived.OpenShut
import Derived.ShutString
import Derived.ChangeOld
import Derived.Below
import Derived.SizedLaws
import Derived.LaidMore
import Derived.Lay
import Derived.SevenTiedAt
import Derived.Stop.Joined
import Derived.Carry
namespace Go.Proofs.YtgfajgkjbckkgaaGreatDoor.plurSames
open Go.ChangeShapes Go.WideShapes Go.ChangeAt Go.RowKit Go.Proofs.YtgfajgkjbckkgaaGreatDoor.PZ
open Go.ChangeMaps (open_string shut_string)
theorem own:ownKnob Tryz.prog.godebug=none:=by kernel_rfl
theorem laidOut:laidOutB Tryz.prog=true:=by kernel_rfl
set_option maxRecDepth 100000 in
theorem lifted (os:Os)(started:os.Started)(H:Type)(enc:TypeId×Value→H) :
    ReturnsInHanded {} Tryz.checked os 13 .any (fun w args=>(Rows.plurSamesSpec.pre enc Tryz.prog Tryz.f13 Rows.plurSamesRow.domain false w args∧laidMetH Tryz.prog Rows.plurSamesRow.laid w)∧sizedMet enc Tryz.prog Tryz.f13 (OpenSpec.ofChange Rows.plurSamesSpec) false w args)
      (Rows.plurSamesSpec.post enc Tryz.prog Tryz.f13 false true false false):=by
 refine returnsInHanded_of_change_and (C:=Tryz.checked) (X:=fun w _=>laidMetH Tryz.prog Rows.plurSamesRow.laid w) (fun _ _ _ hh h=>h.of_heap hh) own started (by kernel_rfl) Tryz.func13
  (ChangeSpec.witness_shaped (enc:=enc) (C:=Tryz.checked) (os:=os) (X:=fun w _=>laidMetH Tryz.prog Rows.plurSamesRow.laid w) false (World.laidAll Tryz.prog os Rows.plurSamesRow.laid) #[.slice none 0 0,.int .i64 0,.int .i64 0] 8 (World.laidAll_os _ _ _)
    (World.shaped_of_ZipB (by kernel_rfl) (by kernel_rfl)) (by kernel_rfl) (by kernel_rfl) (by kernel_rfl)
    (by rw [MakeChecks.laidMetH_plain _ _ _ (by kernel_rfl)];exact laidMet_laidAll _ (by kernel_rfl) (by kernel_rfl))) ?_
 intro W base args ds gs before hval0 hW hcnd hz0 hL hsz0
 have hval:∀ (j:Nat) t v,Tryz.f13.params[j]?=some t→args[j]?=some v→Value.okWide Tryz.prog W .any base t v:=hval0
 have hW':=hW
 obtain ⟨p,q,hA0,hV,rfl,hfz,hnd⟩:=hW
 have hA:DataW.TrodAll enc Tryz.prog W 0 (fun _=>true) true Tryz.f13.params.toList args.toList ds p:=hA0
 rw [Tryz.params13] at hA hval hz0
 obtain ⟨v0,vs0,d0,ds0,p0,q0,hargs,rfl,rfl,h0,r0⟩:=trodAll_cons hA
 obtain ⟨v1,vs1,d1,ds1,p1,q1,rfl,rfl,rfl,h1,r1⟩:=trodAll_cons r0
 obtain ⟨v2,vs2,d2,ds2,p2,q2,rfl,rfl,rfl,h2,r2⟩:=trodAll_cons r1
 obtain ⟨rfl,rfl,rfl⟩:=trodAll_nil r2
 obtain rfl:args = #[v0,v1,v2]:=by cases args;simp_all
 obtain ⟨rfl,rfl⟩:=trodVars_none hV
 have k0:=h0
 have lt0:∀ x ∈ p0,x.block<W.heap.size:=by obtain ⟨m,hm⟩:=k0;exact DataW.trod_lt m _ _ _ hm
 obtain ⟨fuel0,hf0⟩:=h0
 have zz0:∀ n ∈ d0.weights Tryz.prog 28,n≤reachBytes:=fun n hn=>by have hk:=List.all_eq_true.1 hz0 n (DataW.weights_mem_each (j:=0) (t:=28) (d:=d0) rfl rfl n hn);simpa using hk
 obtain ⟨Ax0,x0,cx0,hcs0,rx0,qx0,zx0⟩:=open_t28 hf0 zz0
 obtain ⟨a_0,n_0,c_0,rfl⟩:=okWide_slice Tryz.underlying28 (hval 0 28 v0 rfl rfl)
 simp only [Value.cells,List.cons.injEq,Value.slice.injEq,and_true] at hcs0
 obtain ⟨rfl,rfl,rfl⟩:=hcs0
 obtain ⟨x1,rfl,rfl,rfl,wx1⟩:=open_int Tryz.underlying3 (hval 1 3 v1 rfl rfl) h1
 obtain ⟨x2,rfl,rfl,rfl,wx2⟩:=open_int Tryz.underlying3 (hval 2 3 v2 rfl rfl) h2
 clear hA0 hval0 hsz0 hz0
 obtain ⟨k,hk⟩:=Pure.PlurSames x0 x1 x2 zx0 wx1 wx2
 refine (exerguelaw12_PlurSames.calls k _ _ x0 x1 x2 true W (gl_of_laid hL) rx0 qx0 hk).mono fun e W' ⟨he,bel⟩=>?_
 subst he
 exact ⟨_,rfl,_,_,_,[],_,[],hW',trodAll_mk1 (shut_bool Tryz.underlying4 _),(trodAll_cons_mk (Below.trod laidOut (by kernel_rfl) (of_decide_eq_true (by kernel_rfl)) k0 bel lt0) (trodAll_cons_mk (shut_int Tryz.underlying3 wx1) (trodAll_cons_mk (shut_int Tryz.underlying3 wx2) trodAll_mk0))),rfl,bel.frame _,fun h=>by cases h⟩
theorem over:Rows.plurSamesRow.holds Tryz.pinned (OpenSpec.ofChange Rows.plurSamesSpec):=
  OpenClaim.holds_of_wide 13 Tryz.f13 rfl rfl rfl rfl rfl rfl rfl ⟨rfl,rfl,rfl,rfl,rfl⟩ rfl rfl rfl rfl rfl (by kernel_rfl) Tryz.func13 (by kernel_rfl)
    (of_decide_eq_true (by kernel_rfl)) (by unfold Func.isWrapper;first|(rw [if_pos (by decide +kernel)];kernel_rfl)|(rw [if_neg (by decide +kernel)];exact ⟨rfl,rfl⟩))
    (fun os started H enc _=>lifted os started H enc)
theorem proved:Rows.PlurSamesSaid:=over
theorem card:Rows.PlurSamesCardSaid:=
  Claim7.holds_tied_plain_at .later [] [.data, .data, .data, .data, .sentinel, .sentinel, .pinned] true (true, "4194f9b11aa4e30952e175991b751fcfc80ce279dfda3f5c2569b14561fedf99") true proved (fun _ h => by cases h) (by kernel_rfl) (fun _ h => by cases h) plurSames_row_tie rfl ⟨rfl, rfl⟩ (by kernel_rfl) rfl
    (fun f fn hf hfn=>by
      obtain rfl : f = 13 := Option.some.inj ((show Tryz.prog.funcNamed "exergue/exerguelaw12.PlurSames" = some 13 by kernel_rfl).symm.trans hf) |>.symm
      obtain rfl:fn=Tryz.f13:=(Option.some.inj (Tryz.func13.symm.trans hfn)).symm
      exact ⟨by kernel_rfl,fun j t ht=>by
        rw [Tryz.params13] at ht
        have hm:t ∈ [28,3,3]:=by simpa using Array.mem_of_getElem? ht
        have hall:([28,3,3].all fun u=>!Tryz.prog.wantsStandIn u)=true:=by kernel_rfl
        exact (show Tryz.prog.wantsStandIn t=false by simpa using List.all_eq_true.1 hall t hm)⟩)
    (by kernel_rfl)
end Go.Proofs.YtgfajgkjbckkgaaGreatDoor.plurSames
namespace Go.Proofs.YtgfajgkjbckkgaaGreatDoor
theorem plurSames_card:Rows.PlurSamesCardSaid:=plurSames.card
end Go.Proofs.YtgfajgkjbckkgaaGreatDoor
