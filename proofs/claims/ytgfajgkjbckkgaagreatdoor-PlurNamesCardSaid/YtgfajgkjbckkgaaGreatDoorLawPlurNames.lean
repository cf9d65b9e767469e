/- The row and the card of the law PlurNames: its walk, and the pure statement that is proved in YtgfajgkjbckkgaaGreatDoorPurePlurNames.
   Conditions: those of the row (its listed tables read as listed, which the card ties to the program's text). -/
import Derived.Test.YtgfajgkjbckkgaaGreatDoorRows
import Derived.Test.YtgfajgkjbckkgaaGreatDoorTie
import Derived.Test.YtgfajgkjbckkgaaGreatDoorCards
import Derived.Test.YtgfajgkjbckkgaaGreatDoorPc16
import Derived.Test.YtgfajgkjbckkgaaGreatDoorPc24
import Derived.WalkKit
import Derived.ProofKit
import Derived.OpenShut
import Derived.ShutString
import Derived.ChangeOld
import Derived.Below
import Derived.SizedLaws
import Derived.LaidMore
import Derived.Lay
import Derived.SevenTiedAt
import Derived.Stop.Joined
import Derived.Carry
namespace Go.Proofs.YtgfajgkjbckkgaaGreatDoor.plurNames
open Go.ChangeShapes Go.WideShapes Go.ChangeAt Go.RowKit Go.Proofs.YtgfajgkjbckkgaaGreatDoor.PZ
open Go.ChangeMaps (open_string shut_string)
theorem own:ownKnob Tryz.prog.godebug=none:=by kernel_rfl
theorem laidOut:laidOutB Tryz.prog=true:=by kernel_rfl
set_option maxRecDepth 100000 in
theorem lifted (os:Os)(started:os.Started)(H:Type)(enc:TypeId×Value→H) :
    ReturnsInHanded {} Tryz.checked os 3 .any (fun w args=>(Rows.plurNamesSpec.pre enc Tryz.prog Tryz.f3 Rows.plurNamesRow.domain false w args∧laidMetH Tryz.prog Rows.plurNamesRow.laid w)∧sizedMet enc Tryz.prog Tryz.f3 (OpenSpec.ofChange Rows.plurNamesSpec) false w args)
      (Rows.plurNamesSpec.post enc Tryz.prog Tryz.f3 false true false false):=by
 refine returnsInHanded_of_change_and (C:=Tryz.checked) (X:=fun w _=>laidMetH Tryz.prog Rows.plurNamesRow.laid w) (fun _ _ _ hh h=>h.of_heap hh) own started (by kernel_rfl) Tryz.func3
  (ChangeSpec.witness_shaped (enc:=enc) (C:=Tryz.checked) (os:=os) (X:=fun w _=>laidMetH Tryz.prog Rows.plurNamesRow.laid w) false (World.laidAll Tryz.prog os Rows.plurNamesRow.laid) #[.int .i64 0,.slice none 0 0] 8 (World.laidAll_os _ _ _)
    (World.shaped_of_ZipB (by kernel_rfl) (by kernel_rfl)) (by kernel_rfl) (by kernel_rfl) (by kernel_rfl)
    (by rw [MakeChecks.laidMetH_plain _ _ _ (by kernel_rfl)];exact laidMet_laidAll _ (by kernel_rfl) (by kernel_rfl))) ?_
 intro W base args ds gs before hval0 hW hcnd hz0 hL hsz0
 have hval:∀ (j:Nat) t v,Tryz.f3.params[j]?=some t→args[j]?=some v→Value.okWide Tryz.prog W .any base t v:=hval0
 have hW':=hW
 obtain ⟨p,q,hA0,hV,rfl,hfz,hnd⟩:=hW
 have hA:DataW.TrodAll enc Tryz.prog W 0 (fun _=>true) true Tryz.f3.params.toList args.toList ds p:=hA0
 rw [Tryz.params3] at hA hval hz0
 obtain ⟨v0,vs0,d0,ds0,p0,q0,hargs,rfl,rfl,h0,r0⟩:=trodAll_cons hA
 obtain ⟨v1,vs1,d1,ds1,p1,q1,rfl,rfl,rfl,h1,r1⟩:=trodAll_cons r0
 obtain ⟨rfl,rfl,rfl⟩:=trodAll_nil r1
 obtain rfl:args = #[v0,v1]:=by cases args;simp_all
 obtain ⟨rfl,rfl⟩:=trodVars_none hV
 obtain ⟨x0,rfl,rfl,rfl,wx0⟩:=open_int Tryz.underlying3 (hval 0 3 v0 rfl rfl) h0
 have k1:=h1
 have lt1:∀ x ∈ p1,x.block<W.heap.size:=by obtain ⟨m,hm⟩:=k1;exact DataW.trod_lt m _ _ _ hm
 obtain ⟨fuel1,hf1⟩:=h1
 have zz1:∀ n ∈ d1.weights Tryz.prog 22,n≤reachBytes:=fun n hn=>by have hk:=List.all_eq_true.1 hz0 n (DataW.weights_mem_each (j:=1) (t:=22) (d:=d1) rfl rfl n hn);simpa using hk
 obtain ⟨Ax1,x1,cx1,hcs1,rx1,qx1,zx1⟩:=open_t22 hf1 zz1
 obtain ⟨a_1,n_1,c_1,rfl⟩:=okWide_slice Tryz.underlying22 (hval 1 22 v1 rfl rfl)
 simp only [Value.cells,List.cons.injEq,Value.slice.injEq,and_true] at hcs1
 obtain ⟨rfl,rfl,rfl⟩:=hcs1
 clear hA0 hval0 hsz0 hz0
 obtain ⟨k,hk⟩:=Pure.PlurNames x0 x1 wx0 zx1
 refine (exerguelaw12_PlurNames.calls k x0 _ _ x1 true W (gl_of_laid hL) rx1 qx1 hk).mono fun e W' ⟨he,bel⟩=>?_
 subst he
 exact ⟨_,rfl,_,_,_,[],_,[],hW',trodAll_mk1 (shut_bool Tryz.underlying4 _),(trodAll_cons_mk (shut_int Tryz.underlying3 wx0) (trodAll_cons_mk (Below.trod laidOut (by kernel_rfl) (of_decide_eq_true (by kernel_rfl)) k1 bel lt1) trodAll_mk0)),rfl,bel.frame _,fun h=>by cases h⟩
theorem over:Rows.plurNamesRow.holds Tryz.pinned (OpenSpec.ofChange Rows.plurNamesSpec):=
  OpenClaim.holds_of_wide 3 Tryz.f3 rfl rfl rfl rfl rfl rfl rfl ⟨rfl,rfl,rfl,rfl,rfl⟩ rfl rfl rfl rfl rfl (by kernel_rfl) Tryz.func3 (by kernel_rfl)
    (of_decide_eq_true (by kernel_rfl)) (by unfold Func.isWrapper;first|(rw [if_pos (by decide +kernel)];kernel_rfl)|(rw [if_neg (by decide +kernel)];exact ⟨rfl,rfl⟩))
    (fun os started H enc _=>lifted os started H enc)
theorem proved:Rows.PlurNamesSaid:=over
theorem card:Rows.PlurNamesCardSaid:=
  Claim7.holds_tied_plain_at .later [] [.data, .data, .data, .data, .sentinel, .sentinel, .pinned] true (true, "4194f9b11aa4e30952e175991b751fcfc80ce279dfda3f5c2569b14561fedf99") true proved (fun _ h => by cases h) (by kernel_rfl) (fun _ h => by cases h) plurNames_row_tie rfl ⟨rfl, rfl⟩ (by kernel_rfl) rfl
    (fun f fn hf hfn=>by
      obtain rfl : f = 3 := Option.some.inj ((show Tryz.prog.funcNamed "exergue/exerguelaw12.PlurNames" = some 3 by kernel_rfl).symm.trans hf) |>.symm
      obtain rfl:fn=Tryz.f3:=(Option.some.inj (Tryz.func3.symm.trans hfn)).symm
      exact ⟨by kernel_rfl,fun j t ht=>by
        rw [Tryz.params3] at ht
        have hm:t ∈ [3,22]:=by simpa using Array.mem_of_getElem? ht
        have hall:([3,22].all fun u=>!Tryz.prog.wantsStandIn u)=true:=by kernel_rfl
        exact (show Tryz.prog.wantsStandIn t=false by simpa using List.all_eq_true.1 hall t hm)⟩)
    (by kernel_rfl)
end Go.Proofs.YtgfajgkjbckkgaaGreatDoor.plurNames
namespace Go.Proofs.YtgfajgkjbckkgaaGreatDoor
theorem plurNames_card:Rows.PlurNamesCardSaid:=plurNames.card
end Go.Proofs.YtgfajgkjbckkgaaGreatDoor
