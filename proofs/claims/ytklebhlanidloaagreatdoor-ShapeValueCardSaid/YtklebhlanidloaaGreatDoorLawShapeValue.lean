/- The row and the card of the law ShapeValue: its walk, and the pure statement that is proved in YtklebhlanidloaaGreatDoorPureShapeValue.
   Conditions: those of the row (its listed tables read as listed, which the card ties to the program's text). -/
import Derived.Test.YtklebhlanidloaaGreatDoorRows
import Derived.Test.YtklebhlanidloaaGreatDoorTie
import Derived.Test.YtklebhlanidloaaGreatDoorCards
import Derived.Test.YtklebhlanidloaaGreatDoorD05
import Derived.Test.YtklebhlanidloaaGreatDoorD30
import Derived.Test.YtklebhlanidloaaGreatDoorD31
import Derived.WalkKit
import Derived.ProofKit
import Derived.OpenShut
import Derived.ShutString
import Derived.ChangeOld
import Derived.Below
import Derived.SizedLaws
import Derived.LaidMore
import Derived.Lay
import Derived.SevenTiedAt
import Derived.Stop.Joined
import Derived.Carry
namespace Go.Proofs.YtklebhlanidloaaGreatDoor.shapeValue
open Go.ChangeShapes Go.WideShapes Go.ChangeAt Go.RowKit Go.Proofs.YtklebhlanidloaaGreatDoor.PZ
open Go.ChangeMaps (open_string shut_string)
theorem own:ownKnob Tryz.prog.godebug=none:=by kernel_rfl
theorem laidOut:laidOutB Tryz.prog=true:=by kernel_rfl
set_option maxRecDepth 100000 in
theorem lifted (os:Os)(started:os.Started)(H:Type)(enc:TypeId×Value→H) :
    ReturnsInHanded {} Tryz.checked os 7 .any (fun w args=>(Rows.shapeValueSpec.pre enc Tryz.prog Tryz.f7 Rows.shapeValueRow.domain false w args∧laidMetH Tryz.prog Rows.shapeValueRow.laid w)∧sizedMet enc Tryz.prog Tryz.f7 (OpenSpec.ofChange Rows.shapeValueSpec) false w args)
      (Rows.shapeValueSpec.post enc Tryz.prog Tryz.f7 false true false false):=by
 refine returnsInHanded_of_change_and (C:=Tryz.checked) (X:=fun w _=>laidMetH Tryz.prog Rows.shapeValueRow.laid w) (fun _ _ _ hh h=>h.of_heap hh) own started (by kernel_rfl) Tryz.func7
  (ChangeSpec.witness_shaped (enc:=enc) (C:=Tryz.checked) (os:=os) (X:=fun w _=>laidMetH Tryz.prog Rows.shapeValueRow.laid w) false (World.laidAll Tryz.prog os Rows.shapeValueRow.laid) #[.agg #[.slice none 0 0,.slice none 0 0,.slice none 0 0,.slice none 0 0,.bool false,.int .i64 0,.int .i64 0,.int .i64 0,.int .i64 0,.int .i64 0,.int .i64 0,.int .i64 0,.int .i64 0,.int .i64 0,.bool false,.int .i32 0,.int .i64 0],.int .i64 0,.agg #[.bool false,.slice none 0 0,.int .i64 0]] 8 (World.laidAll_os _ _ _)
    (World.shaped_of_ZipB (by kernel_rfl) (by kernel_rfl)) (by kernel_rfl) (by kernel_rfl) (by kernel_rfl)
    (by rw [MakeChecks.laidMetH_plain _ _ _ (by kernel_rfl)];exact laidMet_laidAll _ (by kernel_rfl) (by kernel_rfl))) ?_
 intro W base args ds gs before hval0 hW hcnd hz0 hL hsz0
 have hval:∀ (j:Nat) t v,Tryz.f7.params[j]?=some t→args[j]?=some v→Value.okWide Tryz.prog W .any base t v:=hval0
 have hW':=hW
 obtain ⟨p,q,hA0,hV,rfl,hfz,hnd⟩:=hW
 have hA:DataW.TrodAll enc Tryz.prog W 0 (fun _=>true) true Tryz.f7.params.toList args.toList ds p:=hA0
 rw [Tryz.params7] at hA hval hz0
 obtain ⟨v0,vs0,d0,ds0,p0,q0,hargs,rfl,rfl,h0,r0⟩:=trodAll_cons hA
 obtain ⟨v1,vs1,d1,ds1,p1,q1,rfl,rfl,rfl,h1,r1⟩:=trodAll_cons r0
 obtain ⟨v2,vs2,d2,ds2,p2,q2,rfl,rfl,rfl,h2,r2⟩:=trodAll_cons r1
 obtain ⟨rfl,rfl,rfl⟩:=trodAll_nil r2
 obtain rfl:args = #[v0,v1,v2]:=by cases args;simp_all
 obtain ⟨rfl,rfl⟩:=trodVars_none hV
 have k0:=h0
 have lt0:∀ x ∈ p0,x.block<W.heap.size:=by obtain ⟨m,hm⟩:=k0;exact DataW.trod_lt m _ _ _ hm
 obtain ⟨fuel0,hf0⟩:=h0
 have zz0:∀ n ∈ d0.weights Tryz.prog 26,n≤reachBytes:=fun n hn=>by have hk:=List.all_eq_true.1 hz0 n (DataW.weights_mem_each (j:=0) (t:=26) (d:=d0) rfl rfl n hn);simpa using hk
 obtain ⟨Ax0_0,x0_0,cx0_0,Ax0_1,x0_1,cx0_1,Ax0_2,x0_2,cx0_2,Ax0_3,x0_3,cx0_3,x0_4,x0_5,x0_6,x0_7,x0_8,x0_9,x0_10,x0_11,x0_12,x0_13,x0_14,x0_15,x0_16,hcs0,rx0_0,qx0_0,mx0_0,zx0_0,rx0_1,qx0_1,mx0_1,zx0_1,rx0_2,qx0_2,mx0_2,zx0_2,rx0_3,qx0_3,mx0_3,zx0_3,wx0_5,wx0_6,wx0_7,wx0_8,wx0_9,wx0_10,wx0_11,wx0_12,wx0_13,wx0_15,wx0_16⟩:=open_t26 hf0 zz0
 obtain ⟨cs0,rfl,_⟩:=okWide_struct Tryz.underlying26 (hval 0 26 v0 rfl rfl)
 have hv0:cs0.toList=[.slice Ax0_0 x0_0.length cx0_0,.slice Ax0_1 x0_1.length cx0_1,.slice Ax0_2 x0_2.length cx0_2,.slice Ax0_3 x0_3.length cx0_3,.bool x0_4,.int .i64 x0_5,.int .i64 x0_6,.int .i64 x0_7,.int .i64 x0_8,.int .i64 x0_9,.int .i64 x0_10,.int .i64 x0_11,.int .i64 x0_12,.int .i64 x0_13,.bool x0_14,.int .i32 x0_15,.int .i64 x0_16]:=hcs0
 obtain rfl:cs0 = #[.slice Ax0_0 x0_0.length cx0_0,.slice Ax0_1 x0_1.length cx0_1,.slice Ax0_2 x0_2.length cx0_2,.slice Ax0_3 x0_3.length cx0_3,.bool x0_4,.int .i64 x0_5,.int .i64 x0_6,.int .i64 x0_7,.int .i64 x0_8,.int .i64 x0_9,.int .i64 x0_10,.int .i64 x0_11,.int .i64 x0_12,.int .i64 x0_13,.bool x0_14,.int .i32 x0_15,.int .i64 x0_16]:=by cases cs0;simpa using hv0
 obtain ⟨x1,rfl,rfl,rfl,wx1⟩:=open_int Tryz.underlying3 (hval 1 3 v1 rfl rfl) h1
 have k2:=h2
 have lt2:∀ x ∈ p2,x.block<W.heap.size:=by obtain ⟨m,hm⟩:=k2;exact DataW.trod_lt m _ _ _ hm
 obtain ⟨fuel2,hf2⟩:=h2
 have zz2:∀ n ∈ d2.weights Tryz.prog 29,n≤reachBytes:=fun n hn=>by have hk:=List.all_eq_true.1 hz0 n (DataW.weights_mem_each (j:=2) (t:=29) (d:=d2) rfl rfl n hn);simpa using hk
 obtain ⟨x2_0,Ax2_1,x2_1,cx2_1,x2_2,hcs2,rx2_1,qx2_1,mx2_1,zx2_1,wx2_1,wx2_2⟩:=open_t29 hf2 zz2
 obtain ⟨cs2,rfl,_⟩:=okWide_struct Tryz.underlying29 (hval 2 29 v2 rfl rfl)
 have hv2:cs2.toList=[.bool x2_0,.slice Ax2_1 x2_1.length cx2_1,.int .i64 x2_2]:=hcs2
 obtain rfl:cs2 = #[.bool x2_0,.slice Ax2_1 x2_1.length cx2_1,.int .i64 x2_2]:=by cases cs2;simpa using hv2
 clear hA0 hval0 hsz0 hz0
 obtain ⟨k,hk⟩:=Pure.ShapeValue x0_0 x0_1 x0_2 x0_3 x0_4 x0_5 x0_6 x0_7 x0_8 x0_9 x0_10 x0_11 x0_12 x0_13 x0_14 x0_15 x0_16 x1 x2_0 x2_1 x2_2 zx0_0 zx0_1 zx0_2 zx0_3 wx0_5 wx0_6 wx0_7 wx0_8 wx0_9 wx0_10 wx0_11 wx0_12 wx0_13 wx0_15 wx0_16 wx1 zx2_1 wx2_1 wx2_2
 refine (exerguelaw17_ShapeValue.calls k _ _ x0_0 _ _ x0_1 _ _ x0_2 _ _ x0_3 x0_4 x0_5 x0_6 x0_7 x0_8 x0_9 x0_10 x0_11 x0_12 x0_13 x0_14 x0_15 x0_16 x1 x2_0 _ _ x2_1 x2_2 true W (gl_of_laid hL) rx0_0 qx0_0 rx0_1 qx0_1 rx0_2 qx0_2 rx0_3 qx0_3 rx2_1 qx2_1 hk).mono fun e W' ⟨he,bel⟩=>?_
 subst he
 exact ⟨_,rfl,_,_,_,[],_,[],hW',trodAll_mk1 (shut_bool Tryz.underlying4 _),(trodAll_cons_mk (Below.trod laidOut (by kernel_rfl) (of_decide_eq_true (by kernel_rfl)) k0 bel lt0) (trodAll_cons_mk (shut_int Tryz.underlying3 wx1) (trodAll_cons_mk (Below.trod laidOut (by kernel_rfl) (of_decide_eq_true (by kernel_rfl)) k2 bel lt2) trodAll_mk0))),rfl,bel.frame _,fun h=>by cases h⟩
theorem over:Rows.shapeValueRow.holds Tryz.pinned (OpenSpec.ofChange Rows.shapeValueSpec):=
  OpenClaim.holds_of_wide 7 Tryz.f7 rfl rfl rfl rfl rfl rfl rfl ⟨rfl,rfl,rfl,rfl,rfl⟩ rfl rfl rfl rfl rfl (by kernel_rfl) Tryz.func7 (by kernel_rfl)
    (of_decide_eq_true (by kernel_rfl)) (by unfold Func.isWrapper;first|(rw [if_pos (by decide +kernel)];kernel_rfl)|(rw [if_neg (by decide +kernel)];exact ⟨rfl,rfl⟩))
    (fun os started H enc _=>lifted os started H enc)
theorem proved:Rows.ShapeValueSaid:=over
theorem card:Rows.ShapeValueCardSaid:=
  Claim7.holds_tied_plain_at .later [] [.data, .data, .data] true (true, "6ee089aa61bb47df88310ddb2fa480b6146c40b8cef401ca6bb71f388c94a843") false proved (fun _ h => by cases h) (by kernel_rfl) (fun _ h => by cases h) shapeValue_row_tie rfl ⟨rfl, rfl⟩ (by kernel_rfl) rfl
    (fun f fn hf hfn=>by
      obtain rfl : f = 7 := Option.some.inj ((show Tryz.prog.funcNamed "exergue/exerguelaw17.ShapeValue" = some 7 by kernel_rfl).symm.trans hf) |>.symm
      obtain rfl:fn=Tryz.f7:=(Option.some.inj (Tryz.func7.symm.trans hfn)).symm
      exact ⟨by kernel_rfl,fun j t ht=>by
        rw [Tryz.params7] at ht
        have hm:t ∈ [26,3,29]:=by simpa using Array.mem_of_getElem? ht
        have hall:([26,3,29].all fun u=>!Tryz.prog.wantsStandIn u)=true:=by kernel_rfl
        exact (show Tryz.prog.wantsStandIn t=false by simpa using List.all_eq_true.1 hall t hm)⟩)
    (by kernel_rfl)
end Go.Proofs.YtklebhlanidloaaGreatDoor.shapeValue
namespace Go.Proofs.YtklebhlanidloaaGreatDoor
theorem shapeValue_card:Rows.ShapeValueCardSaid:=shapeValue.card
end Go.Proofs.YtklebhlanidloaaGreatDoor
