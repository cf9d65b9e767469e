/- Texts of this seat, joined. Conditions: none beyond each statement's own. -/
import Derived.Test.YtklebhlanidloaaGreatDoorD27
import Derived.Test.YtklebhlanidloaaGreatDoorD28
set_option linter.all false
section
noncomputable section
namespace Go.Proofs.YtklebhlanidloaaGreatDoor.PZ
open Go.RowKit Go.Proofs.YtklebhlanidloaaGreatDoorW.PrintWords Go.Proofs.YtklebhlanidloaaGreatDoorW.PrintLast Go.Proofs.YtklebhlanidloaaGreatDoorW.PrintMore
attribute [local go_sem] max2_int min2_int max_two min_two max_three min_three max_four min_four   -- for this text's walks alone
def exerguelaw17_shown.f (k:Nat)  : Option (Bool):=(exerguelaw17_latin.f).bind fun ao=>((shape_Write.f k ao.1 ao.2.1 ao.2.2.1 ao.2.2.2.1 ao.2.2.2.2.1 ao.2.2.2.2.2.1 ao.2.2.2.2.2.2 ([]:List (S114)) ([]:List (S114)) ([]:List (S114)) ([]:List (S114)) false 3 1 2 2 3 3 0 0 0 false 0 0 (-1) false (([1,2,3,4,5]:List Int)) (-1)).bind fun ak=>((exerguelaw17_latin.f).bind fun ai=>((shape_Read.f k ai.1 ai.2.1 ai.2.2.1 ai.2.2.2.1 ai.2.2.2.2.1 ai.2.2.2.2.2.1 ai.2.2.2.2.2.2 ([]:List (S114)) ([]:List (S114)) ([]:List (S114)) ([]:List (S114)) false 3 1 2 2 3 3 0 0 0 false 0 0 ak).bind fun aq=>((shape_Round.f k ([]:List (S114)) ([]:List (S114)) ([]:List (S114)) ([]:List (S114)) false 3 1 2 2 3 3 0 0 0 false 0 0 (-1) false (([1,2,5]:List Int)) (-3) 6).bind fun al=>((conv_text.f ak).bind fun aB=>(if aB.toList=([49,44,50,51,52,46,53,48]:List UInt8) then (if aq.2.2.2=0 then ((exergueref05_Text.f k aq.1 aq.2.1 aq.2.2.1).bind fun aC=>(if aC.toList=([49,50,51,52,53,101,45,49]:List UInt8) then (if al.2.2.2=0 then ((exergueref05_Text.f k al.1 al.2.1 al.2.2.1).bind fun aG=>(some (aG.toList == ([49,50,101,45,50]:List UInt8)))) else (none)) else (none))) else (none)) else (none)))))))
theorem exerguelaw17_shown.mono:∀ k,LeO (exerguelaw17_shown.f k ) (exerguelaw17_shown.f (k+1) ):=by
 intro  k
 unfold exerguelaw17_shown.f
 repeat' first|(with_reducible first|apply exergueref05_Text.mono|apply shape_Read.mono|apply shape_Round.mono|apply shape_Write.mono|apply LeO.refl|apply LeO.none|refine LeO.ite ?_ ?_|refine LeO.bind ?_ (fun _=>?_))|apply exergueref05_Text.mono|apply shape_Read.mono|apply shape_Round.mono|apply shape_Write.mono|apply LeO.none
def exerguelaw17_shown.T2:Bool×List (List Nat×List Nat):=(true,[([],[]),([],[]),([],[]),([2],[2]),([0,1,3,0],[0,1,3]),([4,4,0,1,2,3,4],[4])])
def exerguelaw17_shown.B2:List Nat:=[0,0,0,4,15,31]
theorem exerguelaw17_shown.tab2:rtab .any (opsOf Tryz.f11 2)=exerguelaw17_shown.T2:=by kernel_rfl
theorem exerguelaw17_shown.bits2:waitsOk exerguelaw17_shown.T2.2 exerguelaw17_shown.B2=true:=by kernel_rfl
def exerguelaw17_shown.T3:Bool×List (List Nat×List Nat):=(true,[([],[]),([],[]),([],[]),([0,1,2,0],[0,1,2]),([3],[3]),([4],[4]),([4],[4]),([],[]),([7,5,3,0,1,2,3,4,5,7],[5,7]),([6,8,0,1,2,3,4,5,6,7,8],[6])])
def exerguelaw17_shown.B3:List Nat:=[0,0,0,7,15,31,31,0,191,511]
theorem exerguelaw17_shown.tab3:rtab .any (opsOf Tryz.f11 3)=exerguelaw17_shown.T3:=by kernel_rfl
theorem exerguelaw17_shown.bits3:waitsOk exerguelaw17_shown.T3.2 exerguelaw17_shown.B3=true:=by kernel_rfl
theorem pbkS {W0 W:World}{g:Nat}(_:Sd (W0.heap[g]?=some (.cells #[.slice none 0 0,.slice none 0 0,.slice none 0 0,.slice none 0 0,.bool false,.int .i64 3,.int .i64 1,.int .i64 2,.int .i64 2,.int .i64 3,.int .i64 3,.int .i64 0,.int .i64 0,.int .i64 0,.bool false,.int .i32 0,.int .i64 0] 26 (0,0)))) [h:Sd (W.heap[g]?=some (.cells #[.slice none 0 0,.slice none 0 0,.slice none 0 0,.slice none 0 0,.bool false,.int .i64 3,.int .i64 1,.int .i64 2,.int .i64 2,.int .i64 3,.int .i64 3,.int .i64 0,.int .i64 0,.int .i64 0,.bool false,.int .i32 0,.int .i64 0] 26 (0,0)))]:PBox g (⟨false,3,1,2,2,3,3,0,0,0,false,0,0⟩:PS) V4.nil W:=h.out
set_option maxHeartbeats 8000000 in
set_option maxRecDepth 100000 in
theorem exerguelaw17_shown.calls (k:Nat)  (r:Bool)(w:World)(hG:GL w)(h:exerguelaw17_shown.f k  = some r) :
  Calls Tryz.prog 11 #[] w fun e w'=>e = .returned (.bool r)∧Below w.heap.size w w':=by
 have hu26:=Tryz.underlying26
 have hu29:=Tryz.underlying29
 have HB:=zS (Below.refl w.heap.size w)
 have HG:=zS hG
 clear hG
 have H:((exerguelaw17_latin.f).bind fun ao=>((shape_Write.f k ao.1 ao.2.1 ao.2.2.1 ao.2.2.2.1 ao.2.2.2.2.1 ao.2.2.2.2.2.1 ao.2.2.2.2.2.2 ([]:List (S114)) ([]:List (S114)) ([]:List (S114)) ([]:List (S114)) false 3 1 2 2 3 3 0 0 0 false 0 0 (-1) false (([1,2,3,4,5]:List Int)) (-1)).bind fun ak=>((exerguelaw17_latin.f).bind fun ai=>((shape_Read.f k ai.1 ai.2.1 ai.2.2.1 ai.2.2.2.1 ai.2.2.2.2.1 ai.2.2.2.2.2.1 ai.2.2.2.2.2.2 ([]:List (S114)) ([]:List (S114)) ([]:List (S114)) ([]:List (S114)) false 3 1 2 2 3 3 0 0 0 false 0 0 ak).bind fun aq=>((shape_Round.f k ([]:List (S114)) ([]:List (S114)) ([]:List (S114)) ([]:List (S114)) false 3 1 2 2 3 3 0 0 0 false 0 0 (-1) false (([1,2,5]:List Int)) (-3) 6).bind fun al=>((conv_text.f ak).bind fun aB=>(if aB.toList=([49,44,50,51,52,46,53,48]:List UInt8) then (if aq.2.2.2=0 then ((exergueref05_Text.f k aq.1 aq.2.1 aq.2.2.1).bind fun aC=>(if aC.toList=([49,50,51,52,53,101,45,49]:List UInt8) then (if al.2.2.2=0 then ((exergueref05_Text.f k al.1 al.2.1 al.2.2.1).bind fun aG=>(some (aG.toList == ([49,50,101,45,50]:List UInt8)))) else (none)) else (none))) else (none)) else (none))))))))=some r:=h
 clear h
 replace H:=Option.bind_eq_some_iff.mp H
 obtain ⟨⟨aU,aV,aW,aX,aY,aZ,a0⟩,A10,H⟩:=H
 try dsimp only at H
 have A1:=zS A10
 clear A10
 obtain ⟨av,aR⟩:∃ y_:List Int,y_=(([1,2,3,4,5]:List Int)):=⟨_,rfl⟩
 replace H:((shape_Write.f k aU aV aW aX aY aZ a0 ([]:List (S114)) ([]:List (S114)) ([]:List (S114)) ([]:List (S114)) false 3 1 2 2 3 3 0 0 0 false 0 0 (-1) false av (-1)).bind fun ak=>((exerguelaw17_latin.f).bind fun ai=>((shape_Read.f k ai.1 ai.2.1 ai.2.2.1 ai.2.2.2.1 ai.2.2.2.2.1 ai.2.2.2.2.2.1 ai.2.2.2.2.2.2 ([]:List (S114)) ([]:List (S114)) ([]:List (S114)) ([]:List (S114)) false 3 1 2 2 3 3 0 0 0 false 0 0 ak).bind fun aq=>((shape_Round.f k ([]:List (S114)) ([]:List (S114)) ([]:List (S114)) ([]:List (S114)) false 3 1 2 2 3 3 0 0 0 false 0 0 (-1) false (([1,2,5]:List Int)) (-3) 6).bind fun al=>((conv_text.f ak).bind fun aB=>(if aB.toList=([49,44,50,51,52,46,53,48]:List UInt8) then (if aq.2.2.2=0 then ((exergueref05_Text.f k aq.1 aq.2.1 aq.2.2.1).bind fun aC=>(if aC.toList=([49,50,51,52,53,101,45,49]:List UInt8) then (if al.2.2.2=0 then ((exergueref05_Text.f k al.1 al.2.1 al.2.2.1).bind fun aG=>(some (aG.toList == ([49,50,101,45,50]:List UInt8)))) else (none)) else (none))) else (none)) else (none)))))))=some r:=by first|(rw [aR];with_reducible exact H)|(have H2_:=(Option.bind_some _ _).symm.trans H;rw [aR];with_reducible exact H2_)|(have H2_:=(Option.bind_some _ _).symm.trans H;with_reducible exact H2_)|with_reducible exact H|(rw [aR];exact H)|exact H
 have bi:=zS aR
 clear aR
 replace H:=Option.bind_eq_some_iff.mp H
 obtain ⟨ak,A20,H⟩:=H
 try dsimp only at H
 have A2:=zS A20
 clear A20
 replace H:=Option.bind_eq_some_iff.mp H
 obtain ⟨⟨aH,aI,aJ,aK,aL,aM,aN⟩,A30,H⟩:=H
 try dsimp only at H
 have A3:=zS A30
 clear A30
 replace H:=Option.bind_eq_some_iff.mp H
 obtain ⟨⟨ay,az,aA,aE⟩,A40,H⟩:=H
 try dsimp only at H
 have A4:=zS A40
 clear A40
 obtain ⟨bf,aS⟩:∃ y_:List Int,y_=(([1,2,5]:List Int)):=⟨_,rfl⟩
 replace H:((shape_Round.f k ([]:List (S114)) ([]:List (S114)) ([]:List (S114)) ([]:List (S114)) false 3 1 2 2 3 3 0 0 0 false 0 0 (-1) false bf (-3) 6).bind fun al=>((conv_text.f ak).bind fun aB=>(if aB.toList=([49,44,50,51,52,46,53,48]:List UInt8) then (if aE=0 then ((exergueref05_Text.f k ay az aA).bind fun aC=>(if aC.toList=([49,50,51,52,53,101,45,49]:List UInt8) then (if al.2.2.2=0 then ((exergueref05_Text.f k al.1 al.2.1 al.2.2.1).bind fun aG=>(some (aG.toList == ([49,50,101,45,50]:List UInt8)))) else (none)) else (none))) else (none)) else (none))))=some r:=by first|(rw [aS];with_reducible exact H)|(have H2_:=(Option.bind_some _ _).symm.trans H;rw [aS];with_reducible exact H2_)|(have H2_:=(Option.bind_some _ _).symm.trans H;with_reducible exact H2_)|with_reducible exact H|(rw [aS];exact H)|exact H
 have bj:=zS aS
 clear aS
 replace H:=Option.bind_eq_some_iff.mp H
 obtain ⟨⟨aO,aP,aQ,bh⟩,A50,H⟩:=H
 try dsimp only at H
 have A5:=zS A50
 clear A50
 replace H:=Option.bind_eq_some_iff.mp H
 obtain ⟨aB,A60,H⟩:=H
 try dsimp only at H
 have A6:=zS A60
 clear A60
 by_cases c7:aB.toList=([49,44,50,51,52,46,53,48]:List UInt8)
 rotate_left
 ·rw [if_neg c7] at H
  exact absurd H (by simp)
 rw [if_pos c7] at H
 have bV:(aB.toList == ([49,44,50,51,52,46,53,48]:List UInt8))=true:=zH c7
 have bW:(aB.toList != ([49,44,50,51,52,46,53,48]:List UInt8))=false:=zG c7
 clear c7
 by_cases c8:aE=0
 rotate_left
 ·rw [if_neg c8] at H
  exact absurd H (by simp)
 rw [if_pos c8] at H
 have bX:(aE == 0)=true:=zH c8
 have bY:(aE != 0)=false:=zG c8
 clear c8
 replace H:=Option.bind_eq_some_iff.mp H
 obtain ⟨aC,A90,H⟩:=H
 try dsimp only at H
 have A9:=zS A90
 clear A90
 by_cases c10:aC.toList=([49,50,51,52,53,101,45,49]:List UInt8)
 rotate_left
 ·rw [if_neg c10] at H
  exact absurd H (by simp)
 rw [if_pos c10] at H
 have bE:(aC.toList == ([49,50,51,52,53,101,45,49]:List UInt8))=true:=zH c10
 have bF:(aC.toList != ([49,50,51,52,53,101,45,49]:List UInt8))=false:=zG c10
 clear c10
 by_cases c11:bh=0
 rotate_left
 ·rw [if_neg c11] at H
  exact absurd H (by simp)
 rw [if_pos c11] at H
 have bG:(bh == 0)=true:=zH c11
 have bH:(bh != 0)=false:=zG c11
 clear c11
 replace H:=Option.bind_eq_some_iff.mp H
 obtain ⟨aG,bk,H⟩:=H
 try dsimp only at H
 have A12:=zS bk
 clear bk
 obtain rfl:=zE H
 go_enter Tryz.func11,Tryz.ntmps11
 go_wp2_with (first|((with_reducible refine gate_dst (N:=1) rfl ?_);refine pat_alloc rfl rfl rfl ?_;intro am w13 hg hbox hb;have BK0:=zS hbox;have bm:=bg HB hg;replace HB:=bs HB hb;clear hb hbox hg)|(refine pat_store rfl rfl rfl am rfl (⟨false,3,1,2,2,3,3,0,0,0,false,0,0⟩:PS) V4.nil rfl _ _ BK0.out ?_;intro w15 hw9 hb9;have aa:Sd (w15.heap[am]?=some (.cells #[.slice none 0 0,.slice none 0 0,.slice none 0 0,.slice none 0 0,.bool false,.int .i64 3,.int .i64 1,.int .i64 2,.int .i64 2,.int .i64 3,.int .i64 3,.int .i64 0,.int .i64 0,.int .i64 0,.bool false,.int .i32 0,.int .i64 0] 26 (0,0))):=⟨hw9⟩;replace HB:=zS (hb9.below _ _ HB.out bm.out);clear hw9 hb9 BK0))
 replace aa:=zS (blk_drew aa.out)
 replace HB:=zS (below_drew1 HB.out)
 refine start_ (n:=6) (S:=fun w'=>True) (ds:=[]) (bZ 6 0) (by kernel_rfl) rfl (by kernel_rfl) trivial (fun hHeld=>?_);refine with_tabW exerguelaw17_shown.tab2 exerguelaw17_shown.bits2 (fun HT_ HW_=>?_)
 generalize w15.drew=w16 at aa HB hHeld ⊢
 refine inv_at [0,1,2,3,4,5] (fun a0_ b a w'=>∃ (aw:Value) (ar:Value) (m3_:Value) (m5_:Value),a=putSel a0_ b [(0,8,.agg #[.int .i32 aU,.int .i32 aV,.int .i32 aW,.int .i32 aX,.int .i32 aY,.int .i32 aZ,.int .i32 a0]),(1,9,.agg #[.slice none 0 0,.slice none 0 0,.slice none 0 0,.slice none 0 0,.bool false,.int .i64 3,.int .i64 1,.int .i64 2,.int .i64 2,.int .i64 3,.int .i64 3,.int .i64 0,.int .i64 0,.int .i64 0,.bool false,.int .i32 0,.int .i64 0]),(2,10,aw),(3,11,m3_),(4,12,ar),(5,2,m5_)]∧(w'.heap[am]?=some (.cells #[.slice none 0 0,.slice none 0 0,.slice none 0 0,.slice none 0 0,.bool false,.int .i64 3,.int .i64 1,.int .i64 2,.int .i64 2,.int .i64 3,.int .i64 3,.int .i64 0,.int .i64 0,.int .i64 0,.bool false,.int .i32 0,.int .i64 0] 26 (0,0)))∧(Below w.heap.size w w')∧(b 2=true→Kd.R (Kd.int .u8) 5 w' w.heap.size (fun _=>True) aw av)∧(b 4=true→Kd.R (Kd.int .i32) 21 w' w.heap.size (fun _=>True) ar ak)∧(b 3=true→(m3_:Value) = .agg #[.bool false,aw,.int .i64 (-1)])∧(b 5=true→(m5_:Value)=ar)) HT_.out HW_.out (by kernel_rfl) (by kernel_rfl) ?_ ?_ ?_
 ·exact ⟨.bool false,.bool false,.bool false,.bool false,by simp only [putSel,Bool.false_eq_true,if_false],aa.out,HB.out,fun h_=>absurd h_ (by decide),fun h_=>absurd h_ (by decide),fun h_=>absurd h_ (by decide),fun h_=>absurd h_ (by decide)⟩
 ·skip
  clear aa HB
  refine steps_cons ?_ ?_
  ·rintro b a w' ⟨aw,ar,m3_,m5_,ha,Q_BK410,Q_HB,Q_HO420,Q_HO423,Q_X3_,Q_X5_⟩ hb_ hon hoff
   refine ⟨_,rfl,fun K hK=>?_⟩
   replace ha:=zS ha
   have aa:=zS Q_BK410
   have HB:=zS Q_HB
   refine goes_ Tryz.func34 (by kernel_rfl) rfl #[] (by rfl) rfl rfl (by first|(simp only [List.map_toArray,List.map_cons,List.map_nil,Act.eval,Array.getD_eq_getD_getElem?,Option.getD_some];done)|(simp only [List.map_toArray,List.map_cons,List.map_nil,Act.eval,Array.getD_eq_getD_getElem?,Option.getD_some];rfl)) ?_
   with_reducible refine (exerguelaw17_latin.calls  aU aV aW aX aY aZ a0 _ A1.out).mono ?_
   rintro e w17 ⟨rfl,hb⟩
   refine ⟨_,rfl,?_⟩
   have n0_:=kb aa hb
   have n1_:=bs HB hb
   have z_HO420:=fun (h0_:b 2=true)=>(show Kd.R (Kd.int .u8) 5 w17 w.heap.size (fun _=>True) aw av from by first|exact (Kd.R_below (by (with_reducible repeat (first|apply Kd.R_alloc|apply Kd.R_drewN|apply Kd.R_drew));exact (Q_HO420 h0_)) hb)|exact Kd.R_mono (Kd.R_below (by (with_reducible repeat (first|apply Kd.R_alloc|apply Kd.R_drewN|apply Kd.R_drew));exact (Q_HO420 h0_)) hb) (fun _ h_=>by first|trivial|exact h_|exact h_.1))
   clear aa
   clear HB
   have aa:=n0_
   have HB:=n1_
   clear n0_ n1_
   (try clear hb)
   (try clear hb2)
   (try clear hk)
   (try clear hi)
   refine hK.out _ _ ⟨aw,ar,m3_,m5_,(by rw [ha.out];exact putSel_upk 0 hb_ rfl rfl rfl),(ko aa),(bl HB),z_HO420,fun h0_=>absurd ((hoff 4 (by kernel_rfl)).symm.trans h0_) (by decide),Q_X3_,fun h0_=>absurd ((hoff 5 (by kernel_rfl)).symm.trans h0_) (by decide)⟩
  refine steps_cons ?_ ?_
  ·rintro b a w' ⟨aw,ar,m3_,m5_,ha,Q_BK410,Q_HB,Q_HO420,Q_HO423,Q_X3_,Q_X5_⟩ hb_ hon hoff
   refine ⟨_,rfl,fun K hK=>?_⟩
   have e1:a.tmps[1]?=some (.pointer (some ⟨am,0,none⟩)):=by rw [ha];exact (putSel_off rfl).trans rfl
   replace ha:=zS ha
   have aa:=zS Q_BK410
   have HB:=zS Q_HB
   refine value_ (w1:=w') (v:=.agg #[.slice none 0 0,.slice none 0 0,.slice none 0 0,.slice none 0 0,.bool false,.int .i64 3,.int .i64 1,.int .i64 2,.int .i64 2,.int .i64 3,.int .i64 3,.int .i64 0,.int .i64 0,.int .i64 0,.bool false,.int .i32 0,.int .i64 0]) (by rfl) rfl ?_ ?_
   ·exact pat_load_run (by rfl) am (by simp [Act.eval,e1]) (⟨false,3,1,2,2,3,3,0,0,0,false,0,0⟩:PS) V4.nil aa.out
   refine hK.out _ _ ⟨aw,ar,m3_,m5_,(by rw [ha.out];exact putSel_upk 1 hb_ rfl rfl rfl),Q_BK410,Q_HB,Q_HO420,fun h0_=>absurd ((hoff 4 (by kernel_rfl)).symm.trans h0_) (by decide),Q_X3_,fun h0_=>absurd ((hoff 5 (by kernel_rfl)).symm.trans h0_) (by decide)⟩
  refine steps_cons ?_ ?_
  ·rintro b a w' ⟨aw,ar,m3_,m5_,ha,Q_BK410,Q_HB,Q_HO420,Q_HO423,Q_X3_,Q_X5_⟩ hb_ hon hoff
   refine ⟨_,rfl,fun K hK=>?_⟩
   replace ha:=zS ha
   have aa:=zS Q_BK410
   have HB:=zS Q_HB
   refine Kd.R_lit_step (Kd.int .u8) _ 5 ?hg (N:=10) ?hd (xs:=([1,2,3,4,5]:List Int)) (inner:=[.int .u8 1,.int .u8 2,.int .u8 3,.int .u8 4,.int .u8 5]) (ok:=fun _=>True) (okp:=fun _=>True) ?hr ?hp (fun _ hk=>hk) trivial (Below.refl _ _) (Nat.le_refl _) (by simp) ?_;(case hd=>rfl);(case hg=>rfl);(case hr=>first|(go_simp;done)|(go_simp;rfl));(case hp=>exact (Reps.one (show Kd.M (Kd.int .u8) _ _ _ 1 [.int .u8 1] from rfl) (Reps.one (show Kd.M (Kd.int .u8) _ _ _ 2 [.int .u8 2] from rfl) (Reps.one (show Kd.M (Kd.int .u8) _ _ _ 3 [.int .u8 3] from rfl) (Reps.one (show Kd.M (Kd.int .u8) _ _ _ 4 [.int .u8 4] from rfl) (Reps.one (show Kd.M (Kd.int .u8) _ _ _ 5 [.int .u8 5] from rfl) (Reps.none _ _)))))))
   intro aw w17 ba hb hg_ hnew_
   clear hg_ hnew_
   (first|rw [← bi.out] at ba|(simp only [Int.reduceToNat] at ba;rw [← bi.out] at ba))
   have ab:=zS (Kd.R_lower ba (bz HB))
   replace aa:=kb aa hb
   replace HB:=bs HB hb
   clear hb ba
   obtain ⟨bx,bA,bn⟩:=Kd.R_slice ab.out
   (first|subst bn|(injection bn with f1_ f2_ f3_;have f4_:=f1_.symm;have f5_:=f3_.symm;clear f1_ f2_ f3_;subst f4_;subst f5_))
   refine hK.out _ _ ⟨.slice bx av.length bA,ar,m3_,m5_,(by rw [ha.out];exact putSel_upk 2 hb_ rfl rfl rfl),(ko aa),(bl HB),fun _=>(ro ab),fun h0_=>absurd ((hoff 4 (by kernel_rfl)).symm.trans h0_) (by decide),fun h0_=>absurd ((hoff 3 (by kernel_rfl)).symm.trans h0_) (by decide),fun h0_=>absurd ((hoff 5 (by kernel_rfl)).symm.trans h0_) (by decide)⟩
  refine steps_cons ?_ ?_
  ·rintro b a w' ⟨aw,ar,m3_,m5_,ha,Q_BK410,Q_HB,Q_HO420,Q_HO423,Q_X3_,Q_X5_⟩ hb_ hon hoff
   refine ⟨_,rfl,fun K hK=>?_⟩
   have e10:a.tmps[10]?=some (aw):=by rw [ha];exact putSel_on (e:=(2,10,aw)) 2 rfl rfl (hon 2 (by kernel_rfl)) rfl
   replace ha:=zS ha
   have aa:=zS Q_BK410
   have HB:=zS Q_HB
   have ab:=zS (Q_HO420 (hon 2 (by kernel_rfl)))
   obtain ⟨bb,bc,eo_⟩:=Kd.R_slice ab.out
   subst eo_
   refine value_ (w1:=w') (v:=.agg #[.bool false,.slice bb av.length bc,.int .i64 (-1)]) (by rfl) rfl ?_ ?_
   ·go_simp
    (try simp only [i64_w])
    try rfl
   refine hK.out _ _ ⟨.slice bb av.length bc,ar,(.agg #[.bool false,.slice bb av.length bc,.int .i64 (-1)]),m5_,(by rw [ha.out];exact putSel_upk 3 hb_ rfl rfl rfl),Q_BK410,Q_HB,Q_HO420,fun h0_=>absurd ((hoff 4 (by kernel_rfl)).symm.trans h0_) (by decide),fun _=>rfl,fun h0_=>absurd ((hoff 5 (by kernel_rfl)).symm.trans h0_) (by decide)⟩
  refine steps_cons ?_ ?_
  ·rintro b a w' ⟨aw,ar,m3_,m5_,ha,Q_BK410,Q_HB,Q_HO420,Q_HO423,Q_X3_,Q_X5_⟩ hb_ hon hoff
   refine ⟨_,rfl,fun K hK=>?_⟩
   have e8:a.tmps[8]?=some (.agg #[.int .i32 aU,.int .i32 aV,.int .i32 aW,.int .i32 aX,.int .i32 aY,.int .i32 aZ,.int .i32 a0]):=by rw [ha];exact putSel_on (e:=(0,8,.agg #[.int .i32 aU,.int .i32 aV,.int .i32 aW,.int .i32 aX,.int .i32 aY,.int .i32 aZ,.int .i32 a0])) 0 rfl rfl (hon 0 (by kernel_rfl)) rfl
   have e9:a.tmps[9]?=some (.agg #[.slice none 0 0,.slice none 0 0,.slice none 0 0,.slice none 0 0,.bool false,.int .i64 3,.int .i64 1,.int .i64 2,.int .i64 2,.int .i64 3,.int .i64 3,.int .i64 0,.int .i64 0,.int .i64 0,.bool false,.int .i32 0,.int .i64 0]):=by rw [ha];exact putSel_on (e:=(1,9,.agg #[.slice none 0 0,.slice none 0 0,.slice none 0 0,.slice none 0 0,.bool false,.int .i64 3,.int .i64 1,.int .i64 2,.int .i64 2,.int .i64 3,.int .i64 3,.int .i64 0,.int .i64 0,.int .i64 0,.bool false,.int .i32 0,.int .i64 0])) 1 rfl rfl (hon 1 (by kernel_rfl)) rfl
   have e11:a.tmps[11]?=some (m3_):=by rw [ha];exact putSel_on (e:=(3,11,m3_)) 3 rfl rfl (hon 3 (by kernel_rfl)) rfl
   rw [Q_X3_ (hon 3 (by kernel_rfl))] at e11
   replace ha:=zS ha
   have aa:=zS Q_BK410
   have HB:=zS Q_HB
   have ab:=zS (Q_HO420 (hon 2 (by kernel_rfl)))
   obtain ⟨bo,bp,bq⟩:=Kd.R_slice ab.out
   (first|subst bq|(injection bq with f1_ f2_ f3_;have f4_:=f1_.symm;have f5_:=f3_.symm;clear f1_ f2_ f3_;subst f4_;subst f5_))
   refine goes_ Tryz.func22 (by kernel_rfl) rfl #[.agg #[.int .i32 aU,.int .i32 aV,.int .i32 aW,.int .i32 aX,.int .i32 aY,.int .i32 aZ,.int .i32 a0],.agg #[.slice none 0 0,.slice none 0 0,.slice none 0 0,.slice none 0 0,.bool false,.int .i64 3,.int .i64 1,.int .i64 2,.int .i64 2,.int .i64 3,.int .i64 3,.int .i64 0,.int .i64 0,.int .i64 0,.bool false,.int .i32 0,.int .i64 0],.int .i64 (-1),.agg #[.bool false,.slice bo av.length bp,.int .i64 (-1)]] (by rfl) rfl rfl (by first|(simp only [List.map_toArray,List.map_cons,List.map_nil,Act.eval,Array.getD_eq_getD_getElem?,Option.getD_some,e8,e9,e11];done)|(simp only [List.map_toArray,List.map_cons,List.map_nil,Act.eval,Array.getD_eq_getD_getElem?,Option.getD_some,e8,e9,e11];rfl)) ?_
   refine (shape_Write.calls k aU aV aW aX aY aZ a0 _ _ ([]:List (S114)) _ _ ([]:List (S114)) _ _ ([]:List (S114)) _ _ ([]:List (S114)) false 3 1 2 2 3 3 0 0 0 false 0 0 (-1) false _ _ av (-1) ak _ ?side11 ?side1 ?side2 ?side3 ?side4 ?side5 ?side6 ?side7 ?side8 ?side9 ?side10 A2.out).mono ?_
   (case side1=>exact Kd.C_nil _ _)
   (case side2=>exact Nat.le_refl _)
   (case side3=>exact Kd.C_nil _ _)
   (case side4=>exact Nat.le_refl _)
   (case side5=>exact Kd.C_nil _ _)
   (case side6=>exact Nat.le_refl _)
   (case side7=>exact Kd.C_nil _ _)
   (case side8=>exact Nat.le_refl _)
   (case side9=>exact (Kd.R_reads' ab.out).2.2)
   (case side10=>exact (Kd.R_reads' ab.out).2.1)
   (case side11=>refine GL.below HG.out ?_;exact bl HB)
   rintro e w23 ⟨ar,rfl,ho0,hb⟩
   refine ⟨_,rfl,?_⟩
   replace ab:=rb ab hb
   have ac:=zS (Kd.R_lower ho0 (bz HB))
   replace aa:=kb aa hb
   replace HB:=bs HB hb
   (try clear hb)
   (try clear hb2)
   (try clear hk)
   (try clear hi)
   (try clear ho0)
   refine hK.out _ _ ⟨.slice bo av.length bp,ar,m3_,m5_,(by rw [ha.out];exact putSel_upk 4 hb_ rfl rfl rfl),(ko aa),(bl HB),fun _=>(ro ab),fun _=>(ro ac),Q_X3_,fun h0_=>absurd ((hoff 5 (by kernel_rfl)).symm.trans h0_) (by decide)⟩
  refine steps_cons ?_ ?_
  ·rintro b a w' ⟨aw,ar,m3_,m5_,ha,Q_BK410,Q_HB,Q_HO420,Q_HO423,Q_X3_,Q_X5_⟩ hb_ hon hoff
   refine ⟨_,rfl,fun K hK=>?_⟩
   have e12:a.tmps[12]?=some (ar):=by rw [ha];exact putSel_on (e:=(4,12,ar)) 4 rfl rfl (hon 4 (by kernel_rfl)) rfl
   replace ha:=zS ha
   have aa:=zS Q_BK410
   have HB:=zS Q_HB
   have ab:=zS (Q_HO420 (hon 2 (by kernel_rfl)))
   have ac:=zS (Q_HO423 (hon 4 (by kernel_rfl)))
   refine value_ (w1:=w') (v:=ar) (by rfl) rfl ?_ ?_
   ·go_simp
    (try simp only [i64_w])
    try rfl
   refine hK.out _ _ ⟨aw,ar,m3_,(ar),(by rw [ha.out];exact putSel_upk 5 hb_ rfl rfl rfl),Q_BK410,Q_HB,Q_HO420,Q_HO423,Q_X3_,fun _=>rfl⟩
  exact steps_nil
 rintro b a w22 hall ⟨aw,ar,m3_,m5_,ha,Q_BK410,Q_HB,Q_HO420,Q_HO423,Q_X3_,Q_X5_⟩
 clear aa HB
 have hb0_:=hall 0 (by kernel_rfl)
 have hb1_:=hall 1 (by kernel_rfl)
 have hb2_:=hall 2 (by kernel_rfl)
 have hb3_:=hall 3 (by kernel_rfl)
 have hb4_:=hall 4 (by kernel_rfl)
 have hb5_:=hall 5 (by kernel_rfl)
 subst ha
 obtain rfl:=Q_X3_ hb3_
 obtain rfl:=Q_X5_ hb5_
 simp only [putSel,hb0_,hb1_,hb2_,hb3_,hb4_,hb5_,if_true,Act.put,List.setIfInBounds_toArray,List.set_cons_zero,List.set_cons_succ]
 have aa:=zS Q_BK410
 clear Q_BK410
 have HB:=zS Q_HB
 clear Q_HB
 have ab:=zS (Q_HO420 hb2_)
 clear Q_HO420
 have ac:=zS (Q_HO423 hb4_)
 clear Q_HO423
 clear hall hb0_ hb1_ hb2_ hb3_ hb4_ hb5_
 obtain ⟨bd,be,br⟩:=Kd.R_slice ab.out
 (first|subst br|(injection br with f1_ f2_ f3_;have f4_:=f1_.symm;have f5_:=f3_.symm;clear f1_ f2_ f3_;subst f4_;subst f5_))
 obtain ⟨aF,aD,bB⟩:=Kd.R_slice ac.out
 subst bB
 try go_wp2
 replace ab:=zS (Kd.R_drew ab.out)
 replace ac:=zS (Kd.R_drew ac.out)
 replace aa:=zS (blk_drew aa.out)
 replace HB:=zS (below_drew1 HB.out)
 refine start_ (n:=10) (S:=fun w'=>PBox am (⟨false,3,1,2,2,3,3,0,0,0,false,0,0⟩:PS) V4.nil w') (ds:=[]) (bZ 10 0) (by kernel_rfl) rfl (by kernel_rfl) (pbkS aa) (fun hHeld=>?_);refine with_tabW exerguelaw17_shown.tab3 exerguelaw17_shown.bits3 (fun HT_ HW_=>?_)
 generalize w22.drew=w25 at ab ac aa HB hHeld ⊢
 refine p1 2 16 4 HT_ (v:=?_) ?_ (a':=?_) ?_ ?_
 rotate_left
 ·intro w';go_simp;with_reducible rfl
 rotate_left
 ·simp only [Act.put,sA,sB,sC,i64_w,i32_w];rfl
 refine p2 1 15 6 HT_ HW_ (v:=?_) ?_ hHeld (a':=?_) ?_ ?_
 rotate_left
 ·intro w' hs;refine (pat_load_run (by rfl) am (by rfl) _ _ hs).trans ?_;with_reducible rfl
 rotate_left
 ·simp only [Act.put,sA,sB,sC,i64_w,i32_w];rfl
 refine join_ (σ:=Value×Nat) 2 (bZ 10 255) (fun s_=>[(14,.agg #[.int .i32 aH,.int .i32 aI,.int .i32 aJ,.int .i32 aK,.int .i32 aL,.int .i32 aM,.int .i32 aN]),(17,.tuple #[.agg #[.bool ay,s_.1,.int .i64 aA],.int .i64 aE]),(3,.pointer (some ⟨s_.2,0,none⟩)),(13,.tuple #[.agg #[.bool ay,s_.1,.int .i64 aA],.int .i64 aE]),(18,.agg #[.bool ay,s_.1,.int .i64 aA]),(19,.int .i64 aE)]) (fun s_ w'=>(PBox am (⟨false,3,1,2,2,3,3,0,0,0,false,0,0⟩:PS) V4.nil w')∧(Kd.R (Kd.int .u8) 5 w' w.heap.size (fun k_=>some k_≠(s_.1:Value).ownBlock) (.slice bd av.length be) av)∧(Kd.R (Kd.int .i32) 21 w' w.heap.size (fun _=>True) (.slice aF ak.length aD) ak)∧(Kd.R (Kd.int .u8) 5 w' w.heap.size (fun k_=>some k_≠(.slice bd av.length be:Value).ownBlock) s_.1 az)∧(w'.heap[am]?=some (.cells #[.slice none 0 0,.slice none 0 0,.slice none 0 0,.slice none 0 0,.bool false,.int .i64 3,.int .i64 1,.int .i64 2,.int .i64 2,.int .i64 3,.int .i64 3,.int .i64 0,.int .i64 0,.int .i64 0,.bool false,.int .i32 0,.int .i64 0] 26 (0,0)))∧(w'.heap[s_.2]?=some (.cells #[.bool false,.slice none 0 0,.int .i64 0] 29 (0,0)))∧(w.heap.size≤s_.2)∧(w.heap.size≤s_.2)∧(am≠s_.2)∧(s_.2≠am)∧(Below w.heap.size w w')) ?_ ?_
 rotate_left
 ·intro hCont
  refine two_ (i:=0) (j:=7) (Ni:=some 14) (Nj:=some 3) (bZ 10 7) (bZ 10 134) rfl rfl rfl rfl (two_of HT_.out (by kernel_rfl)) (by decide) (by decide) (fun K hK=>?_) (fun K hK=>?_)
  ·skip
   refine goes_ Tryz.func34 (by kernel_rfl) rfl #[] (by rfl) rfl rfl (by (try simp only [mA,mB,mC]);first|done|rfl|(simp only [lD,lT];rfl)) ?_
   with_reducible refine (exerguelaw17_latin.calls  aH aI aJ aK aL aM aN _ A3.out).mono ?_
   rintro e w26 ⟨rfl,hb⟩
   refine ⟨_,rfl,?_⟩
   replace ab:=rb ab hb
   replace ac:=rb ac hb
   replace aa:=kb aa hb
   replace HB:=bs HB hb
   (try clear hb)
   (try clear hb2)
   (try clear hk)
   (try clear hi)
   refine hK.out _ _ (pbkS aa) (fun hHeld=>?_)
   clear hK K
   refine norm_ (a':=?_) ?_ ?_
   rotate_left
   ·show Act.put _ (some 14) _=_
    simp only [Act.put,sA,sB,sC,i64_w,i32_w]
    rfl
   refine two_ (i:=3) (j:=7) (Ni:=some 17) (Nj:=some 3) (bZ 10 15) (bZ 10 135) rfl rfl rfl rfl (two_of HT_.out (by kernel_rfl)) (by decide) (by decide) (fun K hK=>?_) (fun K hK=>?_)
   ·skip
    refine goes_ Tryz.func24 (by kernel_rfl) rfl #[.agg #[.int .i32 aH,.int .i32 aI,.int .i32 aJ,.int .i32 aK,.int .i32 aL,.int .i32 aM,.int .i32 aN],.agg #[.slice none 0 0,.slice none 0 0,.slice none 0 0,.slice none 0 0,.bool false,.int .i64 3,.int .i64 1,.int .i64 2,.int .i64 2,.int .i64 3,.int .i64 3,.int .i64 0,.int .i64 0,.int .i64 0,.bool false,.int .i32 0,.int .i64 0],.slice aF ak.length aD] (by rfl) rfl rfl (by (try simp only [mA,mB,mC]);first|done|rfl|(simp only [lD,lT];rfl)) ?_
    refine (shape_Read.calls k aH aI aJ aK aL aM aN _ _ ([]:List (S114)) _ _ ([]:List (S114)) _ _ ([]:List (S114)) _ _ ([]:List (S114)) false 3 1 2 2 3 3 0 0 0 false 0 0 (fun k_=>some k_=(.slice aF ak.length aD:Value).ownBlock) _ _ ak ay az aA aE _ ?side1 ?side2 ?side3 ?side4 ?side5 ?side6 ?side7 ?side8 ?side9 A4.out).mono ?_
    (case side1=>exact Kd.C_nil _ _)
    (case side2=>exact Nat.le_refl _)
    (case side3=>exact Kd.C_nil _ _)
    (case side4=>exact Nat.le_refl _)
    (case side5=>exact Kd.C_nil _ _)
    (case side6=>exact Nat.le_refl _)
    (case side7=>exact Kd.C_nil _ _)
    (case side8=>exact Nat.le_refl _)
    (case side9=>exact Kd.R_V (Kd.R_tight rfl (Kd.R_types (Kd.R_apart' (ac.out) (Kd.R_typed ab.out) (by decide)) aa.out (by decide))))
    rintro e w27 ⟨aT,rfl,ho0,hb⟩
    refine ⟨_,rfl,?_⟩
    replace ac:=rb ac hb
    have af:=zS (Kd.R_lower (Kd.R_new' (Kd.R_mono (ok':=fun k_=>True) ho0 (fun _ hk_=>trivial)) (Kd.R_lt (ro ab))) (bz HB))
    replace ab:=zS (Kd.R_elder' (ro ab) (Kd.R_base ho0) hb)
    replace aa:=kb aa hb
    replace HB:=bs HB hb
    (try clear hb)
    (try clear hb2)
    (try clear hk)
    (try clear hi)
    (try clear ho0)
    refine hK.out _ _ (pbkS aa) (fun hHeld=>?_)
    clear hK K
    refine norm_ (a':=?_) ?_ ?_
    rotate_left
    ·show Act.put _ (some 17) _=_
     simp only [Act.put,sA,sB,sC,i64_w,i32_w]
     rfl
    refine p1 4 13 31 HT_ (v:=?_) ?_ (a':=?_) ?_ ?_
    rotate_left
    ·intro w';go_simp;with_reducible rfl
    rotate_left
    ·simp only [Act.put,sA,sB,sC,i64_w,i32_w];rfl
    refine p1 5 18 63 HT_ (v:=?_) ?_ (a':=?_) ?_ ?_
    rotate_left
    ·intro w';go_simp;with_reducible rfl
    rotate_left
    ·simp only [Act.put,sA,sB,sC,i64_w,i32_w];rfl
    refine p1 6 19 127 HT_ (v:=?_) ?_ (a':=?_) ?_ ?_
    rotate_left
    ·intro w';go_simp;with_reducible rfl
    rotate_left
    ·simp only [Act.put,sA,sB,sC,i64_w,i32_w];rfl
    refine one_ (i:=7) (N:=some 3) (bZ 10 255) rfl rfl (one_of HT_.out (by kernel_rfl)) (by decide) (fun K hK=>?_)
    refine box_step ?hg (N:=3) ?hd (cs:=#[.bool false,.slice none 0 0,.int .i64 0]) (t:=29) ?hr ?_;(case hd=>rfl);(case hg=>rfl);(case hr=>first|(go_simp;done)|(go_simp;rfl))
    intro ae hg w28 hbox hb
    replace ab:=rb ab hb
    replace ac:=rb ac hb
    replace af:=rb af hb
    have ad:=zS (hbox)
    have au:=bg HB hg
    have au:=bg HB hg
    replace HB:=bs HB hb
    have ag:=kn aa hg
    have ah:=km aa hg
    replace aa:=kb aa hb
    clear hb hbox hg
    refine hK.out _ _ (pbkS aa) (fun hHeld=>?_)
    clear hK K
    refine norm_ (a':=?_) ?_ ?_
    rotate_left
    ·show Act.put _ (some 3) _=_
     simp only [Act.put,sA,sB,sC,i64_w,i32_w]
     rfl
    exact norm_ (by simp only [putAll,Act.put,List.setIfInBounds_toArray,List.set_cons_zero,List.set_cons_succ]) (hCont (aT,ae) _ ⟨hHeld,(by (with_reducible repeat (first|apply Kd.R_alloc|apply Kd.R_drewN|apply Kd.R_drew));exact Kd.R_mono ab.out (fun _ hk=>hk.2)),(ro ac),(by (with_reducible repeat (first|apply Kd.R_alloc|apply Kd.R_drewN|apply Kd.R_drew));exact Kd.R_mono af.out (fun _ hk=>hk.2)),(ko aa),(ko ad),au.out,au.out,ag.out,ah.out,(bl HB)⟩)
   skip
   refine box_step ?hg (N:=3) ?hd (cs:=#[.bool false,.slice none 0 0,.int .i64 0]) (t:=29) ?hr ?_;(case hd=>rfl);(case hg=>rfl);(case hr=>first|(go_simp;done)|(go_simp;rfl))
   intro ae hg w27 hbox hb
   replace ab:=rb ab hb
   replace ac:=rb ac hb
   have ad:=zS (hbox)
   have au:=bg HB hg
   have au:=bg HB hg
   replace HB:=bs HB hb
   have ag:=kn aa hg
   have ah:=km aa hg
   replace aa:=kb aa hb
   clear hb hbox hg
   refine hK.out _ _ (pbkS aa) (fun hHeld=>?_)
   clear hK K
   refine norm_ (a':=?_) ?_ ?_
   rotate_left
   ·show Act.put _ (some 3) _=_
    simp only [Act.put,sA,sB,sC,i64_w,i32_w]
    rfl
   refine one_ (i:=3) (N:=some 17) (bZ 10 143) rfl rfl (one_of HT_.out (by kernel_rfl)) (by decide) (fun K hK=>?_)
   refine goes_ Tryz.func24 (by kernel_rfl) rfl #[.agg #[.int .i32 aH,.int .i32 aI,.int .i32 aJ,.int .i32 aK,.int .i32 aL,.int .i32 aM,.int .i32 aN],.agg #[.slice none 0 0,.slice none 0 0,.slice none 0 0,.slice none 0 0,.bool false,.int .i64 3,.int .i64 1,.int .i64 2,.int .i64 2,.int .i64 3,.int .i64 3,.int .i64 0,.int .i64 0,.int .i64 0,.bool false,.int .i32 0,.int .i64 0],.slice aF ak.length aD] (by rfl) rfl rfl (by (try simp only [mA,mB,mC]);first|done|rfl|(simp only [lD,lT];rfl)) ?_
   refine (shape_Read.calls k aH aI aJ aK aL aM aN _ _ ([]:List (S114)) _ _ ([]:List (S114)) _ _ ([]:List (S114)) _ _ ([]:List (S114)) false 3 1 2 2 3 3 0 0 0 false 0 0 (fun k_=>some k_=(.slice aF ak.length aD:Value).ownBlock) _ _ ak ay az aA aE _ ?side1 ?side2 ?side3 ?side4 ?side5 ?side6 ?side7 ?side8 ?side9 A4.out).mono ?_
   (case side1=>exact Kd.C_nil _ _)
   (case side2=>exact Nat.le_refl _)
   (case side3=>exact Kd.C_nil _ _)
   (case side4=>exact Nat.le_refl _)
   (case side5=>exact Kd.C_nil _ _)
   (case side6=>exact Nat.le_refl _)
   (case side7=>exact Kd.C_nil _ _)
   (case side8=>exact Nat.le_refl _)
   (case side9=>exact Kd.R_V (Kd.R_tight rfl (Kd.R_types (Kd.R_types (Kd.R_apart' (ac.out) (Kd.R_typed ab.out) (by decide)) aa.out (by decide)) ad.out (by decide))))
   rintro e w28 ⟨aT,rfl,ho0,hb⟩
   refine ⟨_,rfl,?_⟩
   replace ac:=rb ac hb
   have af:=zS (Kd.R_lower (Kd.R_new' (Kd.R_mono (ok':=fun k_=>True) ho0 (fun _ hk_=>trivial)) (Kd.R_lt (ro ab))) (bz HB))
   replace ab:=zS (Kd.R_elder' (ro ab) (Kd.R_base ho0) hb)
   replace aa:=kb aa hb
   replace ad:=kb ad hb
   replace HB:=bs HB hb
   (try clear hb)
   (try clear hb2)
   (try clear hk)
   (try clear hi)
   (try clear ho0)
   refine hK.out _ _ (pbkS aa) (fun hHeld=>?_)
   clear hK K
   refine norm_ (a':=?_) ?_ ?_
   rotate_left
   ·show Act.put _ (some 17) _=_
    simp only [Act.put,sA,sB,sC,i64_w,i32_w]
    rfl
   refine p1 4 13 159 HT_ (v:=?_) ?_ (a':=?_) ?_ ?_
   rotate_left
   ·intro w';go_simp;with_reducible rfl
   rotate_left
   ·simp only [Act.put,sA,sB,sC,i64_w,i32_w];rfl
   refine p1 5 18 191 HT_ (v:=?_) ?_ (a':=?_) ?_ ?_
   rotate_left
   ·intro w';go_simp;with_reducible rfl
   rotate_left
   ·simp only [Act.put,sA,sB,sC,i64_w,i32_w];rfl
   refine p1 6 19 255 HT_ (v:=?_) ?_ (a':=?_) ?_ ?_
   rotate_left
   ·intro w';go_simp;with_reducible rfl
   rotate_left
   ·simp only [Act.put,sA,sB,sC,i64_w,i32_w];rfl
   exact norm_ (by simp only [putAll,Act.put,List.setIfInBounds_toArray,List.set_cons_zero,List.set_cons_succ]) (hCont (aT,ae) _ ⟨hHeld,(by (with_reducible repeat (first|apply Kd.R_alloc|apply Kd.R_drewN|apply Kd.R_drew));exact Kd.R_mono ab.out (fun _ hk=>hk.2)),(ro ac),(by (with_reducible repeat (first|apply Kd.R_alloc|apply Kd.R_drewN|apply Kd.R_drew));exact Kd.R_mono af.out (fun _ hk=>hk.2)),(ko aa),(ko ad),au.out,au.out,ag.out,ah.out,(bl HB)⟩)
  skip
  refine box_step ?hg (N:=3) ?hd (cs:=#[.bool false,.slice none 0 0,.int .i64 0]) (t:=29) ?hr ?_;(case hd=>rfl);(case hg=>rfl);(case hr=>first|(go_simp;done)|(go_simp;rfl))
  intro ae hg w26 hbox hb
  replace ab:=rb ab hb
  replace ac:=rb ac hb
  have ad:=zS (hbox)
  have au:=bg HB hg
  have au:=bg HB hg
  replace HB:=bs HB hb
  have ag:=kn aa hg
  have ah:=km aa hg
  replace aa:=kb aa hb
  clear hb hbox hg
  refine hK.out _ _ (pbkS aa) (fun hHeld=>?_)
  clear hK K
  refine norm_ (a':=?_) ?_ ?_
  rotate_left
  ·show Act.put _ (some 3) _=_
   simp only [Act.put,sA,sB,sC,i64_w,i32_w]
   rfl
  refine one_ (i:=0) (N:=some 14) (bZ 10 135) rfl rfl (one_of HT_.out (by kernel_rfl)) (by decide) (fun K hK=>?_)
  refine goes_ Tryz.func34 (by kernel_rfl) rfl #[] (by rfl) rfl rfl (by (try simp only [mA,mB,mC]);first|done|rfl|(simp only [lD,lT];rfl)) ?_
  with_reducible refine (exerguelaw17_latin.calls  aH aI aJ aK aL aM aN _ A3.out).mono ?_
  rintro e w27 ⟨rfl,hb⟩
  refine ⟨_,rfl,?_⟩
  replace ab:=rb ab hb
  replace ac:=rb ac hb
  replace aa:=kb aa hb
  replace ad:=kb ad hb
  replace HB:=bs HB hb
  (try clear hb)
  (try clear hb2)
  (try clear hk)
  (try clear hi)
  refine hK.out _ _ (pbkS aa) (fun hHeld=>?_)
  clear hK K
  refine norm_ (a':=?_) ?_ ?_
  rotate_left
  ·show Act.put _ (some 14) _=_
   simp only [Act.put,sA,sB,sC,i64_w,i32_w]
   rfl
  refine one_ (i:=3) (N:=some 17) (bZ 10 143) rfl rfl (one_of HT_.out (by kernel_rfl)) (by decide) (fun K hK=>?_)
  refine goes_ Tryz.func24 (by kernel_rfl) rfl #[.agg #[.int .i32 aH,.int .i32 aI,.int .i32 aJ,.int .i32 aK,.int .i32 aL,.int .i32 aM,.int .i32 aN],.agg #[.slice none 0 0,.slice none 0 0,.slice none 0 0,.slice none 0 0,.bool false,.int .i64 3,.int .i64 1,.int .i64 2,.int .i64 2,.int .i64 3,.int .i64 3,.int .i64 0,.int .i64 0,.int .i64 0,.bool false,.int .i32 0,.int .i64 0],.slice aF ak.length aD] (by rfl) rfl rfl (by (try simp only [mA,mB,mC]);first|done|rfl|(simp only [lD,lT];rfl)) ?_
  refine (shape_Read.calls k aH aI aJ aK aL aM aN _ _ ([]:List (S114)) _ _ ([]:List (S114)) _ _ ([]:List (S114)) _ _ ([]:List (S114)) false 3 1 2 2 3 3 0 0 0 false 0 0 (fun k_=>some k_=(.slice aF ak.length aD:Value).ownBlock) _ _ ak ay az aA aE _ ?side1 ?side2 ?side3 ?side4 ?side5 ?side6 ?side7 ?side8 ?side9 A4.out).mono ?_
  (case side1=>exact Kd.C_nil _ _)
  (case side2=>exact Nat.le_refl _)
  (case side3=>exact Kd.C_nil _ _)
  (case side4=>exact Nat.le_refl _)
  (case side5=>exact Kd.C_nil _ _)
  (case side6=>exact Nat.le_refl _)
  (case side7=>exact Kd.C_nil _ _)
  (case side8=>exact Nat.le_refl _)
  (case side9=>exact Kd.R_V (Kd.R_tight rfl (Kd.R_types (Kd.R_types (Kd.R_apart' (ac.out) (Kd.R_typed ab.out) (by decide)) aa.out (by decide)) ad.out (by decide))))
  rintro e w28 ⟨aT,rfl,ho0,hb⟩
  refine ⟨_,rfl,?_⟩
  replace ac:=rb ac hb
  have af:=zS (Kd.R_lower (Kd.R_new' (Kd.R_mono (ok':=fun k_=>True) ho0 (fun _ hk_=>trivial)) (Kd.R_lt (ro ab))) (bz HB))
  replace ab:=zS (Kd.R_elder' (ro ab) (Kd.R_base ho0) hb)
  replace aa:=kb aa hb
  replace ad:=kb ad hb
  replace HB:=bs HB hb
  (try clear hb)
  (try clear hb2)
  (try clear hk)
  (try clear hi)
  (try clear ho0)
  refine hK.out _ _ (pbkS aa) (fun hHeld=>?_)
  clear hK K
  refine norm_ (a':=?_) ?_ ?_
  rotate_left
  ·show Act.put _ (some 17) _=_
   simp only [Act.put,sA,sB,sC,i64_w,i32_w]
   rfl
  refine p1 4 13 159 HT_ (v:=?_) ?_ (a':=?_) ?_ ?_
  rotate_left
  ·intro w';go_simp;with_reducible rfl
  rotate_left
  ·simp only [Act.put,sA,sB,sC,i64_w,i32_w];rfl
  refine p1 5 18 191 HT_ (v:=?_) ?_ (a':=?_) ?_ ?_
  rotate_left
  ·intro w';go_simp;with_reducible rfl
  rotate_left
  ·simp only [Act.put,sA,sB,sC,i64_w,i32_w];rfl
  refine p1 6 19 255 HT_ (v:=?_) ?_ (a':=?_) ?_ ?_
  rotate_left
  ·intro w';go_simp;with_reducible rfl
  rotate_left
  ·simp only [Act.put,sA,sB,sC,i64_w,i32_w];rfl
  exact norm_ (by simp only [putAll,Act.put,List.setIfInBounds_toArray,List.set_cons_zero,List.set_cons_succ]) (hCont (aT,ae) _ ⟨hHeld,(by (with_reducible repeat (first|apply Kd.R_alloc|apply Kd.R_drewN|apply Kd.R_drew));exact Kd.R_mono ab.out (fun _ hk=>hk.2)),(ro ac),(by (with_reducible repeat (first|apply Kd.R_alloc|apply Kd.R_drewN|apply Kd.R_drew));exact Kd.R_mono af.out (fun _ hk=>hk.2)),(ko aa),(ko ad),au.out,au.out,ag.out,ah.out,(bl HB)⟩)
 rintro ⟨aT,ae⟩ w29 ⟨hS_,h0_,h1_,h2_,h3_,h4_,h5_,h6_,h7_,h8_,h9_⟩
 replace ab:Sd (Kd.R (Kd.int .u8) 5 w29 w.heap.size (fun k_=>some k_≠(aT:Value).ownBlock) (.slice bd av.length be) av):=⟨h0_⟩
 replace ac:Sd (Kd.R (Kd.int .i32) 21 w29 w.heap.size (fun _=>True) (.slice aF ak.length aD) ak):=⟨h1_⟩
 have af:Sd (Kd.R (Kd.int .u8) 5 w29 w.heap.size (fun k_=>some k_≠(.slice bd av.length be:Value).ownBlock) aT az):=⟨h2_⟩
 replace aa:Sd (w29.heap[am]?=some (.cells #[.slice none 0 0,.slice none 0 0,.slice none 0 0,.slice none 0 0,.bool false,.int .i64 3,.int .i64 1,.int .i64 2,.int .i64 2,.int .i64 3,.int .i64 3,.int .i64 0,.int .i64 0,.int .i64 0,.bool false,.int .i32 0,.int .i64 0] 26 (0,0))):=⟨h3_⟩
 have ad:Sd (w29.heap[ae]?=some (.cells #[.bool false,.slice none 0 0,.int .i64 0] 29 (0,0))):=⟨h4_⟩
 have au:Sd (w.heap.size≤ae):=⟨h5_⟩
 have au:Sd (w.heap.size≤ae):=⟨h6_⟩
 have ag:Sd (am≠ae):=⟨h7_⟩
 have ah:Sd (ae≠am):=⟨h8_⟩
 replace HB:Sd (Below w.heap.size w w29):=⟨h9_⟩
 clear h0_ h1_ h2_ h3_ h4_ h5_ h6_ h7_ h8_ h9_
 have hHeld:PBox am (⟨false,3,1,2,2,3,3,0,0,0,false,0,0⟩:PS) V4.nil w29:=hS_
 obtain ⟨a1,a2,bu⟩:=Kd.R_slice af.out
 (first|subst bu|(injection bu with f1_ f2_ f3_;have f4_:=f1_.symm;have f5_:=f3_.symm;clear f1_ f2_ f3_;subst f4_;subst f5_))
 refine norm_ (a':=?_) ?_ ?_
 rotate_left
 ·simp only [putAll,Act.put,List.setIfInBounds_toArray,List.set_cons_zero,List.set_cons_succ]
  rfl
 refine one_ (i:=8) (N:=none) (bZ 10 511) rfl rfl (one_of HT_.out (by kernel_rfl)) (by decide) (fun K hK=>?_)
 have b0:w29.cell? ⟨ae,0,none⟩=some (.bool false):=(blk_cell ad.out 0).trans rfl
 have hfs30:=blk_frozen ad.out 0
 have hns30_0:=ag.out
 have hms30_0:=ah.out
 have b1:w29.cell? ⟨ae,1,none⟩=some (.slice none 0 0):=(blk_cell ad.out 1).trans rfl
 have hfs32:=blk_frozen ad.out 1
 have hns32_0:=ag.out
 have hms32_0:=ah.out
 have b2:w29.cell? ⟨ae,2,none⟩=some (.int .i64 0):=(blk_cell ad.out 2).trans rfl
 have hfs33:=blk_frozen ad.out 2
 have hns33_0:=ag.out
 have hms33_0:=ah.out
 refine skip_ (w1:=?_) (by rfl) rfl ?_ ?_
 rotate_left
 ·go_simp
  rfl
 refine hK.out _ _ (pbkS aa) (fun hHeld=>?_)
 clear hK K
 refine p1 9 4 1023 HT_ (v:=?_) ?_ (a':=?_) ?_ ?_
 rotate_left
 ·intro w';go_simp;with_reducible rfl
 rotate_left
 ·simp only [Act.put,sA,sB,sC,i64_w,i32_w];rfl
 refine done_ (done_of HT_.out (by kernel_rfl)) ?_
 have bI:=ag.out
 have bJ:=ah.out
 go_wp2_with (first|(refine pat_load rfl rfl rfl am rfl (⟨false,3,1,2,2,3,3,0,0,0,false,0,0⟩:PS) V4.nil (pbkS aa) ?_)|((with_reducible refine gate_dst (N:=22) rfl ?_);refine Kd.R_lit (Kd.int .u8) _ 5 ?hg (N:=22) ?hd (xs:=([1,2,5]:List Int)) (inner:=[.int .u8 1,.int .u8 2,.int .u8 5]) (ok:=fun _=>True) (okp:=fun _=>True) ?hr ?hp (fun _ hk=>hk) trivial (Below.refl _ _) (Nat.le_refl _) (by simp) ?_;(case hd=>rfl);(case hg=>rfl);(case hr=>first|(go_simp;done)|(go_simp;rfl));(case hp=>exact (Reps.one (show Kd.M (Kd.int .u8) _ _ _ 1 [.int .u8 1] from rfl) (Reps.one (show Kd.M (Kd.int .u8) _ _ _ 2 [.int .u8 2] from rfl) (Reps.one (show Kd.M (Kd.int .u8) _ _ _ 5 [.int .u8 5] from rfl) (Reps.none _ _)))));intro b3 w36 a3 hb hg_ hnew_;clear hg_ hnew_;(first|rw [← bj.out] at a3|(simp only [Int.reduceToNat] at a3;rw [← bj.out] at a3));replace ac:=zS (Kd.R_below (by (with_reducible repeat (first|apply Kd.R_alloc|apply Kd.R_drewN|apply Kd.R_drew));exact (Kd.R_mono (Kd.R_far (p:=⟨ae,2,none⟩) (Kd.R_far (p:=⟨ae,1,none⟩) (Kd.R_far (p:=⟨ae,0,none⟩) (Kd.R_types ac.out ad.out (by decide)) (fun _ hk=>hk.2) (.bool ay)) (fun _ hk=>hk.2) (.slice a1 az.length a2)) (fun _ hk=>hk.2) (.int .i64 aA)) (fun _ h_=>h_.1))) hb);have an:=zS (Kd.R_lower (Kd.R_new' (Kd.R_new' a3 (Kd.R_lt (by (with_reducible repeat (first|apply Kd.R_alloc|apply Kd.R_drewN|apply Kd.R_drew));exact (Kd.R_mono (Kd.R_far (p:=⟨ae,2,none⟩) (Kd.R_far (p:=⟨ae,1,none⟩) (Kd.R_far (p:=⟨ae,0,none⟩) (Kd.R_types ab.out ad.out (by decide)) (fun _ hk=>hk.2) (.bool ay)) (fun _ hk=>hk.2) (.slice a1 az.length a2)) (fun _ hk=>hk.2) (.int .i64 aA)) (fun _ h_=>h_.1))))) (Kd.R_lt (by (with_reducible repeat (first|apply Kd.R_alloc|apply Kd.R_drewN|apply Kd.R_drew));exact (Kd.R_mono (Kd.R_far (p:=⟨ae,2,none⟩) (Kd.R_far (p:=⟨ae,1,none⟩) (Kd.R_far (p:=⟨ae,0,none⟩) (Kd.R_types af.out ad.out (by decide)) (fun _ hk=>hk.2) (.bool ay)) (fun _ hk=>hk.2) (.slice a1 az.length a2)) (fun _ hk=>hk.2) (.int .i64 aA)) (fun _ h_=>h_.1))))) (bz HB));replace ab:=zS (Kd.R_elder' (by (with_reducible repeat (first|apply Kd.R_alloc|apply Kd.R_drewN|apply Kd.R_drew));exact (Kd.R_mono (Kd.R_far (p:=⟨ae,2,none⟩) (Kd.R_far (p:=⟨ae,1,none⟩) (Kd.R_far (p:=⟨ae,0,none⟩) (Kd.R_types ab.out ad.out (by decide)) (fun _ hk=>hk.2) (.bool ay)) (fun _ hk=>hk.2) (.slice a1 az.length a2)) (fun _ hk=>hk.2) (.int .i64 aA)) (fun _ h_=>h_.1))) (Kd.R_base a3) hb);replace af:=zS (Kd.R_elder' (by (with_reducible repeat (first|apply Kd.R_alloc|apply Kd.R_drewN|apply Kd.R_drew));exact (Kd.R_mono (Kd.R_far (p:=⟨ae,2,none⟩) (Kd.R_far (p:=⟨ae,1,none⟩) (Kd.R_far (p:=⟨ae,0,none⟩) (Kd.R_types af.out ad.out (by decide)) (fun _ hk=>hk.2) (.bool ay)) (fun _ hk=>hk.2) (.slice a1 az.length a2)) (fun _ hk=>hk.2) (.int .i64 aA)) (fun _ h_=>h_.1))) (Kd.R_base a3) hb);replace aa:=kb aa hb;replace ad:=zS (blk_below (g:=ae) (o:=.cells #[.bool ay,.slice a1 az.length a2,.int .i64 aA] 29 (0,0)) (kp ad rfl) hb);replace HB:=bs HB hb;clear hb a3;obtain ⟨bv,bw,bC⟩:=Kd.R_slice an.out;subst bC)|((with_reducible refine gate_callee (f:=15) rfl ?_);refine gL (some 24) Tryz.func15 #[.agg #[.slice none 0 0,.slice none 0 0,.slice none 0 0,.slice none 0 0,.bool false,.int .i64 3,.int .i64 1,.int .i64 2,.int .i64 2,.int .i64 3,.int .i64 3,.int .i64 0,.int .i64 0,.int .i64 0,.bool false,.int .i32 0,.int .i64 0],.int .i64 (-1),.agg #[.bool false,.slice bv bf.length bw,.int .i64 (-3)],.int .i64 6] ?_;(refine (shape_Round.calls k _ _ ([]:List (S114)) _ _ ([]:List (S114)) _ _ ([]:List (S114)) _ _ ([]:List (S114)) false 3 1 2 2 3 3 0 0 0 false 0 0 (-1) false (fun k_=>some k_=(.slice bv bf.length bw:Value).ownBlock) _ _ bf (-3) 6 aO aP aQ bh _ ?side10 ?side1 ?side2 ?side3 ?side4 ?side5 ?side6 ?side7 ?side8 ?side9 A5.out).mono ?_);(case side1=>exact Kd.C_nil _ _);(case side2=>exact Nat.le_refl _);(case side3=>exact Kd.C_nil _ _);(case side4=>exact Nat.le_refl _);(case side5=>exact Kd.C_nil _ _);(case side6=>exact Nat.le_refl _);(case side7=>exact Kd.C_nil _ _);(case side8=>exact Nat.le_refl _);(case side9=>exact Kd.R_V (Kd.R_tight rfl (Kd.R_types (Kd.R_types (Kd.R_apart' (an.out) (Kd.R_typed ac.out) (by decide)) aa.out (by decide)) ad.out (by decide))));(case side10=>refine GL.below HG.out ?_;exact bl HB);rintro e w39 ⟨b4,rfl,ho0,hb⟩;refine ⟨_,rfl,?_⟩;have ax:=zS (Kd.V_lower (Kd.V_mono (ok':=fun k_=>some k_≠(.slice bd av.length be:Value).ownBlock∧some k_≠(.slice aF ak.length aD:Value).ownBlock∧some k_≠(.slice a1 az.length a2:Value).ownBlock∧k_≠am∧k_≠ae) ho0 (fun k_ hk_=>⟨Or.elim hk_ (fun hs_=>((Kd.R_types (Kd.R_types (Kd.R_apart' (an.out) (Kd.R_typed ac.out) (by decide)) aa.out (by decide)) ad.out (by decide)).1 k_ hs_.symm).1.1.1.1.2) (fun hn_=>(Kd.fresh' (Kd.R_lt (ro ab)) k_ hn_)),Or.elim hk_ (fun hs_=>((Kd.R_types (Kd.R_types (Kd.R_apart' (an.out) (Kd.R_typed ac.out) (by decide)) aa.out (by decide)) ad.out (by decide)).1 k_ hs_.symm).1.1.2) (fun hn_=>(Kd.fresh' (Kd.R_lt (ro ac)) k_ hn_)),Or.elim hk_ (fun hs_=>((Kd.R_types (Kd.R_types (Kd.R_apart' (an.out) (Kd.R_typed ac.out) (by decide)) aa.out (by decide)) ad.out (by decide)).1 k_ hs_.symm).1.1.1.2) (fun hn_=>(Kd.fresh' (Kd.R_lt (ro af)) k_ hn_)),Or.elim hk_ (fun hs_=>((Kd.R_types (Kd.R_types (Kd.R_apart' (an.out) (Kd.R_typed ac.out) (by decide)) aa.out (by decide)) ad.out (by decide)).1 k_ hs_.symm).1.2) (fun hn_=>(Kd.freshB (ko aa) k_ hn_)),Or.elim hk_ (fun hs_=>((Kd.R_types (Kd.R_types (Kd.R_apart' (an.out) (Kd.R_typed ac.out) (by decide)) aa.out (by decide)) ad.out (by decide)).1 k_ hs_.symm).2) (fun hn_=>(Kd.freshB (ko ad) k_ hn_))⟩)) (bz HB));replace ab:=rb ab hb;replace ac:=rb ac hb;replace af:=rb af hb;replace an:=rb an hb;replace aa:=kb aa hb;replace ad:=kb ad hb;replace HB:=bs HB hb;(try clear hb);(try clear ho0))|((with_reducible refine gate_dst (N:=5) rfl ?_);refine box_event ?hg (N:=5) ?hd (cs:=#[.bool false,.slice none 0 0,.int .i64 0]) (t:=29) ?hr ?_;(case hd=>rfl);(case hg=>rfl);(case hr=>first|(go_simp;done)|(go_simp;rfl));intro aj hg w40 hbox hb;replace ab:=rb ab hb;replace ac:=rb ac hb;replace af:=rb af hb;replace an:=rb an hb;replace ax:=zS (Kd.V_below (Kd.V_elderB (vo ax) aj (Nat.le_of_eq hg.symm)) hb);have ap:=zS (hbox);have bK:=bg HB hg;replace HB:=bs HB hb;have a6:=kn aa hg;have a7:=km aa hg;replace aa:=kb aa hb;have a8:=kn ad hg;have a9:=km ad hg;replace ad:=kb ad hb;clear hb hbox hg;have bL:=a7.out;have bM:=a6.out;have bN:=a9.out;have bO:=a8.out;have bP:=blkc3 ap.out;have bQ:=blkf3 ap.out;obtain ⟨a4,a5,bD⟩:=Kd.V_slice ax.out;subst bD)|((with_reducible refine gate_convT rfl ?_);refine goesR_ (some 28) rfl rfl _ _ (.slice aF ak.length aD) rfl rfl ?_;(with_reducible refine (conv_text.calls _ _ ak aB _ ?side1 (rl ac) A6.out).mono ?_);(case side1=>refine (Kd.R_reads' (e:=21) (base:=w.heap.size) (ok:=fun k_=>True) (n:=ak.length) (c:=aD) ?_).2.2;exact (by (with_reducible repeat (first|apply Kd.R_alloc|apply Kd.R_drewN|apply Kd.R_drew));exact (Kd.R_mono (Kd.R_far (p:=⟨aj,2,none⟩) (Kd.R_far (p:=⟨aj,1,none⟩) (Kd.R_far (p:=⟨aj,0,none⟩) (Kd.R_types ac.out ap.out (by decide)) (fun _ hk=>hk.2) (.bool aO)) (fun _ hk=>hk.2) (.slice a4 aP.length a5)) (fun _ hk=>hk.2) (.int .i64 aQ)) (fun _ h_=>h_.1))));rintro e w45 ⟨rfl,hb⟩;refine ⟨_,rfl,?_⟩;replace ab:=zS (Kd.R_below (by (with_reducible repeat (first|apply Kd.R_alloc|apply Kd.R_drewN|apply Kd.R_drew));exact (Kd.R_mono (Kd.R_far (p:=⟨aj,2,none⟩) (Kd.R_far (p:=⟨aj,1,none⟩) (Kd.R_far (p:=⟨aj,0,none⟩) (Kd.R_types ab.out ap.out (by decide)) (fun _ hk=>hk.2) (.bool aO)) (fun _ hk=>hk.2) (.slice a4 aP.length a5)) (fun _ hk=>hk.2) (.int .i64 aQ)) (fun _ h_=>h_.1))) hb);replace ac:=zS (Kd.R_below (by (with_reducible repeat (first|apply Kd.R_alloc|apply Kd.R_drewN|apply Kd.R_drew));exact (Kd.R_mono (Kd.R_far (p:=⟨aj,2,none⟩) (Kd.R_far (p:=⟨aj,1,none⟩) (Kd.R_far (p:=⟨aj,0,none⟩) (Kd.R_types ac.out ap.out (by decide)) (fun _ hk=>hk.2) (.bool aO)) (fun _ hk=>hk.2) (.slice a4 aP.length a5)) (fun _ hk=>hk.2) (.int .i64 aQ)) (fun _ h_=>h_.1))) hb);replace af:=zS (Kd.R_below (by (with_reducible repeat (first|apply Kd.R_alloc|apply Kd.R_drewN|apply Kd.R_drew));exact (Kd.R_mono (Kd.R_far (p:=⟨aj,2,none⟩) (Kd.R_far (p:=⟨aj,1,none⟩) (Kd.R_far (p:=⟨aj,0,none⟩) (Kd.R_types af.out ap.out (by decide)) (fun _ hk=>hk.2) (.bool aO)) (fun _ hk=>hk.2) (.slice a4 aP.length a5)) (fun _ hk=>hk.2) (.int .i64 aQ)) (fun _ h_=>h_.1))) hb);replace an:=zS (Kd.R_below (by (with_reducible repeat (first|apply Kd.R_alloc|apply Kd.R_drewN|apply Kd.R_drew));exact (Kd.R_mono (Kd.R_far (p:=⟨aj,2,none⟩) (Kd.R_far (p:=⟨aj,1,none⟩) (Kd.R_far (p:=⟨aj,0,none⟩) (Kd.R_types an.out ap.out (by decide)) (fun _ hk=>hk.2) (.bool aO)) (fun _ hk=>hk.2) (.slice a4 aP.length a5)) (fun _ hk=>hk.2) (.int .i64 aQ)) (fun _ h_=>h_.1))) hb);replace ax:=zS (Kd.V_below (by (with_reducible repeat (first|apply Kd.V_alloc|apply Kd.V_drewN|apply Kd.V_drew));exact (Kd.V_mono (Kd.V_far (p:=⟨aj,2,none⟩) (Kd.V_far (p:=⟨aj,1,none⟩) (Kd.V_far (p:=⟨aj,0,none⟩) (Kd.V_mono ax.out (fun k_ hk=>(⟨hk,hk.2⟩:_∧k_≠aj))) (fun _ hk=>hk.2) (.bool aO)) (fun _ hk=>hk.2) (.slice a4 aP.length a5)) (fun _ hk=>hk.2) (.int .i64 aQ)) (fun _ h_=>h_.1))) hb);replace aa:=kb aa hb;replace ad:=kb ad hb;replace ap:=zS (blk_below (g:=aj) (o:=.cells #[.bool aO,.slice a4 aP.length a5,.int .i64 aQ] 29 (0,0)) (kp ap rfl) hb);replace HB:=bs HB hb;(try clear hb);(try clear hk);have bR:=blkc3 ad.out;have bS:=blkf3 ad.out)|(go_at_call 35;(with_reducible refine (exergueref05_Text.calls k ay _ _ az aA aC _ (rc af) (rl af) A9.out).mono ?_);rintro e w47 ⟨rfl,hb⟩;replace ab:=rb ab hb;replace ac:=rb ac hb;replace af:=rb af hb;replace an:=rb an hb;replace ax:=vb ax hb;replace aa:=kb aa hb;replace ad:=kb ad hb;replace ap:=kb ap hb;replace HB:=bs HB hb;(try clear hb);(try clear hb2);(try clear hk);(try clear hi);have bT:=blkc3 ap.out;have bU:=blkf3 ap.out)|(go_at_call 35;(with_reducible refine (exergueref05_Text.calls k aO _ _ aP aQ aG _ (vc ax) (vl ax) A12.out).mono ?_);rintro e w49 ⟨rfl,hb⟩;replace ab:=rb ab hb;replace ac:=rb ac hb;replace af:=rb af hb;replace an:=rb an hb;replace ax:=vb ax hb;replace aa:=kb aa hb;replace ad:=kb ad hb;replace ap:=kb ap hb;replace HB:=bs HB hb;(try clear hb);(try clear hb2);(try clear hk);(try clear hi)))
 go_ret
 exact ⟨by first|rfl|(simp <;> rfl)|(simp [*] <;> rfl),bl HB⟩
end Go.Proofs.YtklebhlanidloaaGreatDoor.PZ
end
end
section
set_option maxRecDepth 100000
namespace Go.Proofs.YtklebhlanidloaaGreatDoor.PZ
open Go.RowKit Go.Proofs.YtklebhlanidloaaGreatDoorW.PrintWords Go.Proofs.YtklebhlanidloaaGreatDoorW.PrintLast
noncomputable def exerguelaw17_of.f (l0_0:PRow)(l0_1:PRow)(l0_2:PRow)(l0_3:PRow)(a0_4:Bool)(a0_5:Int)(a0_6:Int)(a0_7:Int)(a0_8:Int)(a0_9:Int)(a0_10:Int)(a0_11:Int)(a0_12:Int)(a0_13:Int)(a0_14:Bool)(a0_15:Int)(a0_16:Int)(a1:Int):Option Bool:=(exergueref10_Few.f l0_0 l0_1 l0_2 l0_3 a0_4 a0_5 a0_6 a0_7 a0_8 a0_9 a0_10 a0_11 a0_12 a0_13 a0_14 a0_15 a0_16).bind fun t1=>if t1=true then ((exergueref10_Right.f l0_0 l0_1 l0_2 l0_3 a0_4 a0_5 a0_6 a0_7 a0_8 a0_9 a0_10 a0_11 a0_12 a0_13 a0_14 a0_15 a0_16).bind fun t2=>if t2=true then some (decide (a1≤40)) else some false) else some false
set_option maxHeartbeats 4000000 in
set_option maxRecDepth 100000 in
theorem exerguelaw17_of.calls (A0_0:Option Addr)(c0_0:Nat)(l0_0:List S114)(A0_1:Option Addr)(c0_1:Nat)(l0_1:List S114)(A0_2:Option Addr)(c0_2:Nat)(l0_2:List S114)(A0_3:Option Addr)(c0_3:Nat)(l0_3:List S114)(a0_4:Bool)(a0_5:Int)(a0_6:Int)(a0_7:Int)(a0_8:Int)(a0_9:Int)(a0_10:Int)(a0_11:Int)(a0_12:Int)(a0_13:Int)(a0_14:Bool)(a0_15:Int)(a0_16:Int)(a1:Int)(r:Bool)(w:World)(hr0_0:Kd.C k114 w A0_0 l0_0.length l0_0)(hc0_0:l0_0.length≤c0_0)(hr0_1:Kd.C k114 w A0_1 l0_1.length l0_1)(hc0_1:l0_1.length≤c0_1)(hr0_2:Kd.C k114 w A0_2 l0_2.length l0_2)(hc0_2:l0_2.length≤c0_2)(hr0_3:Kd.C k114 w A0_3 l0_3.length l0_3)(hc0_3:l0_3.length≤c0_3)(h:exerguelaw17_of.f l0_0 l0_1 l0_2 l0_3 a0_4 a0_5 a0_6 a0_7 a0_8 a0_9 a0_10 a0_11 a0_12 a0_13 a0_14 a0_15 a0_16 a1=some r) :
    Calls Tryz.prog 12 #[.agg #[.slice A0_0 l0_0.length c0_0,.slice A0_1 l0_1.length c0_1,.slice A0_2 l0_2.length c0_2,.slice A0_3 l0_3.length c0_3,.bool a0_4,.int .i64 a0_5,.int .i64 a0_6,.int .i64 a0_7,.int .i64 a0_8,.int .i64 a0_9,.int .i64 a0_10,.int .i64 a0_11,.int .i64 a0_12,.int .i64 a0_13,.bool a0_14,.int .i32 a0_15,.int .i64 a0_16],.int .i64 a1] w fun e w'=>e = .returned (.bool r)∧Below w.heap.size w w':=by
 have KF:=zA (fun b W (hb:Below w.heap.size w W) hf=>exergueref10_Few.calls A0_0 c0_0 l0_0 A0_1 c0_1 l0_1 A0_2 c0_2 l0_2 A0_3 c0_3 l0_3 a0_4 a0_5 a0_6 a0_7 a0_8 a0_9 a0_10 a0_11 a0_12 a0_13 a0_14 a0_15 a0_16 b W (Kd.C_below hr0_0 hb) hc0_0 (Kd.C_below hr0_1 hb) hc0_1 (Kd.C_below hr0_2 hb) hc0_2 (Kd.C_below hr0_3 hb) hc0_3 hf)
 have KR:=zA (fun b W (hb:Below w.heap.size w W) hf=>exergueref10_Right.calls A0_0 c0_0 l0_0 A0_1 c0_1 l0_1 A0_2 c0_2 l0_2 A0_3 c0_3 l0_3 a0_4 a0_5 a0_6 a0_7 a0_8 a0_9 a0_10 a0_11 a0_12 a0_13 a0_14 a0_15 a0_16 b W (Kd.C_below hr0_0 hb) hc0_0 (Kd.C_below hr0_1 hb) hc0_1 (Kd.C_below hr0_2 hb) hc0_2 (Kd.C_below hr0_3 hb) hc0_3 hf)
 unfold exerguelaw17_of.f at h
 obtain ⟨t1,e1,h⟩:=Option.bind_eq_some_iff.mp h
 have KF1:=zA (fun W hb=>KF.out t1 W hb e1)
 clear KF e1 hr0_0 hc0_0 hr0_1 hc0_1 hr0_2 hc0_2 hr0_3 hc0_3
 obtain ⟨s,hs⟩:∃ s:PS,s=⟨a0_4,a0_5,a0_6,a0_7,a0_8,a0_9,a0_10,a0_11,a0_12,a0_13,a0_14,a0_15,a0_16⟩:=⟨_,rfl⟩
 obtain ⟨v,hv⟩:∃ v:V4,v=⟨⟨A0_0,l0_0.length,c0_0⟩,⟨A0_1,l0_1.length,c0_1⟩,⟨A0_2,l0_2.length,c0_2⟩,⟨A0_3,l0_3.length,c0_3⟩⟩:=⟨_,rfl⟩
 have hval:(.agg #[.slice A0_0 l0_0.length c0_0,.slice A0_1 l0_1.length c0_1,.slice A0_2 l0_2.length c0_2,.slice A0_3 l0_3.length c0_3,.bool a0_4,.int .i64 a0_5,.int .i64 a0_6,.int .i64 a0_7,.int .i64 a0_8,.int .i64 a0_9,.int .i64 a0_10,.int .i64 a0_11,.int .i64 a0_12,.int .i64 a0_13,.bool a0_14,.int .i32 a0_15,.int .i64 a0_16]:Value)=s.val v:=by rw [hs,hv];rfl
 rw [hval] at KF1 KR ⊢
 clear hs hv hval
 generalize exergueref10_Right.f l0_0 l0_1 l0_2 l0_3 a0_4 a0_5 a0_6 a0_7 a0_8 a0_9 a0_10 a0_11 a0_12 a0_13 a0_14 a0_15 a0_16=o at *
 cases t1 with
 | false=>
  simp only [Bool.false_eq_true,if_false] at h
  obtain rfl:=zE h
  go_enter Tryz.func12,Tryz.ntmps12
  go_wp2_with (first|((with_reducible refine gate_dst (N:=2) rfl ?_);refine pat_box rfl rfl rfl s v rfl ?_;intro gp w1 hgp hbp hb1;have ST:=zA (P1.start hgp hbp hb1);clear hgp hbp hb1)|(refine pat_load rfl rfl rfl gp rfl _ _ ST.out.p ?_)|(go_at_call 36;(with_reducible refine (KF1.out _ ST.out.b).mono ?_);rintro e w5 ⟨rfl,hb5⟩;replace ST:=zA (ST.out.below (by first|exact hb5|exact hb5.below));clear hb5))
  go_ret
  exact ⟨rfl,ST.out.b⟩
 | true=>
  simp only [if_true] at h
  obtain ⟨t2,e2,h⟩:=Option.bind_eq_some_iff.mp h
  have KR1:=zA (fun W hb=>KR.out t2 W hb e2)
  clear KR e2
  cases t2 with
  | false=>
   simp only [Bool.false_eq_true,if_false] at h
   obtain rfl:=zE h
   go_enter Tryz.func12,Tryz.ntmps12
   go_wp2_with (first|((with_reducible refine gate_dst (N:=2) rfl ?_);refine pat_box rfl rfl rfl s v rfl ?_;intro gp w1 hgp hbp hb1;have ST:=zA (P1.start hgp hbp hb1);clear hgp hbp hb1)|(refine pat_load rfl rfl rfl gp rfl _ _ ST.out.p ?_)|(go_at_call 36;(with_reducible refine (KF1.out _ ST.out.b).mono ?_);rintro e w5 ⟨rfl,hb5⟩;replace ST:=zA (ST.out.below (by first|exact hb5|exact hb5.below));clear hb5)|(refine pat_load_w (wanted_on rfl rfl rfl rfl) rfl rfl gp rfl _ _ ST.out.p ?_)|(go_at_call 37;(with_reducible refine (KR1.out _ ST.out.b).mono ?_);rintro e w6 ⟨rfl,hb6⟩;replace ST:=zA (ST.out.below hb6);clear hb6))
   go_ret
   exact ⟨rfl,ST.out.b⟩
  | true=>
   simp only [if_true] at h
   obtain rfl:=zE h
   go_enter Tryz.func12,Tryz.ntmps12
   go_wp2_with (first|((with_reducible refine gate_dst (N:=2) rfl ?_);refine pat_box rfl rfl rfl s v rfl ?_;intro gp w1 hgp hbp hb1;have ST:=zA (P1.start hgp hbp hb1);clear hgp hbp hb1)|(refine pat_load rfl rfl rfl gp rfl _ _ ST.out.p ?_)|(go_at_call 36;(with_reducible refine (KF1.out _ ST.out.b).mono ?_);rintro e w5 ⟨rfl,hb5⟩;replace ST:=zA (ST.out.below (by first|exact hb5|exact hb5.below));clear hb5)|(refine pat_load_w (wanted_on rfl rfl rfl rfl) rfl rfl gp rfl _ _ ST.out.p ?_)|(go_at_call 37;(with_reducible refine (KR1.out _ ST.out.b).mono ?_);rintro e w6 ⟨rfl,hb6⟩;replace ST:=zA (ST.out.below hb6);clear hb6))
   go_ret
   exact ⟨rfl,ST.out.b⟩
theorem pbk {W0 W:World}{g:Nat}{A0 A1 A2 A3:Option Addr}{n0 n1 n2 n3 c0 c1 c2 c3:Nat}{b0 b1:Bool}{x0 x1 x2 x3 x4 x5 x6 x7 x8 x9 x10:Int}(_:Sd (W0.heap[g]?=some (.cells #[.slice A0 n0 c0,.slice A1 n1 c1,.slice A2 n2 c2,.slice A3 n3 c3,.bool b0,.int .i64 x0,.int .i64 x1,.int .i64 x2,.int .i64 x3,.int .i64 x4,.int .i64 x5,.int .i64 x6,.int .i64 x7,.int .i64 x8,.bool b1,.int .i32 x9,.int .i64 x10] 26 (0,0)))) [h:Sd (W.heap[g]?=some (.cells #[.slice A0 n0 c0,.slice A1 n1 c1,.slice A2 n2 c2,.slice A3 n3 c3,.bool b0,.int .i64 x0,.int .i64 x1,.int .i64 x2,.int .i64 x3,.int .i64 x4,.int .i64 x5,.int .i64 x6,.int .i64 x7,.int .i64 x8,.bool b1,.int .i32 x9,.int .i64 x10] 26 (0,0)))]:PBox g ⟨b0,x0,x1,x2,x3,x4,x5,x6,x7,x8,b1,x9,x10⟩ ⟨⟨A0,n0,c0⟩,⟨A1,n1,c1⟩,⟨A2,n2,c2⟩,⟨A3,n3,c3⟩⟩ W:=h.out
end Go.Proofs.YtklebhlanidloaaGreatDoor.PZ
end
