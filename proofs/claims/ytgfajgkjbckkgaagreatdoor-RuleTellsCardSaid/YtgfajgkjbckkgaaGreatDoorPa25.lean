/- Texts of this seat, joined. Conditions: none beyond each statement's own. -/
import Derived.Test.YtgfajgkjbckkgaaGreatDoorPa24
import Derived.Test.YtgfajgkjbckkgaaGreatDoorPa23
set_option linter.all false
section
noncomputable section
namespace Go.Proofs.YtgfajgkjbckkgaaGreatDoor.PZ
open Go.RowKit Go.Proofs.YtgfajgkjbckkgaaGreatDoorW.PrintWords Go.Proofs.YtgfajgkjbckkgaaGreatDoorW.PrintLast Go.Proofs.YtgfajgkjbckkgaaGreatDoorW.PrintMore
attribute [local go_sem] max2_int min2_int max_two min_two max_three min_three max_four min_four   -- for this text's walks alone
set_option linter.unusedVariables false
set_option linter.unusedSimpArgs false
def rule_Right.f (k:Nat)(l0:List (List (S60))):Option (Bool):=(rule_Text.f k l0).bind fun aa=>((rule_Parse.f aa).bind fun ac=>(if ac.2.2=0 then ((rule_Same.f l0 ac.1).bind fun ae=>(some ae)) else (some false)))
theorem rule_Right.mono:∀ a0 k,LeO (rule_Right.f k a0) (rule_Right.f (k+1) a0):=by
 intro a0 k
 unfold rule_Right.f
 repeat' first|(with_reducible first|apply rule_Text.mono|apply LeO.refl|apply LeO.none|refine LeO.ite ?_ ?_|refine LeO.bind ?_ (fun _=>?_))|apply rule_Text.mono|apply LeO.none
set_option maxHeartbeats 8000000 in
set_option maxRecDepth 100000 in
theorem rule_Right.calls (k:Nat)(A0:Option Addr)(c0:Nat)(l0:List (List (S60)))(r:Bool)(w:World)(hG:GL w)(hr0:Kd.C (Kd.slice 60 k60) w A0 l0.length l0)(hc0:l0.length≤c0)(h:rule_Right.f k l0=some r) :
  Calls Tryz.prog 32 #[.slice A0 l0.length c0] w fun e w'=>e = .returned (.bool r)∧Below w.heap.size w w':=by
 have HR0:=Sd.mk hr0
 have HC0:=Sd.mk hc0
 clear hr0 hc0
 have HB:=Sd.mk (Below.refl w.heap.size w)
 have HG:=Sd.mk hG
 clear hG
 have H:((rule_Text.f k l0).bind fun aa=>((rule_Parse.f aa).bind fun ac=>(if ac.2.2=0 then ((rule_Same.f l0 ac.1).bind fun ae=>(some ae)) else (some false))))=some r:=h
 clear h
 obtain ⟨aa,A2,H⟩:=bX H
 try dsimp only at H
 obtain ⟨⟨af,ag,ad⟩,A3,H⟩:=bX H
 try dsimp only at H
 by_cases c4:ad=0
 ·rw [if_pos c4] at H
  have ah:(ad == 0)=true:=beq_iff_eq.mpr c4
  have ai:(ad != 0)=false:=bne_eq_false_iff_eq.mpr c4
  clear c4
  obtain ⟨ae,A5,H⟩:=bX H
  try dsimp only at H
  obtain rfl:=Option.some.inj H
  go_enter Tryz.func32,Tryz.ntmps32
  go_wp2_with (first|((with_reducible refine gate_callee (f:=35) rfl ?_);refine gL (some 8) Tryz.func35 #[.slice A0 l0.length c0] ?_;(with_reducible refine (rule_Text.calls k _ _ l0 aa _ ?side3 ?side1 HC0.out A2.out).mono ?_);(case side1=>repeat (first|exact HR0.out|(with_reducible refine Kd.C_alloc ?_ _)|(with_reducible refine Kd.C_drewN ?_ _)|(with_reducible refine Kd.C_drew ?_)));(case side3=>refine GL.below HG.out ?_;exact bQ HB);rintro e w6 ⟨rfl,hb⟩;refine ⟨_,rfl,?_⟩;replace HB:=bs HB hb;(try clear hb))|((with_reducible refine gate_callee (f:=39) rfl ?_);refine gL (some 9) Tryz.func39 #[.string aa] ?_;(with_reducible refine (rule_Parse.calls aa af ag ad _ ?side1 A3.out).mono ?_);(case side1=>refine GL.below HG.out ?_;exact bQ HB);rintro e w7 ⟨aj,rfl,ho0,hb⟩;refine ⟨_,rfl,?_⟩;have ab:=Sd.mk (Kd.R_lower ho0 (bz HB));replace HB:=bs HB hb;(try clear hb);(try clear hb2);(try clear hk);(try clear hi);(try clear ho0);obtain ⟨Ao8,co8,eo8⟩:=Kd.R_slice ab.out;subst eo8)|(go_at_call 33;(with_reducible refine (rule_Same.calls _ _ l0 _ _ af ae _ (cb HR0 HB) HC0.out (rc ab) (rl ab) A5.out).mono ?_);rintro e w9 ⟨rfl,hb⟩;replace ab:=rb ab hb;replace HB:=bs HB hb;(try clear hb);(try clear hb2);(try clear hk);(try clear hi)))
  go_ret
  exact ⟨by first|rfl|(simp <;> rfl)|(simp [*] <;> rfl),bQ HB⟩
 rw [if_neg c4] at H
 have ah:(ad == 0)=false:=beq_eq_false_iff_ne.mpr c4
 have ai:(ad != 0)=true:=bne_iff_ne.mpr c4
 obtain rfl:=Option.some.inj H
 go_enter Tryz.func32,Tryz.ntmps32
 go_wp2_with (first|((with_reducible refine gate_callee (f:=35) rfl ?_);refine gL (some 8) Tryz.func35 #[.slice A0 l0.length c0] ?_;(with_reducible refine (rule_Text.calls k _ _ l0 aa _ ?side3 ?side1 HC0.out A2.out).mono ?_);(case side1=>repeat (first|exact HR0.out|(with_reducible refine Kd.C_alloc ?_ _)|(with_reducible refine Kd.C_drewN ?_ _)|(with_reducible refine Kd.C_drew ?_)));(case side3=>refine GL.below HG.out ?_;exact bQ HB);rintro e w10 ⟨rfl,hb⟩;refine ⟨_,rfl,?_⟩;replace HB:=bs HB hb;(try clear hb);(try clear hb2);(try clear hk);(try clear hi))|((with_reducible refine gate_callee (f:=39) rfl ?_);refine gL (some 9) Tryz.func39 #[.string aa] ?_;(with_reducible refine (rule_Parse.calls aa af ag ad _ ?side1 A3.out).mono ?_);(case side1=>refine GL.below HG.out ?_;exact bQ HB);rintro e w11 ⟨aj,rfl,ho0,hb⟩;refine ⟨_,rfl,?_⟩;have ab:=Sd.mk (Kd.R_lower ho0 (bz HB));replace HB:=bs HB hb;(try clear hb);(try clear hb2);(try clear hk);(try clear hi);(try clear ho0)))
 go_ret
 exact ⟨by first|rfl|(simp <;> rfl)|(simp [*] <;> rfl),bQ HB⟩
end Go.Proofs.YtgfajgkjbckkgaaGreatDoor.PZ
end
end
section
noncomputable section
namespace Go.Proofs.YtgfajgkjbckkgaaGreatDoor.PZ
open Go.RowKit Go.Proofs.YtgfajgkjbckkgaaGreatDoorW.PrintWords Go.Proofs.YtgfajgkjbckkgaaGreatDoorW.PrintLast Go.Proofs.YtgfajgkjbckkgaaGreatDoorW.PrintMore
attribute [local go_sem] max2_int min2_int max_two min_two max_three min_three max_four min_four   -- for this text's walks alone
set_option linter.unusedVariables false
set_option linter.unusedSimpArgs false
def exerguelaw11_shown.f (k:Nat)  : Option (Bool):=(rule_Parse.f (⟨#[110,32,37,32,49,48,32,61,32,49,32,97,110,100,32,110,32,37,32,49,48,48,32,33,61,32,49,49]⟩:ByteArray)).bind fun ac=>(if ac.2.2=0 then (if ac.2.1=0 then (if (ac.1.length:Int)=1 then (if 0<(ac.1.length:Int) then (if ((rd_L7 ac.1 0).length:Int)=2 then ((rule_Holds.f ac.1 (([2,1]:List Int)) ([]:List Int) 0 0).bind fun am=>(if am=true then ((rule_Holds.f ac.1 (([1,1]:List Int)) ([]:List Int) 0 0).bind fun ah=>(if ah=true then (none) else ((rule_Text.f k ac.1).bind fun ag=>(if ag.toList=([110,32,37,32,49,48,32,61,32,49,32,97,110,100,32,110,32,37,32,49,48,48,32,33,61,32,49,49]:List UInt8) then ((rule_Right.f k ac.1).bind fun ai=>(some ai)) else (none))))) else (none))) else (none)) else (none)) else (none)) else (none)) else (none))
theorem exerguelaw11_shown.mono:∀ k,LeO (exerguelaw11_shown.f k ) (exerguelaw11_shown.f (k+1) ):=by
 intro  k
 unfold exerguelaw11_shown.f
 repeat' first|(with_reducible first|apply rule_Right.mono|apply rule_Text.mono|apply LeO.refl|apply LeO.none|refine LeO.ite ?_ ?_|refine LeO.bind ?_ (fun _=>?_))|apply rule_Right.mono|apply rule_Text.mono|apply LeO.none
set_option maxHeartbeats 8000000 in
set_option maxRecDepth 100000 in
theorem exerguelaw11_shown.calls (k:Nat)  (r:Bool)(w:World)(hG:GL w)(h:exerguelaw11_shown.f k  = some r) :
  Calls Tryz.prog 29 #[] w fun e w'=>e = .returned (.bool r)∧Below w.heap.size w w':=by
 have hu36:=Tryz.underlying36
 have HB:=Sd.mk (Below.refl w.heap.size w)
 have HG:=Sd.mk hG
 clear hG
 have H:((rule_Parse.f (⟨#[110,32,37,32,49,48,32,61,32,49,32,97,110,100,32,110,32,37,32,49,48,48,32,33,61,32,49,49]⟩:ByteArray)).bind fun ac=>(if ac.2.2=0 then (if ac.2.1=0 then (if (ac.1.length:Int)=1 then (if 0<(ac.1.length:Int) then (if ((rd_L7 ac.1 0).length:Int)=2 then ((rule_Holds.f ac.1 (([2,1]:List Int)) ([]:List Int) 0 0).bind fun am=>(if am=true then ((rule_Holds.f ac.1 (([1,1]:List Int)) ([]:List Int) 0 0).bind fun ah=>(if ah=true then (none) else ((rule_Text.f k ac.1).bind fun ag=>(if ag.toList=([110,32,37,32,49,48,32,61,32,49,32,97,110,100,32,110,32,37,32,49,48,48,32,33,61,32,49,49]:List UInt8) then ((rule_Right.f k ac.1).bind fun ai=>(some ai)) else (none))))) else (none))) else (none)) else (none)) else (none)) else (none)) else (none)))=some r:=h
 clear h
 obtain ⟨⟨ad,ap,aq⟩,A1,H⟩:=bX H
 try dsimp only at H
 by_cases c2:aq=0
 rotate_left
 ·rw [if_neg c2] at H
  exact absurd H (by simp)
 rw [if_pos c2] at H
 have aJ:(aq == 0)=true:=beq_iff_eq.mpr c2
 have aK:(aq != 0)=false:=bne_eq_false_iff_eq.mpr c2
 clear c2
 by_cases c3:ap=0
 rotate_left
 ·rw [if_neg c3] at H
  exact absurd H (by simp)
 rw [if_pos c3] at H
 have aL:(ap == 0)=true:=beq_iff_eq.mpr c3
 have aM:(ap != 0)=false:=bne_eq_false_iff_eq.mpr c3
 clear c3
 by_cases c4:(ad.length:Int)=1
 rotate_left
 ·rw [if_neg c4] at H
  exact absurd H (by simp)
 rw [if_pos c4] at H
 have aN:((ad.length:Int) == 1)=true:=beq_iff_eq.mpr c4
 have aO:((ad.length:Int) != 1)=false:=bne_eq_false_iff_eq.mpr c4
 clear c4
 by_cases c5:0<(ad.length:Int)
 rotate_left
 ·rw [if_neg c5] at H
  exact absurd H (by simp)
 rw [if_pos c5] at H
 have aP:=decide_eq_true c5
 have aQ:decide (0<ad.length)=true:=decide_eq_true (by omega)
 clear c5
 by_cases c6:((rd_L7 ad 0).length:Int)=2
 rotate_left
 ·rw [if_neg c6] at H
  exact absurd H (by simp)
 rw [if_pos c6] at H
 have aR:(((rd_L7 ad 0).length:Int) == 2)=true:=beq_iff_eq.mpr c6
 have aS:(((rd_L7 ad 0).length:Int) != 2)=false:=bne_eq_false_iff_eq.mpr c6
 clear c6
 obtain ⟨ax,ak⟩:∃ y_:List Int,y_=(([2,1]:List Int)):=⟨_,rfl⟩
 replace H:((rule_Holds.f ad ax ([]:List Int) 0 0).bind fun am=>(if am=true then ((rule_Holds.f ad (([1,1]:List Int)) ([]:List Int) 0 0).bind fun ah=>(if ah=true then (none) else ((rule_Text.f k ad).bind fun ag=>(if ag.toList=([110,32,37,32,49,48,32,61,32,49,32,97,110,100,32,110,32,37,32,49,48,48,32,33,61,32,49,49]:List UInt8) then ((rule_Right.f k ad).bind fun ai=>(some ai)) else (none))))) else (none)))=some r:=by first|(rw [ak];with_reducible exact H)|(have H2_:=(Option.bind_some _ _).symm.trans H;rw [ak];with_reducible exact H2_)|(have H2_:=(Option.bind_some _ _).symm.trans H;with_reducible exact H2_)|with_reducible exact H|(rw [ak];exact H)|exact H
 have av:=Sd.mk ak
 clear ak
 obtain ⟨am,A7,H⟩:=bX H
 try dsimp only at H
 by_cases c8:am=true
 rotate_left
 ·replace c8:=Bool.eq_false_iff.mpr c8
  subst c8
  rw [if_neg (show ¬ (false=true) by decide)] at H
  exact absurd H (by simp)
 subst c8
 rw [if_pos rfl] at H
 obtain ⟨ay,al⟩:∃ y_:List Int,y_=(([1,1]:List Int)):=⟨_,rfl⟩
 replace H:((rule_Holds.f ad ay ([]:List Int) 0 0).bind fun ah=>(if ah=true then (none) else ((rule_Text.f k ad).bind fun ag=>(if ag.toList=([110,32,37,32,49,48,32,61,32,49,32,97,110,100,32,110,32,37,32,49,48,48,32,33,61,32,49,49]:List UInt8) then ((rule_Right.f k ad).bind fun ai=>(some ai)) else (none)))))=some r:=by first|(rw [al];with_reducible exact H)|(have H2_:=(Option.bind_some _ _).symm.trans H;rw [al];with_reducible exact H2_)|(have H2_:=(Option.bind_some _ _).symm.trans H;with_reducible exact H2_)|with_reducible exact H|(rw [al];exact H)|exact H
 have aw:=Sd.mk al
 clear al
 obtain ⟨ah,A9,H⟩:=bX H
 try dsimp only at H
 by_cases c10:ah=true
 ·subst c10
  rw [if_pos rfl] at H
  exact absurd H (by simp)
 replace c10:=Bool.eq_false_iff.mpr c10
 subst c10
 rw [if_neg (show ¬ (false=true) by decide)] at H
 obtain ⟨ag,A11,H⟩:=bX H
 try dsimp only at H
 by_cases c12:ag.toList=([110,32,37,32,49,48,32,61,32,49,32,97,110,100,32,110,32,37,32,49,48,48,32,33,61,32,49,49]:List UInt8)
 ·rw [if_pos c12] at H
  have aG:(ag.toList == ([110,32,37,32,49,48,32,61,32,49,32,97,110,100,32,110,32,37,32,49,48,48,32,33,61,32,49,49]:List UInt8))=true:=beq_iff_eq.mpr c12
  have aH:(ag.toList != ([110,32,37,32,49,48,32,61,32,49,32,97,110,100,32,110,32,37,32,49,48,48,32,33,61,32,49,49]:List UInt8))=false:=bne_eq_false_iff_eq.mpr c12
  clear c12
  obtain ⟨ai,A13,H⟩:=bX H
  try dsimp only at H
  obtain rfl:=Option.some.inj H
  go_enter Tryz.func29,Tryz.ntmps29
  have tok_0:=Aside0.mk (show Aside0 (0=0) from ⟨rfl⟩)
  have tok_1:=Aside0.mk (show Aside0 (1=1) from ⟨rfl⟩)
  go_wp2_with (first|((with_reducible refine gate_callee (f:=39) rfl ?_);refine gL (some 5) Tryz.func39 #[.string (⟨#[110,32,37,32,49,48,32,61,32,49,32,97,110,100,32,110,32,37,32,49,48,48,32,33,61,32,49,49]⟩:ByteArray)] ?_;(with_reducible refine (rule_Parse.calls (⟨#[110,32,37,32,49,48,32,61,32,49,32,97,110,100,32,110,32,37,32,49,48,48,32,33,61,32,49,49]⟩:ByteArray) ad ap aq _ ?side1 A1.out).mono ?_);(case side1=>refine GL.below HG.out ?_;exact bQ HB);rintro e w14 ⟨aT,rfl,ho0,hb⟩;refine ⟨_,rfl,?_⟩;have ab:=Sd.mk (Kd.R_lower ho0 (bz HB));replace HB:=bs HB hb;(try clear hb);(try clear ho0);obtain ⟨aU,aV,aA⟩:=Kd.R_slice ab.out;subst aA;have ar:0≤(0:Int):=(by omega);have au:0<(ad.length:Int):=of_decide_eq_true (by first|(with_reducible assumption)|assumption);obtain ⟨aI,aB,aC,aD,aj,hl182_0,hi182_0⟩:=at_L7 (Kd.R_reads' ab.out).2.2 0 ar au;cases aD;obtain ⟨ce182,hce182,hMe182,hcc182⟩:=Kd.R_get ab.out [] 0 ar (by first|exact au|exact of_decide_eq_true (by first|(with_reducible assumption)|assumption)|(have e_:=(Kd.R_reads' ab.out).1;omega));obtain ⟨ve182_0,rfl,ge182_0⟩:=hMe182;have hv182_0:=hcc182 0 _ rfl;rw [Nat.add_zero,show ((Kd.slice 60 k60)).sz=1 from rfl,Nat.mul_one] at hv182_0;replace hv182_0:=Option.some.inj (hv182_0.symm.trans aj);rw [hv182_0] at ge182_0;have HL182_0:=Sd.mk (show Kd.R k60 60 _ _ _ _ (rd_L7 ad 0) from ge182_0);clear hv182_0 ge182_0;clear hcc182 hce182;have qi182:(0<ad.length)=True:=eq_true (by omega);(try rw [show ((0:Int)).toNat=0 from rfl] at aj);(try rw [Addr.add_zero'] at aj);have aa:=Sd.mk hi182_0;have az:=Sd.mk hl182_0;clear hi182_0 hl182_0;replace ar:=eq_true ar;replace au:=eq_true au)|((with_reducible refine gate_dst (N:=29) rfl ?_);(try (refine gate_guard (by rfl) ?_;dsimp only));refine Kd.R_lit (Kd.int .u8) _ 5 ?hg (N:=29) ?hd (xs:=([2,1]:List Int)) (inner:=[.int .u8 2,.int .u8 1]) (ok:=fun _=>True) (okp:=fun _=>True) ?hr ?hp (fun _ hk=>hk) trivial (Below.refl _ _) (Nat.le_refl _) (by simp) ?_;(case hd=>rfl);(case hg=>rfl);(case hr=>first|(go_simp;done)|(go_simp;rfl));(case hp=>exact (Reps.one (show Kd.M (Kd.int .u8) _ _ _ 2 [.int .u8 2] from rfl) (Reps.one (show Kd.M (Kd.int .u8) _ _ _ 1 [.int .u8 1] from rfl) (Reps.none _ _))));intro aW w16 ao hb hg_ hnew_;clear hg_ hnew_;(first|rw [← av.out] at ao|(simp only [Int.reduceToNat] at ao;rw [← av.out] at ao));replace ab:=rb ab hb;replace HL182_0:=Sd.mk (Kd.R_below (by (with_reducible repeat (first|apply Kd.R_alloc|apply Kd.R_drewN|apply Kd.R_drew));exact HL182_0.out) hb);have ae:=Sd.mk (Kd.R_lower ao (bz HB));replace aa:=Sd.mk (Kd.C_below (by repeat (first|(with_reducible exact aa.out)|(with_reducible refine Kd.C_alloc ?_ _)|(with_reducible refine Kd.C_drewN ?_ _)|(with_reducible refine Kd.C_drew ?_)|exact aa.out)) hb);replace HB:=bs HB hb;clear hb ao;obtain ⟨aX,aY,aE⟩:=Kd.R_slice ae.out;subst aE)|(go_at_call 37;clear tok_0;(refine (rule_Holds.calls _ _ ad _ _ ax _ _ ([]:List Int) 0 0 true _ ?side7 (rc ab) (rl ab) (rc ae) (rl ae) ?side5 ?side6 A7.out).mono ?_);(case side5=>exact Kd.C_nil _ _);(case side6=>exact Nat.le_refl _);(case side7=>refine GL.below HG.out ?_;exact bQ HB);rintro e w19 ⟨rfl,hb⟩;replace ab:=rb ab hb;replace HL182_0:=Sd.mk (Kd.R_below (by (with_reducible repeat (first|apply Kd.R_alloc|apply Kd.R_drewN|apply Kd.R_drew));exact HL182_0.out) hb);replace ae:=rb ae hb;replace aa:=Sd.mk (Kd.C_below (by repeat (first|(with_reducible exact aa.out)|(with_reducible refine Kd.C_alloc ?_ _)|(with_reducible refine Kd.C_drewN ?_ _)|(with_reducible refine Kd.C_drew ?_)|exact aa.out)) hb);replace HB:=bs HB hb;(try clear hb))|((with_reducible refine gate_dst (N:=35) rfl ?_);(try (refine gate_guard (by rfl) ?_;dsimp only));refine Kd.R_lit (Kd.int .u8) _ 5 ?hg (N:=35) ?hd (xs:=([1,1]:List Int)) (inner:=[.int .u8 1,.int .u8 1]) (ok:=fun _=>True) (okp:=fun _=>True) ?hr ?hp (fun _ hk=>hk) trivial (Below.refl _ _) (Nat.le_refl _) (by simp) ?_;(case hd=>rfl);(case hg=>rfl);(case hr=>first|(go_simp;done)|(go_simp;rfl));(case hp=>exact (Reps.one (show Kd.M (Kd.int .u8) _ _ _ 1 [.int .u8 1] from rfl) (Reps.one (show Kd.M (Kd.int .u8) _ _ _ 1 [.int .u8 1] from rfl) (Reps.none _ _))));intro aZ w20 an hb hg_ hnew_;clear hg_ hnew_;(first|rw [← aw.out] at an|(simp only [Int.reduceToNat] at an;rw [← aw.out] at an));replace ab:=rb ab hb;replace HL182_0:=Sd.mk (Kd.R_below (by (with_reducible repeat (first|apply Kd.R_alloc|apply Kd.R_drewN|apply Kd.R_drew));exact HL182_0.out) hb);have af:=Sd.mk (Kd.R_lower (Kd.R_new' an (Kd.R_lt (ro ae))) (bz HB));replace ae:=Sd.mk (Kd.R_elder' (ro ae) (Kd.R_base an) hb);replace aa:=Sd.mk (Kd.C_below (by repeat (first|(with_reducible exact aa.out)|(with_reducible refine Kd.C_alloc ?_ _)|(with_reducible refine Kd.C_drewN ?_ _)|(with_reducible refine Kd.C_drew ?_)|exact aa.out)) hb);replace HB:=bs HB hb;clear hb an;obtain ⟨a0,a1,aF⟩:=Kd.R_slice af.out;subst aF)|(go_at_call 37;clear tok_1;(refine (rule_Holds.calls _ _ ad _ _ ay _ _ ([]:List Int) 0 0 false _ ?side7 (rc ab) (rl ab) (rc af) (rl af) ?side5 ?side6 A9.out).mono ?_);(case side5=>exact Kd.C_nil _ _);(case side6=>exact Nat.le_refl _);(case side7=>refine GL.below HG.out ?_;exact bQ HB);rintro e w23 ⟨rfl,hb⟩;replace ab:=rb ab hb;replace HL182_0:=Sd.mk (Kd.R_below (by (with_reducible repeat (first|apply Kd.R_alloc|apply Kd.R_drewN|apply Kd.R_drew));exact HL182_0.out) hb);replace ae:=rb ae hb;replace af:=rb af hb;replace aa:=Sd.mk (Kd.C_below (by repeat (first|(with_reducible exact aa.out)|(with_reducible refine Kd.C_alloc ?_ _)|(with_reducible refine Kd.C_drewN ?_ _)|(with_reducible refine Kd.C_drew ?_)|exact aa.out)) hb);replace HB:=bs HB hb;(try clear hb))|(go_at_call 35;(with_reducible refine (rule_Text.calls k _ _ ad ag _ ?side3 (rc ab) (rl ab) A11.out).mono ?_);(case side3=>refine GL.below HG.out ?_;exact bQ HB);rintro e w24 ⟨rfl,hb⟩;replace ab:=rb ab hb;replace HL182_0:=Sd.mk (Kd.R_below (by (with_reducible repeat (first|apply Kd.R_alloc|apply Kd.R_drewN|apply Kd.R_drew));exact HL182_0.out) hb);replace ae:=rb ae hb;replace af:=rb af hb;replace aa:=Sd.mk (Kd.C_below (by repeat (first|(with_reducible exact aa.out)|(with_reducible refine Kd.C_alloc ?_ _)|(with_reducible refine Kd.C_drewN ?_ _)|(with_reducible refine Kd.C_drew ?_)|exact aa.out)) hb);replace HB:=bs HB hb;(try clear hb);(try clear hb2);(try clear hk);(try clear hi))|(go_at_call 32;(with_reducible refine (rule_Right.calls k _ _ ad ai _ ?side3 (rc ab) (rl ab) A13.out).mono ?_);(case side3=>refine GL.below HG.out ?_;exact bQ HB);rintro e w25 ⟨rfl,hb⟩;replace ab:=rb ab hb;replace HL182_0:=Sd.mk (Kd.R_below (by (with_reducible repeat (first|apply Kd.R_alloc|apply Kd.R_drewN|apply Kd.R_drew));exact HL182_0.out) hb);replace ae:=rb ae hb;replace af:=rb af hb;replace aa:=Sd.mk (Kd.C_below (by repeat (first|(with_reducible exact aa.out)|(with_reducible refine Kd.C_alloc ?_ _)|(with_reducible refine Kd.C_drewN ?_ _)|(with_reducible refine Kd.C_drew ?_)|exact aa.out)) hb);replace HB:=bs HB hb;(try clear hb);(try clear hb2);(try clear hk);(try clear hi)))
  go_ret
  exact ⟨by first|rfl|(simp <;> rfl)|(simp [*] <;> rfl),bQ HB⟩
 rw [if_neg c12] at H
 exact absurd H (by simp)
end Go.Proofs.YtgfajgkjbckkgaaGreatDoor.PZ
end
end
section
set_option maxRecDepth 100000
set_option linter.unusedSimpArgs false
set_option linter.unusedVariables false
namespace Go.Proofs.YtgfajgkjbckkgaaGreatDoor.PZ
open Go.RowKit Go.Proofs.YtgfajgkjbckkgaaGreatDoorW.PrintWords Go.Proofs.YtgfajgkjbckkgaaGreatDoorW.PrintLast
theorem figures_l0 {d:List Int}(hd:Figs d)(hl:d.length≤1000)(n:Nat):∀ i:Nat,i+n=d.length→Ev (fun k=>exergueref11_figures.l0 k (d.take i) (strOfNums (d.map chr)) (i:Int)) d:=by
 have hby:Byts (d.map chr):=by
  intro c hc
  obtain ⟨x,hx,rfl⟩:=List.mem_map.1 hc
  have:=hd x hx
  unfold chr;omega
 have hsz:(strOfNums (d.map chr)).size=d.length:=by rw [strOfNums_size,List.length_map]
 induction n with
 | zero=>
  intro i hi
  have q1:¬ ((i:Nat):Int)<((strOfNums (d.map chr)).size:Int):=by rw [hsz];omega
  refine Ev_shift ?_
  simp only [exergueref11_figures.l0,if_neg q1]
  rw [List.take_of_length_le (by omega)]
  exact Ev.now _
 | succ n ih=>
  intro i hi
  have hlt:i<d.length:=by omega
  have q1:((i:Nat):Int)<((strOfNums (d.map chr)).size:Int):=by rw [hsz];omega
  have q2:(0:Int)≤(i:Int):=by omega
  have q3:(d.take i).length<140737488355328:=by rw [List.length_take];omega
  have wi:wrap64 ((i:Int)+1)=((i+1:Nat):Int):=by rw [w64 _ (by omega) (by omega)];omega
  have hb:bt (strOfNums (d.map chr)) (i:Int)=chr d[i]:=by
   rw [← rd_bytesOf,bytesOf_nums hby,rd_nat]
   simp [List.getD_eq_getElem?_getD,hlt]
  have hdi:=hd _ (List.getElem_mem hlt)
  have hc:(chr d[i] - 48) % 256=d[i]:=by unfold chr;omega
  refine Ev_shift ?_
  simp only [exergueref11_figures.l0,if_pos q1,if_pos q2,if_pos q3,wi,hb,hc]
  have:=ih (i+1) (by omega)
  rw [List.take_succ_eq_append_getElem hlt] at this
  exact this
theorem figures_ev {n:Int}(h0:0≤n)(h1:n≤9223372036854775807):Ev (fun k=>exergueref11_figures.f k n) (digsN n.toNat):=by
 unfold exergueref11_figures.f
 refine Ev.bind (refNumT ⟨by omega,h1⟩) ?_
 rw [pw_nat h0]
 exact figures_l0 (digsN_figs _) (by have:=digsN_20 (u:=n.toNat) (by omega);omega) (digsN n.toNat).length 0 (by omega)
theorem hold_l0 {l:List Int}(hf:Figs l)(hl:l.length≤1000000){x:Rl}(hx:NumX x)(h3:x.f3.length≤140737488355328)(n:Nat):∀ q:Nat,q+n=x.f3.length →
    Ev (fun k=>exergueref11_holds.l0 k l (q:Int) x.f0 x.f1 x.f2 x.f3) (((x.f3.drop q).any fun r=>inV (num l) r.f0 r.f1) != x.f2):=by
 induction n with
 | zero=>
  intro q hq
  have q1:¬ ((q:Nat):Int)<(x.f3.length:Int):=by omega
  refine Ev_shift ?_
  simp only [exergueref11_holds.l0,if_neg q1]
  rw [List.drop_of_length_le (by omega)]
  have e:(([]:List Rg).any (fun r=>inV (num l) r.f0 r.f1) != x.f2)=x.f2:=by cases x.f2 <;> rfl
  rw [e]
  exact Ev.now _
 | succ n ih=>
  intro q hq
  have hlt:q<x.f3.length:=by omega
  have q1:((q:Nat):Int)<(x.f3.length:Int):=by omega
  have q2:(0:Int)≤(q:Int):=by omega
  have wq:wrap64 ((q:Int)+1)=((q+1:Nat):Int):=by rw [w64 _ (by omega) (by omega)];omega
  obtain ⟨g1,g2,_⟩:=hx.rg _ (List.getElem_mem hlt)
  refine Ev_shift ?_
  simp only [exergueref11_holds.l0,if_pos q1,if_pos q2,rd57 hlt,wq]
  refine Ev.bind (refIn_ev hf hl _ _ g1 g2) ?_
  rw [drop_get hlt,List.any_cons]
  have e:inD l (x.f3[q]).f0 (x.f3[q]).f1=inV (num l) (x.f3[q]).f0 (x.f3[q]).f1:=rfl
  rw [e]
  cases hb:inV (num l) (x.f3[q]).f0 (x.f3[q]).f1 with
  | true=>
   simp only [if_true,Bool.true_or]
   have e:(true != x.f2) = !x.f2:=by cases x.f2 <;> rfl
   rw [e]
   exact Ev.now _
  | false=>
   simp only [Bool.false_eq_true,if_false,Bool.false_or]
   exact ih (q+1) (by omega)
section
variable {i f:List Int}{w c:Int}(h:OpOk i f w c)
include h
theorem hold_ev {x:Rl}(hx:NumX x)(h3:x.f3.length≤140737488355328):Ev (fun k=>exergueref11_holds.f k x.f0 x.f1 x.f2 x.f3 i f w c) (relX i f w c x):=by
 have hw:=h.wc
 have lf:=h.lf
 obtain ⟨hF,hL⟩:=operandR_ok h x.f0
 have hop:=refOperand_ev i f w c x.f0 (by omega) hw.1 hw.2
 unfold exergueref11_holds.f relX relV
 refine Ev.bind hop ?_
 generalize operandR i f w c x.f0=q at hF hL ⊢
 obtain ⟨l,wh⟩:=q
 simp only at hF hL ⊢
 have j0:∀ {l:List Int},Figs l→l.length≤1000000→Ev (fun k=>exergueref11_holds.j0 k l x.f0 x.f1 x.f2 x.f3) ((x.f3.any fun r=>inV (num l) r.f0 r.f1) != x.f2):=by
  intro l hf hl
  refine Ev_shift ?_
  simp only [exergueref11_holds.j0]
  have:=hold_l0 hf hl hx h3 x.f3.length 0 (by omega)
  rw [List.drop_zero] at this
  exact this
 cases wh with
 | false=>
  simp only [Bool.false_eq_true,if_false,Bool.false_and]
  have e:(false != x.f2)=x.f2:=by cases x.f2 <;> rfl
  rw [e]
  exact Ev.now _
 | true=>
  simp only [if_true,Bool.true_and]
  by_cases hm:x.f1>0
  ·simp only [if_pos hm]
   refine Ev.bind (refMod_ev hF (by omega) ⟨by omega,hx.m1⟩) ?_
   have n0:=Int.emod_nonneg (num l) (show x.f1≠0 by omega)
   have n1:=Int.emod_lt_of_pos (num l) hm
   have n2:=hx.m1
   refine Ev.bind (figures_ev n0 (by omega)) ?_
   have:=j0 (digsN_figs (num l % x.f1).toNat) (by have:=digsN_20 (u:=(num l % x.f1).toNat) (by omega);omega)
   rw [digsN_num,Int.toNat_of_nonneg n0] at this
   exact this
  simp only [if_neg hm]
  exact j0 hF (by omega)
theorem holds_l1 {l:List (List Rl)}(hl:LenOk l)(hx:∀ row ∈ l,∀ x ∈ row,NumX x){a:Nat}(ha:a<l.length){R:Bool}(hR:Ev (fun k=>exergueref11_Holds.l0 k l ((a+1:Nat):Int) i f w c) R)(n:Nat):∀ (j:Nat)(b:Bool),j+n=(l[a]).length →
    Ev (fun k=>exergueref11_Holds.l1 k l (a:Int) b (j:Int) i f w c) ((b && ((l[a]).drop j).all fun x=>relX i f w c x) || R):=by
 have hcl:=hl.lc
 have hrl:=hl.lr _ (List.getElem_mem ha)
 have hxl:=hl.lx _ (List.getElem_mem ha)
 have hxx:=hx _ (List.getElem_mem ha)
 have i1:(0:Int)≤(a:Int):=by omega
 have i2:(a:Int)<(l.length:Int):=by omega
 have wi:wrap64 ((a:Int)+1)=((a+1:Nat):Int):=by rw [w64 _ (by omega) (by omega)];omega
 have ra:=rdL ha
 generalize l[a]=r at *
 induction n with
 | zero=>
  intro j b hj
  have q1:¬ ((j:Nat):Int)<(r.length:Int):=by omega
  refine Ev_shift ?_
  simp only [exergueref11_Holds.l1,if_pos i1,if_pos i2,ra,if_neg q1,wi]
  rw [List.drop_of_length_le (by omega)]
  cases b with
  | true=>simp only [if_true,List.all_nil,Bool.and_self,Bool.true_or];exact Ev.now _
  | false=>simp only [Bool.false_eq_true,if_false,Bool.false_and,Bool.false_or];exact hR
 | succ n ih=>
  intro j b hj
  have hlt:j<r.length:=by omega
  have q1:((j:Nat):Int)<(r.length:Int):=by omega
  have q2:(0:Int)≤(j:Int):=by omega
  have wj:wrap64 ((j:Int)+1)=((j+1:Nat):Int):=by rw [w64 _ (by omega) (by omega)];omega
  refine Ev_shift ?_
  simp only [exergueref11_Holds.l1,if_pos i1,if_pos i2,ra,if_pos q1,if_pos q2,rd60 hlt,wj]
  refine Ev.bind (hold_ev h (hxx _ (List.getElem_mem hlt)) (hxl _ (List.getElem_mem hlt))) ?_
  rw [drop_get hlt,List.all_cons]
  cases b with
  | true=>
   simp only [if_true,Bool.true_and]
   exact ih (j+1) _ (by omega)
  | false=>
   simp only [Bool.false_eq_true,if_false]
   have:=ih (j+1) false (by omega)
   simpa using this
theorem holds_l0 {l:List (List Rl)}(hl:LenOk l)(hx:∀ row ∈ l,∀ x ∈ row,NumX x)(n:Nat):∀ a:Nat,a+n=l.length→Ev (fun k=>exergueref11_Holds.l0 k l (a:Int) i f w c) (condX i f w c (l.drop a)):=by
 induction n with
 | zero=>
  intro a ha
  have q1:¬ ((a:Nat):Int)<(l.length:Int):=by omega
  refine Ev_shift ?_
  simp only [exergueref11_Holds.l0,if_neg q1]
  rw [List.drop_of_length_le (by omega)]
  exact Ev.now _
 | succ n ih=>
  intro a ha
  have hlt:a<l.length:=by omega
  have q1:((a:Nat):Int)<(l.length:Int):=by omega
  have:=holds_l1 h hl hx hlt (ih (a+1) (by omega)) (l[a]).length 0 true (by omega)
  refine Ev_shift ?_
  simp only [exergueref11_Holds.l0,if_pos q1]
  rw [drop_get hlt]
  unfold condX at this ⊢
  rw [List.any_cons]
  simpa using this
theorem holds_ev11 {l:List (List Rl)}(hl:LenOk l)(hx:∀ row ∈ l,∀ x ∈ row,NumX x):Ev (fun k=>exergueref11_Holds.f k l i f w c) (condX i f w c l):=by
 unfold exergueref11_Holds.f
 have:=holds_l0 h hl hx l.length 0 (by omega)
 rw [List.drop_zero] at this
 exact this
end
theorem refRight11 {c:List (List Rl)}(hc:TxtOk c)(hl:LenOk c):Ev (fun k=>exergueref11_Right.f k c) (rightP c):=by
 unfold exergueref11_Right.f rightP
 refine Ev.bind (rtext_ev hc) ?_
 refine Ev.bind (refParse_ev _) ?_
 rw [condB_bytes hc.n]
 generalize parseP (condT [32] c)=p
 obtain ⟨d,n,e⟩:=p
 simp only
 by_cases he:e=0
 ·simp only [if_pos he,decide_eq_true he,Bool.true_and]
  exact Ev.bind (same_ev11 hl) (Ev.now _)
 simp only [if_neg he,decide_eq_false he,Bool.false_and]
 exact Ev.now _
theorem ruleRight11 {c:List (List Rl)}(hc:TxtOk c):Ev (fun k=>rule_Right.f k c) (rightP c):=by
 have hlen:=condT_len hc.n
 have hw:=hc.w
 unfold rule_Right.f rightP
 refine Ev.bind (text_ev hc) ?_
 unfold rule_Parse.f
 rw [condB_bytes hc.n,strOfNums_size]
 simp only [if_pos (show (condT [32] c).length≤140737488351232 by omega),Option.bind_some]
 generalize parseP (condT [32] c)=p
 obtain ⟨d,n,e⟩:=p
 simp only
 by_cases he:e=0
 ·simp only [if_pos he,decide_eq_true he,Bool.true_and]
  unfold rule_Same.f
  exact Ev.now _
 simp only [if_neg he,decide_eq_false he,Bool.false_and]
 exact Ev.now _
theorem mem_rows:∀ {r:List (Rl×Bool)}{l:List Rl}{row:List Rl}{x:Rl},row ∈ rowsOf l r→x ∈ row→x ∈ l∨∃ o,(x,o) ∈ r
  | [],l,row,x,h1,h2=>by
    simp only [rowsOf,List.mem_singleton] at h1
    subst h1;exact .inl h2
  | (y,true) :: r,l,row,x,h1,h2=>by
    simp only [rowsOf,List.mem_cons] at h1
    rcases h1 with rfl|h1
    · rcases List.mem_append.1 h2 with h|h
      · exact .inl h
      · rw [List.mem_singleton] at h;subst h;exact .inr ⟨true,by simp⟩
    · rcases mem_rows h1 h2 with h|⟨o,h⟩
      · cases h
      · exact .inr ⟨o,by simp [h]⟩
  | (y,false) :: r,l,row,x,h1,h2=>by
    simp only [rowsOf] at h1
    rcases mem_rows h1 h2 with h|⟨o,h⟩
    · rcases List.mem_append.1 h with h|h
      · exact .inl h
      · rw [List.mem_singleton] at h;subst h;exact .inr ⟨false,by simp⟩
    · exact .inr ⟨o,by simp [h]⟩
theorem wC_rows:∀ (r:List (Rl×Bool))(l:List Rl),wC (rowsOf l r)≤1+r.length+(l.map wR).sum+(r.map fun x=>wR x.1).sum
  | [],l=>by simp [rowsOf,wC,wRow]
  | (y,true) :: r,l=>by
    have:=wC_rows r []
    simp only [rowsOf]
    unfold wC at this ⊢
    rw [List.map_cons,List.sum_cons]
    simp only [wRow,List.map_append,List.sum_append,List.map_cons,List.map_nil,List.sum_cons,List.sum_nil,List.length_cons] at this ⊢
    omega
  | (y,false) :: r,l=>by
    have:=wC_rows r (l ++ [y])
    simp only [rowsOf]
    simp only [List.map_append,List.sum_append,List.map_cons,List.map_nil,List.sum_cons,List.sum_nil,List.length_cons] at this ⊢
    omega
theorem wC_full {r:List (Rl×Bool)}(h:fullP r=false):wC (rowsOf [] r)≤1000:=by
 unfold fullP at h
 rw [Bool.or_eq_false_iff,decide_eq_false_iff_not,List.any_eq_false] at h
 have h1:=wC_rows r []
 have h2:=sum_le (f:=fun x:Rl×Bool=>wR x.1) (g:=fun _=>21) (l:=r) (fun x hx=>by
  have:=h.2 x hx
  simp at this
  unfold wR;omega)
 rw [sum_const] at h2
 simp only [List.map_nil,List.sum_nil] at h1
 omega
structure GoodC (c:List (List Rl)):Prop where
  gw:wC c≤1000
  gx:∀ row ∈ c,∀ x ∈ row,GoodX x
theorem right_good {c:List (List Rl)}(h:rightP c=true):GoodC c:=by
 obtain ⟨r,_,hg,hr,_,hf,_⟩:=right_runs h
 subst hr
 refine ⟨wC_full hf,fun row hrow x hx=>?_⟩
 rcases mem_rows hrow hx with h|⟨o,h⟩
 · cases h
 exact hg (x,o) h
theorem isOp_byte {c:Int}(h:isOp c=true):0≤c∧c≤255:=by
 have:=op_low h
 unfold isLo at this
 simp at this
 omega
theorem GoodC.txt {c:List (List Rl)}(h:GoodC c):TxtOk c:=by
 refine ⟨by have:=h.gw;omega,fun row hr x hx=>?_⟩
 obtain ⟨g0,g1,g2,_,g3⟩:=h.gx row hr x hx
 refine ⟨isOp_byte g0,⟨by omega,by omega⟩,fun r hrr=>?_⟩
 obtain ⟨r0,r1,r2⟩:=g3 r hrr
 exact ⟨⟨by omega,by omega⟩,⟨by omega,by omega⟩⟩
theorem GoodC.len {c:List (List Rl)}(h:GoodC c):LenOk c:=by
 have hw:=h.gw
 refine ⟨by have:=len_wC c;omega,fun row hr=>?_,fun row hr x hx=>?_⟩
 · have:=wRow_le hr;have:=len_wRow row;omega
 have:=wRow_le hr;have:=wR_le hx;unfold wR at this;omega
theorem GoodC.num {c:List (List Rl)}(h:GoodC c):∀ row ∈ c,∀ x ∈ row,NumX x:=fun row hr x hx=>(h.gx row hr x hx).numX
theorem parse_f {s:ByteArray}(h:s.size≤140737488351232):rule_Parse.f s=some (parseP (bytesOf s)):=by
 unfold rule_Parse.f;rw [if_pos h]
end Go.Proofs.YtgfajgkjbckkgaaGreatDoor.PZ
end
