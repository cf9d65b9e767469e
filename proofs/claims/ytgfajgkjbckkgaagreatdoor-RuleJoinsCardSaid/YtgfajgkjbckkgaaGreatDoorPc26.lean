/- Texts of this seat, joined. Conditions: none beyond each statement's own. -/
import Derived.Test.YtgfajgkjbckkgaaGreatDoorPc22
set_option linter.all false
section
noncomputable section
namespace Go.Proofs.YtgfajgkjbckkgaaGreatDoor.PZ
open Go.RowKit Go.Proofs.YtgfajgkjbckkgaaGreatDoorW.PrintWords Go.Proofs.YtgfajgkjbckkgaaGreatDoorW.PrintLast Go.Proofs.YtgfajgkjbckkgaaGreatDoorW.PrintMore
attribute [local go_sem] max2_int min2_int max_two min_two max_three min_three max_four min_four   -- for this text's walks alone
def exerguelaw11_RuleJoins.j0:Nat→List (List (S60))→List (List (S60))→Bool→Bool→List Int→List Int→Int→Int→Option (Bool)
 | 0,_,_,_,_,_,_,_,_=>none
 | k+1,x0,x1,x7,x49,aC,aD,aE,aF=>if x49=true then (some x7) else ((rule_Text.f k x0).bind fun al=>(if al.size+4≤9223372036854775807 then ((rule_Text.f k x1).bind fun an=>(if (al ++ (⟨#[32,111,114,32]⟩:ByteArray)).size+an.size≤9223372036854775807 then ((rule_Parse.f ((al ++ (⟨#[32,111,114,32]⟩:ByteArray)) ++ an)).bind fun aW=>((rule_Text.f k x0).bind fun am=>(if am.size+5≤9223372036854775807 then ((rule_Text.f k x1).bind fun ao=>(if (am ++ (⟨#[32,97,110,100,32]⟩:ByteArray)).size+ao.size≤9223372036854775807 then ((rule_Parse.f ((am ++ (⟨#[32,97,110,100,32]⟩:ByteArray)) ++ ao)).bind fun aG=>((rule_Holds.f x0 aC aD aE aF).bind fun aM=>((rule_Holds.f x1 aC aD aE aF).bind fun aw=>(if aW.2.2=0 then ((rule_Holds.f aW.1 aC aD aE aF).bind fun az=>(if aM=true then (if (az != true)=true then (none) else (if x7=true then (if aG.2.2=0 then (if (x0.length:Int)=1 then (if (x1.length:Int)=1 then ((rule_Holds.f aG.1 aC aD aE aF).bind fun bm=>(some (bm == aw))) else (some true)) else (some true)) else (if aG.2.2=11 then (some true) else (none))) else (none))) else (if (az != aw)=true then (none) else (if x7=true then (if aG.2.2=0 then (if (x0.length:Int)=1 then (if (x1.length:Int)=1 then ((rule_Holds.f aG.1 aC aD aE aF).bind fun bn=>(some (bn == false))) else (some true)) else (some true)) else (if aG.2.2=11 then (some true) else (none))) else (none))))) else (if x7=true then (if aW.2.2=11 then (if aG.2.2=0 then (if (x0.length:Int)=1 then (if (x1.length:Int)=1 then ((rule_Holds.f aG.1 aC aD aE aF).bind fun aX=>(if aM=true then (some (aX == aw)) else (some (aX == false)))) else (some true)) else (some true)) else (if aG.2.2=11 then (some true) else (none))) else (none)) else (none)))))) else (none))) else (none)))) else (none))) else (none)))
def exerguelaw11_RuleJoins.f (k:Nat)(l0:List (List (S60)))(l1:List (List (S60)))(ad:List Int)(ae:List Int)(af:Int)(ag:Int):Option (Bool):=(exerguelaw11_shown.f k).bind fun aA=>((exergueref11_Short.f k l0).bind fun aY=>(if aY=true then ((exergueref11_Short.f k l1).bind fun aZ=>(if aZ=true then ((exergueref11_Right.f k l0).bind fun a6=>(if a6=true then ((exergueref11_Right.f k l1).bind fun a7=>(if a7=true then (if (wrap64 ((ad.length:Int)+(ae.length:Int)))>1000 then (exerguelaw11_RuleJoins.j0 k l0 l1 aA true ad ae af ag) else ((exergueref07_Right.f k ad ae af ag).bind fun aU=>(exerguelaw11_RuleJoins.j0 k l0 l1 aA (!aU) ad ae af ag))) else (exerguelaw11_RuleJoins.j0 k l0 l1 aA true ad ae af ag))) else (exerguelaw11_RuleJoins.j0 k l0 l1 aA true ad ae af ag))) else (exerguelaw11_RuleJoins.j0 k l0 l1 aA true ad ae af ag))) else (exerguelaw11_RuleJoins.j0 k l0 l1 aA true ad ae af ag)))
theorem exerguelaw11_RuleJoins.mono_l:∀ k,(∀ y0 y1 y2 y3 y4 y5 y6 y7,LeO (exerguelaw11_RuleJoins.j0 k y0 y1 y2 y3 y4 y5 y6 y7) (exerguelaw11_RuleJoins.j0 (k+1) y0 y1 y2 y3 y4 y5 y6 y7))
 | 0=>fun _ _ _ _ _ _ _ _ r h=>by simp [exerguelaw11_RuleJoins.j0] at h
 | k+1=>by
  have ih0:=exerguelaw11_RuleJoins.mono_l k
  ·intro y0 y1 y2 y3 y4 y5 y6 y7
   unfold exerguelaw11_RuleJoins.j0
   repeat' first|(with_reducible first|apply ih0|apply exerguelaw11_shown.mono|apply exergueref07_Right.mono|apply exergueref11_Right.mono|apply exergueref11_Short.mono|apply rule_Text.mono|apply LeO.refl|apply LeO.none|refine LeO.ite ?_ ?_|refine LeO.bind ?_ (fun _=>?_))|apply ih0|apply exerguelaw11_shown.mono|apply exergueref07_Right.mono|apply exergueref11_Right.mono|apply exergueref11_Short.mono|apply rule_Text.mono|apply LeO.none
theorem exerguelaw11_RuleJoins.mono:∀ a0 a1 a2 a3 a4 a5 k,LeO (exerguelaw11_RuleJoins.f k a0 a1 a2 a3 a4 a5) (exerguelaw11_RuleJoins.f (k+1) a0 a1 a2 a3 a4 a5):=by
 intro a0 a1 a2 a3 a4 a5 k
 have ih0:=exerguelaw11_RuleJoins.mono_l k
 unfold exerguelaw11_RuleJoins.f
 repeat' first|(with_reducible first|apply ih0|apply exerguelaw11_shown.mono|apply exergueref07_Right.mono|apply exergueref11_Right.mono|apply exergueref11_Short.mono|apply rule_Text.mono|apply LeO.refl|apply LeO.none|refine LeO.ite ?_ ?_|refine LeO.bind ?_ (fun _=>?_))|apply ih0|apply exerguelaw11_shown.mono|apply exergueref07_Right.mono|apply exergueref11_Right.mono|apply exergueref11_Short.mono|apply rule_Text.mono|apply LeO.none
set_option maxHeartbeats 8000000 in
set_option maxRecDepth 100000 in
theorem exerguelaw11_RuleJoins.calls (k:Nat)(A0:Option Addr)(c0:Nat)(l0:List (List (S60)))(A1:Option Addr)(c1:Nat)(l1:List (List (S60)))(aq:Option Addr)(ar:Nat)(ad:List Int)(au:Option Addr)(av:Nat)(ae:List Int)(af:Int)(ag:Int)(r:Bool)(w:World)(hG:GL w)(hr0:Kd.C (Kd.slice 60 k60) w A0 l0.length l0)(hc0:l0.length≤c0)(hr1:Kd.C (Kd.slice 60 k60) w A1 l1.length l1)(hc1:l1.length≤c1)(be:Kd.C (Kd.int .u8) w aq ad.length ad)(bf:ad.length≤ar)(bh:Kd.C (Kd.int .u8) w au ae.length ae)(bi:ae.length≤av)(h:exerguelaw11_RuleJoins.f k l0 l1 ad ae af ag=some r) :
  Calls Tryz.prog 6 #[.slice A0 l0.length c0,.slice A1 l1.length c1,.agg #[.slice aq ad.length ar,.slice au ae.length av,.int .i64 af,.int .i64 ag]] w fun e w'=>e = .returned (.bool r)∧Below w.heap.size w w':=by
 have hu36:=Tryz.underlying36
 have HR0:=zS hr0
 have HC0:=zS hc0
 clear hr0 hc0
 have HR1:=zS hr1
 have HC1:=zS hc1
 clear hr1 hc1
 have ah:=zS be
 have ai:=zS bf
 clear be bf
 have aj:=zS bh
 have ak:=zS bi
 clear bh bi
 have HB:=zS (Below.refl w.heap.size w)
 have HG:=zS hG
 clear hG
 have H:((exerguelaw11_shown.f k).bind fun aA=>((exergueref11_Short.f k l0).bind fun aY=>(if aY=true then ((exergueref11_Short.f k l1).bind fun aZ=>(if aZ=true then ((exergueref11_Right.f k l0).bind fun a6=>(if a6=true then ((exergueref11_Right.f k l1).bind fun a7=>(if a7=true then (if (wrap64 ((ad.length:Int)+(ae.length:Int)))>1000 then (exerguelaw11_RuleJoins.j0 k l0 l1 aA true ad ae af ag) else ((exergueref07_Right.f k ad ae af ag).bind fun aU=>(exerguelaw11_RuleJoins.j0 k l0 l1 aA (!aU) ad ae af ag))) else (exerguelaw11_RuleJoins.j0 k l0 l1 aA true ad ae af ag))) else (exerguelaw11_RuleJoins.j0 k l0 l1 aA true ad ae af ag))) else (exerguelaw11_RuleJoins.j0 k l0 l1 aA true ad ae af ag))) else (exerguelaw11_RuleJoins.j0 k l0 l1 aA true ad ae af ag))))=some r:=h
 clear h
 replace H:=Option.bind_eq_some_iff.mp H
 obtain ⟨aA,A40,H⟩:=H
 try dsimp only at H
 have A4:=zS A40
 clear A40
 have HC5:=zS H
 clear H
 go_enter Tryz.func6,Tryz.ntmps6
 go_upto_region 2 with (first|((with_reducible refine gate_dst (N:=5) rfl ?_);(try (refine gate_guard (by rfl) ?_;dsimp only));refine box_event ?hg (N:=5) ?hd (cs:=#[.slice aq ad.length ar,.slice au ae.length av,.int .i64 af,.int .i64 ag]) (t:=36) ?hr ?_;(case hd=>rfl);(case hg=>rfl);(case hr=>first|(go_simp;done)|(go_simp;rfl));intro bE hg w6 hbox hb;have aa:=zS (hbox);have dA:=bg HB hg;replace HB:=bs HB hb;clear hb hbox hg)|((with_reducible refine gate_callee (f:=29) rfl ?_);refine gL (some 16) Tryz.func29 #[] ?_;(with_reducible refine (exerguelaw11_shown.calls k  aA _ ?side1 A4.out).mono ?_);(case side1=>refine GL.below HG.out ?_;exact bQ HB);rintro e w7 ⟨rfl,hb⟩;refine ⟨_,rfl,?_⟩;replace aa:=kb aa hb;replace HB:=bs HB hb;(try clear hb)))
 (try simp only [Act.put,sA,sB,sC])
 go_cut [49] (fun v49 wc=>∃ (kq:Nat) (aT:Bool),v49 = .bool aT∧Sd (exerguelaw11_RuleJoins.j0 kq l0 l1 aA aT ad ae af ag=some r)∧Sd (kq≤k)∧Sd (wc.heap[bE]?=some (.cells #[(.slice aq ad.length ar),(.slice au ae.length av),.int .i64 af,.int .i64 ag] 36 (0,0)))∧Sd (Below w.heap.size w wc))
 case first=>
  have H:=HC5.out
  clear HC5
  replace H:=Option.bind_eq_some_iff.mp H
  obtain ⟨aY,A80,H⟩:=H
  try dsimp only at H
  have A8:=zS A80
  clear A80
  by_cases c9:aY=true
  rotate_left
  ·replace c9:=Bool.eq_false_iff.mpr c9
   subst c9
   rw [if_neg (show ¬ (false=true) by decide)] at H
   have H':=zS H
   clear H
   go_wp2_with (first|((with_reducible refine gate_callee (f:=30) rfl ?_);refine gL (some 18) Tryz.func30 #[.slice A0 l0.length c0] ?_;(with_reducible refine (exergueref11_Short.calls k _ _ l0 false _ (cb HR0 HB) HC0.out A8.out).mono ?_);rintro e w' ⟨rfl,⟨nd,rfl⟩⟩;refine ⟨_,rfl,?_⟩))
   go_meet
   case rel=>exact ⟨_,(true),(by first|rfl|(simp;done)|(simp [*];done)),H',⟨by first|omega|exact Nat.le_refl _⟩,⟨ko aa⟩,⟨bQ HB⟩⟩
  subst c9
  rw [if_pos rfl] at H
  replace H:=Option.bind_eq_some_iff.mp H
  obtain ⟨aZ,bF,H⟩:=H
  try dsimp only at H
  have A10:=zS bF
  clear bF
  by_cases c11:aZ=true
  rotate_left
  ·replace c11:=Bool.eq_false_iff.mpr c11
   subst c11
   rw [if_neg (show ¬ (false=true) by decide)] at H
   have H':=zS H
   clear H
   go_wp2_with (first|((with_reducible refine gate_callee (f:=30) rfl ?_);refine gL (some 18) Tryz.func30 #[.slice A0 l0.length c0] ?_;(with_reducible refine (exergueref11_Short.calls k _ _ l0 true _ (cb HR0 HB) HC0.out A8.out).mono ?_);rintro e w' ⟨rfl,⟨nd,rfl⟩⟩;refine ⟨_,rfl,?_⟩)|(go_at_call 30;(with_reducible refine (exergueref11_Short.calls k _ _ l1 false _ ?side1 HC1.out A10.out).mono ?_);(case side1=>repeat (first|exact (Kd.C_below HR1.out (bQ HB))|(with_reducible refine Kd.C_alloc ?_ _)|(with_reducible refine Kd.C_drewN ?_ _)|(with_reducible refine Kd.C_drew ?_)));rintro e w' ⟨rfl,⟨nd,rfl⟩⟩))
   go_meet
   case rel=>exact ⟨_,(true),(by first|rfl|(simp;done)|(simp [*];done)),H',⟨by first|omega|exact Nat.le_refl _⟩,⟨ko aa⟩,⟨bQ HB⟩⟩
  subst c11
  rw [if_pos rfl] at H
  replace H:=Option.bind_eq_some_iff.mp H
  obtain ⟨a6,bG,H⟩:=H
  try dsimp only at H
  have A12:=zS bG
  clear bG
  by_cases c13:a6=true
  rotate_left
  ·replace c13:=Bool.eq_false_iff.mpr c13
   subst c13
   rw [if_neg (show ¬ (false=true) by decide)] at H
   have H':=zS H
   clear H
   go_wp2_with (first|((with_reducible refine gate_callee (f:=30) rfl ?_);refine gL (some 18) Tryz.func30 #[.slice A0 l0.length c0] ?_;(with_reducible refine (exergueref11_Short.calls k _ _ l0 true _ (cb HR0 HB) HC0.out A8.out).mono ?_);rintro e w' ⟨rfl,⟨nd,rfl⟩⟩;refine ⟨_,rfl,?_⟩)|(go_at_call 30;(with_reducible refine (exergueref11_Short.calls k _ _ l1 true _ ?side1 HC1.out A10.out).mono ?_);(case side1=>repeat (first|exact (Kd.C_below HR1.out (bQ HB))|(with_reducible refine Kd.C_alloc ?_ _)|(with_reducible refine Kd.C_drewN ?_ _)|(with_reducible refine Kd.C_drew ?_)));rintro e w' ⟨rfl,⟨nd,rfl⟩⟩)|(go_at_call 31;(with_reducible refine (exergueref11_Right.calls k _ _ l0 false _ ?side1 HC0.out A12.out).mono ?_);(case side1=>repeat (first|exact (Kd.C_below HR0.out (bQ HB))|(with_reducible refine Kd.C_alloc ?_ _)|(with_reducible refine Kd.C_drewN ?_ _)|(with_reducible refine Kd.C_drew ?_)));rintro e w27 ⟨rfl,hb⟩;replace aa:=kb aa hb;replace HB:=bs HB hb;(try clear hb)))
   go_meet
   case rel=>exact ⟨_,(true),(by first|rfl|(simp;done)|(simp [*];done)),H',⟨by first|omega|exact Nat.le_refl _⟩,⟨ko aa⟩,⟨bQ HB⟩⟩
  subst c13
  rw [if_pos rfl] at H
  replace H:=Option.bind_eq_some_iff.mp H
  obtain ⟨a7,bH,H⟩:=H
  try dsimp only at H
  have A14:=zS bH
  clear bH
  by_cases c15:a7=true
  rotate_left
  ·replace c15:=Bool.eq_false_iff.mpr c15
   subst c15
   rw [if_neg (show ¬ (false=true) by decide)] at H
   have H':=zS H
   clear H
   go_wp2_with (first|((with_reducible refine gate_callee (f:=30) rfl ?_);refine gL (some 18) Tryz.func30 #[.slice A0 l0.length c0] ?_;(with_reducible refine (exergueref11_Short.calls k _ _ l0 true _ (cb HR0 HB) HC0.out A8.out).mono ?_);rintro e w' ⟨rfl,⟨nd,rfl⟩⟩;refine ⟨_,rfl,?_⟩)|(go_at_call 30;(with_reducible refine (exergueref11_Short.calls k _ _ l1 true _ ?side1 HC1.out A10.out).mono ?_);(case side1=>repeat (first|exact (Kd.C_below HR1.out (bQ HB))|(with_reducible refine Kd.C_alloc ?_ _)|(with_reducible refine Kd.C_drewN ?_ _)|(with_reducible refine Kd.C_drew ?_)));rintro e w' ⟨rfl,⟨nd,rfl⟩⟩)|(go_at_call 31;(with_reducible refine (exergueref11_Right.calls k _ _ l0 true _ ?side1 HC0.out A12.out).mono ?_);(case side1=>repeat (first|exact (Kd.C_below HR0.out (bQ HB))|(with_reducible refine Kd.C_alloc ?_ _)|(with_reducible refine Kd.C_drewN ?_ _)|(with_reducible refine Kd.C_drew ?_)));rintro e w25 ⟨rfl,hb⟩;replace aa:=kb aa hb;replace HB:=bs HB hb;(try clear hb))|(go_at_call 31;(with_reducible refine (exergueref11_Right.calls k _ _ l1 false _ (cb HR1 HB) HC1.out A14.out).mono ?_);rintro e w26 ⟨rfl,hb⟩;replace aa:=kb aa hb;replace HB:=bs HB hb;(try clear hb);(try clear hb2);(try clear hk);(try clear hi)))
   go_meet
   case rel=>exact ⟨_,(true),(by first|rfl|(simp;done)|(simp [*];done)),H',⟨by first|omega|exact Nat.le_refl _⟩,⟨ko aa⟩,⟨bQ HB⟩⟩
  subst c15
  rw [if_pos rfl] at H
  by_cases c16:(wrap64 ((ad.length:Int)+(ae.length:Int)))>1000
  ·rw [if_pos c16] at H
   have aL:decide (1000<(wrap64 ((ad.length:Int)+(ae.length:Int))))=true:=zC c16
   clear c16
   (first|rw [aL]|(simp only [i64_w,i32_w];rw [aL])|rw [bI]|skip)
   have H':=zS H
   clear H
   go_wp2_with (first|((with_reducible refine gate_callee (f:=30) rfl ?_);refine gL (some 18) Tryz.func30 #[.slice A0 l0.length c0] ?_;(with_reducible refine (exergueref11_Short.calls k _ _ l0 true _ (cb HR0 HB) HC0.out A8.out).mono ?_);rintro e w' ⟨rfl,⟨nd,rfl⟩⟩;refine ⟨_,rfl,?_⟩)|(go_at_call 30;(with_reducible refine (exergueref11_Short.calls k _ _ l1 true _ ?side1 HC1.out A10.out).mono ?_);(case side1=>repeat (first|exact (Kd.C_below HR1.out (bQ HB))|(with_reducible refine Kd.C_alloc ?_ _)|(with_reducible refine Kd.C_drewN ?_ _)|(with_reducible refine Kd.C_drew ?_)));rintro e w' ⟨rfl,⟨nd,rfl⟩⟩)|(go_at_call 31;(with_reducible refine (exergueref11_Right.calls k _ _ l0 true _ ?side1 HC0.out A12.out).mono ?_);(case side1=>repeat (first|exact (Kd.C_below HR0.out (bQ HB))|(with_reducible refine Kd.C_alloc ?_ _)|(with_reducible refine Kd.C_drewN ?_ _)|(with_reducible refine Kd.C_drew ?_)));rintro e w17 ⟨rfl,hb⟩;replace aa:=kb aa hb;replace HB:=bs HB hb;(try clear hb))|(go_at_call 31;(with_reducible refine (exergueref11_Right.calls k _ _ l1 true _ (cb HR1 HB) HC1.out A14.out).mono ?_);rintro e w18 ⟨rfl,hb⟩;replace aa:=kb aa hb;replace HB:=bs HB hb;(try clear hb);(try clear hb2);(try clear hk);(try clear hi);have bJ:=blkc4 aa.out;have bK:=blkf4 aa.out))
   go_meet
   case rel=>exact ⟨_,(true),(by first|rfl|(simp;done)|(simp [*];done)),H',⟨by first|omega|exact Nat.le_refl _⟩,⟨ko aa⟩,⟨bQ HB⟩⟩
  rw [if_neg c16] at H
  have aL:decide (1000<(wrap64 ((ad.length:Int)+(ae.length:Int))))=false:=zD c16
  clear c16
  (first|rw [aL]|(simp only [i64_w,i32_w];rw [aL])|rw [bI]|skip)
  replace H:=Option.bind_eq_some_iff.mp H
  obtain ⟨aU,bL,H⟩:=H
  try dsimp only at H
  have A20:=zS bL
  clear bL
  have H':=zS H
  clear H
  go_wp2_with (first|((with_reducible refine gate_callee (f:=30) rfl ?_);refine gL (some 18) Tryz.func30 #[.slice A0 l0.length c0] ?_;(with_reducible refine (exergueref11_Short.calls k _ _ l0 true _ (cb HR0 HB) HC0.out A8.out).mono ?_);rintro e w' ⟨rfl,⟨nd,rfl⟩⟩;refine ⟨_,rfl,?_⟩)|(go_at_call 30;(with_reducible refine (exergueref11_Short.calls k _ _ l1 true _ ?side1 HC1.out A10.out).mono ?_);(case side1=>repeat (first|exact (Kd.C_below HR1.out (bQ HB))|(with_reducible refine Kd.C_alloc ?_ _)|(with_reducible refine Kd.C_drewN ?_ _)|(with_reducible refine Kd.C_drew ?_)));rintro e w' ⟨rfl,⟨nd,rfl⟩⟩)|(go_at_call 31;(with_reducible refine (exergueref11_Right.calls k _ _ l0 true _ ?side1 HC0.out A12.out).mono ?_);(case side1=>repeat (first|exact (Kd.C_below HR0.out (bQ HB))|(with_reducible refine Kd.C_alloc ?_ _)|(with_reducible refine Kd.C_drewN ?_ _)|(with_reducible refine Kd.C_drew ?_)));rintro e w21 ⟨rfl,hb⟩;replace aa:=kb aa hb;replace HB:=bs HB hb;(try clear hb))|(go_at_call 31;(with_reducible refine (exergueref11_Right.calls k _ _ l1 true _ (cb HR1 HB) HC1.out A14.out).mono ?_);rintro e w22 ⟨rfl,hb⟩;replace aa:=kb aa hb;replace HB:=bs HB hb;(try clear hb);(try clear hb2);(try clear hk);(try clear hi);have bM:=blkc4 aa.out;have bN:=blkf4 aa.out)|(go_at_call 26;(with_reducible refine (exergueref07_Right.calls k _ _ ad _ _ ae af ag aU _ (cb ah HB) ai.out (cb aj HB) ak.out A20.out).mono ?_);rintro e w24 ⟨rfl,hb⟩;replace aa:=kb aa hb;replace HB:=bs HB hb;(try clear hb);(try clear hb2);(try clear hk);(try clear hi)))
  go_meet
  case rel=>exact ⟨_,(!aU),(by first|rfl|(simp;done)|(simp [*];done)),H',⟨by first|omega|exact Nat.le_refl _⟩,⟨ko aa⟩,⟨bQ HB⟩⟩
 case rest=>
  clear HC5
  try clear c1
  try clear c2
  try clear p2
  try clear c3
  try clear c6
  try clear p6
  try clear c9
  try clear c11
  try clear c13
  try clear c15
  try clear c16
  try clear aL
  try clear bJ
  try clear bM
  try clear bK
  try clear bN
  obtain ⟨kq,aT,rfl,HA,HJ4,aa,HB⟩:=hcut
  cases kq with
  | zero=>exact absurd HA.out (by simp [exerguelaw11_RuleJoins.j0])
  | succ kj4=>
   have H:=HA.out
   clear HA
   simp only [exerguelaw11_RuleJoins.j0] at H
   by_cases c28:aT=true
   ·subst c28
    rw [if_pos rfl] at H
    obtain rfl:=zE H
    go_wp2
    go_ret
    exact ⟨by first|rfl|(simp <;> rfl)|(simp [*] <;> rfl),bQ HB⟩
   replace c28:=Bool.eq_false_iff.mpr c28
   subst c28
   rw [if_neg (show ¬ (false=true) by decide)] at H
   replace H:=Option.bind_eq_some_iff.mp H
   obtain ⟨al,bO,H⟩:=H
   try dsimp only at H
   have A29:=zS bO
   clear bO
   by_cases c30:al.size+4≤9223372036854775807
   rotate_left
   ·rw [if_neg c30] at H
    exact absurd H (by simp)
   rw [if_pos c30] at H
   have dB:=eq_true c30
   have dC:=zC c30
   try have dD:(9223372036854775807<al.size+4)=False:=eq_false (Nat.not_lt.2 c30)
   replace H:=Option.bind_eq_some_iff.mp H
   obtain ⟨an,bP,H⟩:=H
   try dsimp only at H
   have A31:=zS bP
   clear bP
   by_cases c32:(al ++ (⟨#[32,111,114,32]⟩:ByteArray)).size+an.size≤9223372036854775807
   rotate_left
   ·rw [if_neg c32] at H
    exact absurd H (by simp)
   rw [if_pos c32] at H
   have dE:=eq_true c32
   have dF:=zC c32
   try have dG:(9223372036854775807<(al ++ (⟨#[32,111,114,32]⟩:ByteArray)).size+an.size)=False:=eq_false (Nat.not_lt.2 c32)
   try have dH:(9223372036854775807<al.size+4+an.size)=False:=eq_false (by have h_:=c32;simp only [ByteArray.size_append,show (⟨#[32,111,114,32]⟩:ByteArray).size=4 from rfl] at h_;omega)
   replace H:=Option.bind_eq_some_iff.mp H
   obtain ⟨⟨ax,aH,ay⟩,bR,H⟩:=H
   try dsimp only at H
   have A33:=zS bR
   clear bR
   replace H:=Option.bind_eq_some_iff.mp H
   obtain ⟨am,bS,H⟩:=H
   try dsimp only at H
   have A34:=zS bS
   clear bS
   by_cases c35:am.size+5≤9223372036854775807
   rotate_left
   ·rw [if_neg c35] at H
    exact absurd H (by simp)
   rw [if_pos c35] at H
   have dI:=eq_true c35
   have dJ:=zC c35
   try have dK:(9223372036854775807<am.size+5)=False:=eq_false (Nat.not_lt.2 c35)
   replace H:=Option.bind_eq_some_iff.mp H
   obtain ⟨ao,bT,H⟩:=H
   try dsimp only at H
   have A36:=zS bT
   clear bT
   by_cases c37:(am ++ (⟨#[32,97,110,100,32]⟩:ByteArray)).size+ao.size≤9223372036854775807
   rotate_left
   ·rw [if_neg c37] at H
    exact absurd H (by simp)
   rw [if_pos c37] at H
   have dL:=eq_true c37
   have dM:=zC c37
   try have dN:(9223372036854775807<(am ++ (⟨#[32,97,110,100,32]⟩:ByteArray)).size+ao.size)=False:=eq_false (Nat.not_lt.2 c37)
   try have dO:(9223372036854775807<am.size+5+ao.size)=False:=eq_false (by have h_:=c37;simp only [ByteArray.size_append,show (⟨#[32,97,110,100,32]⟩:ByteArray).size=5 from rfl] at h_;omega)
   replace H:=Option.bind_eq_some_iff.mp H
   obtain ⟨⟨aB,aI,ap⟩,bU,H⟩:=H
   try dsimp only at H
   have A38:=zS bU
   clear bU
   replace H:=Option.bind_eq_some_iff.mp H
   obtain ⟨aM,bV,H⟩:=H
   try dsimp only at H
   have A39:=zS bV
   clear bV
   replace H:=Option.bind_eq_some_iff.mp H
   obtain ⟨aw,bW,H⟩:=H
   try dsimp only at H
   have A40:=zS bW
   clear bW
   by_cases c41:ay=0
   rotate_left
   ·rw [if_neg c41] at H
    have bX:(ay == 0)=false:=zF c41
    have bY:(ay != 0)=true:=zI c41
    by_cases bb:aA=true
    rotate_left
    ·replace bb:=Bool.eq_false_iff.mpr bb
     subst bb
     rw [if_neg (show ¬ (false=true) by decide)] at H
     exact absurd H (by simp)
    subst bb
    rw [if_pos rfl] at H
    by_cases a8:ay=11
    rotate_left
    ·rw [if_neg a8] at H
     exact absurd H (by simp)
    rw [if_pos a8] at H
    have ch:(ay == 11)=true:=zH a8
    have ci:(ay != 11)=false:=zG a8
    clear a8
    by_cases aN:ap=0
    rotate_left
    ·rw [if_neg aN] at H
     have bo:(ap == 0)=false:=zF aN
     have bp:(ap != 0)=true:=zI aN
     by_cases a9:ap=11
     ·rw [if_pos a9] at H
      have cj:(ap == 11)=true:=zH a9
      have ck:(ap != 11)=false:=zG a9
      clear a9
      obtain rfl:=zE H
      go_wp2_with (first|((with_reducible refine gate_callee (f:=35) rfl ?_);refine gL (some 53) Tryz.func35 #[.slice A0 l0.length c0] ?_;(with_reducible refine (rule_Text.calls kj4 _ _ l0 al _ ?side3 (cb HR0 HB) HC0.out A29.out).mono ?_);(case side3=>refine GL.below HG.out ?_;exact bQ HB);rintro e ew ⟨rfl,hb⟩;refine ⟨_,rfl,?_⟩;replace aa:=kb aa hb;replace HB:=bs HB hb;(try clear hb))|((with_reducible refine gate_callee (f:=35) rfl ?_);refine gL (some 56) Tryz.func35 #[.slice A1 l1.length c1] ?_;(with_reducible refine (rule_Text.calls kj4 _ _ l1 an _ ?side3 (cb HR1 HB) HC1.out A31.out).mono ?_);(case side3=>refine GL.below HG.out ?_;exact bQ HB);rintro e ex ⟨rfl,hb⟩;refine ⟨_,rfl,?_⟩;replace aa:=kb aa hb;replace HB:=bs HB hb;(try clear hb);(try clear hb2);(try clear hk);(try clear hi))|((with_reducible refine gate_callee (f:=39) rfl ?_);refine gL (some 58) Tryz.func39 #[.string ((al ++ (⟨#[32,111,114,32]⟩:ByteArray)) ++ an)] ?_;(with_reducible refine (rule_Parse.calls ((al ++ (⟨#[32,111,114,32]⟩:ByteArray)) ++ an) ax aH ay _ ?side1 A33.out).mono ?_);(case side1=>refine GL.below HG.out ?_;exact bQ HB);rintro e ey ⟨aJ,rfl,ho0,hb⟩;refine ⟨_,rfl,?_⟩;have ab:=zS (Kd.R_lower ho0 (bz HB));replace aa:=kb aa hb;replace HB:=bs HB hb;(try clear hb);(try clear hb2);(try clear hk);(try clear hi);(try clear ho0))|((with_reducible refine gate_callee (f:=35) rfl ?_);refine gL (some 64) Tryz.func35 #[.slice A0 l0.length c0] ?_;(with_reducible refine (rule_Text.calls kj4 _ _ l0 am _ ?side3 (cb HR0 HB) HC0.out A34.out).mono ?_);(case side3=>refine GL.below HG.out ?_;exact bQ HB);rintro e ez ⟨rfl,hb⟩;refine ⟨_,rfl,?_⟩;replace ab:=rb ab hb;replace aa:=kb aa hb;replace HB:=bs HB hb;(try clear hb);(try clear hb2);(try clear hk);(try clear hi))|((with_reducible refine gate_callee (f:=35) rfl ?_);refine gL (some 67) Tryz.func35 #[.slice A1 l1.length c1] ?_;(with_reducible refine (rule_Text.calls kj4 _ _ l1 ao _ ?side3 (cb HR1 HB) HC1.out A36.out).mono ?_);(case side3=>refine GL.below HG.out ?_;exact bQ HB);rintro e eA ⟨rfl,hb⟩;refine ⟨_,rfl,?_⟩;replace ab:=rb ab hb;replace aa:=kb aa hb;replace HB:=bs HB hb;(try clear hb);(try clear hb2);(try clear hk);(try clear hi))|((with_reducible refine gate_callee (f:=39) rfl ?_);refine gL (some 69) Tryz.func39 #[.string ((am ++ (⟨#[32,97,110,100,32]⟩:ByteArray)) ++ ao)] ?_;(with_reducible refine (rule_Parse.calls ((am ++ (⟨#[32,97,110,100,32]⟩:ByteArray)) ++ ao) aB aI ap _ ?side1 A38.out).mono ?_);(case side1=>refine GL.below HG.out ?_;exact bQ HB);rintro e eB ⟨aK,rfl,ho0,hb⟩;refine ⟨_,rfl,?_⟩;have ac:=zS (Kd.R_lower (Kd.R_new' ho0 (Kd.R_lt (ro ab))) (bz HB));replace ab:=zS (Kd.R_elder' (ro ab) (Kd.R_base ho0) hb);replace aa:=kb aa hb;replace HB:=bs HB hb;(try clear hb);(try clear hb2);(try clear hk);(try clear hi);(try clear ho0);have cl:=blkc4 aa.out;have cm:=blkf4 aa.out)|((with_reducible refine gate_callee (f:=37) rfl ?_);refine gL (some 75) Tryz.func37 #[.slice A0 l0.length c0,.agg #[.slice aq ad.length ar,.slice au ae.length av,.int .i64 af,.int .i64 ag]] ?_;(with_reducible refine (rule_Holds.calls _ _ l0 _ _ ad _ _ ae af ag aM _ ?side7 (cb HR0 HB) HC0.out (cb ah HB) ai.out (cb aj HB) ak.out A39.out).mono ?_);(case side7=>refine GL.below HG.out ?_;exact bQ HB);rintro e eC ⟨rfl,hb⟩;refine ⟨_,rfl,?_⟩;replace ab:=rb ab hb;replace ac:=rb ac hb;replace aa:=kb aa hb;replace HB:=bs HB hb;(try clear hb);(try clear hb2);(try clear hk);(try clear hi);have cn:=blkc4 aa.out;have co:=blkf4 aa.out)|((with_reducible refine gate_callee (f:=37) rfl ?_);refine gL (some 78) Tryz.func37 #[.slice A1 l1.length c1,.agg #[.slice aq ad.length ar,.slice au ae.length av,.int .i64 af,.int .i64 ag]] ?_;(with_reducible refine (rule_Holds.calls _ _ l1 _ _ ad _ _ ae af ag aw _ ?side7 (cb HR1 HB) HC1.out (cb ah HB) ai.out (cb aj HB) ak.out A40.out).mono ?_);(case side7=>refine GL.below HG.out ?_;exact bQ HB);rintro e eD ⟨rfl,hb⟩;refine ⟨_,rfl,?_⟩;replace ab:=rb ab hb;replace ac:=rb ac hb;replace aa:=kb aa hb;replace HB:=bs HB hb;(try clear hb);(try clear hb2);(try clear hk);(try clear hi)))
      go_ret
      exact ⟨by first|rfl|(simp <;> rfl)|(simp [*] <;> rfl),bQ HB⟩
     rw [if_neg a9] at H
     exact absurd H (by simp)
    rw [if_pos aN] at H
    have bo:(ap == 0)=true:=zH aN
    have bp:(ap != 0)=false:=zG aN
    clear aN
    by_cases aO:(l0.length:Int)=1
    rotate_left
    ·rw [if_neg aO] at H
     have bq:((l0.length:Int) == 1)=false:=zF aO
     have br:((l0.length:Int) != 1)=true:=zI aO
     obtain rfl:=zE H
     go_wp2_with (first|((with_reducible refine gate_callee (f:=35) rfl ?_);refine gL (some 53) Tryz.func35 #[.slice A0 l0.length c0] ?_;(with_reducible refine (rule_Text.calls kj4 _ _ l0 al _ ?side3 (cb HR0 HB) HC0.out A29.out).mono ?_);(case side3=>refine GL.below HG.out ?_;exact bQ HB);rintro e eE ⟨rfl,hb⟩;refine ⟨_,rfl,?_⟩;replace aa:=kb aa hb;replace HB:=bs HB hb;(try clear hb);(try clear hb2);(try clear hk);(try clear hi))|((with_reducible refine gate_callee (f:=35) rfl ?_);refine gL (some 56) Tryz.func35 #[.slice A1 l1.length c1] ?_;(with_reducible refine (rule_Text.calls kj4 _ _ l1 an _ ?side3 (cb HR1 HB) HC1.out A31.out).mono ?_);(case side3=>refine GL.below HG.out ?_;exact bQ HB);rintro e eF ⟨rfl,hb⟩;refine ⟨_,rfl,?_⟩;replace aa:=kb aa hb;replace HB:=bs HB hb;(try clear hb);(try clear hb2);(try clear hk);(try clear hi))|((with_reducible refine gate_callee (f:=39) rfl ?_);refine gL (some 58) Tryz.func39 #[.string ((al ++ (⟨#[32,111,114,32]⟩:ByteArray)) ++ an)] ?_;(with_reducible refine (rule_Parse.calls ((al ++ (⟨#[32,111,114,32]⟩:ByteArray)) ++ an) ax aH ay _ ?side1 A33.out).mono ?_);(case side1=>refine GL.below HG.out ?_;exact bQ HB);rintro e eG ⟨aJ,rfl,ho0,hb⟩;refine ⟨_,rfl,?_⟩;have ab:=zS (Kd.R_lower ho0 (bz HB));replace aa:=kb aa hb;replace HB:=bs HB hb;(try clear hb);(try clear hb2);(try clear hk);(try clear hi);(try clear ho0))|((with_reducible refine gate_callee (f:=35) rfl ?_);refine gL (some 64) Tryz.func35 #[.slice A0 l0.length c0] ?_;(with_reducible refine (rule_Text.calls kj4 _ _ l0 am _ ?side3 (cb HR0 HB) HC0.out A34.out).mono ?_);(case side3=>refine GL.below HG.out ?_;exact bQ HB);rintro e eH ⟨rfl,hb⟩;refine ⟨_,rfl,?_⟩;replace ab:=rb ab hb;replace aa:=kb aa hb;replace HB:=bs HB hb;(try clear hb);(try clear hb2);(try clear hk);(try clear hi))|((with_reducible refine gate_callee (f:=35) rfl ?_);refine gL (some 67) Tryz.func35 #[.slice A1 l1.length c1] ?_;(with_reducible refine (rule_Text.calls kj4 _ _ l1 ao _ ?side3 (cb HR1 HB) HC1.out A36.out).mono ?_);(case side3=>refine GL.below HG.out ?_;exact bQ HB);rintro e eI ⟨rfl,hb⟩;refine ⟨_,rfl,?_⟩;replace ab:=rb ab hb;replace aa:=kb aa hb;replace HB:=bs HB hb;(try clear hb);(try clear hb2);(try clear hk);(try clear hi))|((with_reducible refine gate_callee (f:=39) rfl ?_);refine gL (some 69) Tryz.func39 #[.string ((am ++ (⟨#[32,97,110,100,32]⟩:ByteArray)) ++ ao)] ?_;(with_reducible refine (rule_Parse.calls ((am ++ (⟨#[32,97,110,100,32]⟩:ByteArray)) ++ ao) aB aI ap _ ?side1 A38.out).mono ?_);(case side1=>refine GL.below HG.out ?_;exact bQ HB);rintro e eJ ⟨aK,rfl,ho0,hb⟩;refine ⟨_,rfl,?_⟩;have ac:=zS (Kd.R_lower (Kd.R_new' ho0 (Kd.R_lt (ro ab))) (bz HB));replace ab:=zS (Kd.R_elder' (ro ab) (Kd.R_base ho0) hb);replace aa:=kb aa hb;replace HB:=bs HB hb;(try clear hb);(try clear hb2);(try clear hk);(try clear hi);(try clear ho0);have cp:=blkc4 aa.out;have cq:=blkf4 aa.out)|((with_reducible refine gate_callee (f:=37) rfl ?_);refine gL (some 75) Tryz.func37 #[.slice A0 l0.length c0,.agg #[.slice aq ad.length ar,.slice au ae.length av,.int .i64 af,.int .i64 ag]] ?_;(with_reducible refine (rule_Holds.calls _ _ l0 _ _ ad _ _ ae af ag aM _ ?side7 (cb HR0 HB) HC0.out (cb ah HB) ai.out (cb aj HB) ak.out A39.out).mono ?_);(case side7=>refine GL.below HG.out ?_;exact bQ HB);rintro e eK ⟨rfl,hb⟩;refine ⟨_,rfl,?_⟩;replace ab:=rb ab hb;replace ac:=rb ac hb;replace aa:=kb aa hb;replace HB:=bs HB hb;(try clear hb);(try clear hb2);(try clear hk);(try clear hi);have cr:=blkc4 aa.out;have ct:=blkf4 aa.out)|((with_reducible refine gate_callee (f:=37) rfl ?_);refine gL (some 78) Tryz.func37 #[.slice A1 l1.length c1,.agg #[.slice aq ad.length ar,.slice au ae.length av,.int .i64 af,.int .i64 ag]] ?_;(with_reducible refine (rule_Holds.calls _ _ l1 _ _ ad _ _ ae af ag aw _ ?side7 (cb HR1 HB) HC1.out (cb ah HB) ai.out (cb aj HB) ak.out A40.out).mono ?_);(case side7=>refine GL.below HG.out ?_;exact bQ HB);rintro e eL ⟨rfl,hb⟩;refine ⟨_,rfl,?_⟩;replace ab:=rb ab hb;replace ac:=rb ac hb;replace aa:=kb aa hb;replace HB:=bs HB hb;(try clear hb);(try clear hb2);(try clear hk);(try clear hi)))
     go_ret
     exact ⟨by first|rfl|(simp <;> rfl)|(simp [*] <;> rfl),bQ HB⟩
    rw [if_pos aO] at H
    have bq:((l0.length:Int) == 1)=true:=zH aO
    have br:((l0.length:Int) != 1)=false:=zG aO
    clear aO
    by_cases aP:(l1.length:Int)=1
    rotate_left
    ·rw [if_neg aP] at H
     have bu:((l1.length:Int) == 1)=false:=zF aP
     have bv:((l1.length:Int) != 1)=true:=zI aP
     obtain rfl:=zE H
     go_wp2_with (first|((with_reducible refine gate_callee (f:=35) rfl ?_);refine gL (some 53) Tryz.func35 #[.slice A0 l0.length c0] ?_;(with_reducible refine (rule_Text.calls kj4 _ _ l0 al _ ?side3 (cb HR0 HB) HC0.out A29.out).mono ?_);(case side3=>refine GL.below HG.out ?_;exact bQ HB);rintro e eM ⟨rfl,hb⟩;refine ⟨_,rfl,?_⟩;replace aa:=kb aa hb;replace HB:=bs HB hb;(try clear hb);(try clear hb2);(try clear hk);(try clear hi))|((with_reducible refine gate_callee (f:=35) rfl ?_);refine gL (some 56) Tryz.func35 #[.slice A1 l1.length c1] ?_;(with_reducible refine (rule_Text.calls kj4 _ _ l1 an _ ?side3 (cb HR1 HB) HC1.out A31.out).mono ?_);(case side3=>refine GL.below HG.out ?_;exact bQ HB);rintro e eN ⟨rfl,hb⟩;refine ⟨_,rfl,?_⟩;replace aa:=kb aa hb;replace HB:=bs HB hb;(try clear hb);(try clear hb2);(try clear hk);(try clear hi))|((with_reducible refine gate_callee (f:=39) rfl ?_);refine gL (some 58) Tryz.func39 #[.string ((al ++ (⟨#[32,111,114,32]⟩:ByteArray)) ++ an)] ?_;(with_reducible refine (rule_Parse.calls ((al ++ (⟨#[32,111,114,32]⟩:ByteArray)) ++ an) ax aH ay _ ?side1 A33.out).mono ?_);(case side1=>refine GL.below HG.out ?_;exact bQ HB);rintro e eO ⟨aJ,rfl,ho0,hb⟩;refine ⟨_,rfl,?_⟩;have ab:=zS (Kd.R_lower ho0 (bz HB));replace aa:=kb aa hb;replace HB:=bs HB hb;(try clear hb);(try clear hb2);(try clear hk);(try clear hi);(try clear ho0))|((with_reducible refine gate_callee (f:=35) rfl ?_);refine gL (some 64) Tryz.func35 #[.slice A0 l0.length c0] ?_;(with_reducible refine (rule_Text.calls kj4 _ _ l0 am _ ?side3 (cb HR0 HB) HC0.out A34.out).mono ?_);(case side3=>refine GL.below HG.out ?_;exact bQ HB);rintro e eP ⟨rfl,hb⟩;refine ⟨_,rfl,?_⟩;replace ab:=rb ab hb;replace aa:=kb aa hb;replace HB:=bs HB hb;(try clear hb);(try clear hb2);(try clear hk);(try clear hi))|((with_reducible refine gate_callee (f:=35) rfl ?_);refine gL (some 67) Tryz.func35 #[.slice A1 l1.length c1] ?_;(with_reducible refine (rule_Text.calls kj4 _ _ l1 ao _ ?side3 (cb HR1 HB) HC1.out A36.out).mono ?_);(case side3=>refine GL.below HG.out ?_;exact bQ HB);rintro e eQ ⟨rfl,hb⟩;refine ⟨_,rfl,?_⟩;replace ab:=rb ab hb;replace aa:=kb aa hb;replace HB:=bs HB hb;(try clear hb);(try clear hb2);(try clear hk);(try clear hi))|((with_reducible refine gate_callee (f:=39) rfl ?_);refine gL (some 69) Tryz.func39 #[.string ((am ++ (⟨#[32,97,110,100,32]⟩:ByteArray)) ++ ao)] ?_;(with_reducible refine (rule_Parse.calls ((am ++ (⟨#[32,97,110,100,32]⟩:ByteArray)) ++ ao) aB aI ap _ ?side1 A38.out).mono ?_);(case side1=>refine GL.below HG.out ?_;exact bQ HB);rintro e eR ⟨aK,rfl,ho0,hb⟩;refine ⟨_,rfl,?_⟩;have ac:=zS (Kd.R_lower (Kd.R_new' ho0 (Kd.R_lt (ro ab))) (bz HB));replace ab:=zS (Kd.R_elder' (ro ab) (Kd.R_base ho0) hb);replace aa:=kb aa hb;replace HB:=bs HB hb;(try clear hb);(try clear hb2);(try clear hk);(try clear hi);(try clear ho0);have cu:=blkc4 aa.out;have cv:=blkf4 aa.out)|((with_reducible refine gate_callee (f:=37) rfl ?_);refine gL (some 75) Tryz.func37 #[.slice A0 l0.length c0,.agg #[.slice aq ad.length ar,.slice au ae.length av,.int .i64 af,.int .i64 ag]] ?_;(with_reducible refine (rule_Holds.calls _ _ l0 _ _ ad _ _ ae af ag aM _ ?side7 (cb HR0 HB) HC0.out (cb ah HB) ai.out (cb aj HB) ak.out A39.out).mono ?_);(case side7=>refine GL.below HG.out ?_;exact bQ HB);rintro e eS ⟨rfl,hb⟩;refine ⟨_,rfl,?_⟩;replace ab:=rb ab hb;replace ac:=rb ac hb;replace aa:=kb aa hb;replace HB:=bs HB hb;(try clear hb);(try clear hb2);(try clear hk);(try clear hi);have cw:=blkc4 aa.out;have cx:=blkf4 aa.out)|((with_reducible refine gate_callee (f:=37) rfl ?_);refine gL (some 78) Tryz.func37 #[.slice A1 l1.length c1,.agg #[.slice aq ad.length ar,.slice au ae.length av,.int .i64 af,.int .i64 ag]] ?_;(with_reducible refine (rule_Holds.calls _ _ l1 _ _ ad _ _ ae af ag aw _ ?side7 (cb HR1 HB) HC1.out (cb ah HB) ai.out (cb aj HB) ak.out A40.out).mono ?_);(case side7=>refine GL.below HG.out ?_;exact bQ HB);rintro e eT ⟨rfl,hb⟩;refine ⟨_,rfl,?_⟩;replace ab:=rb ab hb;replace ac:=rb ac hb;replace aa:=kb aa hb;replace HB:=bs HB hb;(try clear hb);(try clear hb2);(try clear hk);(try clear hi)))
     go_ret
     exact ⟨by first|rfl|(simp <;> rfl)|(simp [*] <;> rfl),bQ HB⟩
    rw [if_pos aP] at H
    have bu:((l1.length:Int) == 1)=true:=zH aP
    have bv:((l1.length:Int) != 1)=false:=zG aP
    clear aP
    replace H:=Option.bind_eq_some_iff.mp H
    obtain ⟨aX,bj,H⟩:=H
    try dsimp only at H
    have bZ:=zS bj
    clear bj
    by_cases bc:aM=true
    ·subst bc
     rw [if_pos rfl] at H
     obtain rfl:=zE H
     go_wp2_with (first|((with_reducible refine gate_callee (f:=35) rfl ?_);refine gL (some 53) Tryz.func35 #[.slice A0 l0.length c0] ?_;(with_reducible refine (rule_Text.calls kj4 _ _ l0 al _ ?side3 (cb HR0 HB) HC0.out A29.out).mono ?_);(case side3=>refine GL.below HG.out ?_;exact bQ HB);rintro e eU ⟨rfl,hb⟩;refine ⟨_,rfl,?_⟩;replace aa:=kb aa hb;replace HB:=bs HB hb;(try clear hb))|((with_reducible refine gate_callee (f:=35) rfl ?_);refine gL (some 56) Tryz.func35 #[.slice A1 l1.length c1] ?_;(with_reducible refine (rule_Text.calls kj4 _ _ l1 an _ ?side3 (cb HR1 HB) HC1.out A31.out).mono ?_);(case side3=>refine GL.below HG.out ?_;exact bQ HB);rintro e eV ⟨rfl,hb⟩;refine ⟨_,rfl,?_⟩;replace aa:=kb aa hb;replace HB:=bs HB hb;(try clear hb);(try clear hb2);(try clear hk);(try clear hi))|((with_reducible refine gate_callee (f:=39) rfl ?_);refine gL (some 58) Tryz.func39 #[.string ((al ++ (⟨#[32,111,114,32]⟩:ByteArray)) ++ an)] ?_;(with_reducible refine (rule_Parse.calls ((al ++ (⟨#[32,111,114,32]⟩:ByteArray)) ++ an) ax aH ay _ ?side1 A33.out).mono ?_);(case side1=>refine GL.below HG.out ?_;exact bQ HB);rintro e eW ⟨aJ,rfl,ho0,hb⟩;refine ⟨_,rfl,?_⟩;have ab:=zS (Kd.R_lower ho0 (bz HB));replace aa:=kb aa hb;replace HB:=bs HB hb;(try clear hb);(try clear hb2);(try clear hk);(try clear hi);(try clear ho0))|((with_reducible refine gate_callee (f:=35) rfl ?_);refine gL (some 64) Tryz.func35 #[.slice A0 l0.length c0] ?_;(with_reducible refine (rule_Text.calls kj4 _ _ l0 am _ ?side3 (cb HR0 HB) HC0.out A34.out).mono ?_);(case side3=>refine GL.below HG.out ?_;exact bQ HB);rintro e eX ⟨rfl,hb⟩;refine ⟨_,rfl,?_⟩;replace ab:=rb ab hb;replace aa:=kb aa hb;replace HB:=bs HB hb;(try clear hb);(try clear hb2);(try clear hk);(try clear hi))|((with_reducible refine gate_callee (f:=35) rfl ?_);refine gL (some 67) Tryz.func35 #[.slice A1 l1.length c1] ?_;(with_reducible refine (rule_Text.calls kj4 _ _ l1 ao _ ?side3 (cb HR1 HB) HC1.out A36.out).mono ?_);(case side3=>refine GL.below HG.out ?_;exact bQ HB);rintro e eY ⟨rfl,hb⟩;refine ⟨_,rfl,?_⟩;replace ab:=rb ab hb;replace aa:=kb aa hb;replace HB:=bs HB hb;(try clear hb);(try clear hb2);(try clear hk);(try clear hi))|((with_reducible refine gate_callee (f:=39) rfl ?_);refine gL (some 69) Tryz.func39 #[.string ((am ++ (⟨#[32,97,110,100,32]⟩:ByteArray)) ++ ao)] ?_;(with_reducible refine (rule_Parse.calls ((am ++ (⟨#[32,97,110,100,32]⟩:ByteArray)) ++ ao) aB aI ap _ ?side1 A38.out).mono ?_);(case side1=>refine GL.below HG.out ?_;exact bQ HB);rintro e eZ ⟨aK,rfl,ho0,hb⟩;refine ⟨_,rfl,?_⟩;have ac:=zS (Kd.R_lower (Kd.R_new' ho0 (Kd.R_lt (ro ab))) (bz HB));replace ab:=zS (Kd.R_elder' (ro ab) (Kd.R_base ho0) hb);replace aa:=kb aa hb;replace HB:=bs HB hb;(try clear hb);(try clear hb2);(try clear hk);(try clear hi);(try clear ho0);have cy:=blkc4 aa.out;have cz:=blkf4 aa.out)|((with_reducible refine gate_callee (f:=37) rfl ?_);refine gL (some 75) Tryz.func37 #[.slice A0 l0.length c0,.agg #[.slice aq ad.length ar,.slice au ae.length av,.int .i64 af,.int .i64 ag]] ?_;(with_reducible refine (rule_Holds.calls _ _ l0 _ _ ad _ _ ae af ag true _ ?side7 (cb HR0 HB) HC0.out (cb ah HB) ai.out (cb aj HB) ak.out A39.out).mono ?_);(case side7=>refine GL.below HG.out ?_;exact bQ HB);rintro e e0 ⟨rfl,hb⟩;refine ⟨_,rfl,?_⟩;replace ab:=rb ab hb;replace ac:=rb ac hb;replace aa:=kb aa hb;replace HB:=bs HB hb;(try clear hb);(try clear hb2);(try clear hk);(try clear hi);have cA:=blkc4 aa.out;have cB:=blkf4 aa.out)|((with_reducible refine gate_callee (f:=37) rfl ?_);refine gL (some 78) Tryz.func37 #[.slice A1 l1.length c1,.agg #[.slice aq ad.length ar,.slice au ae.length av,.int .i64 af,.int .i64 ag]] ?_;(with_reducible refine (rule_Holds.calls _ _ l1 _ _ ad _ _ ae af ag aw _ ?side7 (cb HR1 HB) HC1.out (cb ah HB) ai.out (cb aj HB) ak.out A40.out).mono ?_);(case side7=>refine GL.below HG.out ?_;exact bQ HB);rintro e e1 ⟨rfl,hb⟩;refine ⟨_,rfl,?_⟩;replace ab:=rb ab hb;replace ac:=rb ac hb;replace aa:=kb aa hb;replace HB:=bs HB hb;(try clear hb);(try clear hb2);(try clear hk);(try clear hi);have cC:=blkc4 aa.out;have cD:=blkf4 aa.out;obtain ⟨dP,dQ,b0⟩:=Kd.R_slice ac.out;subst b0)|(go_at_call 37;(with_reducible refine (rule_Holds.calls _ _ aB _ _ ad _ _ ae af ag aX _ ?side7 (rc ac) (rl ac) (cb ah HB) ai.out (cb aj HB) ak.out bZ.out).mono ?_);(case side7=>refine GL.below HG.out ?_;exact bQ HB);rintro e e2 ⟨rfl,hb⟩;replace ab:=rb ab hb;replace ac:=rb ac hb;replace aa:=kb aa hb;replace HB:=bs HB hb;(try clear hb);(try clear hb2);(try clear hk);(try clear hi)))
     go_ret
     exact ⟨by first|rfl|(simp <;> rfl)|(simp [*] <;> rfl),bQ HB⟩
    replace bc:=Bool.eq_false_iff.mpr bc
    subst bc
    rw [if_neg (show ¬ (false=true) by decide)] at H
    obtain rfl:=zE H
    go_wp2_with (first|((with_reducible refine gate_callee (f:=35) rfl ?_);refine gL (some 53) Tryz.func35 #[.slice A0 l0.length c0] ?_;(with_reducible refine (rule_Text.calls kj4 _ _ l0 al _ ?side3 (cb HR0 HB) HC0.out A29.out).mono ?_);(case side3=>refine GL.below HG.out ?_;exact bQ HB);rintro e e3 ⟨rfl,hb⟩;refine ⟨_,rfl,?_⟩;replace aa:=kb aa hb;replace HB:=bs HB hb;(try clear hb);(try clear hk);(try clear hi))|((with_reducible refine gate_callee (f:=35) rfl ?_);refine gL (some 56) Tryz.func35 #[.slice A1 l1.length c1] ?_;(with_reducible refine (rule_Text.calls kj4 _ _ l1 an _ ?side3 (cb HR1 HB) HC1.out A31.out).mono ?_);(case side3=>refine GL.below HG.out ?_;exact bQ HB);rintro e e4 ⟨rfl,hb⟩;refine ⟨_,rfl,?_⟩;replace aa:=kb aa hb;replace HB:=bs HB hb;(try clear hb);(try clear hb2);(try clear hk);(try clear hi))|((with_reducible refine gate_callee (f:=39) rfl ?_);refine gL (some 58) Tryz.func39 #[.string ((al ++ (⟨#[32,111,114,32]⟩:ByteArray)) ++ an)] ?_;(with_reducible refine (rule_Parse.calls ((al ++ (⟨#[32,111,114,32]⟩:ByteArray)) ++ an) ax aH ay _ ?side1 A33.out).mono ?_);(case side1=>refine GL.below HG.out ?_;exact bQ HB);rintro e e5 ⟨aJ,rfl,ho0,hb⟩;refine ⟨_,rfl,?_⟩;have ab:=zS (Kd.R_lower ho0 (bz HB));replace aa:=kb aa hb;replace HB:=bs HB hb;(try clear hb);(try clear hb2);(try clear hk);(try clear hi);(try clear ho0))|((with_reducible refine gate_callee (f:=35) rfl ?_);refine gL (some 64) Tryz.func35 #[.slice A0 l0.length c0] ?_;(with_reducible refine (rule_Text.calls kj4 _ _ l0 am _ ?side3 (cb HR0 HB) HC0.out A34.out).mono ?_);(case side3=>refine GL.below HG.out ?_;exact bQ HB);rintro e e6 ⟨rfl,hb⟩;refine ⟨_,rfl,?_⟩;replace ab:=rb ab hb;replace aa:=kb aa hb;replace HB:=bs HB hb;(try clear hb);(try clear hb2);(try clear hk);(try clear hi))|((with_reducible refine gate_callee (f:=35) rfl ?_);refine gL (some 67) Tryz.func35 #[.slice A1 l1.length c1] ?_;(with_reducible refine (rule_Text.calls kj4 _ _ l1 ao _ ?side3 (cb HR1 HB) HC1.out A36.out).mono ?_);(case side3=>refine GL.below HG.out ?_;exact bQ HB);rintro e e7 ⟨rfl,hb⟩;refine ⟨_,rfl,?_⟩;replace ab:=rb ab hb;replace aa:=kb aa hb;replace HB:=bs HB hb;(try clear hb);(try clear hb2);(try clear hk);(try clear hi))|((with_reducible refine gate_callee (f:=39) rfl ?_);refine gL (some 69) Tryz.func39 #[.string ((am ++ (⟨#[32,97,110,100,32]⟩:ByteArray)) ++ ao)] ?_;(with_reducible refine (rule_Parse.calls ((am ++ (⟨#[32,97,110,100,32]⟩:ByteArray)) ++ ao) aB aI ap _ ?side1 A38.out).mono ?_);(case side1=>refine GL.below HG.out ?_;exact bQ HB);rintro e e8 ⟨aK,rfl,ho0,hb⟩;refine ⟨_,rfl,?_⟩;have ac:=zS (Kd.R_lower (Kd.R_new' ho0 (Kd.R_lt (ro ab))) (bz HB));replace ab:=zS (Kd.R_elder' (ro ab) (Kd.R_base ho0) hb);replace aa:=kb aa hb;replace HB:=bs HB hb;(try clear hb);(try clear hb2);(try clear hk);(try clear hi);(try clear ho0);have cE:=blkc4 aa.out;have cF:=blkf4 aa.out)|((with_reducible refine gate_callee (f:=37) rfl ?_);refine gL (some 75) Tryz.func37 #[.slice A0 l0.length c0,.agg #[.slice aq ad.length ar,.slice au ae.length av,.int .i64 af,.int .i64 ag]] ?_;(with_reducible refine (rule_Holds.calls _ _ l0 _ _ ad _ _ ae af ag false _ ?side7 (cb HR0 HB) HC0.out (cb ah HB) ai.out (cb aj HB) ak.out A39.out).mono ?_);(case side7=>refine GL.below HG.out ?_;exact bQ HB);rintro e e9 ⟨rfl,hb⟩;refine ⟨_,rfl,?_⟩;replace ab:=rb ab hb;replace ac:=rb ac hb;replace aa:=kb aa hb;replace HB:=bs HB hb;(try clear hb);(try clear hb2);(try clear hk);(try clear hi);have cG:=blkc4 aa.out;have cH:=blkf4 aa.out)|((with_reducible refine gate_callee (f:=37) rfl ?_);refine gL (some 78) Tryz.func37 #[.slice A1 l1.length c1,.agg #[.slice aq ad.length ar,.slice au ae.length av,.int .i64 af,.int .i64 ag]] ?_;(with_reducible refine (rule_Holds.calls _ _ l1 _ _ ad _ _ ae af ag aw _ ?side7 (cb HR1 HB) HC1.out (cb ah HB) ai.out (cb aj HB) ak.out A40.out).mono ?_);(case side7=>refine GL.below HG.out ?_;exact bQ HB);rintro e fa ⟨rfl,hb⟩;refine ⟨_,rfl,?_⟩;replace ab:=rb ab hb;replace ac:=rb ac hb;replace aa:=kb aa hb;replace HB:=bs HB hb;(try clear hb);(try clear hb2);(try clear hk);(try clear hi);have cI:=blkc4 aa.out;have cJ:=blkf4 aa.out;obtain ⟨dR,dS,b1⟩:=Kd.R_slice ac.out;subst b1)|(go_at_call 37;(with_reducible refine (rule_Holds.calls _ _ aB _ _ ad _ _ ae af ag aX _ ?side7 (rc ac) (rl ac) (cb ah HB) ai.out (cb aj HB) ak.out bZ.out).mono ?_);(case side7=>refine GL.below HG.out ?_;exact bQ HB);rintro e fb ⟨rfl,hb⟩;replace ab:=rb ab hb;replace ac:=rb ac hb;replace aa:=kb aa hb;replace HB:=bs HB hb;(try clear hb);(try clear hb2);(try clear hk);(try clear hi)))
    go_ret
    exact ⟨by first|rfl|(simp <;> rfl)|(simp [*] <;> rfl),bQ HB⟩
   rw [if_pos c41] at H
   have bX:(ay == 0)=true:=zH c41
   have bY:(ay != 0)=false:=zG c41
   clear c41
   replace H:=Option.bind_eq_some_iff.mp H
   obtain ⟨az,b2,H⟩:=H
   try dsimp only at H
   have A42:=zS b2
   clear b2
   by_cases c43:aM=true
   ·subst c43
    rw [if_pos rfl] at H
    by_cases c44:(az != true)=true
    ·rw [if_pos c44] at H
     exact absurd H (by simp)
    rw [if_neg c44] at H
    have dT:(az != true)=false:=by simpa using c44
    (try (have dU:decide (az=true)=true:=by simpa using c44))
    (try (have dV:(az == true)=true:=by simpa using c44))
    clear c44
    by_cases c45:aA=true
    rotate_left
    ·replace c45:=Bool.eq_false_iff.mpr c45
     subst c45
     rw [if_neg (show ¬ (false=true) by decide)] at H
     exact absurd H (by simp)
    subst c45
    rw [if_pos rfl] at H
    by_cases c46:ap=0
    rotate_left
    ·rw [if_neg c46] at H
     have b3:(ap == 0)=false:=zF c46
     have b4:(ap != 0)=true:=zI c46
     by_cases c92:ap=11
     ·rw [if_pos c92] at H
      have dW:(ap == 11)=true:=zH c92
      have dX:(ap != 11)=false:=zG c92
      clear c92
      obtain rfl:=zE H
      go_wp2_with (first|((with_reducible refine gate_callee (f:=35) rfl ?_);refine gL (some 53) Tryz.func35 #[.slice A0 l0.length c0] ?_;(with_reducible refine (rule_Text.calls kj4 _ _ l0 al _ ?side3 (cb HR0 HB) HC0.out A29.out).mono ?_);(case side3=>refine GL.below HG.out ?_;exact bQ HB);rintro e w93 ⟨rfl,hb⟩;refine ⟨_,rfl,?_⟩;replace aa:=kb aa hb;replace HB:=bs HB hb;(try clear hb))|((with_reducible refine gate_callee (f:=35) rfl ?_);refine gL (some 56) Tryz.func35 #[.slice A1 l1.length c1] ?_;(with_reducible refine (rule_Text.calls kj4 _ _ l1 an _ ?side3 (cb HR1 HB) HC1.out A31.out).mono ?_);(case side3=>refine GL.below HG.out ?_;exact bQ HB);rintro e w94 ⟨rfl,hb⟩;refine ⟨_,rfl,?_⟩;replace aa:=kb aa hb;replace HB:=bs HB hb;(try clear hb);(try clear hb2);(try clear hk);(try clear hi))|((with_reducible refine gate_callee (f:=39) rfl ?_);refine gL (some 58) Tryz.func39 #[.string ((al ++ (⟨#[32,111,114,32]⟩:ByteArray)) ++ an)] ?_;(with_reducible refine (rule_Parse.calls ((al ++ (⟨#[32,111,114,32]⟩:ByteArray)) ++ an) ax aH ay _ ?side1 A33.out).mono ?_);(case side1=>refine GL.below HG.out ?_;exact bQ HB);rintro e w95 ⟨aJ,rfl,ho0,hb⟩;refine ⟨_,rfl,?_⟩;have ab:=zS (Kd.R_lower ho0 (bz HB));replace aa:=kb aa hb;replace HB:=bs HB hb;(try clear hb);(try clear hb2);(try clear hk);(try clear hi);(try clear ho0))|((with_reducible refine gate_callee (f:=35) rfl ?_);refine gL (some 64) Tryz.func35 #[.slice A0 l0.length c0] ?_;(with_reducible refine (rule_Text.calls kj4 _ _ l0 am _ ?side3 (cb HR0 HB) HC0.out A34.out).mono ?_);(case side3=>refine GL.below HG.out ?_;exact bQ HB);rintro e w96 ⟨rfl,hb⟩;refine ⟨_,rfl,?_⟩;replace ab:=rb ab hb;replace aa:=kb aa hb;replace HB:=bs HB hb;(try clear hb);(try clear hb2);(try clear hk);(try clear hi))|((with_reducible refine gate_callee (f:=35) rfl ?_);refine gL (some 67) Tryz.func35 #[.slice A1 l1.length c1] ?_;(with_reducible refine (rule_Text.calls kj4 _ _ l1 ao _ ?side3 (cb HR1 HB) HC1.out A36.out).mono ?_);(case side3=>refine GL.below HG.out ?_;exact bQ HB);rintro e w97 ⟨rfl,hb⟩;refine ⟨_,rfl,?_⟩;replace ab:=rb ab hb;replace aa:=kb aa hb;replace HB:=bs HB hb;(try clear hb);(try clear hb2);(try clear hk);(try clear hi))|((with_reducible refine gate_callee (f:=39) rfl ?_);refine gL (some 69) Tryz.func39 #[.string ((am ++ (⟨#[32,97,110,100,32]⟩:ByteArray)) ++ ao)] ?_;(with_reducible refine (rule_Parse.calls ((am ++ (⟨#[32,97,110,100,32]⟩:ByteArray)) ++ ao) aB aI ap _ ?side1 A38.out).mono ?_);(case side1=>refine GL.below HG.out ?_;exact bQ HB);rintro e w98 ⟨aK,rfl,ho0,hb⟩;refine ⟨_,rfl,?_⟩;have ac:=zS (Kd.R_lower (Kd.R_new' ho0 (Kd.R_lt (ro ab))) (bz HB));replace ab:=zS (Kd.R_elder' (ro ab) (Kd.R_base ho0) hb);replace aa:=kb aa hb;replace HB:=bs HB hb;(try clear hb);(try clear hb2);(try clear hk);(try clear hi);(try clear ho0);have dY:=blkc4 aa.out;have dZ:=blkf4 aa.out)|((with_reducible refine gate_callee (f:=37) rfl ?_);refine gL (some 75) Tryz.func37 #[.slice A0 l0.length c0,.agg #[.slice aq ad.length ar,.slice au ae.length av,.int .i64 af,.int .i64 ag]] ?_;(with_reducible refine (rule_Holds.calls _ _ l0 _ _ ad _ _ ae af ag true _ ?side7 (cb HR0 HB) HC0.out (cb ah HB) ai.out (cb aj HB) ak.out A39.out).mono ?_);(case side7=>refine GL.below HG.out ?_;exact bQ HB);rintro e fc ⟨rfl,hb⟩;refine ⟨_,rfl,?_⟩;replace ab:=rb ab hb;replace ac:=rb ac hb;replace aa:=kb aa hb;replace HB:=bs HB hb;(try clear hb);(try clear hb2);(try clear hk);(try clear hi);have cK:=blkc4 aa.out;have cL:=blkf4 aa.out)|((with_reducible refine gate_callee (f:=37) rfl ?_);refine gL (some 78) Tryz.func37 #[.slice A1 l1.length c1,.agg #[.slice aq ad.length ar,.slice au ae.length av,.int .i64 af,.int .i64 ag]] ?_;(with_reducible refine (rule_Holds.calls _ _ l1 _ _ ad _ _ ae af ag aw _ ?side7 (cb HR1 HB) HC1.out (cb ah HB) ai.out (cb aj HB) ak.out A40.out).mono ?_);(case side7=>refine GL.below HG.out ?_;exact bQ HB);rintro e fd ⟨rfl,hb⟩;refine ⟨_,rfl,?_⟩;replace ab:=rb ab hb;replace ac:=rb ac hb;replace aa:=kb aa hb;replace HB:=bs HB hb;(try clear hb);(try clear hb2);(try clear hk);(try clear hi);have cM:=blkc4 aa.out;have cN:=blkf4 aa.out;obtain ⟨d0,d1,b5⟩:=Kd.R_slice ab.out;subst b5)|(go_at_call 37;(with_reducible refine (rule_Holds.calls _ _ ax _ _ ad _ _ ae af ag az _ ?side7 (rc ab) (rl ab) (cb ah HB) ai.out (cb aj HB) ak.out A42.out).mono ?_);(case side7=>refine GL.below HG.out ?_;exact bQ HB);rintro e fe ⟨rfl,hb⟩;replace ab:=rb ab hb;replace ac:=rb ac hb;replace aa:=kb aa hb;replace HB:=bs HB hb;(try clear hb);(try clear hb2);(try clear hk);(try clear hi)))
      go_ret
      exact ⟨by first|rfl|(simp <;> rfl)|(simp [*] <;> rfl),bQ HB⟩
     rw [if_neg c92] at H
     exact absurd H (by simp)
    rw [if_pos c46] at H
    have b3:(ap == 0)=true:=zH c46
    have b4:(ap != 0)=false:=zG c46
    clear c46
    by_cases c47:(l0.length:Int)=1
    rotate_left
    ·rw [if_neg c47] at H
     have b6:((l0.length:Int) == 1)=false:=zF c47
     have b7:((l0.length:Int) != 1)=true:=zI c47
     obtain rfl:=zE H
     go_wp2_with (first|((with_reducible refine gate_callee (f:=35) rfl ?_);refine gL (some 53) Tryz.func35 #[.slice A0 l0.length c0] ?_;(with_reducible refine (rule_Text.calls kj4 _ _ l0 al _ ?side3 (cb HR0 HB) HC0.out A29.out).mono ?_);(case side3=>refine GL.below HG.out ?_;exact bQ HB);rintro e w79 ⟨rfl,hb⟩;refine ⟨_,rfl,?_⟩;replace aa:=kb aa hb;replace HB:=bs HB hb;(try clear hb);(try clear hb2);(try clear hk);(try clear hi))|((with_reducible refine gate_callee (f:=35) rfl ?_);refine gL (some 56) Tryz.func35 #[.slice A1 l1.length c1] ?_;(with_reducible refine (rule_Text.calls kj4 _ _ l1 an _ ?side3 (cb HR1 HB) HC1.out A31.out).mono ?_);(case side3=>refine GL.below HG.out ?_;exact bQ HB);rintro e w80 ⟨rfl,hb⟩;refine ⟨_,rfl,?_⟩;replace aa:=kb aa hb;replace HB:=bs HB hb;(try clear hb);(try clear hb2);(try clear hk);(try clear hi))|((with_reducible refine gate_callee (f:=39) rfl ?_);refine gL (some 58) Tryz.func39 #[.string ((al ++ (⟨#[32,111,114,32]⟩:ByteArray)) ++ an)] ?_;(with_reducible refine (rule_Parse.calls ((al ++ (⟨#[32,111,114,32]⟩:ByteArray)) ++ an) ax aH ay _ ?side1 A33.out).mono ?_);(case side1=>refine GL.below HG.out ?_;exact bQ HB);rintro e w81 ⟨aJ,rfl,ho0,hb⟩;refine ⟨_,rfl,?_⟩;have ab:=zS (Kd.R_lower ho0 (bz HB));replace aa:=kb aa hb;replace HB:=bs HB hb;(try clear hb);(try clear hb2);(try clear hk);(try clear hi);(try clear ho0))|((with_reducible refine gate_callee (f:=35) rfl ?_);refine gL (some 64) Tryz.func35 #[.slice A0 l0.length c0] ?_;(with_reducible refine (rule_Text.calls kj4 _ _ l0 am _ ?side3 (cb HR0 HB) HC0.out A34.out).mono ?_);(case side3=>refine GL.below HG.out ?_;exact bQ HB);rintro e w82 ⟨rfl,hb⟩;refine ⟨_,rfl,?_⟩;replace ab:=rb ab hb;replace aa:=kb aa hb;replace HB:=bs HB hb;(try clear hb);(try clear hb2);(try clear hk);(try clear hi))|((with_reducible refine gate_callee (f:=35) rfl ?_);refine gL (some 67) Tryz.func35 #[.slice A1 l1.length c1] ?_;(with_reducible refine (rule_Text.calls kj4 _ _ l1 ao _ ?side3 (cb HR1 HB) HC1.out A36.out).mono ?_);(case side3=>refine GL.below HG.out ?_;exact bQ HB);rintro e w83 ⟨rfl,hb⟩;refine ⟨_,rfl,?_⟩;replace ab:=rb ab hb;replace aa:=kb aa hb;replace HB:=bs HB hb;(try clear hb);(try clear hb2);(try clear hk);(try clear hi))|((with_reducible refine gate_callee (f:=39) rfl ?_);refine gL (some 69) Tryz.func39 #[.string ((am ++ (⟨#[32,97,110,100,32]⟩:ByteArray)) ++ ao)] ?_;(with_reducible refine (rule_Parse.calls ((am ++ (⟨#[32,97,110,100,32]⟩:ByteArray)) ++ ao) aB aI ap _ ?side1 A38.out).mono ?_);(case side1=>refine GL.below HG.out ?_;exact bQ HB);rintro e w84 ⟨aK,rfl,ho0,hb⟩;refine ⟨_,rfl,?_⟩;have ac:=zS (Kd.R_lower (Kd.R_new' ho0 (Kd.R_lt (ro ab))) (bz HB));replace ab:=zS (Kd.R_elder' (ro ab) (Kd.R_base ho0) hb);replace aa:=kb aa hb;replace HB:=bs HB hb;(try clear hb);(try clear hb2);(try clear hk);(try clear hi);(try clear ho0);have d2:=blkc4 aa.out;have d3:=blkf4 aa.out)|((with_reducible refine gate_callee (f:=37) rfl ?_);refine gL (some 75) Tryz.func37 #[.slice A0 l0.length c0,.agg #[.slice aq ad.length ar,.slice au ae.length av,.int .i64 af,.int .i64 ag]] ?_;(with_reducible refine (rule_Holds.calls _ _ l0 _ _ ad _ _ ae af ag true _ ?side7 (cb HR0 HB) HC0.out (cb ah HB) ai.out (cb aj HB) ak.out A39.out).mono ?_);(case side7=>refine GL.below HG.out ?_;exact bQ HB);rintro e w86 ⟨rfl,hb⟩;refine ⟨_,rfl,?_⟩;replace ab:=rb ab hb;replace ac:=rb ac hb;replace aa:=kb aa hb;replace HB:=bs HB hb;(try clear hb);(try clear hb2);(try clear hk);(try clear hi);have d4:=blkc4 aa.out;have d5:=blkf4 aa.out)|((with_reducible refine gate_callee (f:=37) rfl ?_);refine gL (some 78) Tryz.func37 #[.slice A1 l1.length c1,.agg #[.slice aq ad.length ar,.slice au ae.length av,.int .i64 af,.int .i64 ag]] ?_;(with_reducible refine (rule_Holds.calls _ _ l1 _ _ ad _ _ ae af ag aw _ ?side7 (cb HR1 HB) HC1.out (cb ah HB) ai.out (cb aj HB) ak.out A40.out).mono ?_);(case side7=>refine GL.below HG.out ?_;exact bQ HB);rintro e w88 ⟨rfl,hb⟩;refine ⟨_,rfl,?_⟩;replace ab:=rb ab hb;replace ac:=rb ac hb;replace aa:=kb aa hb;replace HB:=bs HB hb;(try clear hb);(try clear hb2);(try clear hk);(try clear hi);have d6:=blkc4 aa.out;have d7:=blkf4 aa.out;obtain ⟨ff,fg,cO⟩:=Kd.R_slice ab.out;subst cO)|(go_at_call 37;(with_reducible refine (rule_Holds.calls _ _ ax _ _ ad _ _ ae af ag az _ ?side7 (rc ab) (rl ab) (cb ah HB) ai.out (cb aj HB) ak.out A42.out).mono ?_);(case side7=>refine GL.below HG.out ?_;exact bQ HB);rintro e w91 ⟨rfl,hb⟩;replace ab:=rb ab hb;replace ac:=rb ac hb;replace aa:=kb aa hb;replace HB:=bs HB hb;(try clear hb);(try clear hb2);(try clear hk);(try clear hi)))
     go_ret
     exact ⟨by first|rfl|(simp <;> rfl)|(simp [*] <;> rfl),bQ HB⟩
    rw [if_pos c47] at H
    have b6:((l0.length:Int) == 1)=true:=zH c47
    have b7:((l0.length:Int) != 1)=false:=zG c47
    clear c47
    by_cases c48:(l1.length:Int)=1
    ·rw [if_pos c48] at H
     have b8:((l1.length:Int) == 1)=true:=zH c48
     have b9:((l1.length:Int) != 1)=false:=zG c48
     clear c48
     replace H:=Option.bind_eq_some_iff.mp H
     obtain ⟨bm,ca,H⟩:=H
     try dsimp only at H
     have A49:=zS ca
     clear ca
     obtain rfl:=zE H
     go_wp2_with (first|((with_reducible refine gate_callee (f:=35) rfl ?_);refine gL (some 53) Tryz.func35 #[.slice A0 l0.length c0] ?_;(with_reducible refine (rule_Text.calls kj4 _ _ l0 al _ ?side3 (cb HR0 HB) HC0.out A29.out).mono ?_);(case side3=>refine GL.below HG.out ?_;exact bQ HB);rintro e w50 ⟨rfl,hb⟩;refine ⟨_,rfl,?_⟩;replace aa:=kb aa hb;replace HB:=bs HB hb;(try clear hb))|((with_reducible refine gate_callee (f:=35) rfl ?_);refine gL (some 56) Tryz.func35 #[.slice A1 l1.length c1] ?_;(with_reducible refine (rule_Text.calls kj4 _ _ l1 an _ ?side3 (cb HR1 HB) HC1.out A31.out).mono ?_);(case side3=>refine GL.below HG.out ?_;exact bQ HB);rintro e w51 ⟨rfl,hb⟩;refine ⟨_,rfl,?_⟩;replace aa:=kb aa hb;replace HB:=bs HB hb;(try clear hb);(try clear hb2);(try clear hk);(try clear hi))|((with_reducible refine gate_callee (f:=39) rfl ?_);refine gL (some 58) Tryz.func39 #[.string ((al ++ (⟨#[32,111,114,32]⟩:ByteArray)) ++ an)] ?_;(with_reducible refine (rule_Parse.calls ((al ++ (⟨#[32,111,114,32]⟩:ByteArray)) ++ an) ax aH ay _ ?side1 A33.out).mono ?_);(case side1=>refine GL.below HG.out ?_;exact bQ HB);rintro e w52 ⟨aJ,rfl,ho0,hb⟩;refine ⟨_,rfl,?_⟩;have ab:=zS (Kd.R_lower ho0 (bz HB));replace aa:=kb aa hb;replace HB:=bs HB hb;(try clear hb);(try clear hb2);(try clear hk);(try clear hi);(try clear ho0))|((with_reducible refine gate_callee (f:=35) rfl ?_);refine gL (some 64) Tryz.func35 #[.slice A0 l0.length c0] ?_;(with_reducible refine (rule_Text.calls kj4 _ _ l0 am _ ?side3 (cb HR0 HB) HC0.out A34.out).mono ?_);(case side3=>refine GL.below HG.out ?_;exact bQ HB);rintro e w53 ⟨rfl,hb⟩;refine ⟨_,rfl,?_⟩;replace ab:=rb ab hb;replace aa:=kb aa hb;replace HB:=bs HB hb;(try clear hb);(try clear hb2);(try clear hk);(try clear hi))|((with_reducible refine gate_callee (f:=35) rfl ?_);refine gL (some 67) Tryz.func35 #[.slice A1 l1.length c1] ?_;(with_reducible refine (rule_Text.calls kj4 _ _ l1 ao _ ?side3 (cb HR1 HB) HC1.out A36.out).mono ?_);(case side3=>refine GL.below HG.out ?_;exact bQ HB);rintro e w54 ⟨rfl,hb⟩;refine ⟨_,rfl,?_⟩;replace ab:=rb ab hb;replace aa:=kb aa hb;replace HB:=bs HB hb;(try clear hb);(try clear hb2);(try clear hk);(try clear hi))|((with_reducible refine gate_callee (f:=39) rfl ?_);refine gL (some 69) Tryz.func39 #[.string ((am ++ (⟨#[32,97,110,100,32]⟩:ByteArray)) ++ ao)] ?_;(with_reducible refine (rule_Parse.calls ((am ++ (⟨#[32,97,110,100,32]⟩:ByteArray)) ++ ao) aB aI ap _ ?side1 A38.out).mono ?_);(case side1=>refine GL.below HG.out ?_;exact bQ HB);rintro e w55 ⟨aK,rfl,ho0,hb⟩;refine ⟨_,rfl,?_⟩;have ac:=zS (Kd.R_lower (Kd.R_new' ho0 (Kd.R_lt (ro ab))) (bz HB));replace ab:=zS (Kd.R_elder' (ro ab) (Kd.R_base ho0) hb);replace aa:=kb aa hb;replace HB:=bs HB hb;(try clear hb);(try clear hb2);(try clear hk);(try clear hi);(try clear ho0);have d8:=blkc4 aa.out;have d9:=blkf4 aa.out)|((with_reducible refine gate_callee (f:=37) rfl ?_);refine gL (some 75) Tryz.func37 #[.slice A0 l0.length c0,.agg #[.slice aq ad.length ar,.slice au ae.length av,.int .i64 af,.int .i64 ag]] ?_;(with_reducible refine (rule_Holds.calls _ _ l0 _ _ ad _ _ ae af ag true _ ?side7 (cb HR0 HB) HC0.out (cb ah HB) ai.out (cb aj HB) ak.out A39.out).mono ?_);(case side7=>refine GL.below HG.out ?_;exact bQ HB);rintro e w57 ⟨rfl,hb⟩;refine ⟨_,rfl,?_⟩;replace ab:=rb ab hb;replace ac:=rb ac hb;replace aa:=kb aa hb;replace HB:=bs HB hb;(try clear hb);(try clear hb2);(try clear hk);(try clear hi);have ea:=blkc4 aa.out;have eb:=blkf4 aa.out)|((with_reducible refine gate_callee (f:=37) rfl ?_);refine gL (some 78) Tryz.func37 #[.slice A1 l1.length c1,.agg #[.slice aq ad.length ar,.slice au ae.length av,.int .i64 af,.int .i64 ag]] ?_;(with_reducible refine (rule_Holds.calls _ _ l1 _ _ ad _ _ ae af ag aw _ ?side7 (cb HR1 HB) HC1.out (cb ah HB) ai.out (cb aj HB) ak.out A40.out).mono ?_);(case side7=>refine GL.below HG.out ?_;exact bQ HB);rintro e w59 ⟨rfl,hb⟩;refine ⟨_,rfl,?_⟩;replace ab:=rb ab hb;replace ac:=rb ac hb;replace aa:=kb aa hb;replace HB:=bs HB hb;(try clear hb);(try clear hb2);(try clear hk);(try clear hi);have ec:=blkc4 aa.out;have ed:=blkf4 aa.out;obtain ⟨fh,fi,cP⟩:=Kd.R_slice ab.out;subst cP)|(go_at_call 37;(with_reducible refine (rule_Holds.calls _ _ ax _ _ ad _ _ ae af ag az _ ?side7 (rc ab) (rl ab) (cb ah HB) ai.out (cb aj HB) ak.out A42.out).mono ?_);(case side7=>refine GL.below HG.out ?_;exact bQ HB);rintro e w62 ⟨rfl,hb⟩;replace ab:=rb ab hb;replace ac:=rb ac hb;replace aa:=kb aa hb;replace HB:=bs HB hb;(try clear hb);(try clear hb2);(try clear hk);(try clear hi);have ee:=blkc4 aa.out;have ef:=blkf4 aa.out;obtain ⟨fj,fk,cQ⟩:=Kd.R_slice ac.out;subst cQ)|(go_at_call 37;(with_reducible refine (rule_Holds.calls _ _ aB _ _ ad _ _ ae af ag bm _ ?side7 (rc ac) (rl ac) (cb ah HB) ai.out (cb aj HB) ak.out A49.out).mono ?_);(case side7=>refine GL.below HG.out ?_;exact bQ HB);rintro e w65 ⟨rfl,hb⟩;replace ab:=rb ab hb;replace ac:=rb ac hb;replace aa:=kb aa hb;replace HB:=bs HB hb;(try clear hb);(try clear hb2);(try clear hk);(try clear hi)))
     go_ret
     exact ⟨by first|rfl|(simp <;> rfl)|(simp [*] <;> rfl),bQ HB⟩
    rw [if_neg c48] at H
    have b8:((l1.length:Int) == 1)=false:=zF c48
    have b9:((l1.length:Int) != 1)=true:=zI c48
    obtain rfl:=zE H
    go_wp2_with (first|((with_reducible refine gate_callee (f:=35) rfl ?_);refine gL (some 53) Tryz.func35 #[.slice A0 l0.length c0] ?_;(with_reducible refine (rule_Text.calls kj4 _ _ l0 al _ ?side3 (cb HR0 HB) HC0.out A29.out).mono ?_);(case side3=>refine GL.below HG.out ?_;exact bQ HB);rintro e w66 ⟨rfl,hb⟩;refine ⟨_,rfl,?_⟩;replace aa:=kb aa hb;replace HB:=bs HB hb;(try clear hb);(try clear hb2);(try clear hk);(try clear hi))|((with_reducible refine gate_callee (f:=35) rfl ?_);refine gL (some 56) Tryz.func35 #[.slice A1 l1.length c1] ?_;(with_reducible refine (rule_Text.calls kj4 _ _ l1 an _ ?side3 (cb HR1 HB) HC1.out A31.out).mono ?_);(case side3=>refine GL.below HG.out ?_;exact bQ HB);rintro e w67 ⟨rfl,hb⟩;refine ⟨_,rfl,?_⟩;replace aa:=kb aa hb;replace HB:=bs HB hb;(try clear hb);(try clear hb2);(try clear hk);(try clear hi))|((with_reducible refine gate_callee (f:=39) rfl ?_);refine gL (some 58) Tryz.func39 #[.string ((al ++ (⟨#[32,111,114,32]⟩:ByteArray)) ++ an)] ?_;(with_reducible refine (rule_Parse.calls ((al ++ (⟨#[32,111,114,32]⟩:ByteArray)) ++ an) ax aH ay _ ?side1 A33.out).mono ?_);(case side1=>refine GL.below HG.out ?_;exact bQ HB);rintro e w68 ⟨aJ,rfl,ho0,hb⟩;refine ⟨_,rfl,?_⟩;have ab:=zS (Kd.R_lower ho0 (bz HB));replace aa:=kb aa hb;replace HB:=bs HB hb;(try clear hb);(try clear hb2);(try clear hk);(try clear hi);(try clear ho0))|((with_reducible refine gate_callee (f:=35) rfl ?_);refine gL (some 64) Tryz.func35 #[.slice A0 l0.length c0] ?_;(with_reducible refine (rule_Text.calls kj4 _ _ l0 am _ ?side3 (cb HR0 HB) HC0.out A34.out).mono ?_);(case side3=>refine GL.below HG.out ?_;exact bQ HB);rintro e w69 ⟨rfl,hb⟩;refine ⟨_,rfl,?_⟩;replace ab:=rb ab hb;replace aa:=kb aa hb;replace HB:=bs HB hb;(try clear hb);(try clear hb2);(try clear hk);(try clear hi))|((with_reducible refine gate_callee (f:=35) rfl ?_);refine gL (some 67) Tryz.func35 #[.slice A1 l1.length c1] ?_;(with_reducible refine (rule_Text.calls kj4 _ _ l1 ao _ ?side3 (cb HR1 HB) HC1.out A36.out).mono ?_);(case side3=>refine GL.below HG.out ?_;exact bQ HB);rintro e w70 ⟨rfl,hb⟩;refine ⟨_,rfl,?_⟩;replace ab:=rb ab hb;replace aa:=kb aa hb;replace HB:=bs HB hb;(try clear hb);(try clear hb2);(try clear hk);(try clear hi))|((with_reducible refine gate_callee (f:=39) rfl ?_);refine gL (some 69) Tryz.func39 #[.string ((am ++ (⟨#[32,97,110,100,32]⟩:ByteArray)) ++ ao)] ?_;(with_reducible refine (rule_Parse.calls ((am ++ (⟨#[32,97,110,100,32]⟩:ByteArray)) ++ ao) aB aI ap _ ?side1 A38.out).mono ?_);(case side1=>refine GL.below HG.out ?_;exact bQ HB);rintro e w71 ⟨aK,rfl,ho0,hb⟩;refine ⟨_,rfl,?_⟩;have ac:=zS (Kd.R_lower (Kd.R_new' ho0 (Kd.R_lt (ro ab))) (bz HB));replace ab:=zS (Kd.R_elder' (ro ab) (Kd.R_base ho0) hb);replace aa:=kb aa hb;replace HB:=bs HB hb;(try clear hb);(try clear hb2);(try clear hk);(try clear hi);(try clear ho0);have eg:=blkc4 aa.out;have eh:=blkf4 aa.out)|((with_reducible refine gate_callee (f:=37) rfl ?_);refine gL (some 75) Tryz.func37 #[.slice A0 l0.length c0,.agg #[.slice aq ad.length ar,.slice au ae.length av,.int .i64 af,.int .i64 ag]] ?_;(with_reducible refine (rule_Holds.calls _ _ l0 _ _ ad _ _ ae af ag true _ ?side7 (cb HR0 HB) HC0.out (cb ah HB) ai.out (cb aj HB) ak.out A39.out).mono ?_);(case side7=>refine GL.below HG.out ?_;exact bQ HB);rintro e w73 ⟨rfl,hb⟩;refine ⟨_,rfl,?_⟩;replace ab:=rb ab hb;replace ac:=rb ac hb;replace aa:=kb aa hb;replace HB:=bs HB hb;(try clear hb);(try clear hb2);(try clear hk);(try clear hi);have ei:=blkc4 aa.out;have ej:=blkf4 aa.out)|((with_reducible refine gate_callee (f:=37) rfl ?_);refine gL (some 78) Tryz.func37 #[.slice A1 l1.length c1,.agg #[.slice aq ad.length ar,.slice au ae.length av,.int .i64 af,.int .i64 ag]] ?_;(with_reducible refine (rule_Holds.calls _ _ l1 _ _ ad _ _ ae af ag aw _ ?side7 (cb HR1 HB) HC1.out (cb ah HB) ai.out (cb aj HB) ak.out A40.out).mono ?_);(case side7=>refine GL.below HG.out ?_;exact bQ HB);rintro e w75 ⟨rfl,hb⟩;refine ⟨_,rfl,?_⟩;replace ab:=rb ab hb;replace ac:=rb ac hb;replace aa:=kb aa hb;replace HB:=bs HB hb;(try clear hb);(try clear hb2);(try clear hk);(try clear hi);have ek:=blkc4 aa.out;have el:=blkf4 aa.out;obtain ⟨fl,fm,cR⟩:=Kd.R_slice ab.out;subst cR)|(go_at_call 37;(with_reducible refine (rule_Holds.calls _ _ ax _ _ ad _ _ ae af ag az _ ?side7 (rc ab) (rl ab) (cb ah HB) ai.out (cb aj HB) ak.out A42.out).mono ?_);(case side7=>refine GL.below HG.out ?_;exact bQ HB);rintro e w78 ⟨rfl,hb⟩;replace ab:=rb ab hb;replace ac:=rb ac hb;replace aa:=kb aa hb;replace HB:=bs HB hb;(try clear hb);(try clear hb2);(try clear hk);(try clear hi)))
    go_ret
    exact ⟨by first|rfl|(simp <;> rfl)|(simp [*] <;> rfl),bQ HB⟩
   replace c43:=Bool.eq_false_iff.mpr c43
   subst c43
   rw [if_neg (show ¬ (false=true) by decide)] at H
   by_cases aV:(az != aw)=true
   ·rw [if_pos aV] at H
    exact absurd H (by simp)
   rw [if_neg aV] at H
   have cS:(az != aw)=false:=by simpa using aV
   (try (have cT:decide (az=aw)=true:=by simpa using aV))
   (try (have cU:(az == aw)=true:=by simpa using aV))
   clear aV
   by_cases bd:aA=true
   rotate_left
   ·replace bd:=Bool.eq_false_iff.mpr bd
    subst bd
    rw [if_neg (show ¬ (false=true) by decide)] at H
    exact absurd H (by simp)
   subst bd
   rw [if_pos rfl] at H
   by_cases aQ:ap=0
   rotate_left
   ·rw [if_neg aQ] at H
    have bw:(ap == 0)=false:=zF aQ
    have bx:(ap != 0)=true:=zI aQ
    by_cases ba:ap=11
    ·rw [if_pos ba] at H
     have cV:(ap == 11)=true:=zH ba
     have cW:(ap != 11)=false:=zG ba
     clear ba
     obtain rfl:=zE H
     go_wp2_with (first|((with_reducible refine gate_callee (f:=35) rfl ?_);refine gL (some 53) Tryz.func35 #[.slice A0 l0.length c0] ?_;(with_reducible refine (rule_Text.calls kj4 _ _ l0 al _ ?side3 (cb HR0 HB) HC0.out A29.out).mono ?_);(case side3=>refine GL.below HG.out ?_;exact bQ HB);rintro e fn ⟨rfl,hb⟩;refine ⟨_,rfl,?_⟩;replace aa:=kb aa hb;replace HB:=bs HB hb;(try clear hb))|((with_reducible refine gate_callee (f:=35) rfl ?_);refine gL (some 56) Tryz.func35 #[.slice A1 l1.length c1] ?_;(with_reducible refine (rule_Text.calls kj4 _ _ l1 an _ ?side3 (cb HR1 HB) HC1.out A31.out).mono ?_);(case side3=>refine GL.below HG.out ?_;exact bQ HB);rintro e fo ⟨rfl,hb⟩;refine ⟨_,rfl,?_⟩;replace aa:=kb aa hb;replace HB:=bs HB hb;(try clear hb);(try clear hb2);(try clear hk);(try clear hi))|((with_reducible refine gate_callee (f:=39) rfl ?_);refine gL (some 58) Tryz.func39 #[.string ((al ++ (⟨#[32,111,114,32]⟩:ByteArray)) ++ an)] ?_;(with_reducible refine (rule_Parse.calls ((al ++ (⟨#[32,111,114,32]⟩:ByteArray)) ++ an) ax aH ay _ ?side1 A33.out).mono ?_);(case side1=>refine GL.below HG.out ?_;exact bQ HB);rintro e fp ⟨aJ,rfl,ho0,hb⟩;refine ⟨_,rfl,?_⟩;have ab:=zS (Kd.R_lower ho0 (bz HB));replace aa:=kb aa hb;replace HB:=bs HB hb;(try clear hb);(try clear hb2);(try clear hk);(try clear hi);(try clear ho0))|((with_reducible refine gate_callee (f:=35) rfl ?_);refine gL (some 64) Tryz.func35 #[.slice A0 l0.length c0] ?_;(with_reducible refine (rule_Text.calls kj4 _ _ l0 am _ ?side3 (cb HR0 HB) HC0.out A34.out).mono ?_);(case side3=>refine GL.below HG.out ?_;exact bQ HB);rintro e fq ⟨rfl,hb⟩;refine ⟨_,rfl,?_⟩;replace ab:=rb ab hb;replace aa:=kb aa hb;replace HB:=bs HB hb;(try clear hb);(try clear hb2);(try clear hk);(try clear hi))|((with_reducible refine gate_callee (f:=35) rfl ?_);refine gL (some 67) Tryz.func35 #[.slice A1 l1.length c1] ?_;(with_reducible refine (rule_Text.calls kj4 _ _ l1 ao _ ?side3 (cb HR1 HB) HC1.out A36.out).mono ?_);(case side3=>refine GL.below HG.out ?_;exact bQ HB);rintro e fs ⟨rfl,hb⟩;refine ⟨_,rfl,?_⟩;replace ab:=rb ab hb;replace aa:=kb aa hb;replace HB:=bs HB hb;(try clear hb);(try clear hb2);(try clear hk);(try clear hi))|((with_reducible refine gate_callee (f:=39) rfl ?_);refine gL (some 69) Tryz.func39 #[.string ((am ++ (⟨#[32,97,110,100,32]⟩:ByteArray)) ++ ao)] ?_;(with_reducible refine (rule_Parse.calls ((am ++ (⟨#[32,97,110,100,32]⟩:ByteArray)) ++ ao) aB aI ap _ ?side1 A38.out).mono ?_);(case side1=>refine GL.below HG.out ?_;exact bQ HB);rintro e ft ⟨aK,rfl,ho0,hb⟩;refine ⟨_,rfl,?_⟩;have ac:=zS (Kd.R_lower (Kd.R_new' ho0 (Kd.R_lt (ro ab))) (bz HB));replace ab:=zS (Kd.R_elder' (ro ab) (Kd.R_base ho0) hb);replace aa:=kb aa hb;replace HB:=bs HB hb;(try clear hb);(try clear hb2);(try clear hk);(try clear hi);(try clear ho0);have cX:=blkc4 aa.out;have cY:=blkf4 aa.out)|((with_reducible refine gate_callee (f:=37) rfl ?_);refine gL (some 75) Tryz.func37 #[.slice A0 l0.length c0,.agg #[.slice aq ad.length ar,.slice au ae.length av,.int .i64 af,.int .i64 ag]] ?_;(with_reducible refine (rule_Holds.calls _ _ l0 _ _ ad _ _ ae af ag false _ ?side7 (cb HR0 HB) HC0.out (cb ah HB) ai.out (cb aj HB) ak.out A39.out).mono ?_);(case side7=>refine GL.below HG.out ?_;exact bQ HB);rintro e fu ⟨rfl,hb⟩;refine ⟨_,rfl,?_⟩;replace ab:=rb ab hb;replace ac:=rb ac hb;replace aa:=kb aa hb;replace HB:=bs HB hb;(try clear hb);(try clear hb2);(try clear hk);(try clear hi);have cZ:=blkc4 aa.out;have da:=blkf4 aa.out)|((with_reducible refine gate_callee (f:=37) rfl ?_);refine gL (some 78) Tryz.func37 #[.slice A1 l1.length c1,.agg #[.slice aq ad.length ar,.slice au ae.length av,.int .i64 af,.int .i64 ag]] ?_;(with_reducible refine (rule_Holds.calls _ _ l1 _ _ ad _ _ ae af ag aw _ ?side7 (cb HR1 HB) HC1.out (cb ah HB) ai.out (cb aj HB) ak.out A40.out).mono ?_);(case side7=>refine GL.below HG.out ?_;exact bQ HB);rintro e fv ⟨rfl,hb⟩;refine ⟨_,rfl,?_⟩;replace ab:=rb ab hb;replace ac:=rb ac hb;replace aa:=kb aa hb;replace HB:=bs HB hb;(try clear hb);(try clear hb2);(try clear hk);(try clear hi);have db:=blkc4 aa.out;have dc:=blkf4 aa.out;obtain ⟨em,en,cc⟩:=Kd.R_slice ab.out;subst cc)|(go_at_call 37;(with_reducible refine (rule_Holds.calls _ _ ax _ _ ad _ _ ae af ag az _ ?side7 (rc ab) (rl ab) (cb ah HB) ai.out (cb aj HB) ak.out A42.out).mono ?_);(case side7=>refine GL.below HG.out ?_;exact bQ HB);rintro e fw ⟨rfl,hb⟩;replace ab:=rb ab hb;replace ac:=rb ac hb;replace aa:=kb aa hb;replace HB:=bs HB hb;(try clear hb);(try clear hb2);(try clear hk);(try clear hi)))
     go_ret
     exact ⟨by first|rfl|(simp <;> rfl)|(simp [*] <;> rfl),bQ HB⟩
    rw [if_neg ba] at H
    exact absurd H (by simp)
   rw [if_pos aQ] at H
   have bw:(ap == 0)=true:=zH aQ
   have bx:(ap != 0)=false:=zG aQ
   clear aQ
   by_cases aR:(l0.length:Int)=1
   rotate_left
   ·rw [if_neg aR] at H
    have bA:((l0.length:Int) == 1)=false:=zF aR
    have bB:((l0.length:Int) != 1)=true:=zI aR
    obtain rfl:=zE H
    go_wp2_with (first|((with_reducible refine gate_callee (f:=35) rfl ?_);refine gL (some 53) Tryz.func35 #[.slice A0 l0.length c0] ?_;(with_reducible refine (rule_Text.calls kj4 _ _ l0 al _ ?side3 (cb HR0 HB) HC0.out A29.out).mono ?_);(case side3=>refine GL.below HG.out ?_;exact bQ HB);rintro e fx ⟨rfl,hb⟩;refine ⟨_,rfl,?_⟩;replace aa:=kb aa hb;replace HB:=bs HB hb;(try clear hb);(try clear hb2);(try clear hk);(try clear hi))|((with_reducible refine gate_callee (f:=35) rfl ?_);refine gL (some 56) Tryz.func35 #[.slice A1 l1.length c1] ?_;(with_reducible refine (rule_Text.calls kj4 _ _ l1 an _ ?side3 (cb HR1 HB) HC1.out A31.out).mono ?_);(case side3=>refine GL.below HG.out ?_;exact bQ HB);rintro e fy ⟨rfl,hb⟩;refine ⟨_,rfl,?_⟩;replace aa:=kb aa hb;replace HB:=bs HB hb;(try clear hb);(try clear hb2);(try clear hk);(try clear hi))|((with_reducible refine gate_callee (f:=39) rfl ?_);refine gL (some 58) Tryz.func39 #[.string ((al ++ (⟨#[32,111,114,32]⟩:ByteArray)) ++ an)] ?_;(with_reducible refine (rule_Parse.calls ((al ++ (⟨#[32,111,114,32]⟩:ByteArray)) ++ an) ax aH ay _ ?side1 A33.out).mono ?_);(case side1=>refine GL.below HG.out ?_;exact bQ HB);rintro e fz ⟨aJ,rfl,ho0,hb⟩;refine ⟨_,rfl,?_⟩;have ab:=zS (Kd.R_lower ho0 (bz HB));replace aa:=kb aa hb;replace HB:=bs HB hb;(try clear hb);(try clear hb2);(try clear hk);(try clear hi);(try clear ho0))|((with_reducible refine gate_callee (f:=35) rfl ?_);refine gL (some 64) Tryz.func35 #[.slice A0 l0.length c0] ?_;(with_reducible refine (rule_Text.calls kj4 _ _ l0 am _ ?side3 (cb HR0 HB) HC0.out A34.out).mono ?_);(case side3=>refine GL.below HG.out ?_;exact bQ HB);rintro e fA ⟨rfl,hb⟩;refine ⟨_,rfl,?_⟩;replace ab:=rb ab hb;replace aa:=kb aa hb;replace HB:=bs HB hb;(try clear hb);(try clear hb2);(try clear hk);(try clear hi))|((with_reducible refine gate_callee (f:=35) rfl ?_);refine gL (some 67) Tryz.func35 #[.slice A1 l1.length c1] ?_;(with_reducible refine (rule_Text.calls kj4 _ _ l1 ao _ ?side3 (cb HR1 HB) HC1.out A36.out).mono ?_);(case side3=>refine GL.below HG.out ?_;exact bQ HB);rintro e fB ⟨rfl,hb⟩;refine ⟨_,rfl,?_⟩;replace ab:=rb ab hb;replace aa:=kb aa hb;replace HB:=bs HB hb;(try clear hb);(try clear hb2);(try clear hk);(try clear hi))|((with_reducible refine gate_callee (f:=39) rfl ?_);refine gL (some 69) Tryz.func39 #[.string ((am ++ (⟨#[32,97,110,100,32]⟩:ByteArray)) ++ ao)] ?_;(with_reducible refine (rule_Parse.calls ((am ++ (⟨#[32,97,110,100,32]⟩:ByteArray)) ++ ao) aB aI ap _ ?side1 A38.out).mono ?_);(case side1=>refine GL.below HG.out ?_;exact bQ HB);rintro e fC ⟨aK,rfl,ho0,hb⟩;refine ⟨_,rfl,?_⟩;have ac:=zS (Kd.R_lower (Kd.R_new' ho0 (Kd.R_lt (ro ab))) (bz HB));replace ab:=zS (Kd.R_elder' (ro ab) (Kd.R_base ho0) hb);replace aa:=kb aa hb;replace HB:=bs HB hb;(try clear hb);(try clear hb2);(try clear hk);(try clear hi);(try clear ho0);have dd:=blkc4 aa.out;have de:=blkf4 aa.out)|((with_reducible refine gate_callee (f:=37) rfl ?_);refine gL (some 75) Tryz.func37 #[.slice A0 l0.length c0,.agg #[.slice aq ad.length ar,.slice au ae.length av,.int .i64 af,.int .i64 ag]] ?_;(with_reducible refine (rule_Holds.calls _ _ l0 _ _ ad _ _ ae af ag false _ ?side7 (cb HR0 HB) HC0.out (cb ah HB) ai.out (cb aj HB) ak.out A39.out).mono ?_);(case side7=>refine GL.below HG.out ?_;exact bQ HB);rintro e fD ⟨rfl,hb⟩;refine ⟨_,rfl,?_⟩;replace ab:=rb ab hb;replace ac:=rb ac hb;replace aa:=kb aa hb;replace HB:=bs HB hb;(try clear hb);(try clear hb2);(try clear hk);(try clear hi);have df:=blkc4 aa.out;have dg:=blkf4 aa.out)|((with_reducible refine gate_callee (f:=37) rfl ?_);refine gL (some 78) Tryz.func37 #[.slice A1 l1.length c1,.agg #[.slice aq ad.length ar,.slice au ae.length av,.int .i64 af,.int .i64 ag]] ?_;(with_reducible refine (rule_Holds.calls _ _ l1 _ _ ad _ _ ae af ag aw _ ?side7 (cb HR1 HB) HC1.out (cb ah HB) ai.out (cb aj HB) ak.out A40.out).mono ?_);(case side7=>refine GL.below HG.out ?_;exact bQ HB);rintro e fE ⟨rfl,hb⟩;refine ⟨_,rfl,?_⟩;replace ab:=rb ab hb;replace ac:=rb ac hb;replace aa:=kb aa hb;replace HB:=bs HB hb;(try clear hb);(try clear hb2);(try clear hk);(try clear hi);have dh:=blkc4 aa.out;have di:=blkf4 aa.out;obtain ⟨eo,ep,cd⟩:=Kd.R_slice ab.out;subst cd)|(go_at_call 37;(with_reducible refine (rule_Holds.calls _ _ ax _ _ ad _ _ ae af ag az _ ?side7 (rc ab) (rl ab) (cb ah HB) ai.out (cb aj HB) ak.out A42.out).mono ?_);(case side7=>refine GL.below HG.out ?_;exact bQ HB);rintro e fF ⟨rfl,hb⟩;replace ab:=rb ab hb;replace ac:=rb ac hb;replace aa:=kb aa hb;replace HB:=bs HB hb;(try clear hb);(try clear hb2);(try clear hk);(try clear hi)))
    go_ret
    exact ⟨by first|rfl|(simp <;> rfl)|(simp [*] <;> rfl),bQ HB⟩
   rw [if_pos aR] at H
   have bA:((l0.length:Int) == 1)=true:=zH aR
   have bB:((l0.length:Int) != 1)=false:=zG aR
   clear aR
   by_cases aS:(l1.length:Int)=1
   ·rw [if_pos aS] at H
    have bC:((l1.length:Int) == 1)=true:=zH aS
    have bD:((l1.length:Int) != 1)=false:=zG aS
    clear aS
    replace H:=Option.bind_eq_some_iff.mp H
    obtain ⟨bn,bk,H⟩:=H
    try dsimp only at H
    have dj:=zS bk
    clear bk
    obtain rfl:=zE H
    go_wp2_with (first|((with_reducible refine gate_callee (f:=35) rfl ?_);refine gL (some 53) Tryz.func35 #[.slice A0 l0.length c0] ?_;(with_reducible refine (rule_Text.calls kj4 _ _ l0 al _ ?side3 (cb HR0 HB) HC0.out A29.out).mono ?_);(case side3=>refine GL.below HG.out ?_;exact bQ HB);rintro e fG ⟨rfl,hb⟩;refine ⟨_,rfl,?_⟩;replace aa:=kb aa hb;replace HB:=bs HB hb;(try clear hb))|((with_reducible refine gate_callee (f:=35) rfl ?_);refine gL (some 56) Tryz.func35 #[.slice A1 l1.length c1] ?_;(with_reducible refine (rule_Text.calls kj4 _ _ l1 an _ ?side3 (cb HR1 HB) HC1.out A31.out).mono ?_);(case side3=>refine GL.below HG.out ?_;exact bQ HB);rintro e fH ⟨rfl,hb⟩;refine ⟨_,rfl,?_⟩;replace aa:=kb aa hb;replace HB:=bs HB hb;(try clear hb);(try clear hb2);(try clear hk);(try clear hi))|((with_reducible refine gate_callee (f:=39) rfl ?_);refine gL (some 58) Tryz.func39 #[.string ((al ++ (⟨#[32,111,114,32]⟩:ByteArray)) ++ an)] ?_;(with_reducible refine (rule_Parse.calls ((al ++ (⟨#[32,111,114,32]⟩:ByteArray)) ++ an) ax aH ay _ ?side1 A33.out).mono ?_);(case side1=>refine GL.below HG.out ?_;exact bQ HB);rintro e fI ⟨aJ,rfl,ho0,hb⟩;refine ⟨_,rfl,?_⟩;have ab:=zS (Kd.R_lower ho0 (bz HB));replace aa:=kb aa hb;replace HB:=bs HB hb;(try clear hb);(try clear hb2);(try clear hk);(try clear hi);(try clear ho0))|((with_reducible refine gate_callee (f:=35) rfl ?_);refine gL (some 64) Tryz.func35 #[.slice A0 l0.length c0] ?_;(with_reducible refine (rule_Text.calls kj4 _ _ l0 am _ ?side3 (cb HR0 HB) HC0.out A34.out).mono ?_);(case side3=>refine GL.below HG.out ?_;exact bQ HB);rintro e fJ ⟨rfl,hb⟩;refine ⟨_,rfl,?_⟩;replace ab:=rb ab hb;replace aa:=kb aa hb;replace HB:=bs HB hb;(try clear hb);(try clear hb2);(try clear hk);(try clear hi))|((with_reducible refine gate_callee (f:=35) rfl ?_);refine gL (some 67) Tryz.func35 #[.slice A1 l1.length c1] ?_;(with_reducible refine (rule_Text.calls kj4 _ _ l1 ao _ ?side3 (cb HR1 HB) HC1.out A36.out).mono ?_);(case side3=>refine GL.below HG.out ?_;exact bQ HB);rintro e fK ⟨rfl,hb⟩;refine ⟨_,rfl,?_⟩;replace ab:=rb ab hb;replace aa:=kb aa hb;replace HB:=bs HB hb;(try clear hb);(try clear hb2);(try clear hk);(try clear hi))|((with_reducible refine gate_callee (f:=39) rfl ?_);refine gL (some 69) Tryz.func39 #[.string ((am ++ (⟨#[32,97,110,100,32]⟩:ByteArray)) ++ ao)] ?_;(with_reducible refine (rule_Parse.calls ((am ++ (⟨#[32,97,110,100,32]⟩:ByteArray)) ++ ao) aB aI ap _ ?side1 A38.out).mono ?_);(case side1=>refine GL.below HG.out ?_;exact bQ HB);rintro e fL ⟨aK,rfl,ho0,hb⟩;refine ⟨_,rfl,?_⟩;have ac:=zS (Kd.R_lower (Kd.R_new' ho0 (Kd.R_lt (ro ab))) (bz HB));replace ab:=zS (Kd.R_elder' (ro ab) (Kd.R_base ho0) hb);replace aa:=kb aa hb;replace HB:=bs HB hb;(try clear hb);(try clear hb2);(try clear hk);(try clear hi);(try clear ho0);have dk:=blkc4 aa.out;have dl:=blkf4 aa.out)|((with_reducible refine gate_callee (f:=37) rfl ?_);refine gL (some 75) Tryz.func37 #[.slice A0 l0.length c0,.agg #[.slice aq ad.length ar,.slice au ae.length av,.int .i64 af,.int .i64 ag]] ?_;(with_reducible refine (rule_Holds.calls _ _ l0 _ _ ad _ _ ae af ag false _ ?side7 (cb HR0 HB) HC0.out (cb ah HB) ai.out (cb aj HB) ak.out A39.out).mono ?_);(case side7=>refine GL.below HG.out ?_;exact bQ HB);rintro e fM ⟨rfl,hb⟩;refine ⟨_,rfl,?_⟩;replace ab:=rb ab hb;replace ac:=rb ac hb;replace aa:=kb aa hb;replace HB:=bs HB hb;(try clear hb);(try clear hb2);(try clear hk);(try clear hi);have dm:=blkc4 aa.out;have dn:=blkf4 aa.out)|((with_reducible refine gate_callee (f:=37) rfl ?_);refine gL (some 78) Tryz.func37 #[.slice A1 l1.length c1,.agg #[.slice aq ad.length ar,.slice au ae.length av,.int .i64 af,.int .i64 ag]] ?_;(with_reducible refine (rule_Holds.calls _ _ l1 _ _ ad _ _ ae af ag aw _ ?side7 (cb HR1 HB) HC1.out (cb ah HB) ai.out (cb aj HB) ak.out A40.out).mono ?_);(case side7=>refine GL.below HG.out ?_;exact bQ HB);rintro e fN ⟨rfl,hb⟩;refine ⟨_,rfl,?_⟩;replace ab:=rb ab hb;replace ac:=rb ac hb;replace aa:=kb aa hb;replace HB:=bs HB hb;(try clear hb);(try clear hb2);(try clear hk);(try clear hi);have dp:=blkc4 aa.out;have dq:=blkf4 aa.out;obtain ⟨eq,er,ce⟩:=Kd.R_slice ab.out;subst ce)|(go_at_call 37;(with_reducible refine (rule_Holds.calls _ _ ax _ _ ad _ _ ae af ag az _ ?side7 (rc ab) (rl ab) (cb ah HB) ai.out (cb aj HB) ak.out A42.out).mono ?_);(case side7=>refine GL.below HG.out ?_;exact bQ HB);rintro e fO ⟨rfl,hb⟩;replace ab:=rb ab hb;replace ac:=rb ac hb;replace aa:=kb aa hb;replace HB:=bs HB hb;(try clear hb);(try clear hb2);(try clear hk);(try clear hi);have dr:=blkc4 aa.out;have dt:=blkf4 aa.out;obtain ⟨es,et,cf⟩:=Kd.R_slice ac.out;subst cf)|(go_at_call 37;(with_reducible refine (rule_Holds.calls _ _ aB _ _ ad _ _ ae af ag bn _ ?side7 (rc ac) (rl ac) (cb ah HB) ai.out (cb aj HB) ak.out dj.out).mono ?_);(case side7=>refine GL.below HG.out ?_;exact bQ HB);rintro e fP ⟨rfl,hb⟩;replace ab:=rb ab hb;replace ac:=rb ac hb;replace aa:=kb aa hb;replace HB:=bs HB hb;(try clear hb);(try clear hb2);(try clear hk);(try clear hi)))
    go_ret
    exact ⟨by first|rfl|(simp <;> rfl)|(simp [*] <;> rfl),bQ HB⟩
   rw [if_neg aS] at H
   have bC:((l1.length:Int) == 1)=false:=zF aS
   have bD:((l1.length:Int) != 1)=true:=zI aS
   obtain rfl:=zE H
   go_wp2_with (first|((with_reducible refine gate_callee (f:=35) rfl ?_);refine gL (some 53) Tryz.func35 #[.slice A0 l0.length c0] ?_;(with_reducible refine (rule_Text.calls kj4 _ _ l0 al _ ?side3 (cb HR0 HB) HC0.out A29.out).mono ?_);(case side3=>refine GL.below HG.out ?_;exact bQ HB);rintro e fQ ⟨rfl,hb⟩;refine ⟨_,rfl,?_⟩;replace aa:=kb aa hb;replace HB:=bs HB hb;(try clear hb);(try clear hb2);(try clear hk);(try clear hi))|((with_reducible refine gate_callee (f:=35) rfl ?_);refine gL (some 56) Tryz.func35 #[.slice A1 l1.length c1] ?_;(with_reducible refine (rule_Text.calls kj4 _ _ l1 an _ ?side3 (cb HR1 HB) HC1.out A31.out).mono ?_);(case side3=>refine GL.below HG.out ?_;exact bQ HB);rintro e fR ⟨rfl,hb⟩;refine ⟨_,rfl,?_⟩;replace aa:=kb aa hb;replace HB:=bs HB hb;(try clear hb);(try clear hb2);(try clear hk);(try clear hi))|((with_reducible refine gate_callee (f:=39) rfl ?_);refine gL (some 58) Tryz.func39 #[.string ((al ++ (⟨#[32,111,114,32]⟩:ByteArray)) ++ an)] ?_;(with_reducible refine (rule_Parse.calls ((al ++ (⟨#[32,111,114,32]⟩:ByteArray)) ++ an) ax aH ay _ ?side1 A33.out).mono ?_);(case side1=>refine GL.below HG.out ?_;exact bQ HB);rintro e fS ⟨aJ,rfl,ho0,hb⟩;refine ⟨_,rfl,?_⟩;have ab:=zS (Kd.R_lower ho0 (bz HB));replace aa:=kb aa hb;replace HB:=bs HB hb;(try clear hb);(try clear hb2);(try clear hk);(try clear hi);(try clear ho0))|((with_reducible refine gate_callee (f:=35) rfl ?_);refine gL (some 64) Tryz.func35 #[.slice A0 l0.length c0] ?_;(with_reducible refine (rule_Text.calls kj4 _ _ l0 am _ ?side3 (cb HR0 HB) HC0.out A34.out).mono ?_);(case side3=>refine GL.below HG.out ?_;exact bQ HB);rintro e fT ⟨rfl,hb⟩;refine ⟨_,rfl,?_⟩;replace ab:=rb ab hb;replace aa:=kb aa hb;replace HB:=bs HB hb;(try clear hb);(try clear hb2);(try clear hk);(try clear hi))|((with_reducible refine gate_callee (f:=35) rfl ?_);refine gL (some 67) Tryz.func35 #[.slice A1 l1.length c1] ?_;(with_reducible refine (rule_Text.calls kj4 _ _ l1 ao _ ?side3 (cb HR1 HB) HC1.out A36.out).mono ?_);(case side3=>refine GL.below HG.out ?_;exact bQ HB);rintro e fU ⟨rfl,hb⟩;refine ⟨_,rfl,?_⟩;replace ab:=rb ab hb;replace aa:=kb aa hb;replace HB:=bs HB hb;(try clear hb);(try clear hb2);(try clear hk);(try clear hi))|((with_reducible refine gate_callee (f:=39) rfl ?_);refine gL (some 69) Tryz.func39 #[.string ((am ++ (⟨#[32,97,110,100,32]⟩:ByteArray)) ++ ao)] ?_;(with_reducible refine (rule_Parse.calls ((am ++ (⟨#[32,97,110,100,32]⟩:ByteArray)) ++ ao) aB aI ap _ ?side1 A38.out).mono ?_);(case side1=>refine GL.below HG.out ?_;exact bQ HB);rintro e fV ⟨aK,rfl,ho0,hb⟩;refine ⟨_,rfl,?_⟩;have ac:=zS (Kd.R_lower (Kd.R_new' ho0 (Kd.R_lt (ro ab))) (bz HB));replace ab:=zS (Kd.R_elder' (ro ab) (Kd.R_base ho0) hb);replace aa:=kb aa hb;replace HB:=bs HB hb;(try clear hb);(try clear hb2);(try clear hk);(try clear hi);(try clear ho0);have du:=blkc4 aa.out;have dv:=blkf4 aa.out)|((with_reducible refine gate_callee (f:=37) rfl ?_);refine gL (some 75) Tryz.func37 #[.slice A0 l0.length c0,.agg #[.slice aq ad.length ar,.slice au ae.length av,.int .i64 af,.int .i64 ag]] ?_;(with_reducible refine (rule_Holds.calls _ _ l0 _ _ ad _ _ ae af ag false _ ?side7 (cb HR0 HB) HC0.out (cb ah HB) ai.out (cb aj HB) ak.out A39.out).mono ?_);(case side7=>refine GL.below HG.out ?_;exact bQ HB);rintro e fW ⟨rfl,hb⟩;refine ⟨_,rfl,?_⟩;replace ab:=rb ab hb;replace ac:=rb ac hb;replace aa:=kb aa hb;replace HB:=bs HB hb;(try clear hb);(try clear hb2);(try clear hk);(try clear hi);have dw:=blkc4 aa.out;have dx:=blkf4 aa.out)|((with_reducible refine gate_callee (f:=37) rfl ?_);refine gL (some 78) Tryz.func37 #[.slice A1 l1.length c1,.agg #[.slice aq ad.length ar,.slice au ae.length av,.int .i64 af,.int .i64 ag]] ?_;(with_reducible refine (rule_Holds.calls _ _ l1 _ _ ad _ _ ae af ag aw _ ?side7 (cb HR1 HB) HC1.out (cb ah HB) ai.out (cb aj HB) ak.out A40.out).mono ?_);(case side7=>refine GL.below HG.out ?_;exact bQ HB);rintro e fX ⟨rfl,hb⟩;refine ⟨_,rfl,?_⟩;replace ab:=rb ab hb;replace ac:=rb ac hb;replace aa:=kb aa hb;replace HB:=bs HB hb;(try clear hb);(try clear hb2);(try clear hk);(try clear hi);have dy:=blkc4 aa.out;have dz:=blkf4 aa.out;obtain ⟨eu,ev,cg⟩:=Kd.R_slice ab.out;subst cg)|(go_at_call 37;(with_reducible refine (rule_Holds.calls _ _ ax _ _ ad _ _ ae af ag az _ ?side7 (rc ab) (rl ab) (cb ah HB) ai.out (cb aj HB) ak.out A42.out).mono ?_);(case side7=>refine GL.below HG.out ?_;exact bQ HB);rintro e fY ⟨rfl,hb⟩;replace ab:=rb ab hb;replace ac:=rb ac hb;replace aa:=kb aa hb;replace HB:=bs HB hb;(try clear hb);(try clear hb2);(try clear hk);(try clear hi)))
   go_ret
   exact ⟨by first|rfl|(simp <;> rfl)|(simp [*] <;> rfl),bQ HB⟩
end Go.Proofs.YtgfajgkjbckkgaaGreatDoor.PZ
end
end
section
set_option maxRecDepth 100000
namespace Go.Proofs.YtgfajgkjbckkgaaGreatDoor.PZ
open Go.RowKit Go.Proofs.YtgfajgkjbckkgaaGreatDoorW.PrintWords Go.Proofs.YtgfajgkjbckkgaaGreatDoorW.PrintLast
theorem Ev.of_eq {α:Type}{a:Option α}{r:α}(h:a=some r):Ev (fun _=>a) r:=by rw [h];exact Ev.now _
theorem joins_off (c d:List (List Rl))(i f:List Int)(w e:Int):Ev (fun k=>exerguelaw11_RuleJoins.j0 k c d true true i f w e) true:=by
 refine Ev_shift ?_
 simp only [exerguelaw11_RuleJoins.j0,if_true]
 exact Ev.now _
theorem right_len {c:List (List Rl)}(h:rightP c=true):(condT [32] c).length≤400:=by
 obtain ⟨r,_,_,_,t,_,l⟩:=right_runs h
 rw [t];exact l
theorem right_byts {c:List (List Rl)}(h:rightP c=true):Byts (condT [32] c):=condT_byts (right_good h).txt.n
theorem joins_parse {A B m:List Int}(hA:Byts A)(hB:Byts B)(hm:Byts m)(lA:A.length≤400)(lB:B.length≤400)(lm:m.length≤5):rule_Parse.f ((strOfNums A ++ strOfNums m) ++ strOfNums B)=some (parseP (A ++ (m ++ B))):=by
 rw [sN_app,sN_app,List.append_assoc,parse_f (by rw [strOfNums_size];simp;omega),bytesOf_nums (hA.app (hm.app hB))]
theorem joins_on {c d:List (List Rl)}{i f:List Int}{w e:Int}(hc:rightP c=true)(hd:rightP d=true)(hok:OpOk i f w e):Ev (fun k=>exerguelaw11_RuleJoins.j0 k c d true false i f w e) true:=by
 have hA:=right_byts hc
 have hB:=right_byts hd
 have lA:=right_len hc
 have lB:=right_len hd
 have eo:(⟨#[32,111,114,32]⟩:ByteArray)=strOfNums [32,111,114,32]:=by decide
 have ea:(⟨#[32,97,110,100,32]⟩:ByteArray)=strOfNums [32,97,110,100,32]:=by decide
 have pX:=joins_parse hA hB (m:=[32,111,114,32]) (by intro x hx;simp at hx;omega) lA lB (by simp)
 have pY:=joins_parse hA hB (m:=[32,97,110,100,32]) (by intro x hx;simp at hx;omega) lA lB (by simp)
 have g1:(strOfNums (condT [32] c)).size+4≤9223372036854775807:=by rw [strOfNums_size];omega
 have g2:(strOfNums (condT [32] c) ++ strOfNums [32,111,114,32]).size+(strOfNums (condT [32] d)).size≤9223372036854775807:=by rw [sN_app,strOfNums_size,strOfNums_size];simp;omega
 have g3:(strOfNums (condT [32] c)).size+5≤9223372036854775807:=by rw [strOfNums_size];omega
 have g4:(strOfNums (condT [32] c) ++ strOfNums [32,97,110,100,32]).size+(strOfNums (condT [32] d)).size≤9223372036854775807:=by rw [sN_app,strOfNums_size,strOfNums_size];simp;omega
 have hP:=parse_or hc hd
 have hQ:=parse_and hc hd
 have gP:=parse_good (condT [32] c ++ ([32,111,114,32] ++ condT [32] d))
 have gQ:=parse_good (condT [32] c ++ ([32,97,110,100,32] ++ condT [32] d))
 have kc:=holds_f hok (right_good hc).num
 have kd:=holds_f hok (right_good hd).num
 refine Ev_shift ?_
 simp only [exerguelaw11_RuleJoins.j0,Bool.false_eq_true,if_false]
 refine Ev.bind (text_ev (right_good hc).txt) ?_
 simp only [if_pos g1]
 refine Ev.bind (text_ev (right_good hd).txt) ?_
 simp only [eo,if_pos g2,pX,Option.bind_some]
 refine Ev.bind (text_ev (right_good hc).txt) ?_
 simp only [if_pos g3]
 refine Ev.bind (text_ev (right_good hd).txt) ?_
 simp only [ea,if_pos g4,pY,Option.bind_some,kc,kd]
 generalize parseP (condT [32] c ++ ([32,111,114,32] ++ condT [32] d))=P at hP gP ⊢
 generalize parseP (condT [32] c ++ ([32,97,110,100,32] ++ condT [32] d))=Q at hQ gQ ⊢
 have kP:=holds_f hok gP.num
 have kQ:=holds_f hok gQ.num
 have xP:P.2.2=0→condX i f w e P.1=(condX i f w e c || condX i f w e d):=fun h=>by
  rcases hP with h2|⟨_,h2⟩
  · omega
  rw [h2,condX_append]
 have xQ:Q.2.2=0→(c.length:Int)=1→(d.length:Int)=1→condX i f w e Q.1=(condX i f w e c && condX i f w e d):=fun h l1 l2=>by
  rcases hQ with h2|⟨_,h2⟩
  · omega
  obtain ⟨m,hm⟩:=List.length_eq_one_iff.1 (show c.length=1 by omega)
  obtain ⟨n,hn⟩:=List.length_eq_one_iff.1 (show d.length=1 by omega)
  rw [h2 m n hm hn,hm,hn,condX_row]
 have oP:P.2.2=11∨P.2.2=0:=hP.imp id (·.1)
 have oQ:Q.2.2=11∨Q.2.2=0:=hQ.imp id (·.1)
 simp only [kP,kQ,Option.bind_some,if_true]
 clear kP kQ kc kd hP hQ gP gQ
 refine Ev.of_eq ?_
 generalize condX i f w e P.1=p at xP ⊢
 generalize condX i f w e Q.1=q at xQ ⊢
 generalize condX i f w e c=a at xP xQ ⊢
 generalize condX i f w e d=b at xP xQ ⊢
 generalize (c.length:Int)=lc at xQ ⊢
 generalize (d.length:Int)=ld at xQ ⊢
 generalize P.2.2=u at xP oP ⊢
 generalize Q.2.2=v at xQ oQ ⊢
 by_cases l1:lc=1
 ·by_cases l2:ld=1
  · rcases oP with rfl|rfl <;> rcases oQ with rfl|rfl <;> cases a <;> cases b <;> simp [l1,l2] at xP xQ ⊢ <;> simp [*]
  rcases oP with rfl|rfl <;> rcases oQ with rfl|rfl <;> cases a <;> cases b <;> simp [l1,l2] at xP xQ ⊢ <;> simp [*]
 rcases oP with rfl|rfl <;> rcases oQ with rfl|rfl <;> cases a <;> cases b <;> simp [l1] at xP xQ ⊢ <;> simp [*]
theorem Pure.RuleJoins:∀ (x0:List (List S60)) (x1:List (List S60)) (x2_0:List Int) (x2_1:List Int) (x2_2:Int) (x2_3:Int),OkC x0→OkC x1→x2_0.length * 1≤140737488351232→(∀ b_ ∈ x2_0,(Lit.int .u8 b_).wf=true)→x2_1.length * 1≤140737488351232→(∀ b_ ∈ x2_1,(Lit.int .u8 b_).wf=true)→(Lit.int .i64 x2_2).wf=true→(Lit.int .i64 x2_3).wf=true→∃ k,exerguelaw11_RuleJoins.f k x0 x1 x2_0 x2_1 x2_2 x2_3=some true:=by
 intro c d i f w e hc hd hi bi hf bf hw he
 refine Ev.rounds ?_
 unfold exerguelaw11_RuleJoins.f
 refine Ev.bind shown_ev ?_
 have off:=joins_off c d i f w e
 obtain ⟨s1,S1,P1⟩:=short_ev hc.len
 refine Ev.bind S1 ?_
 cases s1 with
 | false=>simp only [Bool.false_eq_true,if_false];exact off
 | true=>
  obtain ⟨s2,S2,P2⟩:=short_ev hd.len
  simp only [if_true]
  refine Ev.bind S2 ?_
  cases s2 with
  | false=>simp only [Bool.false_eq_true,if_false];exact off
  | true=>
   simp only [if_true]
   refine Ev.bind (refRight11 ((P1 rfl).txt hc) hc.len) ?_
   cases h1:rightP c with
   | false=>simp only [Bool.false_eq_true,if_false];exact off
   | true=>
    simp only [if_true]
    refine Ev.bind (refRight11 ((P2 rfl).txt hd) hd.len) ?_
    cases h2:rightP d with
    | false=>simp only [Bool.false_eq_true,if_false];exact off
    | true=>
     simp only [if_true]
     have wl:wrap64 ((i.length:Int)+(f.length:Int))=(i.length:Int)+(f.length:Int):=w64 _ (by omega) (by omega)
     rw [wl]
     by_cases hl:(i.length:Int)+(f.length:Int)>1000
     · simp only [if_pos hl];exact off
     simp only [if_neg hl]
     refine Ev.bind (refRight_ev i f w e (by omega) (by omega)) ?_
     by_cases ho:RightO i f w e
     ·have hok:OpOk i f w e:=⟨ho,bi,bf,by omega,by omega⟩
      simp only [zC ho,Bool.not_true]
      exact joins_on h1 h2 hok
     simp only [zD ho,Bool.not_false]
     exact off
end Go.Proofs.YtgfajgkjbckkgaaGreatDoor.PZ
end
