/- Texts of this seat, joined. Conditions: none beyond each statement's own. -/
import Derived.Test.YtgfajgkjbckkgaaGreatDoorPb25
set_option linter.all false
section
noncomputable section
namespace Go.Proofs.YtgfajgkjbckkgaaGreatDoor.PZ
open Go.RowKit Go.Proofs.YtgfajgkjbckkgaaGreatDoorW.PrintWords Go.Proofs.YtgfajgkjbckkgaaGreatDoorW.PrintLast Go.Proofs.YtgfajgkjbckkgaaGreatDoorW.PrintMore
attribute [local go_sem] max2_int min2_int max_two min_two max_three min_three max_four min_four   -- for this text's walks alone
def rule_Right.f (k:Nat)(l0:List (List (S60))):Option (Bool):=(rule_Text.f k l0).bind fun aa=>((rule_Parse.f aa).bind fun ac=>(if ac.2.2=0 then ((rule_Same.f l0 ac.1).bind fun ae=>(some ae)) else (some false)))
theorem rule_Right.mono:∀ a0 k,LeO (rule_Right.f k a0) (rule_Right.f (k+1) a0):=by
 intro a0 k
 unfold rule_Right.f
 repeat' first|(with_reducible first|apply rule_Text.mono|apply LeO.refl|apply LeO.none|refine LeO.ite ?_ ?_|refine LeO.bind ?_ (fun _=>?_))|apply rule_Text.mono|apply LeO.none
set_option maxHeartbeats 8000000 in
set_option maxRecDepth 100000 in
theorem rule_Right.calls (k:Nat)(A0:Option Addr)(c0:Nat)(l0:List (List (S60)))(r:Bool)(w:World)(hG:GL w)(hr0:Kd.C (Kd.slice 60 k60) w A0 l0.length l0)(hc0:l0.length≤c0)(h:rule_Right.f k l0=some r) :
  Calls Tryz.prog 32 #[.slice A0 l0.length c0] w fun e w'=>e = .returned (.bool r)∧Below w.heap.size w w':=by
 have HR0:=zS hr0
 have HC0:=zS hc0
 clear hr0 hc0
 have HB:=zS (Below.refl w.heap.size w)
 have HG:=zS hG
 clear hG
 have H:((rule_Text.f k l0).bind fun aa=>((rule_Parse.f aa).bind fun ac=>(if ac.2.2=0 then ((rule_Same.f l0 ac.1).bind fun ae=>(some ae)) else (some false))))=some r:=h
 clear h
 replace H:=Option.bind_eq_some_iff.mp H
 obtain ⟨aa,A20,H⟩:=H
 try dsimp only at H
 have A2:=zS A20
 clear A20
 replace H:=Option.bind_eq_some_iff.mp H
 obtain ⟨⟨af,ag,ad⟩,A30,H⟩:=H
 try dsimp only at H
 have A3:=zS A30
 clear A30
 by_cases c4:ad=0
 ·rw [if_pos c4] at H
  have ah:(ad == 0)=true:=zH c4
  have ai:(ad != 0)=false:=zG c4
  clear c4
  replace H:=Option.bind_eq_some_iff.mp H
  obtain ⟨ae,A50,H⟩:=H
  try dsimp only at H
  have A5:=zS A50
  clear A50
  obtain rfl:=zE H
  go_enter Tryz.func32,Tryz.ntmps32
  go_wp2_with (first|((with_reducible refine gate_callee (f:=35) rfl ?_);refine gL (some 8) Tryz.func35 #[.slice A0 l0.length c0] ?_;(with_reducible refine (rule_Text.calls k _ _ l0 aa _ ?side3 ?side1 HC0.out A2.out).mono ?_);(case side1=>repeat (first|exact HR0.out|(with_reducible refine Kd.C_alloc ?_ _)|(with_reducible refine Kd.C_drewN ?_ _)|(with_reducible refine Kd.C_drew ?_)));(case side3=>refine GL.below HG.out ?_;exact bQ HB);rintro e w6 ⟨rfl,hb⟩;refine ⟨_,rfl,?_⟩;replace HB:=bs HB hb;(try clear hb))|((with_reducible refine gate_callee (f:=39) rfl ?_);refine gL (some 9) Tryz.func39 #[.string aa] ?_;(with_reducible refine (rule_Parse.calls aa af ag ad _ ?side1 A3.out).mono ?_);(case side1=>refine GL.below HG.out ?_;exact bQ HB);rintro e w7 ⟨aj,rfl,ho0,hb⟩;refine ⟨_,rfl,?_⟩;have ab:=zS (Kd.R_lower ho0 (bz HB));replace HB:=bs HB hb;(try clear hb);(try clear hb2);(try clear hk);(try clear hi);(try clear ho0);obtain ⟨Ao8,co8,eo8⟩:=Kd.R_slice ab.out;subst eo8)|(go_at_call 33;(with_reducible refine (rule_Same.calls _ _ l0 _ _ af ae _ (cb HR0 HB) HC0.out (rc ab) (rl ab) A5.out).mono ?_);rintro e w9 ⟨rfl,hb⟩;replace ab:=rb ab hb;replace HB:=bs HB hb;(try clear hb);(try clear hb2);(try clear hk);(try clear hi)))
  go_ret
  exact ⟨by first|rfl|(simp <;> rfl)|(simp [*] <;> rfl),bQ HB⟩
 rw [if_neg c4] at H
 have ah:(ad == 0)=false:=zF c4
 have ai:(ad != 0)=true:=zI c4
 obtain rfl:=zE H
 go_enter Tryz.func32,Tryz.ntmps32
 go_wp2_with (first|((with_reducible refine gate_callee (f:=35) rfl ?_);refine gL (some 8) Tryz.func35 #[.slice A0 l0.length c0] ?_;(with_reducible refine (rule_Text.calls k _ _ l0 aa _ ?side3 ?side1 HC0.out A2.out).mono ?_);(case side1=>repeat (first|exact HR0.out|(with_reducible refine Kd.C_alloc ?_ _)|(with_reducible refine Kd.C_drewN ?_ _)|(with_reducible refine Kd.C_drew ?_)));(case side3=>refine GL.below HG.out ?_;exact bQ HB);rintro e w10 ⟨rfl,hb⟩;refine ⟨_,rfl,?_⟩;replace HB:=bs HB hb;(try clear hb);(try clear hb2);(try clear hk);(try clear hi))|((with_reducible refine gate_callee (f:=39) rfl ?_);refine gL (some 9) Tryz.func39 #[.string aa] ?_;(with_reducible refine (rule_Parse.calls aa af ag ad _ ?side1 A3.out).mono ?_);(case side1=>refine GL.below HG.out ?_;exact bQ HB);rintro e w11 ⟨aj,rfl,ho0,hb⟩;refine ⟨_,rfl,?_⟩;have ab:=zS (Kd.R_lower ho0 (bz HB));replace HB:=bs HB hb;(try clear hb);(try clear hb2);(try clear hk);(try clear hi);(try clear ho0)))
 go_ret
 exact ⟨by first|rfl|(simp <;> rfl)|(simp [*] <;> rfl),bQ HB⟩
end Go.Proofs.YtgfajgkjbckkgaaGreatDoor.PZ
end
end
