/- Texts of this seat, joined. Conditions: none beyond each statement's own. -/
import Derived.Test.YtgfajgkjbckkgaaGreatDoorPa26
set_option linter.all false
section
set_option maxRecDepth 100000
set_option linter.unusedSimpArgs false
set_option linter.unusedVariables false
namespace Go.Proofs.YtgfajgkjbckkgaaGreatDoor.PZ
open Go.RowKit Go.Proofs.YtgfajgkjbckkgaaGreatDoorW.PrintWords Go.Proofs.YtgfajgkjbckkgaaGreatDoorW.PrintLast
theorem tells_off (c d:List (List Rl))(i f:List Int)(w e:Int):Ev (fun k=>exerguelaw11_RuleTells.j0 k c d true true i f w e) true:=by
 refine Ev_shift ?_
 simp only [exerguelaw11_RuleTells.j0,if_true]
 exact Ev.now _
theorem Pure.RuleTells:∀ (x0:List (List S60))(x1:List (List S60))(x2_0:List Int)(x2_1:List Int)(x2_2:Int)(x2_3:Int),OkC x0→OkC x1→x2_0.length * 1≤140737488351232→(∀ b_ ∈ x2_0,(Lit.int .u8 b_).wf=true)→x2_1.length * 1≤140737488351232→(∀ b_ ∈ x2_1,(Lit.int .u8 b_).wf=true)→(Lit.int .i64 x2_2).wf=true→(Lit.int .i64 x2_3).wf=true→∃ k,exerguelaw11_RuleTells.f k x0 x1 x2_0 x2_1 x2_2 x2_3=some true:=by
 intro c d i f w e hc hd hi bi hf bf hw he
 refine Ev.rounds ?_
 unfold exerguelaw11_RuleTells.f
 refine Ev.bind shown_ev ?_
 obtain ⟨s1,S1,P1⟩:=short_ev hc.len
 refine Ev.bind S1 ?_
 cases s1 with
 | false=>
  simp only [Bool.false_eq_true,if_false]
  exact tells_off c d i f w e
 | true=>
  obtain ⟨s2,S2,P2⟩:=short_ev hd.len
  simp only [if_true]
  refine Ev.bind S2 ?_
  cases s2 with
  | false=>
   simp only [Bool.false_eq_true,if_false]
   exact tells_off c d i f w e
  | true=>
   simp only [if_true]
   have hT:=(P1 rfl).txt hc
   have wl:wrap64 ((i.length:Int)+(f.length:Int))=(i.length:Int)+(f.length:Int):=w64 _ (by omega) (by omega)
   rw [wl]
   by_cases hl:(i.length:Int)+(f.length:Int)>1000
   ·rw [decide_eq_true hl]
    exact tells_off c d i f w e
   rw [decide_eq_false hl]
   refine Ev_shift ?_
   simp only [exerguelaw11_RuleTells.j0,Bool.false_eq_true,if_false]
   refine Ev.bind (refRight11 hT hc.len) ?_
   refine Ev.bind (ruleRight11 hT) ?_
   have q1:¬ (rightP c != rightP c)=true:=by simp
   simp only [if_neg q1]
   unfold rule_Same.f
   simp only [Option.bind_some]
   refine Ev.bind (same_ev11 (b:=d) hc.len) ?_
   have q2:(decide (c=d) != decide (c=d))=false:=by simp
   rw [q2]
   refine Ev_shift ?_
   simp only [exerguelaw11_RuleTells.j1,Bool.false_eq_true,if_false]
   cases hr:rightP c with
   | false=>
    simp only [Bool.false_eq_true,if_false]
    exact Ev.now _
   | true=>
    have hg:=right_good hr
    simp only [if_true]
    refine Ev.bind (text_ev hT) ?_
    refine Ev.bind (rtext_ev hT) ?_
    simp only [if_true]
    refine Ev.bind (refRight_ev i f w e (by omega) (by omega)) ?_
    by_cases ho:RightO i f w e
    ·have hok:OpOk i f w e:=⟨ho,bi,bf,by omega,by omega⟩
     simp only [decide_eq_true ho,if_true,holds_f hok hg.num,Option.bind_some]
     refine Ev.bind (holds_ev11 hok hg.len hg.num) ?_
     have q3:(condX i f w e c == condX i f w e c)=true:=by simp
     rw [q3]
     exact Ev.now _
    simp only [decide_eq_false ho,Bool.false_eq_true,if_false]
    exact Ev.now _
end Go.Proofs.YtgfajgkjbckkgaaGreatDoor.PZ
end
