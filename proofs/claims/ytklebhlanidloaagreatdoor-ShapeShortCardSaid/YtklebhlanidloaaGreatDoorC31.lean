/- Texts of this seat, joined. Conditions: none beyond each statement's own. -/
import Derived.Test.YtklebhlanidloaaGreatDoorC29
import Derived.Test.YtklebhlanidloaaGreatDoorC30
section
set_option maxRecDepth 100000
set_option linter.unusedSimpArgs false
set_option linter.unusedVariables false
namespace Go.Proofs.YtklebhlanidloaaGreatDoor.PZ
open Go.RowKit Go.Proofs.YtklebhlanidloaaGreatDoorW.PrintWords Go.Proofs.YtklebhlanidloaaGreatDoorW.PrintLast
def behindV (s:PS)(dg:Int):Int:=if dg≥0 then dg else s.minFrac
theorem short_facts (g:Bool){s:PS}{dg:Int}{l:List Int}{e:Int}(h:NearD l e)(ok:OfOk s dg)(hE:¬ s.exp>0)(hM:¬ s.maxSig>0) :
    ∃ W P,figV s dg g l e=(W,P,0)∧W.length≤1000∧P.length≤1000∧behindV s dg≤(P.length:Int)∧s.minInt≤(W.length:Int)∧(P.length=0∨0<rd P ((P.length:Int) - 1)∨(P.length:Int)≤behindV s dg)∧(W.length=0∨0<rd W 0∨(W.length:Int)≤s.minInt):=by
 have hn:=ok.n
 obtain ⟨n1,n2⟩:=hn.minInt
 obtain ⟨n3,n4⟩:=hn.minFrac
 have n5:=ok.dg
 have n6:=h.len
 obtain ⟨n7,n8⟩:=h.exp
 have hp:powV s l e=0:=by unfold powV;rw [if_neg hE]
 have hl:leastV s dg (magV l e)=(s.minInt,behindV s dg):=by
  unfold leastV behindV
  rw [if_neg hE,if_neg hM]
  split <;> rfl
 have hb:0≤behindV s dg∧behindV s dg≤40:=by unfold behindV;split <;> omega
 obtain ⟨F,hF⟩:∃ F,F=mx (fstV s l e) (s.minInt - 1):=⟨_,rfl⟩
 obtain ⟨T,hT⟩:∃ T,T=mn (e - 0) (-behindV s dg):=⟨_,rfl⟩
 have hv:figV s dg g l e=(figRow g l e 0 F 0,figRow g l e 0 (-1) T,0):=by
  unfold figV
  rw [hp,hl,hF,hT]
 refine ⟨_,_,hv,?_⟩
 by_cases h0:0<l.length
 rotate_left
 ·have he:=h.r.nought (by omega)
  have hfs:fstV s l e = -1:=by unfold fstV;rw [if_pos (by omega)]
  rw [hfs] at hF
  have hF2:F=s.minInt - 1:=by rw [hF];unfold mx;split <;> omega
  have hT2:T = -behindV s dg:=by rw [hT];unfold mn;split <;> omega
  have hlW:=figRow_len g l e 0 F 0
  have hlP:=figRow_len g l e 0 (-1) T
  refine ⟨by omega,by omega,by omega,by omega,.inr (.inr (by omega)),.inr (.inr (by omega))⟩
 have hmag:=mag_pos h0 e
 have hfs:fstV s l e=e+l.length - 1:=by unfold fstV;rw [if_neg (by omega),hp,magV_eq,hmag];omega
 rw [hfs] at hF
 have hF2:e+l.length - 1≤F∧s.minInt - 1≤F∧(F=e+l.length - 1∨F=s.minInt - 1):=by rw [hF];unfold mx;split <;> omega
 have hT2:T≤e∧T ≤ -behindV s dg∧(T=e∨T = -behindV s dg):=by rw [hT];unfold mn;split <;> omega
 have hlW:=figRow_len g l e 0 F 0
 have hlP:=figRow_len g l e 0 (-1) T
 refine ⟨by omega,by omega,by omega,by omega,?_,?_⟩
 ·by_cases c:((figRow g l e 0 (-1) T).length:Int)≤behindV s dg
  · exact .inr (.inr c)
  right;left
  obtain ⟨k,hk⟩:∃ k:Nat,((figRow g l e 0 (-1) T).length:Int) - 1=k:=⟨(figRow g l e 0 (-1) T).length - 1,by omega⟩
  rw [hk,figRow_rd g (by omega) (by omega) (by omega) (by omega) (by omega) k (by omega)]
  unfold figP
  rw [if_pos (by omega),show e+(l.length:Int) - 1 - (-1 - k+0)=(l.length:Int) - 1 by omega]
  exact h.r.last h0
 by_cases c:((figRow g l e 0 F 0).length:Int)≤s.minInt
 · exact .inr (.inr c)
 right;left
 have:=figRow_rd g (l:=l) (e:=e) (pw:=0) (fr:=F) (tt:=0) (by omega) (by omega) (by omega) (by omega) (by omega) 0 (by omega)
 rw [show ((0:Nat):Int)=0 from rfl] at this
 rw [this]
 unfold figP
 rw [if_pos (by omega),show e+(l.length:Int) - 1 - (F - 0+0)=0 by omega]
 exact h.r.first h0
theorem short_off (l0 l1 l2 l3:PRow)(a4:Bool)(a5 a6 a7 a8 a9 a10 a11 a12 a13:Int)(a14:Bool)(a15 a16 dg:Int)(g:Bool)(l:List Int)(e:Int):Ev (fun n=>exerguelaw17_ShapeShort.j0 n dg true true l0 l1 l2 l3 a4 a5 a6 a7 a8 a9 a10 a11 a12 a13 a14 a15 a16 g l e) true:=by
 refine Ev_shift ?_
 simp only [exerguelaw17_ShapeShort.j0,if_true]
 exact Ev.now true
set_option maxHeartbeats 2000000 in
theorem short_on (l0 l1 l2 l3:PRow)(a4:Bool)(a5 a6 a7 a8 a9 a10 a11 a12 a13:Int)(a14:Bool)(a15 a16 dg:Int)(g:Bool){l:List Int}{e:Int}(h:NearD l e)
    (ok:OfOk ⟨a4,a5,a6,a7,a8,a9,a10,a11,a12,a13,a14,a15,a16⟩ dg) (hE:¬ a13>0) (hM:¬ a12>0):Ev (fun n=>exerguelaw17_ShapeShort.j0 n dg true false l0 l1 l2 l3 a4 a5 a6 a7 a8 a9 a10 a11 a12 a13 a14 a15 a16 g l e) true:=by
 obtain ⟨W,P,hv,w1,p1,f1,f2,f3,f4⟩:=short_facts g h ok hE hM
 have hf:=ok.fig (l:=l) (e:=e) (by have:=h.len;omega) (by have:=h.exp;omega)
 refine Ev_shift ?_
 simp only [exerguelaw17_ShapeShort.j0,Bool.false_eq_true,if_false,shape_Figures.f,if_pos hf,hv,Option.bind_some]
 rw [w64 ((P.length:Int) - 1) (by omega) (by omega)]
 have hW:decide ((W.length:Int)≥a6)=true:=decide_eq_true f2
 simp only [hW,if_true]
 clear hv hf hW ok h
 have z1 : (P.length = 0) = ((P.length : Int) = 0) := propext ⟨by omega, by omega⟩
 have z2 : (W.length = 0) = ((W.length : Int) = 0) := propext ⟨by omega, by omega⟩
 rw [z1] at f3
 rw [z2] at f4
 clear z1 z2
 have y1 : 0 ≤ (P.length : Int) := by omega
 have y2 : 0 ≤ (W.length : Int) := by omega
 unfold behindV at f1 f3
 dsimp only at f1 f2 f3 f4
 generalize rd P ((P.length:Int) - 1)=rp at *
 generalize rd W 0=rw0 at *
 generalize (P.length:Int)=np at *
 generalize (W.length:Int)=nw at *
 split at f1 <;> rename_i hd
 ·rw [if_pos hd] at f3
  simp only [if_pos hd]
  repeat' split
  all_goals first|exact Ev.now _|(exfalso;omega)
 rw [if_neg hd] at f3
 simp only [if_neg hd]
 repeat' split
 all_goals first|exact Ev.now _|(exfalso;omega)
end Go.Proofs.YtklebhlanidloaaGreatDoor.PZ
namespace Go.Proofs.YtklebhlanidloaaGreatDoor
open PZ Go.RowKit Go.Proofs.YtklebhlanidloaaGreatDoorW.PrintWords
theorem Pure.ShapeShort:∀ (x0_0:List S114)(x0_1:List S114)(x0_2:List S114)(x0_3:List S114)(x0_4:Bool)(x0_5:Int)(x0_6:Int)(x0_7:Int)(x0_8:Int)(x0_9:Int)(x0_10:Int)(x0_11:Int)(x0_12:Int)(x0_13:Int)(x0_14:Bool)(x0_15:Int)(x0_16:Int)(x1:Int)(x2_0:Bool)(x2_1:List Int)(x2_2:Int),x0_0.length * 16≤140737488351232→x0_1.length * 16≤140737488351232→x0_2.length * 16≤140737488351232→x0_3.length * 16≤140737488351232→(Lit.int .i64 x0_5).wf=true→(Lit.int .i64 x0_6).wf=true→(Lit.int .i64 x0_7).wf=true→(Lit.int .i64 x0_8).wf=true→(Lit.int .i64 x0_9).wf=true→(Lit.int .i64 x0_10).wf=true→(Lit.int .i64 x0_11).wf=true→(Lit.int .i64 x0_12).wf=true→(Lit.int .i64 x0_13).wf=true→(Lit.int .i32 x0_15).wf=true→(Lit.int .i64 x0_16).wf=true→(Lit.int .i64 x1).wf=true→x2_1.length * 1≤140737488351232→(∀ b_ ∈ x2_1,(Lit.int .u8 b_).wf=true)→(Lit.int .i64 x2_2).wf=true→∃ k,exerguelaw17_ShapeShort.f k x0_0 x0_1 x0_2 x0_3 x0_4 x0_5 x0_6 x0_7 x0_8 x0_9 x0_10 x0_11 x0_12 x0_13 x0_14 x0_15 x0_16 x1 x2_0 x2_1 x2_2=some true:=by
 intro l0 l1 l2 l3 a4 a5 a6 a7 a8 a9 a10 a11 a12 a13 a14 a15 a16 dg g l e h0 h1 h2 h3 _ _ _ _ _ _ _ _ _ _ _ _ hz hw _
 apply Ev.rounds
 unfold exerguelaw17_ShapeShort.f
 refine Ev.bind shown_ev ?_
 rcases of_cases l0 l1 l2 l3 a4 a5 a6 a7 a8 a9 a10 a11 a12 a13 a14 a15 a16 dg (by omega) (by omega) (by omega) (by omega) with ⟨hof,ok⟩|hof
 ·simp only [hof,Option.bind_some,if_true]
  rcases nearD_ev g hz hw (e:=e) with ⟨n1,hd⟩|n1
  ·refine Ev.bind n1 ?_
   simp only [if_true]
   by_cases hE:a13>0
   ·simp only [if_pos hE]
    exact short_off _ _ _ _ _ _ _ _ _ _ _ _ _ _ _ _ _ _ _ _ _
   simp only [if_neg hE]
   by_cases hM:a12>0
   ·simp only [decide_eq_true hM]
    exact short_off _ _ _ _ _ _ _ _ _ _ _ _ _ _ _ _ _ _ _ _ _
   simp only [decide_eq_false hM]
   exact short_on _ _ _ _ _ _ _ _ _ _ _ _ _ _ _ _ _ _ _ hd ok hE hM
  refine Ev.bind n1 ?_
  simp only [Bool.false_eq_true,if_false]
  exact short_off _ _ _ _ _ _ _ _ _ _ _ _ _ _ _ _ _ _ _ _ _
 simp only [hof,Option.bind_some,Bool.false_eq_true,if_false]
 exact short_off _ _ _ _ _ _ _ _ _ _ _ _ _ _ _ _ _ _ _ _ _
end Go.Proofs.YtklebhlanidloaaGreatDoor
end
