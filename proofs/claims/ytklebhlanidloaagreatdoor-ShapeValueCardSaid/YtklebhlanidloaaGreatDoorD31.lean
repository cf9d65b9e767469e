/- Texts of this seat, joined. Conditions: none beyond each statement's own. -/
import Derived.Test.YtklebhlanidloaaGreatDoorD30
set_option linter.all false
section
set_option maxRecDepth 100000
namespace Go.Proofs.YtklebhlanidloaaGreatDoor.PZ
open Go.RowKit Go.Proofs.YtklebhlanidloaaGreatDoorW.PrintWords Go.Proofs.YtklebhlanidloaaGreatDoorW.PrintLast
theorem reffigs_l0 {L:List Int}(hF:Figs L)(hl:L.length≤1000000)(d:Nat):∀ i:Nat,i+d=L.length→Ev (fun k=>exergueref07_Figures.l0 k L (i:Int)) true:=by
 induction d with
 | zero=>
  intro i hi
  refine Ev_shift ?_
  simp only [exergueref07_Figures.l0,if_neg (show ¬ (i:Int)<(L.length:Int) by omega)]
  exact Ev.now _
 | succ d ih=>
  intro i hi
  have:=rd_figs hF i
  refine Ev_shift ?_
  simp only [exergueref07_Figures.l0,if_pos (show (i:Int)<(L.length:Int) by omega),if_pos (show (0:Int)≤(i:Int) by omega),if_neg (show ¬ rd L i>9 by omega),w64 ((i:Int)+1) (by omega) (by omega)]
  exact ih (i+1) (by omega)
theorem reffigs_e {L:List Int}(hF:Figs L)(hl:L.length≤1000000):Ev (fun k=>exergueref07_Figures.f k L) true:=by
 unfold exergueref07_Figures.f
 exact reffigs_l0 hF hl L.length 0 (by omega)
theorem value_facts (g:Bool){s:PS}{dg:Int}{l:List Int}{e:Int}(h:NearD l e)(ok:OfOk s dg) :
    ∃ W P pw,figV s dg g l e=(W,P,pw)∧W.length≤2000∧P.length≤2000 ∧ -200≤pw∧pw≤200∧Figs (W ++ P)∧Ev (fun k=>exergueref05_Norm.f k g (W ++ P) (pw - (P.length:Int))) (g,l,e,0)∧(s.exp>0∨pw=0):=by
 have n6:=h.len
 have n7:=h.exp
 have n5:=ok.dg
 have n1:=ok.n.minInt
 have n2:=ok.n.minFrac
 have n3:=ok.n.minSig
 have hmr : -60≤magV l e∧magV l e≤100:=by unfold magV mx;split <;> omega
 have hpw : -60≤powV s l e∧powV s l e≤100:=by unfold powV;split <;> omega
 have hle:(0≤(leastV s dg (magV l e)).1∧(leastV s dg (magV l e)).1≤40)∧0≤(leastV s dg (magV l e)).2∧(leastV s dg (magV l e)).2≤200:=by
  unfold leastV mx
  repeat' split
  all_goals (dsimp only;omega)
 obtain ⟨ah,hah⟩:∃ x,(leastV s dg (magV l e)).1=x:=⟨_,rfl⟩
 obtain ⟨bh,hbh⟩:∃ x,(leastV s dg (magV l e)).2=x:=⟨_,rfl⟩
 rw [hah,hbh] at hle
 obtain ⟨pw,hp⟩:∃ x,powV s l e=x:=⟨_,rfl⟩
 rw [hp] at hpw
 obtain ⟨F,hF⟩:∃ F,F=mx (fstV s l e) (ah - 1):=⟨_,rfl⟩
 obtain ⟨T,hT⟩:∃ T,T=mn (e - pw) (-bh):=⟨_,rfl⟩
 have hv:figV s dg g l e=(figRow g l e pw F 0,figRow g l e pw (-1) T,pw):=by
  unfold figV
  rw [hp,hah,hbh,hF,hT]
 have hfs:fstV s l e=if l.length=0 then -1 else magV l e - pw:=by unfold fstV;rw [hp]
 have hF2 : -1≤F∧F≤400∧fstV s l e≤F:=by rw [hF];unfold mx;rw [hfs];repeat' split <;> omega
 have hT2:T≤0 ∧ -400≤T∧T≤e - pw:=by rw [hT];unfold mn;split <;> omega
 have hlW:=figRow_len g l e pw F 0
 have hlP:=figRow_len g l e pw (-1) T
 have hj:=figRow_join g l e pw F T hF2.1 hT2.1
 refine ⟨_,_,_,hv,by omega,by omega,by omega,by omega,?_,?_,?_⟩
 ·rw [hj]
  exact figRow_figs g h.r.figs (by omega) (by omega) (by omega) (by omega) (by omega)
 ·rw [hj,show pw - ((figRow g l e pw (-1) T).length:Int)=pw+T by omega]
  by_cases h0:0<l.length
  ·have hmag:=mag_pos h0 e
   rw [magV_eq] at hfs hmr
   rw [if_neg (by omega),hmag] at hfs
   rw [figRow_core g h0 (by omega) (by omega) (by omega) (by omega) (by omega) (by omega) (by omega)]
   have hf0:=h.r.first h0
   have hl0:=h.r.last h0
   have:=refnorm_core g h.r.figs h0 (by omega) (by omega) (F - (e+l.length - 1 - pw)).toNat (e - pw - T).toNat (pw+T) (by omega) (by omega)
   rw [show pw+T+((e - pw - T).toNat:Int)=e by omega] at this
   unfold normR at this
   rwa [if_pos (by omega)] at this
  have hl:l=[]:=List.eq_nil_of_length_eq_zero (by omega)
  have he:=h.r.nought (by omega)
  subst hl
  subst he
  rw [figRow_nil g (by omega) (by omega) (by omega) (by omega)]
  exact refnorm_zero g _ _ (by omega) (by omega)
 by_cases hE:s.exp>0
 · exact .inl hE
 right;rw [← hp];unfold powV;rw [if_neg hE]
theorem value_off (l0 l1 l2 l3:PRow)(a4:Bool)(a5 a6 a7 a8 a9 a10 a11 a12 a13:Int)(a14:Bool)(a15 a16 dg:Int)(g:Bool)(l:List Int)(e:Int):Ev (fun n=>exerguelaw17_ShapeValue.j0 n dg true true l0 l1 l2 l3 a4 a5 a6 a7 a8 a9 a10 a11 a12 a13 a14 a15 a16 g l e) true:=by
 refine Ev_shift ?_
 simp only [exerguelaw17_ShapeValue.j0,if_true]
 exact Ev.now true
theorem value_on (l0 l1 l2 l3:PRow)(a4:Bool)(a5 a6 a7 a8 a9 a10 a11 a12 a13:Int)(a14:Bool)(a15 a16 dg:Int)(g:Bool){l:List Int}{e:Int}(h:NearD l e)
    (ok:OfOk ⟨a4,a5,a6,a7,a8,a9,a10,a11,a12,a13,a14,a15,a16⟩ dg):Ev (fun n=>exerguelaw17_ShapeValue.j0 n dg true false l0 l1 l2 l3 a4 a5 a6 a7 a8 a9 a10 a11 a12 a13 a14 a15 a16 g l e) true:=by
 obtain ⟨W,P,pw,hv,w1,p1,w2,w3,f1,f2,f3⟩:=value_facts g h ok
 have hf:=ok.fig (l:=l) (e:=e) (by have:=h.len;omega) (by have:=h.exp;omega)
 refine Ev_shift ?_
 simp only [exerguelaw17_ShapeValue.j0,Bool.false_eq_true,if_false,shape_Figures.f,if_pos hf,hv,Option.bind_some,List.nil_append,List.length_nil,Nat.zero_add,if_pos (show W.length<140737488355328 by omega),if_pos (show W.length+P.length<140737488355328 by omega),if_true]
 rw [w64 (pw - (P.length:Int)) (by omega) (by omega)]
 refine Ev.bind f2 ?_
 refine Ev.bind (reffigs_e f1 (by simp;omega)) ?_
 simp only [if_true,eq_self]
 refine Ev.bind (same_self g l e (by have:=h.len;omega)) ?_
 simp only [if_true]
 by_cases hE:a13>0
 ·simp only [if_pos hE]
  exact Ev.now _
 simp only [if_neg hE]
 have:pw=0:=by rcases f3 with z|z;exact absurd z hE;exact z
 simp only [this,beq_self_eq_true]
 exact Ev.now _
end Go.Proofs.YtklebhlanidloaaGreatDoor.PZ
namespace Go.Proofs.YtklebhlanidloaaGreatDoor
open PZ Go.RowKit Go.Proofs.YtklebhlanidloaaGreatDoorW.PrintWords
theorem Pure.ShapeValue:∀ (x0_0:List S114)(x0_1:List S114)(x0_2:List S114)(x0_3:List S114)(x0_4:Bool)(x0_5:Int)(x0_6:Int)(x0_7:Int)(x0_8:Int)(x0_9:Int)(x0_10:Int)(x0_11:Int)(x0_12:Int)(x0_13:Int)(x0_14:Bool)(x0_15:Int)(x0_16:Int)(x1:Int)(x2_0:Bool)(x2_1:List Int)(x2_2:Int),x0_0.length * 16≤140737488351232→x0_1.length * 16≤140737488351232→x0_2.length * 16≤140737488351232→x0_3.length * 16≤140737488351232→(Lit.int .i64 x0_5).wf=true→(Lit.int .i64 x0_6).wf=true→(Lit.int .i64 x0_7).wf=true→(Lit.int .i64 x0_8).wf=true→(Lit.int .i64 x0_9).wf=true→(Lit.int .i64 x0_10).wf=true→(Lit.int .i64 x0_11).wf=true→(Lit.int .i64 x0_12).wf=true→(Lit.int .i64 x0_13).wf=true→(Lit.int .i32 x0_15).wf=true→(Lit.int .i64 x0_16).wf=true→(Lit.int .i64 x1).wf=true→x2_1.length * 1≤140737488351232→(∀ b_ ∈ x2_1,(Lit.int .u8 b_).wf=true)→(Lit.int .i64 x2_2).wf=true→∃ k,exerguelaw17_ShapeValue.f k x0_0 x0_1 x0_2 x0_3 x0_4 x0_5 x0_6 x0_7 x0_8 x0_9 x0_10 x0_11 x0_12 x0_13 x0_14 x0_15 x0_16 x1 x2_0 x2_1 x2_2=some true:=by
 intro l0 l1 l2 l3 a4 a5 a6 a7 a8 a9 a10 a11 a12 a13 a14 a15 a16 dg g l e h0 h1 h2 h3 _ _ _ _ _ _ _ _ _ _ _ _ hz hw _
 apply Ev.rounds
 unfold exerguelaw17_ShapeValue.f
 refine Ev.bind shown_ev ?_
 rcases of_cases l0 l1 l2 l3 a4 a5 a6 a7 a8 a9 a10 a11 a12 a13 a14 a15 a16 dg (by omega) (by omega) (by omega) (by omega) with ⟨hof,ok⟩|hof
 ·simp only [hof,Option.bind_some,if_true]
  rcases nearD_ev g hz hw (e:=e) with ⟨n1,hd⟩|n1
  ·refine Ev.bind n1 ?_
   simp only [Bool.not_true]
   exact value_on _ _ _ _ _ _ _ _ _ _ _ _ _ _ _ _ _ _ _ hd ok
  refine Ev.bind n1 ?_
  simp only [Bool.not_false]
  exact value_off _ _ _ _ _ _ _ _ _ _ _ _ _ _ _ _ _ _ _ _ _
 simp only [hof,Option.bind_some,Bool.false_eq_true,if_false]
 exact value_off _ _ _ _ _ _ _ _ _ _ _ _ _ _ _ _ _ _ _ _ _
end Go.Proofs.YtklebhlanidloaaGreatDoor
end
