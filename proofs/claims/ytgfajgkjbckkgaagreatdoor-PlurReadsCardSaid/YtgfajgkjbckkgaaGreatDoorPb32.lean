/- Texts of this seat, joined. Conditions: none beyond each statement's own. -/
import Derived.Test.YtgfajgkjbckkgaaGreatDoorPb28
set_option linter.all false
section
noncomputable section
namespace Go.Proofs.YtgfajgkjbckkgaaGreatDoor.PZ
open Go.RowKit Go.Proofs.YtgfajgkjbckkgaaGreatDoorW.PrintWords Go.Proofs.YtgfajgkjbckkgaaGreatDoorW.PrintLast Go.Proofs.YtgfajgkjbckkgaaGreatDoorW.PrintMore
attribute [local go_sem] max2_int min2_int max_two min_two max_three min_three max_four min_four   -- for this text's walks alone
def exerguelaw12_PlurReads.f (k:Nat)(l0:List (S68)):Option (Bool):=(exerguelaw12_shown.f k).bind fun ae=>((exerguelaw12_short.f k l0).bind fun af=>(if af=true then ((plur_Read.f k l0).bind fun ab=>((exergueref12_Read.f k l0).bind fun ac=>(if ae=true then ((exergueref12_Same.f k ab.1 ac.1).bind fun ag=>(if ag=true then (if ab.2.1=ac.2.1 then (if ab.2.2=ac.2.2 then ((plur_Same.f ab.1 ab.1).bind fun ah=>(some ah)) else (none)) else (none)) else (none))) else (none)))) else (some ae)))
theorem exerguelaw12_PlurReads.mono:∀ a0 k,LeO (exerguelaw12_PlurReads.f k a0) (exerguelaw12_PlurReads.f (k+1) a0):=by
 intro a0 k
 unfold exerguelaw12_PlurReads.f
 repeat' first|(with_reducible first|apply exerguelaw12_short.mono|apply exerguelaw12_shown.mono|apply exergueref12_Read.mono|apply exergueref12_Same.mono|apply plur_Read.mono|apply LeO.refl|apply LeO.none|refine LeO.ite ?_ ?_|refine LeO.bind ?_ (fun _=>?_))|apply exerguelaw12_short.mono|apply exerguelaw12_shown.mono|apply exergueref12_Read.mono|apply exergueref12_Same.mono|apply plur_Read.mono|apply LeO.none
set_option maxHeartbeats 8000000 in
set_option maxRecDepth 100000 in
theorem exerguelaw12_PlurReads.calls (k:Nat)(A0:Option Addr)(c0:Nat)(l0:List (S68))(r:Bool)(w:World)(hG:GL w)(hr0:Kd.C k68 w A0 l0.length l0)(hc0:l0.length≤c0)(h:exerguelaw12_PlurReads.f k l0=some r) :
  Calls Tryz.prog 12 #[.slice A0 l0.length c0] w fun e w'=>e = .returned (.bool r)∧Below w.heap.size w w':=by
 have HR0:=zS hr0
 have HC0:=zS hc0
 clear hr0 hc0
 have HB:=zS (Below.refl w.heap.size w)
 have HG:=zS hG
 clear hG
 have H:((exerguelaw12_shown.f k).bind fun ae=>((exerguelaw12_short.f k l0).bind fun af=>(if af=true then ((plur_Read.f k l0).bind fun ab=>((exergueref12_Read.f k l0).bind fun ac=>(if ae=true then ((exergueref12_Same.f k ab.1 ac.1).bind fun ag=>(if ag=true then (if ab.2.1=ac.2.1 then (if ab.2.2=ac.2.2 then ((plur_Same.f ab.1 ab.1).bind fun ah=>(some ah)) else (none)) else (none)) else (none))) else (none)))) else (some ae))))=some r:=h
 clear h
 replace H:=Option.bind_eq_some_iff.mp H
 obtain ⟨ae,A20,H⟩:=H
 try dsimp only at H
 have A2:=zS A20
 clear A20
 replace H:=Option.bind_eq_some_iff.mp H
 obtain ⟨af,A30,H⟩:=H
 try dsimp only at H
 have A3:=zS A30
 clear A30
 by_cases c4:af=true
 rotate_left
 ·replace c4:=Bool.eq_false_iff.mpr c4
  subst c4
  rw [if_neg (show ¬ (false=true) by decide)] at H
  obtain rfl:=zE H
  go_enter Tryz.func12,Tryz.ntmps12
  go_wp2_with (first|((with_reducible refine gate_callee (f:=14) rfl ?_);refine gL (some 10) Tryz.func14 #[] ?_;(with_reducible refine (exerguelaw12_shown.calls k  ae _ ?side1 A2.out).mono ?_);(case side1=>refine GL.below HG.out ?_;exact bQ HB);rintro e w20 ⟨rfl,hb⟩;refine ⟨_,rfl,?_⟩;replace HB:=bs HB hb;(try clear hb))|((with_reducible refine gate_callee (f:=15) rfl ?_);refine gL (some 12) Tryz.func15 #[.slice A0 l0.length c0] ?_;(with_reducible refine (exerguelaw12_short.calls k _ _ l0 false _ (cb HR0 HB) HC0.out A3.out).mono ?_);rintro e w' ⟨rfl,⟨nd,rfl⟩⟩;refine ⟨_,rfl,?_⟩))
  go_ret
  exact ⟨by first|rfl|(simp <;> rfl)|(simp [*] <;> rfl),bQ HB⟩
 subst c4
 rw [if_pos rfl] at H
 replace H:=Option.bind_eq_some_iff.mp H
 obtain ⟨⟨ai,aj,ak⟩,A50,H⟩:=H
 try dsimp only at H
 have A5:=zS A50
 clear A50
 replace H:=Option.bind_eq_some_iff.mp H
 obtain ⟨⟨an,al,am⟩,A60,H⟩:=H
 try dsimp only at H
 have A6:=zS A60
 clear A60
 by_cases c7:ae=true
 rotate_left
 ·replace c7:=Bool.eq_false_iff.mpr c7
  subst c7
  rw [if_neg (show ¬ (false=true) by decide)] at H
  exact absurd H (by simp)
 subst c7
 rw [if_pos rfl] at H
 replace H:=Option.bind_eq_some_iff.mp H
 obtain ⟨ag,A80,H⟩:=H
 try dsimp only at H
 have A8:=zS A80
 clear A80
 by_cases c9:ag=true
 rotate_left
 ·replace c9:=Bool.eq_false_iff.mpr c9
  subst c9
  rw [if_neg (show ¬ (false=true) by decide)] at H
  exact absurd H (by simp)
 subst c9
 rw [if_pos rfl] at H
 by_cases c10:aj=al
 rotate_left
 ·rw [if_neg c10] at H
  exact absurd H (by simp)
 rw [if_pos c10] at H
 have ar:(aj == al)=true:=zH c10
 have au:(aj != al)=false:=zG c10
 clear c10
 by_cases c11:ak=am
 ·rw [if_pos c11] at H
  have av:(ak == am)=true:=zH c11
  have aw:(ak != am)=false:=zG c11
  clear c11
  replace H:=Option.bind_eq_some_iff.mp H
  obtain ⟨ah,ao,H⟩:=H
  try dsimp only at H
  have A12:=zS ao
  clear ao
  obtain rfl:=zE H
  go_enter Tryz.func12,Tryz.ntmps12
  go_wp2_with (first|((with_reducible refine gate_callee (f:=14) rfl ?_);refine gL (some 10) Tryz.func14 #[] ?_;(with_reducible refine (exerguelaw12_shown.calls k  true _ ?side1 A2.out).mono ?_);(case side1=>refine GL.below HG.out ?_;exact bQ HB);rintro e w13 ⟨rfl,hb⟩;refine ⟨_,rfl,?_⟩;replace HB:=bs HB hb;(try clear hb))|((with_reducible refine gate_callee (f:=15) rfl ?_);refine gL (some 12) Tryz.func15 #[.slice A0 l0.length c0] ?_;(with_reducible refine (exerguelaw12_short.calls k _ _ l0 true _ (cb HR0 HB) HC0.out A3.out).mono ?_);rintro e w' ⟨rfl,⟨nd,rfl⟩⟩;refine ⟨_,rfl,?_⟩)|((with_reducible refine gate_callee (f:=18) rfl ?_);refine gL (some 17) Tryz.func18 #[.slice A0 l0.length c0] ?_;(with_reducible refine (plur_Read.calls k _ _ l0 ai aj ak _ ?side3 ?side1 HC0.out A5.out).mono ?_);(case side1=>repeat (first|exact (Kd.C_below HR0.out (bQ HB))|(with_reducible refine Kd.C_alloc ?_ _)|(with_reducible refine Kd.C_drewN ?_ _)|(with_reducible refine Kd.C_drew ?_)));(case side3=>refine GL.below HG.out ?_;exact bQ HB);rintro e w14 ⟨ax,rfl,ho0,hb⟩;refine ⟨_,rfl,?_⟩;have aa:=zS (Kd.R_lower ho0 (bz HB));replace HB:=bs HB hb;(try clear hb);(try clear hb2);(try clear hk);(try clear hi);(try clear ho0))|((with_reducible refine gate_callee (f:=42) rfl ?_);refine gL (some 23) Tryz.func42 #[.slice A0 l0.length c0] ?_;(with_reducible refine (exergueref12_Read.calls k _ _ l0 an al am _ (cb HR0 HB) HC0.out A6.out).mono ?_);rintro e w15 ⟨ay,rfl,ho0,hb⟩;refine ⟨_,rfl,?_⟩;have ad:=zS (Kd.R_lower (Kd.R_new' ho0 (Kd.R_lt (ro aa))) (bz HB));replace aa:=zS (Kd.R_elder' (ro aa) (Kd.R_base ho0) hb);replace HB:=bs HB hb;(try clear hb);(try clear hb2);(try clear hk);(try clear hi);(try clear ho0);obtain ⟨az,aA,ap⟩:=Kd.R_slice aa.out;subst ap;obtain ⟨aB,aC,aq⟩:=Kd.R_slice ad.out;subst aq)|(go_at_call 24;(with_reducible refine (exergueref12_Same.calls k _ _ ai _ _ an true _ (rc aa) (rl aa) (rc ad) (rl ad) A8.out).mono ?_);rintro e w18 ⟨rfl,hb⟩;replace aa:=rb aa hb;replace ad:=rb ad hb;replace HB:=bs HB hb;(try clear hb);(try clear hb2);(try clear hk);(try clear hi))|(go_at_call 23;(with_reducible refine (plur_Same.calls _ _ ai _ _ ai ah _ (rc aa) (rl aa) (rc aa) (rl aa) A12.out).mono ?_);rintro e w19 ⟨rfl,hb⟩;replace aa:=rb aa hb;replace ad:=rb ad hb;replace HB:=bs HB hb;(try clear hb);(try clear hb2);(try clear hk);(try clear hi)))
  go_ret
  exact ⟨by first|rfl|(simp <;> rfl)|(simp [*] <;> rfl),bQ HB⟩
 rw [if_neg c11] at H
 exact absurd H (by simp)
end Go.Proofs.YtgfajgkjbckkgaaGreatDoor.PZ
end
end
section
set_option maxRecDepth 100000
namespace Go.Proofs.YtgfajgkjbckkgaaGreatDoor.PZ
open Go.RowKit Go.Proofs.YtgfajgkjbckkgaaGreatDoorW.PrintWords Go.Proofs.YtgfajgkjbckkgaaGreatDoorW.PrintLast
theorem Pure.PlurReads:∀ (x0:List S68),OkTxs x0→∃ k,exerguelaw12_PlurReads.f k x0=some true:=by
 intro l hl
 refine Ev.rounds ?_
 unfold exerguelaw12_PlurReads.f
 refine Ev.bind shown12_ev ?_
 have hsz:∀ x ∈ l,x.f1.size≤140737488351232:=fun x hx=>(hl.2 x hx).2
 have hll:l.length≤140737488355328:=by have:=hl.1;omega
 obtain ⟨s1,S1,P1⟩:=short12_ev hsz hll
 refine Ev.bind S1 ?_
 cases s1 with
 | false=>
  simp only [Bool.false_eq_true,if_false]
  exact Ev.now _
 | true=>
  obtain ⟨h8,_⟩:=P1 rfl
  simp only [if_true]
  refine Ev.bind (plurRead_ev hsz (by omega)) ?_
  refine Ev.bind (refRead12_ev hsz (by omega)) ?_
  have hg:∀ x ∈ (readR 0 0 [] l).1,GoodC x.f1:=readR_good l
  refine Ev.bind (same12_ev (fun x hx=>(hg x hx).len) (readR_len (by omega))) ?_
  simp only [decide_true,if_true]
  unfold plur_Same.f
  simp only [Option.bind_some,decide_true]
  exact Ev.now _
end Go.Proofs.YtgfajgkjbckkgaaGreatDoor.PZ
end
