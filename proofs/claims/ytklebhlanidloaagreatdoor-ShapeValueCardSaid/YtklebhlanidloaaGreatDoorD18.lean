/- Texts of this seat, joined. Conditions: none beyond each statement's own. -/
import Derived.Test.YtklebhlanidloaaGreatDoorD17
set_option linter.all false
section
noncomputable section
namespace Go.Proofs.YtklebhlanidloaaGreatDoor.PZ
open Go.RowKit Go.Proofs.YtklebhlanidloaaGreatDoorW.PrintWords Go.Proofs.YtklebhlanidloaaGreatDoorW.PrintLast Go.Proofs.YtklebhlanidloaaGreatDoorW.PrintMore
attribute [local go_sem] max2_int min2_int max_two min_two max_three min_three max_four min_four   -- for this text's walks alone
def round_Inc.j0:Nat→Int→Int→Int→Bool→Bool→List Int→Int→Option (Bool×List Int×Int×Int)
 | 0,_,_,_,_,_,_,_=>none
 | k+1,x1,x2,x3,x20,bD,cd,ce=>if x20=true then (some (false,([]:List Int),0,1)) else ((round_divided.f bD cd ce x1 x2).bind fun bU=>(if bU.2.2=true then ((round_found_away.f bU.1 bU.2.1 bU.2.2 bD x3).bind fun da=>(if da=true then ((round_more.f bU.1).bind fun cu=>((round_times.f cu x1).bind fun cm=>((dec_Norm.f k bD cm x2).bind fun cf=>(some (cf.1,cf.2.1,cf.2.2.1,cf.2.2.2))))) else ((round_times.f bU.1 x1).bind fun cn=>((dec_Norm.f k bD cn x2).bind fun cg=>(some (cg.1,cg.2.1,cg.2.2.1,cg.2.2.2)))))) else (some (bD,cd,ce,0))))
def round_Inc.f (k:Nat)(ae:Bool)(aa:List Int)(ag:Int)(a1:Int)(a2:Int)(a3:Int):Option (Bool×List Int×Int×Int):=(round_Is.f a3).bind fun cv=>(if cv=true then ((round_isUnit.f a1 a2).bind fun co=>(round_Inc.j0 k a1 a2 a3 (!co) ae aa ag)) else (round_Inc.j0 k a1 a2 a3 true ae aa ag))
theorem round_Inc.mono_l:∀ k,(∀ y0 y1 y2 y3 y4 y5 y6,LeO (round_Inc.j0 k y0 y1 y2 y3 y4 y5 y6) (round_Inc.j0 (k+1) y0 y1 y2 y3 y4 y5 y6))
 | 0=>fun _ _ _ _ _ _ _ r h=>by simp [round_Inc.j0] at h
 | k+1=>by
  have ih0:=round_Inc.mono_l k
  ·intro y0 y1 y2 y3 y4 y5 y6
   unfold round_Inc.j0
   repeat' first|(with_reducible first|apply ih0|apply dec_Norm.mono|apply LeO.refl|apply LeO.none|refine LeO.ite ?_ ?_|refine LeO.bind ?_ (fun _=>?_))|apply ih0|apply dec_Norm.mono|apply LeO.none
theorem round_Inc.mono:∀ a0 a1 a2 a3 a4 a5 k,LeO (round_Inc.f k a0 a1 a2 a3 a4 a5) (round_Inc.f (k+1) a0 a1 a2 a3 a4 a5):=by
 intro a0 a1 a2 a3 a4 a5 k
 have ih0:=round_Inc.mono_l k
 unfold round_Inc.f
 repeat' first|(with_reducible first|apply ih0|apply dec_Norm.mono|apply LeO.refl|apply LeO.none|refine LeO.ite ?_ ?_|refine LeO.bind ?_ (fun _=>?_))|apply ih0|apply dec_Norm.mono|apply LeO.none
def round_Inc.T9:Bool×List (List Nat×List Nat):=(true,[([],[]),([0],[0]),([],[]),([],[]),([2,3],[2,3]),([],[]),([1,4,5,4],[1,4,5]),([6],[6]),([6],[6]),([7,6,0,1,2,3,4,5,6,7,8],[7]),([8,9,0,1,2,3,4,5,6,7,8,9],[8])])
def round_Inc.B9:List Nat:=[0,1,0,0,12,0,63,127,127,511,1023]
theorem round_Inc.tab9:rtab .any (opsOf Tryz.f74 9)=round_Inc.T9:=by kernel_rfl
theorem round_Inc.bits9:waitsOk round_Inc.T9.2 round_Inc.B9=true:=by kernel_rfl
set_option maxHeartbeats 8000000 in
set_option maxRecDepth 100000 in
theorem round_Inc.calls (k:Nat)(ae:Bool)(aW:Nat→Prop)(ah:Option Addr)(ai:Nat)(aa:List Int)(ag:Int)(a1:Int)(a2:Int)(a3:Int)(r1:Bool)(r2:List Int)(r3:Int)(r4:Int)(w:World)(hG:GL w)(b0:Kd.V (Kd.int .u8) 5 w w.heap.size (fun k_=>aW k_) (.slice ah aa.length ai) aa)(h:round_Inc.f k ae aa ag a1 a2 a3=some (r1,r2,r3,r4)) :
  Calls Tryz.prog 74 #[.agg #[.bool ae,.slice ah aa.length ai,.int .i64 ag],.int .i64 a1,.int .i64 a2,.int .i64 a3] w fun e w'=>∃ v1_:Value,e = .returned (.tuple #[.agg #[.bool r1,v1_,.int .i64 r3],.int .i64 r4])∧Kd.V (Kd.int .u8) 5 w' w.heap.size (fun k_=>(aW k_∨w.heap.size≤k_)) v1_ r2∧Below w.heap.size w w':=by
 have hu29:=Tryz.underlying29
 have hu126:=Tryz.underlying126
 have aH:=zS (show Kd.V (Kd.int .u8) 5 w w.heap.size (fun k_=>(aW k_∨w.heap.size≤k_)) (.slice ah aa.length ai) aa from Kd.V_mono b0 (fun k_ hk=>.inl hk))
 have HB:=zS (Below.refl w.heap.size w)
 have hfld:=found_left
 have HG:=zS hG
 clear hG
 have H:((round_Is.f a3).bind fun cv=>(if cv=true then ((round_isUnit.f a1 a2).bind fun co=>(round_Inc.j0 k a1 a2 a3 (!co) ae aa ag)) else (round_Inc.j0 k a1 a2 a3 true ae aa ag)))=some (r1,r2,r3,r4):=h
 clear h
 have HC5:=zS H
 clear H
 go_enter Tryz.func74,Tryz.ntmps74
 go_upto_region 1 with (first|((with_reducible refine gate_dst (N:=4) rfl ?_);refine box_event ?hg (N:=4) ?hd (cs:=#[.bool ae,.slice ah aa.length ai,.int .i64 ag]) (t:=29) ?hr ?_;(case hd=>rfl);(case hg=>rfl);(case hr=>first|(go_simp;done)|(go_simp;rfl));intro bE hg w6 hbox hb;replace aH:=zS (Kd.V_below (Kd.V_elderB (vo aH) bE (Nat.le_of_eq hg.symm)) hb);have ab:=zS (hbox);have fc:=bg HB hg;replace HB:=bs HB hb;clear hb hbox hg)|((with_reducible refine gate_dst (N:=8) rfl ?_);refine box_event ?hg (N:=8) ?hd (cs:=#[.bool false,.slice none 0 0,.int .i64 0]) (t:=29) ?hr ?_;(case hd=>rfl);(case hg=>rfl);(case hr=>first|(go_simp;done)|(go_simp;rfl));intro ak hg w7 hbox hb;replace aH:=zS (Kd.V_below (Kd.V_elderB (vo aH) ak (Nat.le_of_eq hg.symm)) hb);have ad:=zS (hbox);have fd:=bg HB hg;replace HB:=bs HB hb;have ac:=kn ab hg;have aB:=km ab hg;replace ab:=kb ab hb;clear hb hbox hg))
 (try simp only [Act.put,sA,sB,sC])
 go_cut [20] (fun v20 wc=>∃ (kq:Nat) (ch:Bool),v20 = .bool ch∧Sd (round_Inc.j0 kq a1 a2 a3 ch ae aa ag=some (r1,r2,r3,r4))∧Sd (kq≤k)∧Sd (Kd.V (Kd.int .u8) 5 wc w.heap.size (fun k_=>(aW k_∨w.heap.size≤k_)∧k_≠bE∧k_≠ak) (.slice ah aa.length ai) aa)∧Sd (wc.heap[bE]?=some (.cells #[.bool ae,(.slice ah aa.length ai),.int .i64 ag] 29 (0,0)))∧Sd (wc.heap[ak]?=some (.cells #[.bool false,(.slice none 0 0),.int .i64 0] 29 (0,0)))∧Sd (Below w.heap.size w wc))
 case first=>
  have H:=HC5.out
  clear HC5
  replace H:=Option.bind_eq_some_iff.mp H
  obtain ⟨cv,A80,H⟩:=H
  try dsimp only at H
  have A8:=zS A80
  clear A80
  by_cases c9:cv=true
  ·subst c9
   rw [if_pos rfl] at H
   replace H:=Option.bind_eq_some_iff.mp H
   obtain ⟨co,dG,H⟩:=H
   try dsimp only at H
   have A10:=zS dG
   clear dG
   have H':=zS H
   clear H
   go_wp2_with (first|((with_reducible refine gate_callee (f:=73) rfl ?_);refine gL (some 13) Tryz.func73 #[.int .i64 a3] ?_;(with_reducible refine (round_Is.calls a3 true _ A8.out).mono ?_);rintro e w' ⟨rfl,⟨nd,rfl⟩⟩;refine ⟨_,rfl,?_⟩)|(go_at_call 94;(with_reducible refine (round_isUnit.calls a1 a2 co _ A10.out).mono ?_);rintro e w' ⟨rfl,⟨nd,rfl⟩⟩))
   go_meet
   case rel=>exact ⟨_,(!co),(by first|rfl|(simp;done)|(simp [*];done)),H',⟨by first|omega|exact Nat.le_refl _⟩,⟨by (with_reducible repeat (first|apply Kd.V_alloc|apply Kd.V_drewN|apply Kd.V_drew));exact Kd.V_mono aH.out (fun _ hk=>⟨hk.1.1,⟨hk.1.2,hk.2⟩⟩)⟩,⟨ko ab⟩,⟨ko ad⟩,⟨bl HB⟩⟩
  replace c9:=Bool.eq_false_iff.mpr c9
  subst c9
  rw [if_neg (show ¬ (false=true) by decide)] at H
  have H':=zS H
  clear H
  go_wp2_with (first|((with_reducible refine gate_callee (f:=73) rfl ?_);refine gL (some 13) Tryz.func73 #[.int .i64 a3] ?_;(with_reducible refine (round_Is.calls a3 false _ A8.out).mono ?_);rintro e w' ⟨rfl,⟨nd,rfl⟩⟩;refine ⟨_,rfl,?_⟩))
  go_meet
  case rel=>exact ⟨_,(true),(by first|rfl|(simp;done)|(simp [*];done)),H',⟨by first|omega|exact Nat.le_refl _⟩,⟨by (with_reducible repeat (first|apply Kd.V_alloc|apply Kd.V_drewN|apply Kd.V_drew));exact Kd.V_mono aH.out (fun _ hk=>⟨hk.1.1,⟨hk.1.2,hk.2⟩⟩)⟩,⟨ko ab⟩,⟨ko ad⟩,⟨bl HB⟩⟩
 case rest=>
  clear HC5
  try clear p2
  try clear c7
  try clear c9
  obtain ⟨kq,ch,rfl,HA,HJ4,HO_146001,ab,ad,HB⟩:=hcut
  cases kq with
  | zero=>exact absurd HA.out (by simp [round_Inc.j0])
  | succ kj4=>
   have H:=HA.out
   clear HA
   simp only [round_Inc.j0] at H
   by_cases c11:ch=true
   ·subst c11
    rw [if_pos rfl] at H
    simp only [Option.some.injEq,Prod.mk.injEq] at H
    obtain ⟨rfl,rfl,rfl,rfl⟩:=H
    have fe:=aB.out
    have ff:=ac.out
    have ci:=blkc3 ad.out
    have cj:=blkf3 ad.out
    go_wp2
    refine bodyPost_ret (results_ct rfl _ _ ak 29 #[.bool false,.slice none 0 0,.int .i64 0] (0,0) _ rfl (kp ad rfl) Tryz.underlying29 rfl (by kernel_rfl)) rfl ?_
    exact ⟨_,by first|rfl|(simp <;> rfl)|(simp [*] <;> rfl),(by first|exact Kd.V_nil _ _ _ _ _|exact (Kd.V_mono (Kd.R_V (by first|exact Kd.R_nil _ _ _ _ _|exact Kd.R_nil _ _ _ 0 _|exact Kd.N_nil _ _ _ _ _|exact Kd.V_nil _ _ _ _ _|exact Kd.Q_nil _ _ _ _ _|exact Kd.S_nil _ _ _ _ _)) (fun k_ hk=>by first|exact ⟨(.inr (hk.1)),hk.2⟩|exact (.inr (hk))))),bl HB⟩
   replace c11:=Bool.eq_false_iff.mpr c11
   subst c11
   rw [if_neg (show ¬ (false=true) by decide)] at H
   replace H:=Option.bind_eq_some_iff.mp H
   obtain ⟨⟨be,bC,eK⟩,dH,H⟩:=H
   try dsimp only at H
   have A14:=zS dH
   clear dH
   by_cases c15:eK=true
   rotate_left
   ·replace c15:=Bool.eq_false_iff.mpr c15
    subst c15
    rw [if_neg (show ¬ (false=true) by decide)] at H
    simp only [Option.some.injEq,Prod.mk.injEq] at H
    obtain ⟨rfl,rfl,rfl,rfl⟩:=H
    have fg:=ac.out
    have fh:=aB.out
    have fi:=blkc3 ab.out
    have fj:=blkf3 ab.out
    go_wp2_with (first|((with_reducible refine gate_callee (f:=95) rfl ?_);refine gL (some 25) Tryz.func95 #[.agg #[.bool ae,.slice ah aa.length ai,.int .i64 ag],.int .i64 a1,.int .i64 a2] ?_;(with_reducible refine (round_divided.calls ae _ _ aa ag a1 a2 be bC false _ ?side3 (vc HO_146001) (vl HO_146001) A14.out).mono ?_);(case side3=>refine GL.below HG.out ?_;exact bl HB);rintro e w63 ⟨dI,rfl,ho0,hb⟩;refine ⟨_,rfl,?_⟩;replace HO_146001:=zS (Kd.V_elder' (vo HO_146001) (Kd.R_base ho0) hb);have aj:=zS (Kd.R_lower (Kd.R_newM (M:=fun k_=>(w.heap.size≤k_)) ho0 (bz HB) (fun k_ h_=>h_)) (bz HB));replace ab:=kb ab hb;replace ad:=kb ad hb;replace HB:=bs HB hb;(try clear hb);(try clear ho0))|((with_reducible refine gate_dst (N:=10) rfl ?_);refine box_event ?hg (N:=10) ?hd (cs:=#[.slice none 0 0,.int .i64 0,.bool false]) (t:=126) ?hr ?_;(case hd=>rfl);(case hg=>rfl);(case hr=>first|(go_simp;done)|(go_simp;rfl));intro au hg w64 hbox hb;replace HO_146001:=zS (Kd.V_below (Kd.V_elderB (vo HO_146001) au (Nat.le_of_eq hg.symm)) hb);replace aj:=rb aj hb;have aq:=zS (hbox);have cN:=bg HB hg;replace HB:=bs HB hb;have bo:=kn ab hg;have bp:=km ab hg;replace ab:=kb ab hb;have ax:=kn ad hg;have ay:=km ad hg;replace ad:=kb ad hb;clear hb hbox hg;obtain ⟨eL,eM,eN⟩:=Kd.R_slice aj.out;subst eN;have fk:=bp.out;have fl:=bo.out;have fm:=ay.out;have fn:=ax.out;have fo:=blkc3 aq.out;have fp:=blkf3 aq.out;have fq:=blkc3 ab.out;have fs:=blkf3 ab.out;have ft:=blkc3 ad.out;have fu:=blkf3 ad.out))
    refine bodyPost_ret (results_ct rfl _ _ ak 29 #[.bool ae,.slice ah aa.length ai,.int .i64 ag] (0,0) _ rfl (kp ad rfl) Tryz.underlying29 rfl (by kernel_rfl)) rfl ?_
    exact ⟨_,by first|rfl|(simp <;> rfl)|(simp [*] <;> rfl),by (with_reducible repeat (first|apply Kd.V_alloc|apply Kd.V_drewN|apply Kd.V_drew));exact Kd.V_mono (Kd.V_far (p:=⟨ak,2,none⟩) (Kd.V_far (p:=⟨ak,1,none⟩) (Kd.V_far (p:=⟨ak,0,none⟩) (Kd.V_far (p:=⟨au,2,none⟩) (Kd.V_far (p:=⟨au,1,none⟩) (Kd.V_far (p:=⟨au,0,none⟩) (Kd.V_mono (Kd.V_mono HO_146001.out (fun k_ hk=>(⟨hk,hk.2⟩:_∧k_≠au))) (fun k_ hk=>(⟨hk,hk.1.1.1.2.2⟩:_∧k_≠ak))) (fun _ hk=>hk.1.2) (.slice eL be.length eM)) (fun _ hk=>hk.1.2) (.int .i64 bC)) (fun _ hk=>hk.1.2) (.bool false)) (fun _ hk=>hk.2) (.bool ae)) (fun _ hk=>hk.2) (.slice ah aa.length ai)) (fun _ hk=>hk.2) (.int .i64 ag)) (fun _ hk=>hk.1.1.1.1.1),bl HB⟩
   subst c15
   rw [if_pos rfl] at H
   replace H:=Option.bind_eq_some_iff.mp H
   obtain ⟨da,dJ,H⟩:=H
   try dsimp only at H
   have A16:=zS dJ
   clear dJ
   by_cases c17:da=true
   ·subst c17
    rw [if_pos rfl] at H
    replace H:=Option.bind_eq_some_iff.mp H
    obtain ⟨cu,dK,H⟩:=H
    try dsimp only at H
    have A18:=zS dK
    clear dK
    replace H:=Option.bind_eq_some_iff.mp H
    obtain ⟨cm,cw,H⟩:=H
    try dsimp only at H
    have A19:=zS cw
    clear cw
    replace H:=Option.bind_eq_some_iff.mp H
    obtain ⟨⟨db,dc,dd,eO⟩,dL,H⟩:=H
    try dsimp only at H
    have A20:=zS dL
    clear dL
    simp only [Option.some.injEq,Prod.mk.injEq] at H
    obtain ⟨rfl,rfl,rfl,rfl⟩:=H
    have fv:=ac.out
    have fw:=aB.out
    have fx:=blkc3 ab.out
    have fy:=blkf3 ab.out
    try go_wp2_with (first|((with_reducible refine gate_callee (f:=95) rfl ?_);refine gL (some 25) Tryz.func95 #[.agg #[.bool ae,.slice ah aa.length ai,.int .i64 ag],.int .i64 a1,.int .i64 a2] ?_;(with_reducible refine (round_divided.calls ae _ _ aa ag a1 a2 be bC true _ ?side3 (vc HO_146001) (vl HO_146001) A14.out).mono ?_);(case side3=>refine GL.below HG.out ?_;exact bl HB);rintro e w23 ⟨dI,rfl,ho0,hb⟩;refine ⟨_,rfl,?_⟩;replace HO_146001:=zS (Kd.V_elder' (vo HO_146001) (Kd.R_base ho0) hb);have aj:=zS (Kd.R_lower (Kd.R_newM (M:=fun k_=>(w.heap.size≤k_)) ho0 (bz HB) (fun k_ h_=>h_)) (bz HB));replace ab:=kb ab hb;replace ad:=kb ad hb;replace HB:=bs HB hb;(try clear hb);(try clear ho0))|((with_reducible refine gate_dst (N:=10) rfl ?_);refine box_event ?hg (N:=10) ?hd (cs:=#[.slice none 0 0,.int .i64 0,.bool false]) (t:=126) ?hr ?_;(case hd=>rfl);(case hg=>rfl);(case hr=>first|(go_simp;done)|(go_simp;rfl));intro au hg w24 hbox hb;replace HO_146001:=zS (Kd.V_below (Kd.V_elderB (vo HO_146001) au (Nat.le_of_eq hg.symm)) hb);replace aj:=rb aj hb;have aq:=zS (hbox);have cN:=bg HB hg;replace HB:=bs HB hb;have bo:=kn ab hg;have bp:=km ab hg;replace ab:=kb ab hb;have ax:=kn ad hg;have ay:=km ad hg;replace ad:=kb ad hb;clear hb hbox hg;obtain ⟨cp,ca,eP⟩:=Kd.R_slice aj.out;subst eP;have cO:=bp.out;have cP:=bo.out;have fz:=ay.out;have fA:=ax.out;have fB:=blkc3 aq.out;have fC:=blkf3 aq.out;have cQ:=blkc3 ab.out;have cR:=blkf3 ab.out)|((with_reducible refine gate_callee (f:=96) rfl ?_);refine gL (some 36) Tryz.func96 #[.agg #[.slice cp be.length ca,.int .i64 bC,.bool true],.bool ae,.int .i64 a3] ?_;(with_reducible refine (round_found_away.calls _ _ be bC true ae a3 true _ ?side1 (rl aj) A16.out).mono ?_);(case side1=>refine (Kd.R_reads' (e:=5) (base:=w.heap.size) (ok:=fun k_=>((w.heap.size≤k_)∧True)) (n:=be.length) (c:=ca) ?_).2.2;exact (by (with_reducible repeat (first|apply Kd.R_alloc|apply Kd.R_drewN|apply Kd.R_drew));exact (Kd.R_mono (Kd.R_far (p:=⟨au,2,none⟩) (Kd.R_far (p:=⟨au,1,none⟩) (Kd.R_far (p:=⟨au,0,none⟩) (Kd.R_types aj.out aq.out (by decide)) (fun _ hk=>hk.2) (.slice cp be.length ca)) (fun _ hk=>hk.2) (.int .i64 bC)) (fun _ hk=>hk.2) (.bool true)) (fun _ h_=>h_.1))));rintro e w30 ⟨rfl,hb⟩;refine ⟨_,rfl,?_⟩;replace HO_146001:=zS (Kd.V_below (by (with_reducible repeat (first|apply Kd.V_alloc|apply Kd.V_drewN|apply Kd.V_drew));exact (Kd.V_mono (Kd.V_far (p:=⟨au,2,none⟩) (Kd.V_far (p:=⟨au,1,none⟩) (Kd.V_far (p:=⟨au,0,none⟩) (Kd.V_mono HO_146001.out (fun k_ hk=>(⟨hk,hk.2⟩:_∧k_≠au))) (fun _ hk=>hk.2) (.slice cp be.length ca)) (fun _ hk=>hk.2) (.int .i64 bC)) (fun _ hk=>hk.2) (.bool true)) (fun _ h_=>h_.1))) hb);replace aj:=zS (Kd.R_below (by (with_reducible repeat (first|apply Kd.R_alloc|apply Kd.R_drewN|apply Kd.R_drew));exact (Kd.R_mono (Kd.R_far (p:=⟨au,2,none⟩) (Kd.R_far (p:=⟨au,1,none⟩) (Kd.R_far (p:=⟨au,0,none⟩) (Kd.R_types aj.out aq.out (by decide)) (fun _ hk=>hk.2) (.slice cp be.length ca)) (fun _ hk=>hk.2) (.int .i64 bC)) (fun _ hk=>hk.2) (.bool true)) (fun _ h_=>h_.1))) hb);replace ab:=kb ab hb;replace ad:=kb ad hb;replace aq:=zS (blk_below (g:=au) (o:=.cells #[.slice cp be.length ca,.int .i64 bC,.bool true] 126 (0,0)) (kp aq rfl) hb);replace HB:=bs HB hb;(try clear hb);(try clear hk))|((with_reducible refine gate_callee (f:=97) rfl ?_);refine gL (some 38) Tryz.func97 #[.slice cp be.length ca] ?_;(with_reducible refine (round_more.calls _ _ be cu _ (rc aj) (rl aj) A18.out).mono ?_);rintro e w31 ⟨gD,rfl,ho0,hb⟩;refine ⟨_,rfl,?_⟩;replace HO_146001:=zS (Kd.V_elder' (vo HO_146001) (Kd.R_base ho0) hb);have bq:=zS (Kd.R_lower (Kd.R_new' (Kd.R_newM (M:=fun k_=>(w.heap.size≤k_)) ho0 (bz HB) (fun k_ h_=>h_)) (Kd.R_lt (ro aj))) (bz HB));replace aj:=zS (Kd.R_elder' (ro aj) (Kd.R_base ho0) hb);replace ab:=kb ab hb;replace ad:=kb ad hb;replace aq:=kb aq hb;replace HB:=bs HB hb;(try clear hb);(try clear hb2);(try clear hk);(try clear hi);(try clear ho0)))
    replace HO_146001:=zS (Kd.V_drew HO_146001.out)
    replace aj:=zS (Kd.R_drew aj.out)
    replace bq:=zS (Kd.R_drew bq.out)
    replace ab:=zS (blk_drew ab.out)
    replace ad:=zS (blk_drew ad.out)
    replace aq:=zS (blk_drew aq.out)
    replace HB:=zS (below_drew1 HB.out)
    obtain ⟨eQ,eR,dM⟩:=Kd.R_slice bq.out
    (first|subst dM|(injection dM with f1_ f2_ f3_;have f4_:=f1_.symm;have f5_:=f3_.symm;clear f1_ f2_ f3_;subst f4_;subst f5_))
    refine start_ (n:=11) (S:=fun w'=>w'.cell? ⟨bE,0,none⟩=some (.bool ae)∧w'.cell? ⟨bE,1,none⟩=some (.slice ah aa.length ai)∧w'.cell? ⟨bE,2,none⟩=some (.int .i64 ag)) (ds:=[]) (bZ 11 0) (by kernel_rfl) rfl (by kernel_rfl) ⟨(blk_cell ab.out 0).trans rfl,(blk_cell ab.out 1).trans rfl,(blk_cell ab.out 2).trans rfl⟩ (fun hHeld=>?_);refine with_tabW round_Inc.tab9 round_Inc.bits9 (fun HT_ HW_=>?_)
    generalize w31.drew=w32 at HO_146001 aj bq ab ad aq HB hHeld ⊢
    refine p1 0 39 1 HT_ (v:=?_) ?_ (a':=?_) ?_ ?_
    rotate_left
    ·intro w';go_simp;with_reducible rfl
    rotate_left
    ·simp only [Act.put,sA,sB,sC,i64_w,i32_w];rfl
    refine p1 2 41 5 HT_ (v:=?_) ?_ (a':=?_) ?_ ?_
    rotate_left
    ·intro w';go_simp;with_reducible rfl
    rotate_left
    ·simp only [Act.put,sA,sB,sC,i64_w,i32_w];rfl
    refine p1 3 42 13 HT_ (v:=?_) ?_ (a':=?_) ?_ ?_
    rotate_left
    ·intro w';go_simp;with_reducible rfl
    rotate_left
    ·simp only [Act.put,sA,sB,sC,i64_w,i32_w];rfl
    refine p1 5 44 45 HT_ (v:=?_) ?_ (a':=?_) ?_ ?_
    rotate_left
    ·intro w';go_simp;with_reducible rfl
    rotate_left
    ·simp only [Act.put,sA,sB,sC,i64_w,i32_w];rfl
    refine p2 1 40 47 HT_ HW_ (v:=?_) ?_ hHeld (a':=?_) ?_ ?_
    rotate_left
    ·rintro w' ⟨s0,s1,s2⟩;go_simp;with_reducible rfl
    rotate_left
    ·simp only [Act.put,sA,sB,sC,i64_w,i32_w];rfl
    refine one_ (i:=4) (N:=some 43) (bZ 11 63) rfl rfl (one_of HT_.out (by kernel_rfl)) (by decide) (fun K hK=>?_)
    refine goes_ Tryz.func98 (by kernel_rfl) rfl #[.slice eQ cu.length eR,.int .i64 a1] (by rfl) rfl rfl (by (try simp only [mA,mB,mC]);first|done|rfl|(simp only [lD,lT];rfl)) ?_
    with_reducible refine (round_times.calls _ _ cu a1 cm _ ?side1 ?side2 A19.out).mono ?_
    (case side1=>exact (Kd.R_reads' bq.out).2.2)
    (case side2=>exact (Kd.R_reads' bq.out).2.1)
    rintro e w34 ⟨gE,rfl,ho0,hb⟩
    refine ⟨_,rfl,?_⟩
    replace HO_146001:=zS (Kd.V_elder' (vo HO_146001) (Kd.R_base ho0) hb)
    have b1:=zS (Kd.R_lower (Kd.R_new' (Kd.R_new' (Kd.R_newM (M:=fun k_=>(w.heap.size≤k_)) ho0 (bz HB) (fun k_ h_=>h_)) (Kd.R_lt (ro aj))) (Kd.R_lt (ro bq))) (bz HB))
    replace aj:=zS (Kd.R_elder' (ro aj) (Kd.R_base ho0) hb)
    replace bq:=zS (Kd.R_elder' (ro bq) (Kd.R_base ho0) hb)
    replace ab:=kb ab hb
    replace ad:=kb ad hb
    replace aq:=kb aq hb
    replace HB:=bs HB hb
    (try clear hb)
    (try clear hb2)
    (try clear hk)
    (try clear hi)
    (try clear ho0)
    obtain ⟨dN,dO,dP⟩:=Kd.R_slice b1.out
    (first|subst dP|(injection dP with f1_ f2_ f3_;have f4_:=f1_.symm;have f5_:=f3_.symm;clear f1_ f2_ f3_;subst f4_;subst f5_))
    refine hK.out _ _ ⟨(blk_cell ab.out 0).trans rfl,(blk_cell ab.out 1).trans rfl,(blk_cell ab.out 2).trans rfl⟩ (fun hHeld=>?_)
    clear hK K
    refine norm_ (a':=?_) ?_ ?_
    rotate_left
    ·show Act.put _ (some 43) _=_
     simp only [Act.put,sA,sB,sC,i64_w,i32_w]
     rfl
    refine one_ (i:=6) (N:=some 45) (bZ 11 127) rfl rfl (one_of HT_.out (by kernel_rfl)) (by decide) (fun K hK=>?_)
    refine goes_ Tryz.func58 (by kernel_rfl) rfl #[.bool ae,.slice dN cm.length dO,.int .i64 a2] (by rfl) rfl rfl (by (try simp only [mA,mB,mC]);first|done|rfl|(simp only [lD,lT];rfl)) ?_
    with_reducible refine (dec_Norm.calls kj4 ae (fun k_=>some k_=(.slice dN cm.length dO:Value).ownBlock) _ _ cm a2 db dc dd eO _ ?side1 A20.out).mono ?_
    (case side1=>exact Kd.R_V (Kd.R_tight rfl (Kd.R_types (Kd.R_types (Kd.R_types (b1.out) ab.out (by decide)) ad.out (by decide)) aq.out (by decide))))
    rintro e w36 ⟨gF,rfl,ho0,hb⟩
    refine ⟨_,rfl,?_⟩
    replace HO_146001:=zS (Kd.V_elder' (vo HO_146001) (Kd.R_base ho0) hb)
    have cS:=zS (Kd.R_lower (Kd.R_new' (Kd.R_new' (Kd.R_new' (Kd.R_newM (M:=fun k_=>(w.heap.size≤k_)) (Kd.R_mono (ok':=fun k_=>True) ho0 (fun _ hk_=>trivial)) (bz HB) (fun k_ h_=>h_)) (Kd.R_lt (ro aj))) (Kd.R_lt (ro bq))) (Kd.R_lt (ro b1))) (bz HB))
    replace aj:=zS (Kd.R_elder' (ro aj) (Kd.R_base ho0) hb)
    replace bq:=zS (Kd.R_elder' (ro bq) (Kd.R_base ho0) hb)
    replace b1:=zS (Kd.R_elder' (ro b1) (Kd.R_base ho0) hb)
    replace ab:=kb ab hb
    replace ad:=kb ad hb
    replace aq:=kb aq hb
    replace HB:=bs HB hb
    (try clear hb)
    (try clear hb2)
    (try clear hk)
    (try clear hi)
    (try clear ho0)
    obtain ⟨dQ,dR,dS⟩:=Kd.R_slice cS.out
    (first|subst dS|(injection dS with f1_ f2_ f3_;have f4_:=f1_.symm;have f5_:=f3_.symm;clear f1_ f2_ f3_;subst f4_;subst f5_))
    refine hK.out _ _ ⟨(blk_cell ab.out 0).trans rfl,(blk_cell ab.out 1).trans rfl,(blk_cell ab.out 2).trans rfl⟩ (fun hHeld=>?_)
    clear hK K
    refine norm_ (a':=?_) ?_ ?_
    rotate_left
    ·show Act.put _ (some 45) _=_
     simp only [Act.put,sA,sB,sC,i64_w,i32_w]
     rfl
    refine p1 7 46 255 HT_ (v:=?_) ?_ (a':=?_) ?_ ?_
    rotate_left
    ·intro w';go_simp;with_reducible rfl
    rotate_left
    ·simp only [Act.put,sA,sB,sC,i64_w,i32_w];rfl
    refine p1 8 47 511 HT_ (v:=?_) ?_ (a':=?_) ?_ ?_
    rotate_left
    ·intro w';go_simp;with_reducible rfl
    rotate_left
    ·simp only [Act.put,sA,sB,sC,i64_w,i32_w];rfl
    refine one_ (i:=9) (N:=none) (bZ 11 1023) rfl rfl (one_of HT_.out (by kernel_rfl)) (by decide) (fun K hK=>?_)
    have gG:w36.cell? ⟨ak,0,none⟩=some (.bool false):=(blk_cell ad.out 0).trans rfl
    have hfs37:=blk_frozen ad.out 0
    have hns37_0:=ac.out
    have hns37_2:=ay.out
    have hms37_0:=aB.out
    have hms37_2:=ax.out
    have gH:w36.cell? ⟨ak,1,none⟩=some (.slice none 0 0):=(blk_cell ad.out 1).trans rfl
    have hfs39:=blk_frozen ad.out 1
    have hns39_0:=ac.out
    have hns39_2:=ay.out
    have hms39_0:=aB.out
    have hms39_2:=ax.out
    have gI:w36.cell? ⟨ak,2,none⟩=some (.int .i64 0):=(blk_cell ad.out 2).trans rfl
    have hfs40:=blk_frozen ad.out 2
    have hns40_0:=ac.out
    have hns40_2:=ay.out
    have hms40_0:=aB.out
    have hms40_2:=ax.out
    refine skip_ (w1:=?_) (by rfl) rfl ?_ ?_
    rotate_left
    ·go_simp
     rfl
    refine hK.out _ _ ⟨((cell_far (p:=⟨ak,_,none⟩) ac.out _).trans (((cell_far (p:=⟨ak,_,none⟩) ac.out _).trans (((cell_far (p:=⟨ak,_,none⟩) ac.out _).trans (hHeld.1)))))),((cell_far (p:=⟨ak,_,none⟩) ac.out _).trans (((cell_far (p:=⟨ak,_,none⟩) ac.out _).trans (((cell_far (p:=⟨ak,_,none⟩) ac.out _).trans (hHeld.2.1)))))),((cell_far (p:=⟨ak,_,none⟩) ac.out _).trans (((cell_far (p:=⟨ak,_,none⟩) ac.out _).trans (((cell_far (p:=⟨ak,_,none⟩) ac.out _).trans (hHeld.2.2))))))⟩ (fun hHeld=>?_)
    clear hK K
    refine p1 10 9 2047 HT_ (v:=?_) ?_ (a':=?_) ?_ ?_
    rotate_left
    ·intro w';go_simp;with_reducible rfl
    rotate_left
    ·simp only [Act.put,sA,sB,sC,i64_w,i32_w];rfl
    refine done_ (done_of HT_.out (by kernel_rfl)) ?_
    try go_wp2
    refine bodyPost_ret (results_ct rfl _ _ ak 29 #[.bool db,.slice dQ dc.length dR,.int .i64 dd] (0,0) _ rfl (kp ad rfl) Tryz.underlying29 rfl (by kernel_rfl)) rfl ?_
    exact ⟨_,by first|rfl|(simp <;> rfl)|(simp [*] <;> rfl),Kd.V_mono (Kd.R_V (by (with_reducible repeat (first|apply Kd.R_alloc|apply Kd.R_drewN|apply Kd.R_drew));exact Kd.R_mono (Kd.R_far (p:=⟨ak,2,none⟩) (Kd.R_far (p:=⟨ak,1,none⟩) (Kd.R_far (p:=⟨ak,0,none⟩) (Kd.R_types cS.out ad.out (by decide)) (fun _ hk=>hk.2) (.bool db)) (fun _ hk=>hk.2) (.slice dQ dc.length dR)) (fun _ hk=>hk.2) (.int .i64 dd)) (fun _ hk=>hk.1.1.1.1.1))) (fun k_ hk=>by first|exact ⟨(.inr (hk.1)),hk.2⟩|exact (.inr (hk))),bl HB⟩
   replace c17:=Bool.eq_false_iff.mpr c17
   subst c17
   rw [if_neg (show ¬ (false=true) by decide)] at H
   replace H:=Option.bind_eq_some_iff.mp H
   obtain ⟨cn,dT,H⟩:=H
   try dsimp only at H
   have A41:=zS dT
   clear dT
   replace H:=Option.bind_eq_some_iff.mp H
   obtain ⟨⟨de,df,dg,eS⟩,dU,H⟩:=H
   try dsimp only at H
   have A42:=zS dU
   clear dU
   simp only [Option.some.injEq,Prod.mk.injEq] at H
   obtain ⟨rfl,rfl,rfl,rfl⟩:=H
   have fD:=ac.out
   have fE:=aB.out
   have fF:=blkc3 ab.out
   have fG:=blkf3 ab.out
   try go_wp2_with (first|((with_reducible refine gate_callee (f:=95) rfl ?_);refine gL (some 25) Tryz.func95 #[.agg #[.bool ae,.slice ah aa.length ai,.int .i64 ag],.int .i64 a1,.int .i64 a2] ?_;(with_reducible refine (round_divided.calls ae _ _ aa ag a1 a2 be bC true _ ?side3 (vc HO_146001) (vl HO_146001) A14.out).mono ?_);(case side3=>refine GL.below HG.out ?_;exact bl HB);rintro e w45 ⟨dI,rfl,ho0,hb⟩;refine ⟨_,rfl,?_⟩;replace HO_146001:=zS (Kd.V_elder' (vo HO_146001) (Kd.R_base ho0) hb);have aj:=zS (Kd.R_lower (Kd.R_newM (M:=fun k_=>(w.heap.size≤k_)) ho0 (bz HB) (fun k_ h_=>h_)) (bz HB));replace ab:=kb ab hb;replace ad:=kb ad hb;replace HB:=bs HB hb;(try clear hb);(try clear ho0))|((with_reducible refine gate_dst (N:=10) rfl ?_);refine box_event ?hg (N:=10) ?hd (cs:=#[.slice none 0 0,.int .i64 0,.bool false]) (t:=126) ?hr ?_;(case hd=>rfl);(case hg=>rfl);(case hr=>first|(go_simp;done)|(go_simp;rfl));intro au hg w46 hbox hb;replace HO_146001:=zS (Kd.V_below (Kd.V_elderB (vo HO_146001) au (Nat.le_of_eq hg.symm)) hb);replace aj:=rb aj hb;have aq:=zS (hbox);have cN:=bg HB hg;replace HB:=bs HB hb;have bo:=kn ab hg;have bp:=km ab hg;replace ab:=kb ab hb;have ax:=kn ad hg;have ay:=km ad hg;replace ad:=kb ad hb;clear hb hbox hg;obtain ⟨cq,cc,eT⟩:=Kd.R_slice aj.out;subst eT;have dV:=bp.out;have dW:=bo.out;have dX:=ay.out;have dY:=ax.out;have dZ:=blkc3 aq.out;have d0:=blkf3 aq.out;have fH:=blkc3 ab.out;have fI:=blkf3 ab.out)|((with_reducible refine gate_callee (f:=96) rfl ?_);refine gL (some 36) Tryz.func96 #[.agg #[.slice cq be.length cc,.int .i64 bC,.bool true],.bool ae,.int .i64 a3] ?_;(with_reducible refine (round_found_away.calls _ _ be bC true ae a3 false _ ?side1 (rl aj) A16.out).mono ?_);(case side1=>refine (Kd.R_reads' (e:=5) (base:=w.heap.size) (ok:=fun k_=>((w.heap.size≤k_)∧True)) (n:=be.length) (c:=cc) ?_).2.2;exact (by (with_reducible repeat (first|apply Kd.R_alloc|apply Kd.R_drewN|apply Kd.R_drew));exact (Kd.R_mono (Kd.R_far (p:=⟨au,2,none⟩) (Kd.R_far (p:=⟨au,1,none⟩) (Kd.R_far (p:=⟨au,0,none⟩) (Kd.R_types aj.out aq.out (by decide)) (fun _ hk=>hk.2) (.slice cq be.length cc)) (fun _ hk=>hk.2) (.int .i64 bC)) (fun _ hk=>hk.2) (.bool true)) (fun _ h_=>h_.1))));rintro e w52 ⟨rfl,hb⟩;refine ⟨_,rfl,?_⟩;replace HO_146001:=zS (Kd.V_below (by (with_reducible repeat (first|apply Kd.V_alloc|apply Kd.V_drewN|apply Kd.V_drew));exact (Kd.V_mono (Kd.V_far (p:=⟨au,2,none⟩) (Kd.V_far (p:=⟨au,1,none⟩) (Kd.V_far (p:=⟨au,0,none⟩) (Kd.V_mono HO_146001.out (fun k_ hk=>(⟨hk,hk.2⟩:_∧k_≠au))) (fun _ hk=>hk.2) (.slice cq be.length cc)) (fun _ hk=>hk.2) (.int .i64 bC)) (fun _ hk=>hk.2) (.bool true)) (fun _ h_=>h_.1))) hb);replace aj:=zS (Kd.R_below (by (with_reducible repeat (first|apply Kd.R_alloc|apply Kd.R_drewN|apply Kd.R_drew));exact (Kd.R_mono (Kd.R_far (p:=⟨au,2,none⟩) (Kd.R_far (p:=⟨au,1,none⟩) (Kd.R_far (p:=⟨au,0,none⟩) (Kd.R_types aj.out aq.out (by decide)) (fun _ hk=>hk.2) (.slice cq be.length cc)) (fun _ hk=>hk.2) (.int .i64 bC)) (fun _ hk=>hk.2) (.bool true)) (fun _ h_=>h_.1))) hb);replace ab:=kb ab hb;replace ad:=kb ad hb;replace aq:=zS (blk_below (g:=au) (o:=.cells #[.slice cq be.length cc,.int .i64 bC,.bool true] 126 (0,0)) (kp aq rfl) hb);replace HB:=bs HB hb;(try clear hb);(try clear hk)))
   replace HO_146001:=zS (Kd.V_drew HO_146001.out)
   replace aj:=zS (Kd.R_drew aj.out)
   replace ab:=zS (blk_drew ab.out)
   replace ad:=zS (blk_drew ad.out)
   replace aq:=zS (blk_drew aq.out)
   replace HB:=zS (below_drew1 HB.out)
   refine start_ (n:=11) (S:=fun w'=>w'.cell? ⟨bE,0,none⟩=some (.bool ae)∧w'.cell? ⟨bE,1,none⟩=some (.slice ah aa.length ai)∧w'.cell? ⟨bE,2,none⟩=some (.int .i64 ag)) (ds:=[]) (bZ 11 0) (by kernel_rfl) rfl (by kernel_rfl) ⟨(blk_cell ab.out 0).trans rfl,(blk_cell ab.out 1).trans rfl,(blk_cell ab.out 2).trans rfl⟩ (fun hHeld=>?_);refine with_tabW round_Inc.tab9 round_Inc.bits9 (fun HT_ HW_=>?_)
   generalize w52.drew=w53 at HO_146001 aj ab ad aq HB hHeld ⊢
   refine p1 0 39 1 HT_ (v:=?_) ?_ (a':=?_) ?_ ?_
   rotate_left
   ·intro w';go_simp;with_reducible rfl
   rotate_left
   ·simp only [Act.put,sA,sB,sC,i64_w,i32_w];rfl
   refine p1 2 41 5 HT_ (v:=?_) ?_ (a':=?_) ?_ ?_
   rotate_left
   ·intro w';go_simp;with_reducible rfl
   rotate_left
   ·simp only [Act.put,sA,sB,sC,i64_w,i32_w];rfl
   refine p1 3 42 13 HT_ (v:=?_) ?_ (a':=?_) ?_ ?_
   rotate_left
   ·intro w';go_simp;with_reducible rfl
   rotate_left
   ·simp only [Act.put,sA,sB,sC,i64_w,i32_w];rfl
   refine p1 5 44 45 HT_ (v:=?_) ?_ (a':=?_) ?_ ?_
   rotate_left
   ·intro w';go_simp;with_reducible rfl
   rotate_left
   ·simp only [Act.put,sA,sB,sC,i64_w,i32_w];rfl
   refine p2 1 40 47 HT_ HW_ (v:=?_) ?_ hHeld (a':=?_) ?_ ?_
   rotate_left
   ·rintro w' ⟨s0,s1,s2⟩;go_simp;with_reducible rfl
   rotate_left
   ·simp only [Act.put,sA,sB,sC,i64_w,i32_w];rfl
   refine one_ (i:=4) (N:=some 43) (bZ 11 63) rfl rfl (one_of HT_.out (by kernel_rfl)) (by decide) (fun K hK=>?_)
   refine goes_ Tryz.func98 (by kernel_rfl) rfl #[.slice cq be.length cc,.int .i64 a1] (by rfl) rfl rfl (by (try simp only [mA,mB,mC]);first|done|rfl|(simp only [lD,lT];rfl)) ?_
   with_reducible refine (round_times.calls _ _ be a1 cn _ ?side1 ?side2 A41.out).mono ?_
   (case side1=>exact (Kd.R_reads' aj.out).2.2)
   (case side2=>exact (Kd.R_reads' aj.out).2.1)
   rintro e w54 ⟨gJ,rfl,ho0,hb⟩
   refine ⟨_,rfl,?_⟩
   replace HO_146001:=zS (Kd.V_elder' (vo HO_146001) (Kd.R_base ho0) hb)
   have b2:=zS (Kd.R_lower (Kd.R_new' (Kd.R_newM (M:=fun k_=>(w.heap.size≤k_)) ho0 (bz HB) (fun k_ h_=>h_)) (Kd.R_lt (ro aj))) (bz HB))
   replace aj:=zS (Kd.R_elder' (ro aj) (Kd.R_base ho0) hb)
   replace ab:=kb ab hb
   replace ad:=kb ad hb
   replace aq:=kb aq hb
   replace HB:=bs HB hb
   (try clear hb)
   (try clear hb2)
   (try clear hk)
   (try clear hi)
   (try clear ho0)
   obtain ⟨cx,cy,cM⟩:=Kd.R_slice b2.out
   (first|subst cM|(injection cM with f1_ f2_ f3_;have f4_:=f1_.symm;have f5_:=f3_.symm;clear f1_ f2_ f3_;subst f4_;subst f5_))
   refine hK.out _ _ ⟨(blk_cell ab.out 0).trans rfl,(blk_cell ab.out 1).trans rfl,(blk_cell ab.out 2).trans rfl⟩ (fun hHeld=>?_)
   clear hK K
   refine norm_ (a':=?_) ?_ ?_
   rotate_left
   ·show Act.put _ (some 43) _=_
    simp only [Act.put,sA,sB,sC,i64_w,i32_w]
    rfl
   refine one_ (i:=6) (N:=some 45) (bZ 11 127) rfl rfl (one_of HT_.out (by kernel_rfl)) (by decide) (fun K hK=>?_)
   refine goes_ Tryz.func58 (by kernel_rfl) rfl #[.bool ae,.slice cx cn.length cy,.int .i64 a2] (by rfl) rfl rfl (by (try simp only [mA,mB,mC]);first|done|rfl|(simp only [lD,lT];rfl)) ?_
   with_reducible refine (dec_Norm.calls kj4 ae (fun k_=>some k_=(.slice cx cn.length cy:Value).ownBlock) _ _ cn a2 de df dg eS _ ?side1 A42.out).mono ?_
   (case side1=>exact Kd.R_V (Kd.R_tight rfl (Kd.R_types (Kd.R_types (Kd.R_types (b2.out) ab.out (by decide)) ad.out (by decide)) aq.out (by decide))))
   rintro e w56 ⟨gK,rfl,ho0,hb⟩
   refine ⟨_,rfl,?_⟩
   replace HO_146001:=zS (Kd.V_elder' (vo HO_146001) (Kd.R_base ho0) hb)
   have cT:=zS (Kd.R_lower (Kd.R_new' (Kd.R_new' (Kd.R_newM (M:=fun k_=>(w.heap.size≤k_)) (Kd.R_mono (ok':=fun k_=>True) ho0 (fun _ hk_=>trivial)) (bz HB) (fun k_ h_=>h_)) (Kd.R_lt (ro aj))) (Kd.R_lt (ro b2))) (bz HB))
   replace aj:=zS (Kd.R_elder' (ro aj) (Kd.R_base ho0) hb)
   replace b2:=zS (Kd.R_elder' (ro b2) (Kd.R_base ho0) hb)
   replace ab:=kb ab hb
   replace ad:=kb ad hb
   replace aq:=kb aq hb
   replace HB:=bs HB hb
   (try clear hb)
   (try clear hb2)
   (try clear hk)
   (try clear hi)
   (try clear ho0)
   obtain ⟨d1,d2,d3⟩:=Kd.R_slice cT.out
   (first|subst d3|(injection d3 with f1_ f2_ f3_;have f4_:=f1_.symm;have f5_:=f3_.symm;clear f1_ f2_ f3_;subst f4_;subst f5_))
   refine hK.out _ _ ⟨(blk_cell ab.out 0).trans rfl,(blk_cell ab.out 1).trans rfl,(blk_cell ab.out 2).trans rfl⟩ (fun hHeld=>?_)
   clear hK K
   refine norm_ (a':=?_) ?_ ?_
   rotate_left
   ·show Act.put _ (some 45) _=_
    simp only [Act.put,sA,sB,sC,i64_w,i32_w]
    rfl
   refine p1 7 46 255 HT_ (v:=?_) ?_ (a':=?_) ?_ ?_
   rotate_left
   ·intro w';go_simp;with_reducible rfl
   rotate_left
   ·simp only [Act.put,sA,sB,sC,i64_w,i32_w];rfl
   refine p1 8 47 511 HT_ (v:=?_) ?_ (a':=?_) ?_ ?_
   rotate_left
   ·intro w';go_simp;with_reducible rfl
   rotate_left
   ·simp only [Act.put,sA,sB,sC,i64_w,i32_w];rfl
   refine one_ (i:=9) (N:=none) (bZ 11 1023) rfl rfl (one_of HT_.out (by kernel_rfl)) (by decide) (fun K hK=>?_)
   have gM:w56.cell? ⟨ak,0,none⟩=some (.bool false):=(blk_cell ad.out 0).trans rfl
   have hfs57:=blk_frozen ad.out 0
   have hns57_0:=ac.out
   have hns57_2:=ay.out
   have hms57_0:=aB.out
   have hms57_2:=ax.out
   have gN:w56.cell? ⟨ak,1,none⟩=some (.slice none 0 0):=(blk_cell ad.out 1).trans rfl
   have hfs59:=blk_frozen ad.out 1
   have hns59_0:=ac.out
   have hns59_2:=ay.out
   have hms59_0:=aB.out
   have hms59_2:=ax.out
   have gO:w56.cell? ⟨ak,2,none⟩=some (.int .i64 0):=(blk_cell ad.out 2).trans rfl
   have hfs60:=blk_frozen ad.out 2
   have hns60_0:=ac.out
   have hns60_2:=ay.out
   have hms60_0:=aB.out
   have hms60_2:=ax.out
   refine skip_ (w1:=?_) (by rfl) rfl ?_ ?_
   rotate_left
   ·go_simp
    rfl
   refine hK.out _ _ ⟨((cell_far (p:=⟨ak,_,none⟩) ac.out _).trans (((cell_far (p:=⟨ak,_,none⟩) ac.out _).trans (((cell_far (p:=⟨ak,_,none⟩) ac.out _).trans (hHeld.1)))))),((cell_far (p:=⟨ak,_,none⟩) ac.out _).trans (((cell_far (p:=⟨ak,_,none⟩) ac.out _).trans (((cell_far (p:=⟨ak,_,none⟩) ac.out _).trans (hHeld.2.1)))))),((cell_far (p:=⟨ak,_,none⟩) ac.out _).trans (((cell_far (p:=⟨ak,_,none⟩) ac.out _).trans (((cell_far (p:=⟨ak,_,none⟩) ac.out _).trans (hHeld.2.2))))))⟩ (fun hHeld=>?_)
   clear hK K
   refine p1 10 9 2047 HT_ (v:=?_) ?_ (a':=?_) ?_ ?_
   rotate_left
   ·intro w';go_simp;with_reducible rfl
   rotate_left
   ·simp only [Act.put,sA,sB,sC,i64_w,i32_w];rfl
   refine done_ (done_of HT_.out (by kernel_rfl)) ?_
   try go_wp2
   refine bodyPost_ret (results_ct rfl _ _ ak 29 #[.bool de,.slice d1 df.length d2,.int .i64 dg] (0,0) _ rfl (kp ad rfl) Tryz.underlying29 rfl (by kernel_rfl)) rfl ?_
   exact ⟨_,by first|rfl|(simp <;> rfl)|(simp [*] <;> rfl),Kd.V_mono (Kd.R_V (by (with_reducible repeat (first|apply Kd.R_alloc|apply Kd.R_drewN|apply Kd.R_drew));exact Kd.R_mono (Kd.R_far (p:=⟨ak,2,none⟩) (Kd.R_far (p:=⟨ak,1,none⟩) (Kd.R_far (p:=⟨ak,0,none⟩) (Kd.R_types cT.out ad.out (by decide)) (fun _ hk=>hk.2) (.bool de)) (fun _ hk=>hk.2) (.slice d1 df.length d2)) (fun _ hk=>hk.2) (.int .i64 dg)) (fun _ hk=>hk.1.1.1.1))) (fun k_ hk=>by first|exact ⟨(.inr (hk.1)),hk.2⟩|exact (.inr (hk))),bl HB⟩
def round_To.f (k:Nat)(ae:Bool)(aa:List Int)(ag:Int)(a1:Int)(a2:Int):Option (Bool×List Int×Int×Int):=(round_Inc.f k ae aa ag 1 a1 a2).bind fun bF=>(some (bF.1,bF.2.1,bF.2.2.1,bF.2.2.2))
theorem round_To.mono:∀ a0 a1 a2 a3 a4 k,LeO (round_To.f k a0 a1 a2 a3 a4) (round_To.f (k+1) a0 a1 a2 a3 a4):=by
 intro a0 a1 a2 a3 a4 k
 unfold round_To.f
 repeat' first|(with_reducible first|apply round_Inc.mono|apply LeO.refl|apply LeO.none|refine LeO.ite ?_ ?_|refine LeO.bind ?_ (fun _=>?_))|apply round_Inc.mono|apply LeO.none
set_option maxHeartbeats 8000000 in
set_option maxRecDepth 100000 in
theorem round_To.calls (k:Nat)(ae:Bool)(aW:Nat→Prop)(ah:Option Addr)(ai:Nat)(aa:List Int)(ag:Int)(a1:Int)(a2:Int)(r1:Bool)(r2:List Int)(r3:Int)(r4:Int)(w:World)(hG:GL w)(b0:Kd.V (Kd.int .u8) 5 w w.heap.size (fun k_=>aW k_) (.slice ah aa.length ai) aa)(h:round_To.f k ae aa ag a1 a2=some (r1,r2,r3,r4)) :
  Calls Tryz.prog 41 #[.agg #[.bool ae,.slice ah aa.length ai,.int .i64 ag],.int .i64 a1,.int .i64 a2] w fun e w'=>∃ v1_:Value,e = .returned (.tuple #[.agg #[.bool r1,v1_,.int .i64 r3],.int .i64 r4])∧Kd.V (Kd.int .u8) 5 w' w.heap.size (fun k_=>(aW k_∨w.heap.size≤k_)) v1_ r2∧Below w.heap.size w w':=by
 have hu29:=Tryz.underlying29
 have aH:=zS (show Kd.V (Kd.int .u8) 5 w w.heap.size (fun k_=>(aW k_∨w.heap.size≤k_)) (.slice ah aa.length ai) aa from Kd.V_mono b0 (fun k_ hk=>.inl hk))
 have HB:=zS (Below.refl w.heap.size w)
 have HG:=zS hG
 clear hG
 have H:((round_Inc.f k ae aa ag 1 a1 a2).bind fun bF=>(some (bF.1,bF.2.1,bF.2.2.1,bF.2.2.2)))=some (r1,r2,r3,r4):=h
 clear h
 replace H:=Option.bind_eq_some_iff.mp H
 obtain ⟨⟨dh,di,dj,eU⟩,A40,H⟩:=H
 try dsimp only at H
 have A4:=zS A40
 clear A40
 simp only [Option.some.injEq,Prod.mk.injEq] at H
 obtain ⟨rfl,rfl,rfl,rfl⟩:=H
 go_enter Tryz.func41,Tryz.ntmps41
 go_wp2_with (first|((with_reducible refine gate_dst (N:=3) rfl ?_);refine box_event ?hg (N:=3) ?hd (cs:=#[.bool ae,.slice ah aa.length ai,.int .i64 ag]) (t:=29) ?hr ?_;(case hd=>rfl);(case hg=>rfl);(case hr=>first|(go_simp;done)|(go_simp;rfl));intro cz hg w5 hbox hb;replace aH:=zS (Kd.V_below (Kd.V_elderB (vo aH) cz (Nat.le_of_eq hg.symm)) hb);have bG:=zS (hbox);have fJ:=bg HB hg;replace HB:=bs HB hb;clear hb hbox hg)|((with_reducible refine gate_dst (N:=6) rfl ?_);refine box_event ?hg (N:=6) ?hd (cs:=#[.bool false,.slice none 0 0,.int .i64 0]) (t:=29) ?hr ?_;(case hd=>rfl);(case hg=>rfl);(case hr=>first|(go_simp;done)|(go_simp;rfl));intro bM hg w6 hbox hb;replace aH:=zS (Kd.V_below (Kd.V_elderB (vo aH) bM (Nat.le_of_eq hg.symm)) hb);have bV:=zS (hbox);have fK:=bg HB hg;replace HB:=bs HB hb;have cr:=kn bG hg;have ct:=km bG hg;replace bG:=kb bG hb;clear hb hbox hg;have gP:=cr.out;have gQ:=ct.out;have eV:=blkc3 bG.out;have eW:=blkf3 bG.out)|((with_reducible refine gate_callee (f:=74) rfl ?_);refine gL (some 11) Tryz.func74 #[.agg #[.bool ae,.slice ah aa.length ai,.int .i64 ag],.int .i64 1,.int .i64 a1,.int .i64 a2] ?_;(with_reducible refine (round_Inc.calls k ae (fun k_=>(((aW k_∨w.heap.size≤k_)∧k_≠cz)∧k_≠bM)) _ _ aa ag 1 a1 a2 dh di dj eU _ ?side2 ?side1 A4.out).mono ?_);(case side1=>exact aH.out);(case side2=>refine GL.below HG.out ?_;exact bl HB);rintro e w9 ⟨gR,rfl,ho0,hb⟩;refine ⟨_,rfl,?_⟩;replace aH:=vb aH hb;have cU:=zS (Kd.V_lower (Kd.V_mono (ok':=fun k_=>(aW k_∨w.heap.size≤k_)∧k_≠cz∧k_≠bM) ho0 (fun k_ hk_=>⟨Or.elim hk_ (fun hs_=>hs_.1.1) (fun hn_=>(.inr (Nat.le_trans (bz HB) hn_))),Or.elim hk_ (fun hs_=>hs_.1.2) (fun hn_=>(Kd.freshB (ko bG) k_ hn_)),Or.elim hk_ (fun hs_=>hs_.2) (fun hn_=>(Kd.freshB (ko bV) k_ hn_))⟩)) (bz HB));replace bG:=kb bG hb;replace bV:=kb bV hb;replace HB:=bs HB hb;(try clear hb);(try clear ho0);have cA:=blkc3 bV.out;have cB:=blkf3 bV.out;obtain ⟨d4,d5,eX⟩:=Kd.V_slice cU.out;subst eX))
 refine bodyPost_ret (results_ct rfl _ _ bM 29 #[.bool dh,.slice d4 di.length d5,.int .i64 dj] (0,0) _ rfl (kp bV rfl) Tryz.underlying29 rfl (by kernel_rfl)) rfl ?_
 exact ⟨_,by first|rfl|(simp <;> rfl)|(simp [*] <;> rfl),by (with_reducible repeat (first|apply Kd.V_alloc|apply Kd.V_drewN|apply Kd.V_drew));exact Kd.V_mono (Kd.V_far (p:=⟨bM,2,none⟩) (Kd.V_far (p:=⟨bM,1,none⟩) (Kd.V_far (p:=⟨bM,0,none⟩) (Kd.V_mono cU.out (fun k_ hk=>(⟨hk,hk.2.2⟩:_∧k_≠bM))) (fun _ hk=>hk.2) (.bool dh)) (fun _ hk=>hk.2) (.slice d4 di.length d5)) (fun _ hk=>hk.2) (.int .i64 dj)) (fun _ hk=>hk.1.1),bl HB⟩
def dec_Mag.f (ae:Bool)(aa:List Int)(ag:Int):Option (Int):=some (wrap64 ((wrap64 ((mx (aa.length:Int) 1)+ag)) - 1))
set_option maxHeartbeats 8000000 in
set_option maxRecDepth 100000 in
theorem dec_Mag.calls (ae:Bool)(ah:Option Addr)(ai:Nat)(aa:List Int)(ag:Int)(r:Int)(w:World)(br:Kd.C (Kd.int .u8) w ah aa.length aa)(bu:aa.length≤ai)(h:dec_Mag.f ae aa ag=some r) :
  Calls Tryz.prog 44 #[.agg #[.bool ae,.slice ah aa.length ai,.int .i64 ag]] w fun e w'=>e = .returned (.int .i64 r)∧Below w.heap.size w w':=by
 have hu29:=Tryz.underlying29
 have bN:=zS br
 have bQ:=zS bu
 clear br bu
 have HB:=zS (Below.refl w.heap.size w)
 have H:(some (wrap64 ((wrap64 ((mx (aa.length:Int) 1)+ag)) - 1)))=some r:=h
 clear h
 obtain ⟨ji2,cC⟩:∃ j_:Int,(mx (aa.length:Int) 1)=j_:=⟨_,rfl⟩
 replace H:(some (wrap64 ((wrap64 ((ji2)+ag)) - 1)))=some r:=by first|(rw [cC] at H;exact H)|(simp only [cC] at H ⊢;exact H)
 (try (have hji2l:1≤ji2:=by (rw [← cC];unfold mx;(repeat' split) <;> omega)))
 (try (have hji2m:0≤ji2:=by omega))
 have fL:(if (aa.length:Int)<1 then 1 else (aa.length:Int))=ji2:=cC
 obtain rfl:=zE H
 go_enter Tryz.func44,Tryz.ntmps44
 go_wp2_with (first|((with_reducible refine gate_dst (N:=1) rfl ?_);refine box_event ?hg (N:=1) ?hd (cs:=#[.bool ae,.slice ah aa.length ai,.int .i64 ag]) (t:=29) ?hr ?_;(case hd=>rfl);(case hg=>rfl);(case hr=>first|(go_simp;done)|(go_simp;rfl));intro fM hg w3 hbox hb;have cV:=zS (hbox);have fN:=bg HB hg;replace HB:=bs HB hb;clear hb hbox hg;have gS:=blkc3 cV.out;have gT:=blkf3 cV.out))
 go_ret
 exact ⟨by first|rfl|(simp <;> rfl)|(simp only [← cC];first|rfl|(simp <;> rfl))|(simp [*] <;> rfl),bl HB⟩
def round_Sig.j0:Nat→Int→Int→Bool→Bool→List Int→Int→Option (Bool×List Int×Int×Int)
 | 0,_,_,_,_,_,_=>none
 | k+1,x1,x2,x15,bO,bH,bP=>if x15=true then (some (false,([]:List Int),0,1)) else ((dec_Mag.f bO bH bP).bind fun bW=>(if (bH.length:Int)=0 then (some (bO,bH,bP,0)) else (if (wrap64 ((wrap64 (bW - x1))+1))<(-1000) then (some (bO,bH,bP,0)) else ((round_To.f k bO bH bP (wrap64 ((wrap64 (bW - x1))+1)) x2).bind fun ck=>(some (ck.1,ck.2.1,ck.2.2.1,ck.2.2.2))))))
def round_Sig.f (k:Nat)(ae:Bool)(aa:List Int)(ag:Int)(a1:Int)(a2:Int):Option (Bool×List Int×Int×Int):=(round_Is.f a2).bind fun cD=>(if cD=true then (round_Sig.j0 k a1 a2 (decide (a1<1)) ae aa ag) else (round_Sig.j0 k a1 a2 true ae aa ag))
theorem round_Sig.mono_l:∀ k,(∀ y0 y1 y2 y3 y4 y5,LeO (round_Sig.j0 k y0 y1 y2 y3 y4 y5) (round_Sig.j0 (k+1) y0 y1 y2 y3 y4 y5))
 | 0=>fun _ _ _ _ _ _ r h=>by simp [round_Sig.j0] at h
 | k+1=>by
  have ih0:=round_Sig.mono_l k
  ·intro y0 y1 y2 y3 y4 y5
   unfold round_Sig.j0
   repeat' first|(with_reducible first|apply ih0|apply round_To.mono|apply LeO.refl|apply LeO.none|refine LeO.ite ?_ ?_|refine LeO.bind ?_ (fun _=>?_))|apply ih0|apply round_To.mono|apply LeO.none
theorem round_Sig.mono:∀ a0 a1 a2 a3 a4 k,LeO (round_Sig.f k a0 a1 a2 a3 a4) (round_Sig.f (k+1) a0 a1 a2 a3 a4):=by
 intro a0 a1 a2 a3 a4 k
 have ih0:=round_Sig.mono_l k
 unfold round_Sig.f
 repeat' first|(with_reducible first|apply ih0|apply round_To.mono|apply LeO.refl|apply LeO.none|refine LeO.ite ?_ ?_|refine LeO.bind ?_ (fun _=>?_))|apply ih0|apply round_To.mono|apply LeO.none
set_option maxHeartbeats 8000000 in
set_option maxRecDepth 100000 in
theorem round_Sig.calls (k:Nat)(ae:Bool)(aW:Nat→Prop)(ah:Option Addr)(ai:Nat)(aa:List Int)(ag:Int)(a1:Int)(a2:Int)(r1:Bool)(r2:List Int)(r3:Int)(r4:Int)(w:World)(hG:GL w)(b0:Kd.V (Kd.int .u8) 5 w w.heap.size (fun k_=>aW k_) (.slice ah aa.length ai) aa)(h:round_Sig.f k ae aa ag a1 a2=some (r1,r2,r3,r4)) :
  Calls Tryz.prog 40 #[.agg #[.bool ae,.slice ah aa.length ai,.int .i64 ag],.int .i64 a1,.int .i64 a2] w fun e w'=>∃ v1_:Value,e = .returned (.tuple #[.agg #[.bool r1,v1_,.int .i64 r3],.int .i64 r4])∧Kd.V (Kd.int .u8) 5 w' w.heap.size (fun k_=>(aW k_∨w.heap.size≤k_)) v1_ r2∧Below w.heap.size w w':=by
 have hu29:=Tryz.underlying29
 have aH:=zS (show Kd.V (Kd.int .u8) 5 w w.heap.size (fun k_=>(aW k_∨w.heap.size≤k_)) (.slice ah aa.length ai) aa from Kd.V_mono b0 (fun k_ hk=>.inl hk))
 have HB:=zS (Below.refl w.heap.size w)
 have HG:=zS hG
 clear hG
 have H:((round_Is.f a2).bind fun cD=>(if cD=true then (round_Sig.j0 k a1 a2 (decide (a1<1)) ae aa ag) else (round_Sig.j0 k a1 a2 true ae aa ag)))=some (r1,r2,r3,r4):=h
 clear h
 have HC4:=zS H
 clear H
 go_enter Tryz.func40,Tryz.ntmps40
 go_upto_region 1 with (first|((with_reducible refine gate_dst (N:=3) rfl ?_);refine box_event ?hg (N:=3) ?hd (cs:=#[.bool ae,.slice ah aa.length ai,.int .i64 ag]) (t:=29) ?hr ?_;(case hd=>rfl);(case hg=>rfl);(case hr=>first|(go_simp;done)|(go_simp;rfl));intro b3 hg w5 hbox hb;replace aH:=zS (Kd.V_below (Kd.V_elderB (vo aH) b3 (Nat.le_of_eq hg.symm)) hb);have av:=zS (hbox);have fO:=bg HB hg;replace HB:=bs HB hb;clear hb hbox hg)|((with_reducible refine gate_dst (N:=6) rfl ?_);refine box_event ?hg (N:=6) ?hd (cs:=#[.bool false,.slice none 0 0,.int .i64 0]) (t:=29) ?hr ?_;(case hd=>rfl);(case hg=>rfl);(case hr=>first|(go_simp;done)|(go_simp;rfl));intro aI hg w6 hbox hb;replace aH:=zS (Kd.V_below (Kd.V_elderB (vo aH) aI (Nat.le_of_eq hg.symm)) hb);have aC:=zS (hbox);have fP:=bg HB hg;replace HB:=bs HB hb;have bA:=kn av hg;have bB:=km av hg;replace av:=kb av hb;clear hb hbox hg))
 (try simp only [Act.put,sA,sB,sC])
 go_cut [15] (fun v15 wc=>∃ (kq:Nat) (cl:Bool),v15 = .bool cl∧Sd (round_Sig.j0 kq a1 a2 cl ae aa ag=some (r1,r2,r3,r4))∧Sd (kq≤k)∧Sd (Kd.V (Kd.int .u8) 5 wc w.heap.size (fun k_=>(aW k_∨w.heap.size≤k_)∧k_≠b3∧k_≠aI) (.slice ah aa.length ai) aa)∧Sd (wc.heap[b3]?=some (.cells #[.bool ae,(.slice ah aa.length ai),.int .i64 ag] 29 (0,0)))∧Sd (wc.heap[aI]?=some (.cells #[.bool false,(.slice none 0 0),.int .i64 0] 29 (0,0)))∧Sd (Below w.heap.size w wc))
 case first=>
  have H:=HC4.out
  clear HC4
  replace H:=Option.bind_eq_some_iff.mp H
  obtain ⟨cD,A70,H⟩:=H
  try dsimp only at H
  have A7:=zS A70
  clear A70
  by_cases c8:cD=true
  ·subst c8
   rw [if_pos rfl] at H
   have H':=zS H
   clear H
   go_wp2_with (first|((with_reducible refine gate_callee (f:=73) rfl ?_);refine gL (some 10) Tryz.func73 #[.int .i64 a2] ?_;(with_reducible refine (round_Is.calls a2 true _ A7.out).mono ?_);rintro e w' ⟨rfl,⟨nd,rfl⟩⟩;refine ⟨_,rfl,?_⟩))
   go_meet
   case rel=>exact ⟨_,(decide (a1<1)),(by first|rfl|(simp;done)|(simp [*];done)),H',⟨by first|omega|exact Nat.le_refl _⟩,⟨by (with_reducible repeat (first|apply Kd.V_alloc|apply Kd.V_drewN|apply Kd.V_drew));exact Kd.V_mono aH.out (fun _ hk=>⟨hk.1.1,⟨hk.1.2,hk.2⟩⟩)⟩,⟨ko av⟩,⟨ko aC⟩,⟨bl HB⟩⟩
  replace c8:=Bool.eq_false_iff.mpr c8
  subst c8
  rw [if_neg (show ¬ (false=true) by decide)] at H
  have H':=zS H
  clear H
  go_wp2_with (first|((with_reducible refine gate_callee (f:=73) rfl ?_);refine gL (some 10) Tryz.func73 #[.int .i64 a2] ?_;(with_reducible refine (round_Is.calls a2 false _ A7.out).mono ?_);rintro e w' ⟨rfl,⟨nd,rfl⟩⟩;refine ⟨_,rfl,?_⟩))
  go_meet
  case rel=>exact ⟨_,(true),(by first|rfl|(simp;done)|(simp [*];done)),H',⟨by first|omega|exact Nat.le_refl _⟩,⟨by (with_reducible repeat (first|apply Kd.V_alloc|apply Kd.V_drewN|apply Kd.V_drew));exact Kd.V_mono aH.out (fun _ hk=>⟨hk.1.1,⟨hk.1.2,hk.2⟩⟩)⟩,⟨ko av⟩,⟨ko aC⟩,⟨bl HB⟩⟩
 case rest=>
  clear HC4
  try clear p2
  try clear c4
  try clear c7
  try clear c8
  obtain ⟨kq,cl,rfl,HA,HJ3,HO_187001,av,aC,HB⟩:=hcut
  cases kq with
  | zero=>exact absurd HA.out (by simp [round_Sig.j0])
  | succ kj3=>
   have H:=HA.out
   clear HA
   simp only [round_Sig.j0] at H
   by_cases c9:cl=true
   ·subst c9
    rw [if_pos rfl] at H
    simp only [Option.some.injEq,Prod.mk.injEq] at H
    obtain ⟨rfl,rfl,rfl,rfl⟩:=H
    have d6:=bB.out
    have d7:=bA.out
    have d8:=blkc3 aC.out
    have d9:=blkf3 aC.out
    go_wp2
    refine bodyPost_ret (results_ct rfl _ _ aI 29 #[.bool false,.slice none 0 0,.int .i64 0] (0,0) _ rfl (kp aC rfl) Tryz.underlying29 rfl (by kernel_rfl)) rfl ?_
    exact ⟨_,by first|rfl|(simp <;> rfl)|(simp [*] <;> rfl),(by first|exact Kd.V_nil _ _ _ _ _|exact (Kd.V_mono (Kd.R_V (by first|exact Kd.R_nil _ _ _ _ _|exact Kd.R_nil _ _ _ 0 _|exact Kd.N_nil _ _ _ _ _|exact Kd.V_nil _ _ _ _ _|exact Kd.Q_nil _ _ _ _ _|exact Kd.S_nil _ _ _ _ _)) (fun k_ hk=>by first|exact ⟨(.inr (hk.1)),hk.2⟩|exact (.inr (hk))))),bl HB⟩
   replace c9:=Bool.eq_false_iff.mpr c9
   subst c9
   rw [if_neg (show ¬ (false=true) by decide)] at H
   replace H:=Option.bind_eq_some_iff.mp H
   obtain ⟨bW,ea,H⟩:=H
   try dsimp only at H
   have A12:=zS ea
   clear ea
   by_cases c13:(aa.length:Int)=0
   ·rw [if_pos c13] at H
    have eb:((aa.length:Int) == 0)=true:=zH c13
    have ec:((aa.length:Int) != 0)=false:=zG c13
    clear c13
    simp only [Option.some.injEq,Prod.mk.injEq] at H
    obtain ⟨rfl,rfl,rfl,rfl⟩:=H
    have fQ:=bA.out
    have fR:=bB.out
    have cE:=blkc3 av.out
    have cF:=blkf3 av.out
    go_wp2_with (first|((with_reducible refine gate_callee (f:=44) rfl ?_);refine gL (some 18) Tryz.func44 #[.agg #[.bool ae,.slice ah aa.length ai,.int .i64 ag]] ?_;(with_reducible refine (dec_Mag.calls ae _ _ aa ag bW _ (vc HO_187001) (vl HO_187001) A12.out).mono ?_);rintro e w16 ⟨rfl,hb⟩;refine ⟨_,rfl,?_⟩;replace HO_187001:=vb HO_187001 hb;replace av:=kb av hb;replace aC:=kb aC hb;replace HB:=bs HB hb;(try clear hb);have fS:=blkc3 av.out;have fT:=blkf3 av.out;have ed:=blkc3 aC.out;have ee:=blkf3 aC.out))
    refine bodyPost_ret (results_ct rfl _ _ aI 29 #[.bool ae,.slice ah aa.length ai,.int .i64 ag] (0,0) _ rfl (kp aC rfl) Tryz.underlying29 rfl (by kernel_rfl)) rfl ?_
    exact ⟨_,by first|rfl|(simp <;> rfl)|(simp [*] <;> rfl),by (with_reducible repeat (first|apply Kd.V_alloc|apply Kd.V_drewN|apply Kd.V_drew));exact Kd.V_mono (Kd.V_far (p:=⟨aI,2,none⟩) (Kd.V_far (p:=⟨aI,1,none⟩) (Kd.V_far (p:=⟨aI,0,none⟩) (Kd.V_mono HO_187001.out (fun k_ hk=>(⟨hk,hk.2.2⟩:_∧k_≠aI))) (fun _ hk=>hk.2) (.bool ae)) (fun _ hk=>hk.2) (.slice ah aa.length ai)) (fun _ hk=>hk.2) (.int .i64 ag)) (fun _ hk=>hk.1.1),bl HB⟩
   rw [if_neg c13] at H
   have eb:((aa.length:Int) == 0)=false:=zF c13
   have ec:((aa.length:Int) != 0)=true:=zI c13
   have fU:¬ (aa=[]):=fun h_=>c13 (by rw [h_];rfl)
   by_cases c19:(wrap64 ((wrap64 (bW - a1))+1))<(-1000)
   ·rw [if_pos c19] at H
    have ef:=zC c19
    clear c19
    simp only [Option.some.injEq,Prod.mk.injEq] at H
    obtain ⟨rfl,rfl,rfl,rfl⟩:=H
    have fV:=bA.out
    have fW:=bB.out
    have fX:=blkc3 av.out
    have fY:=blkf3 av.out
    go_wp2_with (first|((with_reducible refine gate_callee (f:=44) rfl ?_);refine gL (some 18) Tryz.func44 #[.agg #[.bool ae,.slice ah aa.length ai,.int .i64 ag]] ?_;(with_reducible refine (dec_Mag.calls ae _ _ aa ag bW _ (vc HO_187001) (vl HO_187001) A12.out).mono ?_);rintro e w22 ⟨rfl,hb⟩;refine ⟨_,rfl,?_⟩;replace HO_187001:=vb HO_187001 hb;replace av:=kb av hb;replace aC:=kb aC hb;replace HB:=bs HB hb;(try clear hb);have eg:=blkc3 av.out;have eh:=blkf3 av.out;have fZ:=blkc3 aC.out;have f0:=blkf3 aC.out))
    refine bodyPost_ret (results_ct rfl _ _ aI 29 #[.bool ae,.slice ah aa.length ai,.int .i64 ag] (0,0) _ rfl (kp aC rfl) Tryz.underlying29 rfl (by kernel_rfl)) rfl ?_
    exact ⟨_,by first|rfl|(simp <;> rfl)|(simp [*] <;> rfl),by (with_reducible repeat (first|apply Kd.V_alloc|apply Kd.V_drewN|apply Kd.V_drew));exact Kd.V_mono (Kd.V_far (p:=⟨aI,2,none⟩) (Kd.V_far (p:=⟨aI,1,none⟩) (Kd.V_far (p:=⟨aI,0,none⟩) (Kd.V_mono HO_187001.out (fun k_ hk=>(⟨hk,hk.2.2⟩:_∧k_≠aI))) (fun _ hk=>hk.2) (.bool ae)) (fun _ hk=>hk.2) (.slice ah aa.length ai)) (fun _ hk=>hk.2) (.int .i64 ag)) (fun _ hk=>hk.1.1),bl HB⟩
   rw [if_neg c19] at H
   have ef:=zD c19
   clear c19
   replace H:=Option.bind_eq_some_iff.mp H
   obtain ⟨⟨dk,dl,dm,eY⟩,ei,H⟩:=H
   try dsimp only at H
   have A25:=zS ei
   clear ei
   simp only [Option.some.injEq,Prod.mk.injEq] at H
   obtain ⟨rfl,rfl,rfl,rfl⟩:=H
   have cO:=bA.out
   have cP:=bB.out
   have ej:=blkc3 av.out
   have ek:=blkf3 av.out
   go_wp2_with (first|((with_reducible refine gate_callee (f:=44) rfl ?_);refine gL (some 18) Tryz.func44 #[.agg #[.bool ae,.slice ah aa.length ai,.int .i64 ag]] ?_;(with_reducible refine (dec_Mag.calls ae _ _ aa ag bW _ (vc HO_187001) (vl HO_187001) A12.out).mono ?_);rintro e w28 ⟨rfl,hb⟩;refine ⟨_,rfl,?_⟩;replace HO_187001:=vb HO_187001 hb;replace av:=kb av hb;replace aC:=kb aC hb;replace HB:=bs HB hb;(try clear hb);have cQ:=blkc3 av.out;have cR:=blkf3 av.out)|((with_reducible refine gate_callee (f:=41) rfl ?_);refine gL (some 34) Tryz.func41 #[.agg #[.bool ae,.slice ah aa.length ai,.int .i64 ag],.int .i64 (wrap64 ((wrap64 (bW - a1))+1)),.int .i64 a2] ?_;(with_reducible refine (round_To.calls kj3 ae (fun k_=>((aW k_∨w.heap.size≤k_)∧(k_≠b3∧k_≠aI))) _ _ aa ag (wrap64 ((wrap64 (bW - a1))+1)) a2 dk dl dm eY _ ?side2 ?side1 A25.out).mono ?_);(case side1=>exact HO_187001.out);(case side2=>refine GL.below HG.out ?_;exact bl HB);rintro e w30 ⟨gU,rfl,ho0,hb⟩;refine ⟨_,rfl,?_⟩;replace HO_187001:=vb HO_187001 hb;have cW:=zS (Kd.V_lower (Kd.V_mono (ok':=fun k_=>(aW k_∨w.heap.size≤k_)∧k_≠b3∧k_≠aI) ho0 (fun k_ hk_=>⟨Or.elim hk_ (fun hs_=>hs_.1) (fun hn_=>(.inr (Nat.le_trans (bz HB) hn_))),Or.elim hk_ (fun hs_=>hs_.2.1) (fun hn_=>(Kd.freshB (ko av) k_ hn_)),Or.elim hk_ (fun hs_=>hs_.2.2) (fun hn_=>(Kd.freshB (ko aC) k_ hn_))⟩)) (bz HB));replace av:=kb av hb;replace aC:=kb aC hb;replace HB:=bs HB hb;(try clear hb);(try clear ho0);have f1:=blkc3 aC.out;have f2:=blkf3 aC.out;obtain ⟨el,em,eZ⟩:=Kd.V_slice cW.out;subst eZ))
   refine bodyPost_ret (results_ct rfl _ _ aI 29 #[.bool dk,.slice el dl.length em,.int .i64 dm] (0,0) _ rfl (kp aC rfl) Tryz.underlying29 rfl (by kernel_rfl)) rfl ?_
   exact ⟨_,by first|rfl|(simp <;> rfl)|(simp [*] <;> rfl),by (with_reducible repeat (first|apply Kd.V_alloc|apply Kd.V_drewN|apply Kd.V_drew));exact Kd.V_mono (Kd.V_far (p:=⟨aI,2,none⟩) (Kd.V_far (p:=⟨aI,1,none⟩) (Kd.V_far (p:=⟨aI,0,none⟩) (Kd.V_mono cW.out (fun k_ hk=>(⟨hk,hk.2.2⟩:_∧k_≠aI))) (fun _ hk=>hk.2) (.bool dk)) (fun _ hk=>hk.2) (.slice el dl.length em)) (fun _ hk=>hk.2) (.int .i64 dm)) (fun _ hk=>hk.1.1),bl HB⟩
def shape_Round.f (k:Nat)(aK:List (S114))(aa:List (S114))(aL:List (S114))(aM:List (S114))(aX:Bool)(aY:Int)(aN:Int)(aO:Int)(aJ:Int)(aZ:Int)(aD:Int)(aw:Int)(am:Int)(ar:Int)(aE:Bool)(aF:Int)(aG:Int)(a1:Int)(ba:Bool)(aP:List Int)(bb:Int)(a3:Int):Option (Bool×List Int×Int×Int):=if ar>0 then ((round_Sig.f k ba aP bb (wrap64 (1+aJ)) a3).bind fun bI=>(some (bI.1,bI.2.1,bI.2.2.1,bI.2.2.2))) else (if am>0 then ((round_Sig.f k ba aP bb am a3).bind fun bJ=>(some (bJ.1,bJ.2.1,bJ.2.2.1,bJ.2.2.2))) else (if a1≥0 then ((round_To.f k ba aP bb (wrap64 (-a1)) a3).bind fun bK=>(some (bK.1,bK.2.1,bK.2.2.1,bK.2.2.2))) else ((round_To.f k ba aP bb (wrap64 (-aJ)) a3).bind fun bL=>(some (bL.1,bL.2.1,bL.2.2.1,bL.2.2.2)))))
theorem shape_Round.mono:∀ a0 a1 a2 a3 a4 a5 a6 a7 a8 a9 a10 a11 a12 a13 a14 a15 a16 a17 a18 a19 a20 a21 k,LeO (shape_Round.f k a0 a1 a2 a3 a4 a5 a6 a7 a8 a9 a10 a11 a12 a13 a14 a15 a16 a17 a18 a19 a20 a21) (shape_Round.f (k+1) a0 a1 a2 a3 a4 a5 a6 a7 a8 a9 a10 a11 a12 a13 a14 a15 a16 a17 a18 a19 a20 a21):=by
 intro a0 a1 a2 a3 a4 a5 a6 a7 a8 a9 a10 a11 a12 a13 a14 a15 a16 a17 a18 a19 a20 a21 k
 unfold shape_Round.f
 repeat' first|(with_reducible first|apply round_Sig.mono|apply round_To.mono|apply LeO.refl|apply LeO.none|refine LeO.ite ?_ ?_|refine LeO.bind ?_ (fun _=>?_))|apply round_Sig.mono|apply round_To.mono|apply LeO.none
set_option maxHeartbeats 8000000 in
set_option maxRecDepth 100000 in
theorem shape_Round.calls (k:Nat)(bh:Option Addr)(bi:Nat)(aK:List (S114))(ah:Option Addr)(ai:Nat)(aa:List (S114))(bj:Option Addr)(bk:Nat)(aL:List (S114))(bm:Option Addr)(bn:Nat)(aM:List (S114))(aX:Bool)(aY:Int)(aN:Int)(aO:Int)(aJ:Int)(aZ:Int)(aD:Int)(aw:Int)(am:Int)(ar:Int)(aE:Bool)(aF:Int)(aG:Int)(a1:Int)(ba:Bool)(bv:Nat→Prop)(bR:Option Addr)(bS:Nat)(aP:List Int)(bb:Int)(a3:Int)(r1:Bool)(r2:List Int)(r3:Int)(r4:Int)(w:World)(hG:GL w)(b4:Kd.C k114 w bh aK.length aK)(b5:aK.length≤bi)(br:Kd.C k114 w ah aa.length aa)(bu:aa.length≤ai)(b6:Kd.C k114 w bj aL.length aL)(b7:aL.length≤bk)(b8:Kd.C k114 w bm aM.length aM)(b9:aM.length≤bn)(en:Kd.V (Kd.int .u8) 5 w w.heap.size (fun k_=>bv k_) (.slice bR aP.length bS) aP)(h:shape_Round.f k aK aa aL aM aX aY aN aO aJ aZ aD aw am ar aE aF aG a1 ba aP bb a3=some (r1,r2,r3,r4)) :
  Calls Tryz.prog 15 #[.agg #[.slice bh aK.length bi,.slice ah aa.length ai,.slice bj aL.length bk,.slice bm aM.length bn,.bool aX,.int .i64 aY,.int .i64 aN,.int .i64 aO,.int .i64 aJ,.int .i64 aZ,.int .i64 aD,.int .i64 aw,.int .i64 am,.int .i64 ar,.bool aE,.int .i32 aF,.int .i64 aG],.int .i64 a1,.agg #[.bool ba,.slice bR aP.length bS,.int .i64 bb],.int .i64 a3] w fun e w'=>∃ v1_:Value,e = .returned (.tuple #[.agg #[.bool r1,v1_,.int .i64 r3],.int .i64 r4])∧Kd.V (Kd.int .u8) 5 w' w.heap.size (fun k_=>(bv k_∨w.heap.size≤k_)) v1_ r2∧Below w.heap.size w w':=by
 have hu26:=Tryz.underlying26
 have hu29:=Tryz.underlying29
 have eo:=zS b4
 have ep:=zS b5
 clear b4 b5
 have bN:=zS br
 have bQ:=zS bu
 clear br bu
 have eq:=zS b6
 have er:=zS b7
 clear b6 b7
 have es:=zS b8
 have et:=zS b9
 clear b8 b9
 have an:=zS (show Kd.V (Kd.int .u8) 5 w w.heap.size (fun k_=>(bv k_∨w.heap.size≤k_)) (.slice bR aP.length bS) aP from Kd.V_mono en (fun k_ hk=>.inl hk))
 have HB:=zS (Below.refl w.heap.size w)
 have HG:=zS hG
 clear hG
 have H:(if ar>0 then ((round_Sig.f k ba aP bb (wrap64 (1+aJ)) a3).bind fun bI=>(some (bI.1,bI.2.1,bI.2.2.1,bI.2.2.2))) else (if am>0 then ((round_Sig.f k ba aP bb am a3).bind fun bJ=>(some (bJ.1,bJ.2.1,bJ.2.2.1,bJ.2.2.2))) else (if a1≥0 then ((round_To.f k ba aP bb (wrap64 (-a1)) a3).bind fun bK=>(some (bK.1,bK.2.1,bK.2.2.1,bK.2.2.2))) else ((round_To.f k ba aP bb (wrap64 (-aJ)) a3).bind fun bL=>(some (bL.1,bL.2.1,bL.2.2.1,bL.2.2.2))))))=some (r1,r2,r3,r4):=h
 clear h
 by_cases c5:ar>0
 ·rw [if_pos c5] at H
  have e0:decide (0<ar)=true:=zC c5
  clear c5
  replace H:=Option.bind_eq_some_iff.mp H
  obtain ⟨⟨dn,dp,dq,e1⟩,A60,H⟩:=H
  try dsimp only at H
  have A6:=zS A60
  clear A60
  simp only [Option.some.injEq,Prod.mk.injEq] at H
  obtain ⟨rfl,rfl,rfl,rfl⟩:=H
  go_enter Tryz.func15,Tryz.ntmps15
  go_wp2_with (first|((with_reducible refine gate_dst (N:=4) rfl ?_);refine box_event ?hg (N:=4) ?hd (cs:=#[.slice bh aK.length bi,.slice ah aa.length ai,.slice bj aL.length bk,.slice bm aM.length bn,.bool aX,.int .i64 aY,.int .i64 aN,.int .i64 aO,.int .i64 aJ,.int .i64 aZ,.int .i64 aD,.int .i64 aw,.int .i64 am,.int .i64 ar,.bool aE,.int .i32 aF,.int .i64 aG]) (t:=26) ?hr ?_;(case hd=>rfl);(case hg=>rfl);(case hr=>first|(go_simp;done)|(go_simp;rfl));intro bc hg w7 hbox hb;replace an:=zS (Kd.V_below (Kd.V_elderB (vo an) bc (Nat.le_of_eq hg.symm)) hb);have af:=zS (hbox);have cG:=bg HB hg;replace HB:=bs HB hb;clear hb hbox hg)|((with_reducible refine gate_dst (N:=6) rfl ?_);refine box_event ?hg (N:=6) ?hd (cs:=#[.bool ba,.slice bR aP.length bS,.int .i64 bb]) (t:=29) ?hr ?_;(case hd=>rfl);(case hg=>rfl);(case hr=>first|(go_simp;done)|(go_simp;rfl));intro bd hg w8 hbox hb;replace an:=zS (Kd.V_below (Kd.V_elderB (vo an) bd (Nat.le_of_eq hg.symm)) hb);have al:=zS (hbox);have cH:=bg HB hg;replace HB:=bs HB hb;have aQ:=kn af hg;have aR:=km af hg;replace af:=kb af hb;clear hb hbox hg)|((with_reducible refine gate_dst (N:=8) rfl ?_);refine box_event ?hg (N:=8) ?hd (cs:=#[.bool false,.slice none 0 0,.int .i64 0]) (t:=29) ?hr ?_;(case hd=>rfl);(case hg=>rfl);(case hr=>first|(go_simp;done)|(go_simp;rfl));intro ao hg w9 hbox hb;replace an:=zS (Kd.V_below (Kd.V_elderB (vo an) ao (Nat.le_of_eq hg.symm)) hb);have az:=zS (hbox);have cI:=bg HB hg;replace HB:=bs HB hb;have aS:=kn af hg;have aT:=km af hg;replace af:=kb af hb;have aU:=kn al hg;have aV:=km al hg;replace al:=kb al hb;clear hb hbox hg;have d6:=aQ.out;have d7:=aR.out;have f3:=aS.out;have f4:=aT.out;have f5:=blkc17 af.out;have f6:=blkf17 af.out;have f7:=aU.out;have f8:=aV.out;have f9:=blkc3 al.out;have ga:=blkf3 al.out)|((with_reducible refine gate_callee (f:=40) rfl ?_);refine gL (some 19) Tryz.func40 #[.agg #[.bool ba,.slice bR aP.length bS,.int .i64 bb],.int .i64 (wrap64 (1+aJ)),.int .i64 a3] ?_;(with_reducible refine (round_Sig.calls k ba (fun k_=>((((bv k_∨w.heap.size≤k_)∧k_≠bc)∧k_≠bd)∧k_≠ao)) _ _ aP bb (wrap64 (1+aJ)) a3 dn dp dq e1 _ ?side2 ?side1 A6.out).mono ?_);(case side1=>exact an.out);(case side2=>refine GL.below HG.out ?_;exact bl HB);rintro e w15 ⟨gV,rfl,ho0,hb⟩;refine ⟨_,rfl,?_⟩;replace an:=vb an hb;have cX:=zS (Kd.V_lower (Kd.V_mono (ok':=fun k_=>(bv k_∨w.heap.size≤k_)∧k_≠bc∧k_≠bd∧k_≠ao) ho0 (fun k_ hk_=>⟨Or.elim hk_ (fun hs_=>hs_.1.1.1) (fun hn_=>(.inr (Nat.le_trans (bz HB) hn_))),Or.elim hk_ (fun hs_=>hs_.1.1.2) (fun hn_=>(Kd.freshB (ko af) k_ hn_)),Or.elim hk_ (fun hs_=>hs_.1.2) (fun hn_=>(Kd.freshB (ko al) k_ hn_)),Or.elim hk_ (fun hs_=>hs_.2) (fun hn_=>(Kd.freshB (ko az) k_ hn_))⟩)) (bz HB));replace af:=kb af hb;replace al:=kb al hb;replace az:=kb az hb;replace HB:=bs HB hb;(try clear hb);(try clear ho0);have eu:=blkc3 az.out;have ev:=blkf3 az.out;obtain ⟨ew,ex,e2⟩:=Kd.V_slice cX.out;subst e2))
  refine bodyPost_ret (results_ct rfl _ _ ao 29 #[.bool dn,.slice ew dp.length ex,.int .i64 dq] (0,0) _ rfl (kp az rfl) Tryz.underlying29 rfl (by kernel_rfl)) rfl ?_
  exact ⟨_,by first|rfl|(simp <;> rfl)|(simp [*] <;> rfl),by (with_reducible repeat (first|apply Kd.V_alloc|apply Kd.V_drewN|apply Kd.V_drew));exact Kd.V_mono (Kd.V_far (p:=⟨ao,2,none⟩) (Kd.V_far (p:=⟨ao,1,none⟩) (Kd.V_far (p:=⟨ao,0,none⟩) (Kd.V_mono cX.out (fun k_ hk=>(⟨hk,hk.2.2.2⟩:_∧k_≠ao))) (fun _ hk=>hk.2) (.bool dn)) (fun _ hk=>hk.2) (.slice ew dp.length ex)) (fun _ hk=>hk.2) (.int .i64 dq)) (fun _ hk=>hk.1.1),bl HB⟩
 rw [if_neg c5] at H
 have e0:decide (0<ar)=false:=zD c5
 clear c5
 by_cases c18:am>0
 ·rw [if_pos c18] at H
  have ey:decide (0<am)=true:=zC c18
  clear c18
  replace H:=Option.bind_eq_some_iff.mp H
  obtain ⟨⟨dr,dt,du,e3⟩,cw,H⟩:=H
  try dsimp only at H
  have A19:=zS cw
  clear cw
  simp only [Option.some.injEq,Prod.mk.injEq] at H
  obtain ⟨rfl,rfl,rfl,rfl⟩:=H
  go_enter Tryz.func15,Tryz.ntmps15
  go_wp2_with (first|((with_reducible refine gate_dst (N:=4) rfl ?_);refine box_event ?hg (N:=4) ?hd (cs:=#[.slice bh aK.length bi,.slice ah aa.length ai,.slice bj aL.length bk,.slice bm aM.length bn,.bool aX,.int .i64 aY,.int .i64 aN,.int .i64 aO,.int .i64 aJ,.int .i64 aZ,.int .i64 aD,.int .i64 aw,.int .i64 am,.int .i64 ar,.bool aE,.int .i32 aF,.int .i64 aG]) (t:=26) ?hr ?_;(case hd=>rfl);(case hg=>rfl);(case hr=>first|(go_simp;done)|(go_simp;rfl));intro bc hg w20 hbox hb;replace an:=zS (Kd.V_below (Kd.V_elderB (vo an) bc (Nat.le_of_eq hg.symm)) hb);have af:=zS (hbox);have cG:=bg HB hg;replace HB:=bs HB hb;clear hb hbox hg)|((with_reducible refine gate_dst (N:=6) rfl ?_);refine box_event ?hg (N:=6) ?hd (cs:=#[.bool ba,.slice bR aP.length bS,.int .i64 bb]) (t:=29) ?hr ?_;(case hd=>rfl);(case hg=>rfl);(case hr=>first|(go_simp;done)|(go_simp;rfl));intro bd hg w21 hbox hb;replace an:=zS (Kd.V_below (Kd.V_elderB (vo an) bd (Nat.le_of_eq hg.symm)) hb);have al:=zS (hbox);have cH:=bg HB hg;replace HB:=bs HB hb;have aQ:=kn af hg;have aR:=km af hg;replace af:=kb af hb;clear hb hbox hg)|((with_reducible refine gate_dst (N:=8) rfl ?_);refine box_event ?hg (N:=8) ?hd (cs:=#[.bool false,.slice none 0 0,.int .i64 0]) (t:=29) ?hr ?_;(case hd=>rfl);(case hg=>rfl);(case hr=>first|(go_simp;done)|(go_simp;rfl));intro ao hg w22 hbox hb;replace an:=zS (Kd.V_below (Kd.V_elderB (vo an) ao (Nat.le_of_eq hg.symm)) hb);have az:=zS (hbox);have cI:=bg HB hg;replace HB:=bs HB hb;have aS:=kn af hg;have aT:=km af hg;replace af:=kb af hb;have aU:=kn al hg;have aV:=km al hg;replace al:=kb al hb;clear hb hbox hg;have gb:=aQ.out;have gc:=aR.out;have ge:=aS.out;have gg:=aT.out;have ez:=blkc17 af.out;have eA:=blkf17 af.out;have cO:=aU.out;have cP:=aV.out;have ej:=blkc3 al.out;have ek:=blkf3 al.out)|((with_reducible refine gate_callee (f:=40) rfl ?_);refine gL (some 30) Tryz.func40 #[.agg #[.bool ba,.slice bR aP.length bS,.int .i64 bb],.int .i64 am,.int .i64 a3] ?_;(with_reducible refine (round_Sig.calls k ba (fun k_=>((((bv k_∨w.heap.size≤k_)∧k_≠bc)∧k_≠bd)∧k_≠ao)) _ _ aP bb am a3 dr dt du e3 _ ?side2 ?side1 A19.out).mono ?_);(case side1=>exact an.out);(case side2=>refine GL.below HG.out ?_;exact bl HB);rintro e w28 ⟨gW,rfl,ho0,hb⟩;refine ⟨_,rfl,?_⟩;replace an:=vb an hb;have cY:=zS (Kd.V_lower (Kd.V_mono (ok':=fun k_=>(bv k_∨w.heap.size≤k_)∧k_≠bc∧k_≠bd∧k_≠ao) ho0 (fun k_ hk_=>⟨Or.elim hk_ (fun hs_=>hs_.1.1.1) (fun hn_=>(.inr (Nat.le_trans (bz HB) hn_))),Or.elim hk_ (fun hs_=>hs_.1.1.2) (fun hn_=>(Kd.freshB (ko af) k_ hn_)),Or.elim hk_ (fun hs_=>hs_.1.2) (fun hn_=>(Kd.freshB (ko al) k_ hn_)),Or.elim hk_ (fun hs_=>hs_.2) (fun hn_=>(Kd.freshB (ko az) k_ hn_))⟩)) (bz HB));replace af:=kb af hb;replace al:=kb al hb;replace az:=kb az hb;replace HB:=bs HB hb;(try clear hb);(try clear ho0);have cQ:=blkc3 az.out;have cR:=blkf3 az.out;obtain ⟨eB,eC,e4⟩:=Kd.V_slice cY.out;subst e4))
  refine bodyPost_ret (results_ct rfl _ _ ao 29 #[.bool dr,.slice eB dt.length eC,.int .i64 du] (0,0) _ rfl (kp az rfl) Tryz.underlying29 rfl (by kernel_rfl)) rfl ?_
  exact ⟨_,by first|rfl|(simp <;> rfl)|(simp [*] <;> rfl),by (with_reducible repeat (first|apply Kd.V_alloc|apply Kd.V_drewN|apply Kd.V_drew));exact Kd.V_mono (Kd.V_far (p:=⟨ao,2,none⟩) (Kd.V_far (p:=⟨ao,1,none⟩) (Kd.V_far (p:=⟨ao,0,none⟩) (Kd.V_mono cY.out (fun k_ hk=>(⟨hk,hk.2.2.2⟩:_∧k_≠ao))) (fun _ hk=>hk.2) (.bool dr)) (fun _ hk=>hk.2) (.slice eB dt.length eC)) (fun _ hk=>hk.2) (.int .i64 du)) (fun _ hk=>hk.1.1),bl HB⟩
 rw [if_neg c18] at H
 have ey:decide (0<am)=false:=zD c18
 clear c18
 by_cases c31:a1≥0
 ·rw [if_pos c31] at H
  have eD:decide (0≤a1)=true:=zC c31
  clear c31
  replace H:=Option.bind_eq_some_iff.mp H
  obtain ⟨⟨dv,dw,dx,e5⟩,eE,H⟩:=H
  try dsimp only at H
  have A32:=zS eE
  clear eE
  simp only [Option.some.injEq,Prod.mk.injEq] at H
  obtain ⟨rfl,rfl,rfl,rfl⟩:=H
  go_enter Tryz.func15,Tryz.ntmps15
  go_wp2_with (first|((with_reducible refine gate_dst (N:=4) rfl ?_);refine box_event ?hg (N:=4) ?hd (cs:=#[.slice bh aK.length bi,.slice ah aa.length ai,.slice bj aL.length bk,.slice bm aM.length bn,.bool aX,.int .i64 aY,.int .i64 aN,.int .i64 aO,.int .i64 aJ,.int .i64 aZ,.int .i64 aD,.int .i64 aw,.int .i64 am,.int .i64 ar,.bool aE,.int .i32 aF,.int .i64 aG]) (t:=26) ?hr ?_;(case hd=>rfl);(case hg=>rfl);(case hr=>first|(go_simp;done)|(go_simp;rfl));intro bc hg w33 hbox hb;replace an:=zS (Kd.V_below (Kd.V_elderB (vo an) bc (Nat.le_of_eq hg.symm)) hb);have af:=zS (hbox);have cG:=bg HB hg;replace HB:=bs HB hb;clear hb hbox hg)|((with_reducible refine gate_dst (N:=6) rfl ?_);refine box_event ?hg (N:=6) ?hd (cs:=#[.bool ba,.slice bR aP.length bS,.int .i64 bb]) (t:=29) ?hr ?_;(case hd=>rfl);(case hg=>rfl);(case hr=>first|(go_simp;done)|(go_simp;rfl));intro bd hg w34 hbox hb;replace an:=zS (Kd.V_below (Kd.V_elderB (vo an) bd (Nat.le_of_eq hg.symm)) hb);have al:=zS (hbox);have cH:=bg HB hg;replace HB:=bs HB hb;have aQ:=kn af hg;have aR:=km af hg;replace af:=kb af hb;clear hb hbox hg)|((with_reducible refine gate_dst (N:=8) rfl ?_);refine box_event ?hg (N:=8) ?hd (cs:=#[.bool false,.slice none 0 0,.int .i64 0]) (t:=29) ?hr ?_;(case hd=>rfl);(case hg=>rfl);(case hr=>first|(go_simp;done)|(go_simp;rfl));intro ao hg w35 hbox hb;replace an:=zS (Kd.V_below (Kd.V_elderB (vo an) ao (Nat.le_of_eq hg.symm)) hb);have az:=zS (hbox);have cI:=bg HB hg;replace HB:=bs HB hb;have aS:=kn af hg;have aT:=km af hg;replace af:=kb af hb;have aU:=kn al hg;have aV:=km al hg;replace al:=kb al hb;clear hb hbox hg;have gh:=aQ.out;have gi:=aR.out;have gj:=aS.out;have gk:=aT.out;have gl:=blkc17 af.out;have gm:=blkf17 af.out;have gn:=aU.out;have go:=aV.out;have gp:=blkc3 al.out;have gq:=blkf3 al.out)|((with_reducible refine gate_callee (f:=41) rfl ?_);refine gL (some 40) Tryz.func41 #[.agg #[.bool ba,.slice bR aP.length bS,.int .i64 bb],.int .i64 (wrap64 (-a1)),.int .i64 a3] ?_;(with_reducible refine (round_To.calls k ba (fun k_=>((((bv k_∨w.heap.size≤k_)∧k_≠bc)∧k_≠bd)∧k_≠ao)) _ _ aP bb (wrap64 (-a1)) a3 dv dw dx e5 _ ?side2 ?side1 A32.out).mono ?_);(case side1=>exact an.out);(case side2=>refine GL.below HG.out ?_;exact bl HB);rintro e w41 ⟨gX,rfl,ho0,hb⟩;refine ⟨_,rfl,?_⟩;replace an:=vb an hb;have cZ:=zS (Kd.V_lower (Kd.V_mono (ok':=fun k_=>(bv k_∨w.heap.size≤k_)∧k_≠bc∧k_≠bd∧k_≠ao) ho0 (fun k_ hk_=>⟨Or.elim hk_ (fun hs_=>hs_.1.1.1) (fun hn_=>(.inr (Nat.le_trans (bz HB) hn_))),Or.elim hk_ (fun hs_=>hs_.1.1.2) (fun hn_=>(Kd.freshB (ko af) k_ hn_)),Or.elim hk_ (fun hs_=>hs_.1.2) (fun hn_=>(Kd.freshB (ko al) k_ hn_)),Or.elim hk_ (fun hs_=>hs_.2) (fun hn_=>(Kd.freshB (ko az) k_ hn_))⟩)) (bz HB));replace af:=kb af hb;replace al:=kb al hb;replace az:=kb az hb;replace HB:=bs HB hb;(try clear hb);(try clear ho0);have gr:=blkc3 az.out;have gs:=blkf3 az.out;obtain ⟨eF,eG,e6⟩:=Kd.V_slice cZ.out;subst e6))
  refine bodyPost_ret (results_ct rfl _ _ ao 29 #[.bool dv,.slice eF dw.length eG,.int .i64 dx] (0,0) _ rfl (kp az rfl) Tryz.underlying29 rfl (by kernel_rfl)) rfl ?_
  exact ⟨_,by first|rfl|(simp <;> rfl)|(simp [*] <;> rfl),by (with_reducible repeat (first|apply Kd.V_alloc|apply Kd.V_drewN|apply Kd.V_drew));exact Kd.V_mono (Kd.V_far (p:=⟨ao,2,none⟩) (Kd.V_far (p:=⟨ao,1,none⟩) (Kd.V_far (p:=⟨ao,0,none⟩) (Kd.V_mono cZ.out (fun k_ hk=>(⟨hk,hk.2.2.2⟩:_∧k_≠ao))) (fun _ hk=>hk.2) (.bool dv)) (fun _ hk=>hk.2) (.slice eF dw.length eG)) (fun _ hk=>hk.2) (.int .i64 dx)) (fun _ hk=>hk.1.1),bl HB⟩
 rw [if_neg c31] at H
 have eD:decide (0≤a1)=false:=zD c31
 clear c31
 replace H:=Option.bind_eq_some_iff.mp H
 obtain ⟨⟨dy,dz,dA,e7⟩,eH,H⟩:=H
 try dsimp only at H
 have A44:=zS eH
 clear eH
 simp only [Option.some.injEq,Prod.mk.injEq] at H
 obtain ⟨rfl,rfl,rfl,rfl⟩:=H
 go_enter Tryz.func15,Tryz.ntmps15
 go_wp2_with (first|((with_reducible refine gate_dst (N:=4) rfl ?_);refine box_event ?hg (N:=4) ?hd (cs:=#[.slice bh aK.length bi,.slice ah aa.length ai,.slice bj aL.length bk,.slice bm aM.length bn,.bool aX,.int .i64 aY,.int .i64 aN,.int .i64 aO,.int .i64 aJ,.int .i64 aZ,.int .i64 aD,.int .i64 aw,.int .i64 am,.int .i64 ar,.bool aE,.int .i32 aF,.int .i64 aG]) (t:=26) ?hr ?_;(case hd=>rfl);(case hg=>rfl);(case hr=>first|(go_simp;done)|(go_simp;rfl));intro bc hg w45 hbox hb;replace an:=zS (Kd.V_below (Kd.V_elderB (vo an) bc (Nat.le_of_eq hg.symm)) hb);have af:=zS (hbox);have cG:=bg HB hg;replace HB:=bs HB hb;clear hb hbox hg)|((with_reducible refine gate_dst (N:=6) rfl ?_);refine box_event ?hg (N:=6) ?hd (cs:=#[.bool ba,.slice bR aP.length bS,.int .i64 bb]) (t:=29) ?hr ?_;(case hd=>rfl);(case hg=>rfl);(case hr=>first|(go_simp;done)|(go_simp;rfl));intro bd hg w46 hbox hb;replace an:=zS (Kd.V_below (Kd.V_elderB (vo an) bd (Nat.le_of_eq hg.symm)) hb);have al:=zS (hbox);have cH:=bg HB hg;replace HB:=bs HB hb;have aQ:=kn af hg;have aR:=km af hg;replace af:=kb af hb;clear hb hbox hg)|((with_reducible refine gate_dst (N:=8) rfl ?_);refine box_event ?hg (N:=8) ?hd (cs:=#[.bool false,.slice none 0 0,.int .i64 0]) (t:=29) ?hr ?_;(case hd=>rfl);(case hg=>rfl);(case hr=>first|(go_simp;done)|(go_simp;rfl));intro ao hg w47 hbox hb;replace an:=zS (Kd.V_below (Kd.V_elderB (vo an) ao (Nat.le_of_eq hg.symm)) hb);have az:=zS (hbox);have cI:=bg HB hg;replace HB:=bs HB hb;have aS:=kn af hg;have aT:=km af hg;replace af:=kb af hb;have aU:=kn al hg;have aV:=km al hg;replace al:=kb al hb;clear hb hbox hg;have dV:=aQ.out;have dW:=aR.out;have dX:=aS.out;have dY:=aT.out;have dZ:=blkc17 af.out;have d0:=blkf17 af.out;have gt:=aU.out;have gu:=aV.out;have gv:=blkc3 al.out;have gw:=blkf3 al.out)|((with_reducible refine gate_callee (f:=41) rfl ?_);refine gL (some 48) Tryz.func41 #[.agg #[.bool ba,.slice bR aP.length bS,.int .i64 bb],.int .i64 (wrap64 (-aJ)),.int .i64 a3] ?_;(with_reducible refine (round_To.calls k ba (fun k_=>((((bv k_∨w.heap.size≤k_)∧k_≠bc)∧k_≠bd)∧k_≠ao)) _ _ aP bb (wrap64 (-aJ)) a3 dy dz dA e7 _ ?side2 ?side1 A44.out).mono ?_);(case side1=>exact an.out);(case side2=>refine GL.below HG.out ?_;exact bl HB);rintro e w53 ⟨gY,rfl,ho0,hb⟩;refine ⟨_,rfl,?_⟩;replace an:=vb an hb;have c0:=zS (Kd.V_lower (Kd.V_mono (ok':=fun k_=>(bv k_∨w.heap.size≤k_)∧k_≠bc∧k_≠bd∧k_≠ao) ho0 (fun k_ hk_=>⟨Or.elim hk_ (fun hs_=>hs_.1.1.1) (fun hn_=>(.inr (Nat.le_trans (bz HB) hn_))),Or.elim hk_ (fun hs_=>hs_.1.1.2) (fun hn_=>(Kd.freshB (ko af) k_ hn_)),Or.elim hk_ (fun hs_=>hs_.1.2) (fun hn_=>(Kd.freshB (ko al) k_ hn_)),Or.elim hk_ (fun hs_=>hs_.2) (fun hn_=>(Kd.freshB (ko az) k_ hn_))⟩)) (bz HB));replace af:=kb af hb;replace al:=kb al hb;replace az:=kb az hb;replace HB:=bs HB hb;(try clear hb);(try clear ho0);have gx:=blkc3 az.out;have gy:=blkf3 az.out;obtain ⟨cx,cy,cM⟩:=Kd.V_slice c0.out;subst cM))
 refine bodyPost_ret (results_ct rfl _ _ ao 29 #[.bool dy,.slice cx dz.length cy,.int .i64 dA] (0,0) _ rfl (kp az rfl) Tryz.underlying29 rfl (by kernel_rfl)) rfl ?_
 exact ⟨_,by first|rfl|(simp <;> rfl)|(simp [*] <;> rfl),by (with_reducible repeat (first|apply Kd.V_alloc|apply Kd.V_drewN|apply Kd.V_drew));exact Kd.V_mono (Kd.V_far (p:=⟨ao,2,none⟩) (Kd.V_far (p:=⟨ao,1,none⟩) (Kd.V_far (p:=⟨ao,0,none⟩) (Kd.V_mono c0.out (fun k_ hk=>(⟨hk,hk.2.2.2⟩:_∧k_≠ao))) (fun _ hk=>hk.2) (.bool dy)) (fun _ hk=>hk.2) (.slice cx dz.length cy)) (fun _ hk=>hk.2) (.int .i64 dA)) (fun _ hk=>hk.1.1),bl HB⟩
def shape_least.f (aK:List (S114))(aa:List (S114))(aL:List (S114))(aM:List (S114))(aX:Bool)(aY:Int)(aN:Int)(aO:Int)(aJ:Int)(aZ:Int)(aD:Int)(aw:Int)(am:Int)(ar:Int)(aE:Bool)(aF:Int)(aG:Int)(a1:Int)(a2:Int):Option (Int×Int):=if ar>0 then (some (aN,aO)) else (if am>0 then (some (1,mx (wrap64 ((wrap64 (aw - 1)) - a2)) 0)) else (if a1≥0 then (some (aN,a1)) else (some (aN,aO))))
set_option maxHeartbeats 8000000 in
set_option maxRecDepth 100000 in
theorem shape_least.calls (bh:Option Addr)(bi:Nat)(aK:List (S114))(ah:Option Addr)(ai:Nat)(aa:List (S114))(bj:Option Addr)(bk:Nat)(aL:List (S114))(bm:Option Addr)(bn:Nat)(aM:List (S114))(aX:Bool)(aY:Int)(aN:Int)(aO:Int)(aJ:Int)(aZ:Int)(aD:Int)(aw:Int)(am:Int)(ar:Int)(aE:Bool)(aF:Int)(aG:Int)(a1:Int)(a2:Int)(r1:Int)(r2:Int)(w:World)(b4:Kd.C k114 w bh aK.length aK)(b5:aK.length≤bi)(br:Kd.C k114 w ah aa.length aa)(bu:aa.length≤ai)(b6:Kd.C k114 w bj aL.length aL)(b7:aL.length≤bk)(b8:Kd.C k114 w bm aM.length aM)(b9:aM.length≤bn)(h:shape_least.f aK aa aL aM aX aY aN aO aJ aZ aD aw am ar aE aF aG a1 a2=some (r1,r2)) :
  Calls Tryz.prog 45 #[.agg #[.slice bh aK.length bi,.slice ah aa.length ai,.slice bj aL.length bk,.slice bm aM.length bn,.bool aX,.int .i64 aY,.int .i64 aN,.int .i64 aO,.int .i64 aJ,.int .i64 aZ,.int .i64 aD,.int .i64 aw,.int .i64 am,.int .i64 ar,.bool aE,.int .i32 aF,.int .i64 aG],.int .i64 a1,.int .i64 a2] w fun e w'=>e = .returned (.tuple #[.int .i64 r1,.int .i64 r2])∧Below w.heap.size w w':=by
 have hu26:=Tryz.underlying26
 have eo:=zS b4
 have ep:=zS b5
 clear b4 b5
 have bN:=zS br
 have bQ:=zS bu
 clear br bu
 have eq:=zS b6
 have er:=zS b7
 clear b6 b7
 have es:=zS b8
 have et:=zS b9
 clear b8 b9
 have HB:=zS (Below.refl w.heap.size w)
 have H:(if ar>0 then (some (aN,aO)) else (if am>0 then (some (1,mx (wrap64 ((wrap64 (aw - 1)) - a2)) 0)) else (if a1≥0 then (some (aN,a1)) else (some (aN,aO)))))=some (r1,r2):=h
 clear h
 by_cases c4:ar>0
 ·rw [if_pos c4] at H
  have dB:decide (0<ar)=true:=zC c4
  clear c4
  simp only [Option.some.injEq,Prod.mk.injEq] at H
  obtain ⟨rfl,rfl⟩:=H
  go_enter Tryz.func45,Tryz.ntmps45
  go_wp2_with (first|((with_reducible refine gate_dst (N:=3) rfl ?_);refine box_event ?hg (N:=3) ?hd (cs:=#[.slice bh aK.length bi,.slice ah aa.length ai,.slice bj aL.length bk,.slice bm aM.length bn,.bool aX,.int .i64 aY,.int .i64 aN,.int .i64 aO,.int .i64 aJ,.int .i64 aZ,.int .i64 aD,.int .i64 aw,.int .i64 am,.int .i64 ar,.bool aE,.int .i32 aF,.int .i64 aG]) (t:=26) ?hr ?_;(case hd=>rfl);(case hg=>rfl);(case hr=>first|(go_simp;done)|(go_simp;rfl));intro bw hg w5 hbox hb;have ap:=zS (hbox);have bx:=bg HB hg;replace HB:=bs HB hb;clear hb hbox hg;have dC:=blkc17 ap.out;have dD:=blkf17 ap.out))
  repeat (go_quiet (first|((with_reducible refine gate_dst (N:=3) rfl ?_);refine box_event ?hg (N:=3) ?hd (cs:=#[.slice bh aK.length bi,.slice ah aa.length ai,.slice bj aL.length bk,.slice bm aM.length bn,.bool aX,.int .i64 aY,.int .i64 aN,.int .i64 aO,.int .i64 aJ,.int .i64 aZ,.int .i64 aD,.int .i64 aw,.int .i64 am,.int .i64 ar,.bool aE,.int .i32 aF,.int .i64 aG]) (t:=26) ?hr ?_;(case hd=>rfl);(case hg=>rfl);(case hr=>first|(go_simp;done)|(go_simp;rfl));intro bw hg w5 hbox hb;have ap:=zS (hbox);have bx:=bg HB hg;replace HB:=bs HB hb;clear hb hbox hg;have dC:=blkc17 ap.out;have dD:=blkf17 ap.out));try go_wp2_with (first|((with_reducible refine gate_dst (N:=3) rfl ?_);refine box_event ?hg (N:=3) ?hd (cs:=#[.slice bh aK.length bi,.slice ah aa.length ai,.slice bj aL.length bk,.slice bm aM.length bn,.bool aX,.int .i64 aY,.int .i64 aN,.int .i64 aO,.int .i64 aJ,.int .i64 aZ,.int .i64 aD,.int .i64 aw,.int .i64 am,.int .i64 ar,.bool aE,.int .i32 aF,.int .i64 aG]) (t:=26) ?hr ?_;(case hd=>rfl);(case hg=>rfl);(case hr=>first|(go_simp;done)|(go_simp;rfl));intro bw hg w5 hbox hb;have ap:=zS (hbox);have bx:=bg HB hg;replace HB:=bs HB hb;clear hb hbox hg;have dC:=blkc17 ap.out;have dD:=blkf17 ap.out)))
  go_ret2
  exact ⟨by first|rfl|(simp <;> rfl)|(simp [*] <;> rfl),bl HB⟩
 rw [if_neg c4] at H
 have dB:decide (0<ar)=false:=zD c4
 clear c4
 by_cases c7:am>0
 ·rw [if_pos c7] at H
  have e8:decide (0<am)=true:=zC c7
  clear c7
  obtain ⟨ji8,cJ⟩:∃ j_:Int,(mx (wrap64 ((wrap64 (aw - 1)) - a2)) 0)=j_:=⟨_,rfl⟩
  replace H:(some (1,ji8))=some (r1,r2):=by first|(rw [cJ] at H;exact H)|(simp only [cJ] at H ⊢;exact H)
  (try (have hji8l:0≤ji8:=by (rw [← cJ];unfold mx;(repeat' split) <;> omega)))
  (try (have hji8m:0≤ji8:=by omega))
  have gz:(if (wrap64 ((wrap64 (aw - 1)) - a2))<0 then 0 else (wrap64 ((wrap64 (aw - 1)) - a2)))=ji8:=cJ
  simp only [Option.some.injEq,Prod.mk.injEq] at H
  obtain ⟨rfl,rfl⟩:=H
  go_enter Tryz.func45,Tryz.ntmps45
  go_wp2_with (first|((with_reducible refine gate_dst (N:=3) rfl ?_);refine box_event ?hg (N:=3) ?hd (cs:=#[.slice bh aK.length bi,.slice ah aa.length ai,.slice bj aL.length bk,.slice bm aM.length bn,.bool aX,.int .i64 aY,.int .i64 aN,.int .i64 aO,.int .i64 aJ,.int .i64 aZ,.int .i64 aD,.int .i64 aw,.int .i64 am,.int .i64 ar,.bool aE,.int .i32 aF,.int .i64 aG]) (t:=26) ?hr ?_;(case hd=>rfl);(case hg=>rfl);(case hr=>first|(go_simp;done)|(go_simp;rfl));intro bw hg w9 hbox hb;have ap:=zS (hbox);have bx:=bg HB hg;replace HB:=bs HB hb;clear hb hbox hg;have cA:=blkc17 ap.out;have cB:=blkf17 ap.out))
  repeat (go_quiet (first|((with_reducible refine gate_dst (N:=3) rfl ?_);refine box_event ?hg (N:=3) ?hd (cs:=#[.slice bh aK.length bi,.slice ah aa.length ai,.slice bj aL.length bk,.slice bm aM.length bn,.bool aX,.int .i64 aY,.int .i64 aN,.int .i64 aO,.int .i64 aJ,.int .i64 aZ,.int .i64 aD,.int .i64 aw,.int .i64 am,.int .i64 ar,.bool aE,.int .i32 aF,.int .i64 aG]) (t:=26) ?hr ?_;(case hd=>rfl);(case hg=>rfl);(case hr=>first|(go_simp;done)|(go_simp;rfl));intro bw hg w9 hbox hb;have ap:=zS (hbox);have bx:=bg HB hg;replace HB:=bs HB hb;clear hb hbox hg;have cA:=blkc17 ap.out;have cB:=blkf17 ap.out));try go_wp2_with (first|((with_reducible refine gate_dst (N:=3) rfl ?_);refine box_event ?hg (N:=3) ?hd (cs:=#[.slice bh aK.length bi,.slice ah aa.length ai,.slice bj aL.length bk,.slice bm aM.length bn,.bool aX,.int .i64 aY,.int .i64 aN,.int .i64 aO,.int .i64 aJ,.int .i64 aZ,.int .i64 aD,.int .i64 aw,.int .i64 am,.int .i64 ar,.bool aE,.int .i32 aF,.int .i64 aG]) (t:=26) ?hr ?_;(case hd=>rfl);(case hg=>rfl);(case hr=>first|(go_simp;done)|(go_simp;rfl));intro bw hg w9 hbox hb;have ap:=zS (hbox);have bx:=bg HB hg;replace HB:=bs HB hb;clear hb hbox hg;have cA:=blkc17 ap.out;have cB:=blkf17 ap.out)))
  go_ret2
  exact ⟨by first|rfl|(simp <;> rfl)|(simp only [← cJ];first|rfl|(simp <;> rfl))|(simp [*] <;> rfl),bl HB⟩
 rw [if_neg c7] at H
 have e8:decide (0<am)=false:=zD c7
 clear c7
 by_cases c11:a1≥0
 ·rw [if_pos c11] at H
  have eI:decide (0≤a1)=true:=zC c11
  clear c11
  simp only [Option.some.injEq,Prod.mk.injEq] at H
  obtain ⟨rfl,rfl⟩:=H
  go_enter Tryz.func45,Tryz.ntmps45
  go_wp2_with (first|((with_reducible refine gate_dst (N:=3) rfl ?_);refine box_event ?hg (N:=3) ?hd (cs:=#[.slice bh aK.length bi,.slice ah aa.length ai,.slice bj aL.length bk,.slice bm aM.length bn,.bool aX,.int .i64 aY,.int .i64 aN,.int .i64 aO,.int .i64 aJ,.int .i64 aZ,.int .i64 aD,.int .i64 aw,.int .i64 am,.int .i64 ar,.bool aE,.int .i32 aF,.int .i64 aG]) (t:=26) ?hr ?_;(case hd=>rfl);(case hg=>rfl);(case hr=>first|(go_simp;done)|(go_simp;rfl));intro bw hg w12 hbox hb;have ap:=zS (hbox);have bx:=bg HB hg;replace HB:=bs HB hb;clear hb hbox hg;have ci:=blkc17 ap.out;have cj:=blkf17 ap.out))
  repeat (go_quiet (first|((with_reducible refine gate_dst (N:=3) rfl ?_);refine box_event ?hg (N:=3) ?hd (cs:=#[.slice bh aK.length bi,.slice ah aa.length ai,.slice bj aL.length bk,.slice bm aM.length bn,.bool aX,.int .i64 aY,.int .i64 aN,.int .i64 aO,.int .i64 aJ,.int .i64 aZ,.int .i64 aD,.int .i64 aw,.int .i64 am,.int .i64 ar,.bool aE,.int .i32 aF,.int .i64 aG]) (t:=26) ?hr ?_;(case hd=>rfl);(case hg=>rfl);(case hr=>first|(go_simp;done)|(go_simp;rfl));intro bw hg w12 hbox hb;have ap:=zS (hbox);have bx:=bg HB hg;replace HB:=bs HB hb;clear hb hbox hg;have ci:=blkc17 ap.out;have cj:=blkf17 ap.out));try go_wp2_with (first|((with_reducible refine gate_dst (N:=3) rfl ?_);refine box_event ?hg (N:=3) ?hd (cs:=#[.slice bh aK.length bi,.slice ah aa.length ai,.slice bj aL.length bk,.slice bm aM.length bn,.bool aX,.int .i64 aY,.int .i64 aN,.int .i64 aO,.int .i64 aJ,.int .i64 aZ,.int .i64 aD,.int .i64 aw,.int .i64 am,.int .i64 ar,.bool aE,.int .i32 aF,.int .i64 aG]) (t:=26) ?hr ?_;(case hd=>rfl);(case hg=>rfl);(case hr=>first|(go_simp;done)|(go_simp;rfl));intro bw hg w12 hbox hb;have ap:=zS (hbox);have bx:=bg HB hg;replace HB:=bs HB hb;clear hb hbox hg;have ci:=blkc17 ap.out;have cj:=blkf17 ap.out)))
  go_ret2
  exact ⟨by first|rfl|(simp <;> rfl)|(simp [*] <;> rfl),bl HB⟩
 rw [if_neg c11] at H
 have eI:decide (0≤a1)=false:=zD c11
 clear c11
 simp only [Option.some.injEq,Prod.mk.injEq] at H
 obtain ⟨rfl,rfl⟩:=H
 go_enter Tryz.func45,Tryz.ntmps45
 go_wp2_with (first|((with_reducible refine gate_dst (N:=3) rfl ?_);refine box_event ?hg (N:=3) ?hd (cs:=#[.slice bh aK.length bi,.slice ah aa.length ai,.slice bj aL.length bk,.slice bm aM.length bn,.bool aX,.int .i64 aY,.int .i64 aN,.int .i64 aO,.int .i64 aJ,.int .i64 aZ,.int .i64 aD,.int .i64 aw,.int .i64 am,.int .i64 ar,.bool aE,.int .i32 aF,.int .i64 aG]) (t:=26) ?hr ?_;(case hd=>rfl);(case hg=>rfl);(case hr=>first|(go_simp;done)|(go_simp;rfl));intro bw hg w14 hbox hb;have ap:=zS (hbox);have bx:=bg HB hg;replace HB:=bs HB hb;clear hb hbox hg;have cE:=blkc17 ap.out;have cF:=blkf17 ap.out))
 repeat (go_quiet (first|((with_reducible refine gate_dst (N:=3) rfl ?_);refine box_event ?hg (N:=3) ?hd (cs:=#[.slice bh aK.length bi,.slice ah aa.length ai,.slice bj aL.length bk,.slice bm aM.length bn,.bool aX,.int .i64 aY,.int .i64 aN,.int .i64 aO,.int .i64 aJ,.int .i64 aZ,.int .i64 aD,.int .i64 aw,.int .i64 am,.int .i64 ar,.bool aE,.int .i32 aF,.int .i64 aG]) (t:=26) ?hr ?_;(case hd=>rfl);(case hg=>rfl);(case hr=>first|(go_simp;done)|(go_simp;rfl));intro bw hg w14 hbox hb;have ap:=zS (hbox);have bx:=bg HB hg;replace HB:=bs HB hb;clear hb hbox hg;have cE:=blkc17 ap.out;have cF:=blkf17 ap.out));try go_wp2_with (first|((with_reducible refine gate_dst (N:=3) rfl ?_);refine box_event ?hg (N:=3) ?hd (cs:=#[.slice bh aK.length bi,.slice ah aa.length ai,.slice bj aL.length bk,.slice bm aM.length bn,.bool aX,.int .i64 aY,.int .i64 aN,.int .i64 aO,.int .i64 aJ,.int .i64 aZ,.int .i64 aD,.int .i64 aw,.int .i64 am,.int .i64 ar,.bool aE,.int .i32 aF,.int .i64 aG]) (t:=26) ?hr ?_;(case hd=>rfl);(case hg=>rfl);(case hr=>first|(go_simp;done)|(go_simp;rfl));intro bw hg w14 hbox hb;have ap:=zS (hbox);have bx:=bg HB hg;replace HB:=bs HB hb;clear hb hbox hg;have cE:=blkc17 ap.out;have cF:=blkf17 ap.out)))
 go_ret2
 exact ⟨by first|rfl|(simp <;> rfl)|(simp [*] <;> rfl),bl HB⟩
def dec_At.f (ae:Bool)(aa:List Int)(ag:Int)(a1:Int):Option (Int):=(dec_Mag.f ae aa ag).bind fun bf=>(if (aa.length:Int)=0 then (some 0) else (if (wrap64 (bf - a1))<0 then (some 0) else (if (wrap64 (bf - a1))≥(aa.length:Int) then (some 0) else (if 0≤(wrap64 (bf - a1)) then (if (wrap64 (bf - a1))<(aa.length:Int) then (some (rd aa (wrap64 (bf - a1)))) else (none)) else (none)))))
set_option maxHeartbeats 8000000 in
set_option maxRecDepth 100000 in
theorem dec_At.calls (ae:Bool)(ah:Option Addr)(ai:Nat)(aa:List Int)(ag:Int)(a1:Int)(r:Int)(w:World)(br:Kd.C (Kd.int .u8) w ah aa.length aa)(bu:aa.length≤ai)(h:dec_At.f ae aa ag a1=some r) :
  Calls Tryz.prog 47 #[.agg #[.bool ae,.slice ah aa.length ai,.int .i64 ag],.int .i64 a1] w fun e w'=>e = .returned (.int .u8 r)∧Below w.heap.size w w':=by
 have hu29:=Tryz.underlying29
 have bN:=zS br
 have bQ:=zS bu
 clear br bu
 have HB:=zS (Below.refl w.heap.size w)
 have H:((dec_Mag.f ae aa ag).bind fun bf=>(if (aa.length:Int)=0 then (some 0) else (if (wrap64 (bf - a1))<0 then (some 0) else (if (wrap64 (bf - a1))≥(aa.length:Int) then (some 0) else (if 0≤(wrap64 (bf - a1)) then (if (wrap64 (bf - a1))<(aa.length:Int) then (some (rd aa (wrap64 (bf - a1)))) else (none)) else (none))))))=some r:=h
 clear h
 replace H:=Option.bind_eq_some_iff.mp H
 obtain ⟨bf,A30,H⟩:=H
 try dsimp only at H
 have A3:=zS A30
 clear A30
 by_cases c4:(aa.length:Int)=0
 ·rw [if_pos c4] at H
  have dB:((aa.length:Int) == 0)=true:=zH c4
  have e9:((aa.length:Int) != 0)=false:=zG c4
  clear c4
  obtain rfl:=zE H
  go_enter Tryz.func47,Tryz.ntmps47
  go_wp2_with (first|((with_reducible refine gate_dst (N:=2) rfl ?_);(try (refine gate_guard (by rfl) ?_;dsimp only));refine box_event ?hg (N:=2) ?hd (cs:=#[.bool ae,.slice ah aa.length ai,.int .i64 ag]) (t:=29) ?hr ?_;(case hd=>rfl);(case hg=>rfl);(case hr=>first|(go_simp;done)|(go_simp;rfl));intro cK hg w5 hbox hb;have aA:=zS (hbox);have cL:=bg HB hg;replace HB:=bs HB hb;clear hb hbox hg;have dC:=blkc3 aA.out;have dD:=blkf3 aA.out)|((with_reducible refine gate_callee (f:=44) rfl ?_);refine gL (some 7) Tryz.func44 #[.agg #[.bool ae,.slice ah aa.length ai,.int .i64 ag]] ?_;(with_reducible refine (dec_Mag.calls ae _ _ aa ag bf _ (cb bN HB) bQ.out A3.out).mono ?_);rintro e w7 ⟨rfl,hb⟩;refine ⟨_,rfl,?_⟩;replace aA:=kb aA hb;replace HB:=bs HB hb;(try clear hb);have eV:=blkc3 aA.out;have eW:=blkf3 aA.out))
  go_ret
  exact ⟨by first|rfl|(simp <;> rfl)|(simp [*] <;> rfl),bl HB⟩
 rw [if_neg c4] at H
 have dB:((aa.length:Int) == 0)=false:=zF c4
 have e9:((aa.length:Int) != 0)=true:=zI c4
 have gZ:¬ (aa=[]):=fun h_=>c4 (by rw [h_];rfl)
 by_cases c9:(wrap64 (bf - a1))<0
 ·rw [if_pos c9] at H
  have eJ:=zC c9
  clear c9
  obtain rfl:=zE H
  go_enter Tryz.func47,Tryz.ntmps47
  go_wp2_with (first|((with_reducible refine gate_dst (N:=2) rfl ?_);(try (refine gate_guard (by rfl) ?_;dsimp only));refine box_event ?hg (N:=2) ?hd (cs:=#[.bool ae,.slice ah aa.length ai,.int .i64 ag]) (t:=29) ?hr ?_;(case hd=>rfl);(case hg=>rfl);(case hr=>first|(go_simp;done)|(go_simp;rfl));intro cK hg w10 hbox hb;have aA:=zS (hbox);have cL:=bg HB hg;replace HB:=bs HB hb;clear hb hbox hg;have d8:=blkc3 aA.out;have d9:=blkf3 aA.out)|((with_reducible refine gate_callee (f:=44) rfl ?_);refine gL (some 7) Tryz.func44 #[.agg #[.bool ae,.slice ah aa.length ai,.int .i64 ag]] ?_;(with_reducible refine (dec_Mag.calls ae _ _ aa ag bf _ (cb bN HB) bQ.out A3.out).mono ?_);rintro e w12 ⟨rfl,hb⟩;refine ⟨_,rfl,?_⟩;replace aA:=kb aA hb;replace HB:=bs HB hb;(try clear hb);have ci:=blkc3 aA.out;have cj:=blkf3 aA.out))
  go_ret
  exact ⟨by first|rfl|(simp <;> rfl)|(simp [*] <;> rfl),bl HB⟩
 rw [if_neg c9] at H
 have eJ:=zD c9
 clear c9
 by_cases c14:(wrap64 (bf - a1))≥(aa.length:Int)
 ·rw [if_pos c14] at H
  have c1:decide ((aa.length:Int)≤(wrap64 (bf - a1)))=true:=zC c14
  clear c14
  obtain rfl:=zE H
  go_enter Tryz.func47,Tryz.ntmps47
  go_wp2_with (first|((with_reducible refine gate_dst (N:=2) rfl ?_);(try (refine gate_guard (by rfl) ?_;dsimp only));refine box_event ?hg (N:=2) ?hd (cs:=#[.bool ae,.slice ah aa.length ai,.int .i64 ag]) (t:=29) ?hr ?_;(case hd=>rfl);(case hg=>rfl);(case hr=>first|(go_simp;done)|(go_simp;rfl));intro cK hg w15 hbox hb;have aA:=zS (hbox);have cL:=bg HB hg;replace HB:=bs HB hb;clear hb hbox hg;have eu:=blkc3 aA.out;have ev:=blkf3 aA.out)|((with_reducible refine gate_callee (f:=44) rfl ?_);refine gL (some 7) Tryz.func44 #[.agg #[.bool ae,.slice ah aa.length ai,.int .i64 ag]] ?_;(with_reducible refine (dec_Mag.calls ae _ _ aa ag bf _ (cb bN HB) bQ.out A3.out).mono ?_);rintro e w17 ⟨rfl,hb⟩;refine ⟨_,rfl,?_⟩;replace aA:=kb aA hb;replace HB:=bs HB hb;(try clear hb);have ed:=blkc3 aA.out;have ee:=blkf3 aA.out))
  go_ret
  exact ⟨by first|rfl|(simp <;> rfl)|(simp [*] <;> rfl),bl HB⟩
 rw [if_neg c14] at H
 have c1:decide ((aa.length:Int)≤(wrap64 (bf - a1)))=false:=zD c14
 clear c14
 obtain ⟨bX,bT⟩:∃ j_:Int,(wrap64 (bf - a1))=j_:=⟨_,rfl⟩
 replace H:(if 0≤(bX) then (if (bX)<(aa.length:Int) then (some (rd aa (bX))) else (none)) else (none))=some r:=by first|(rw [bT] at H;exact H)|(simp only [bT] at H ⊢;exact H)
 (try rw [bT] at eJ)
 (try rw [bT] at c1)
 (try rw [bT] at A3)
 have fa:(IntKind.i64.wrap (bf - a1))=bX:=(i64_w _).trans bT
 by_cases c20:0≤(bX)
 ·rw [if_pos c20] at H
  have gA:=zC c20
  clear c20
  by_cases c21:(bX)<(aa.length:Int)
  ·rw [if_pos c21] at H
   have gB:=zC c21
   clear c21
   obtain rfl:=zE H
   go_enter Tryz.func47,Tryz.ntmps47
   go_wp2_with (first|((with_reducible refine gate_dst (N:=2) rfl ?_);(try (refine gate_guard (by rfl) ?_;dsimp only));refine box_event ?hg (N:=2) ?hd (cs:=#[.bool ae,.slice ah aa.length ai,.int .i64 ag]) (t:=29) ?hr ?_;(case hd=>rfl);(case hg=>rfl);(case hr=>first|(go_simp;done)|(go_simp;rfl));intro cK hg w22 hbox hb;have aA:=zS (hbox);have cL:=bg HB hg;replace HB:=bs HB hb;clear hb hbox hg;have eg:=blkc3 aA.out;have eh:=blkf3 aA.out)|((with_reducible refine gate_callee (f:=44) rfl ?_);refine gL (some 7) Tryz.func44 #[.agg #[.bool ae,.slice ah aa.length ai,.int .i64 ag]] ?_;(with_reducible refine (dec_Mag.calls ae _ _ aa ag bf _ (cb bN HB) bQ.out A3.out).mono ?_);rintro e w24 ⟨rfl,hb⟩;refine ⟨_,rfl,?_⟩;replace aA:=kb aA hb;replace HB:=bs HB hb;(try clear hb);have ez:=blkc3 aA.out;have eA:=blkf3 aA.out;have dE:0≤((bX):Int):=zB (by first|(with_reducible assumption)|assumption);have dF:(bX)<(aa.length:Int):=zB (by first|(with_reducible assumption)|assumption);obtain ⟨gC,fb,bY⟩:=Kd.at_int bN.out (bX) dE dF;cases fb;replace bY:=(HB.out.cell (World.block_lt_of_cell? w _ bY)).trans bY;replace dE:=eq_true dE;replace dF:=eq_true dF))
   go_ret
   exact ⟨by first|rfl|(simp <;> rfl)|(simp only [← bT];first|rfl|(simp <;> rfl))|(simp [*] <;> rfl),bl HB⟩
  rw [if_neg c21] at H
  exact absurd H (by simp)
 rw [if_neg c20] at H
 exact absurd H (by simp)
end Go.Proofs.YtklebhlanidloaaGreatDoor.PZ
end
end
