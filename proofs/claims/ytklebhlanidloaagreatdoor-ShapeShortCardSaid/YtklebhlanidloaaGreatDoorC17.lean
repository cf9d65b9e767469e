/- Texts of this seat, joined. Conditions: none beyond each statement's own. -/
import Derived.Test.YtklebhlanidloaaGreatDoorC10
import Derived.Test.YtklebhlanidloaaGreatDoorC16
section
noncomputable section
namespace Go.Proofs.YtklebhlanidloaaGreatDoor.PZ
open Go.RowKit Go.Proofs.YtklebhlanidloaaGreatDoorW.PrintWords Go.Proofs.YtklebhlanidloaaGreatDoorW.PrintLast Go.Proofs.YtklebhlanidloaaGreatDoorW.PrintMore
attribute [local go_sem] max2_int min2_int max_two min_two max_three min_three max_four min_four   -- for this text's walks alone
set_option linter.unusedVariables false
set_option linter.unusedSimpArgs false
def round_Inc.j0:Nat→Int→Int→Int→Bool→Bool→List Int→Int→Option (Bool×List Int×Int×Int)
 | 0,_,_,_,_,_,_,_=>none
 | k+1,x1,x2,x3,x20,bD,ce,cf=>if x20=true then (some (false,([]:List Int),0,1)) else ((round_divided.f bD ce cf x1 x2).bind fun bU=>(if bU.2.2=true then ((round_found_away.f bU.1 bU.2.1 bU.2.2 bD x3).bind fun da=>(if da=true then ((round_more.f bU.1).bind fun cv=>((round_times.f cv x1).bind fun cn=>((dec_Norm.f k bD cn x2).bind fun cg=>(some (cg.1,cg.2.1,cg.2.2.1,cg.2.2.2))))) else ((round_times.f bU.1 x1).bind fun co=>((dec_Norm.f k bD co x2).bind fun ch=>(some (ch.1,ch.2.1,ch.2.2.1,ch.2.2.2)))))) else (some (bD,ce,cf,0))))
def round_Inc.f (k:Nat)(ae:Bool)(aa:List Int)(ag:Int)(a1:Int)(a2:Int)(a3:Int):Option (Bool×List Int×Int×Int):=(round_Is.f a3).bind fun cw=>(if cw=true then ((round_isUnit.f a1 a2).bind fun cp=>(round_Inc.j0 k a1 a2 a3 (!cp) ae aa ag)) else (round_Inc.j0 k a1 a2 a3 true ae aa ag))
theorem round_Inc.mono_l:∀ k,(∀ y0 y1 y2 y3 y4 y5 y6,LeO (round_Inc.j0 k y0 y1 y2 y3 y4 y5 y6) (round_Inc.j0 (k+1) y0 y1 y2 y3 y4 y5 y6))
 | 0=>fun _ _ _ _ _ _ _ r h=>by simp [round_Inc.j0] at h
 | k+1=>by
  have ih0:=round_Inc.mono_l k
  ·intro y0 y1 y2 y3 y4 y5 y6
   unfold round_Inc.j0
   repeat' first|(with_reducible first|apply ih0|apply dec_Norm.mono|apply LeO.refl|apply LeO.none|refine LeO.ite ?_ ?_|refine LeO.bind ?_ (fun _=>?_))|apply ih0|apply dec_Norm.mono|apply LeO.none
theorem round_Inc.mono:∀ a0 a1 a2 a3 a4 a5 k,LeO (round_Inc.f k a0 a1 a2 a3 a4 a5) (round_Inc.f (k+1) a0 a1 a2 a3 a4 a5):=by
 intro a0 a1 a2 a3 a4 a5 k
 have ih0:=round_Inc.mono_l k
 unfold round_Inc.f
 repeat' first|(with_reducible first|apply ih0|apply dec_Norm.mono|apply LeO.refl|apply LeO.none|refine LeO.ite ?_ ?_|refine LeO.bind ?_ (fun _=>?_))|apply ih0|apply dec_Norm.mono|apply LeO.none
def round_Inc.T9:Bool×List (List Nat×List Nat):=(true,[([],[]),([0],[0]),([],[]),([],[]),([2,3],[2,3]),([],[]),([1,4,5,4],[1,4,5]),([6],[6]),([6],[6]),([7,6,0,1,2,3,4,5,6,7,8],[7]),([8,9,0,1,2,3,4,5,6,7,8,9],[8])])
def round_Inc.B9:List Nat:=[0,1,0,0,12,0,63,127,127,511,1023]
theorem round_Inc.tab9:rtab .any (opsOf Tryz.f74 9)=round_Inc.T9:=by kernel_rfl
theorem round_Inc.bits9:waitsOk round_Inc.T9.2 round_Inc.B9=true:=by kernel_rfl
set_option maxHeartbeats 8000000 in
set_option maxRecDepth 100000 in
theorem round_Inc.calls (k:Nat)(ae:Bool)(aW:Nat→Prop)(ah:Option Addr)(ai:Nat)(aa:List Int)(ag:Int)(a1:Int)(a2:Int)(a3:Int)(r1:Bool)(r2:List Int)(r3:Int)(r4:Int)(w:World)(hG:GL w)(b1:Kd.V (Kd.int .u8) 5 w w.heap.size (fun k_=>aW k_) (.slice ah aa.length ai) aa)(h:round_Inc.f k ae aa ag a1 a2 a3=some (r1,r2,r3,r4)) :
  Calls Tryz.prog 74 #[.agg #[.bool ae,.slice ah aa.length ai,.int .i64 ag],.int .i64 a1,.int .i64 a2,.int .i64 a3] w fun e w'=>∃ v1_:Value,e = .returned (.tuple #[.agg #[.bool r1,v1_,.int .i64 r3],.int .i64 r4])∧Kd.V (Kd.int .u8) 5 w' w.heap.size (fun k_=>(aW k_∨w.heap.size≤k_)) v1_ r2∧Below w.heap.size w w':=by
 have hu29:=Tryz.underlying29
 have hu126:=Tryz.underlying126
 have aH:=Sd.mk (show Kd.V (Kd.int .u8) 5 w w.heap.size (fun k_=>(aW k_∨w.heap.size≤k_)) (.slice ah aa.length ai) aa from Kd.V_mono b1 (fun k_ hk=>.inl hk))
 have HB:=Sd.mk (Below.refl w.heap.size w)
 have hfld:=found_left
 have HG:=Sd.mk hG
 clear hG
 have H:((round_Is.f a3).bind fun cw=>(if cw=true then ((round_isUnit.f a1 a2).bind fun cp=>(round_Inc.j0 k a1 a2 a3 (!cp) ae aa ag)) else (round_Inc.j0 k a1 a2 a3 true ae aa ag)))=some (r1,r2,r3,r4):=h
 clear h
 have HC5:=Sd.mk H
 clear H
 go_enter Tryz.func74,Tryz.ntmps74
 go_upto_region 1 with (first|((with_reducible refine gate_dst (N:=4) rfl ?_);refine box_event ?hg (N:=4) ?hd (cs:=#[.bool ae,.slice ah aa.length ai,.int .i64 ag]) (t:=29) ?hr ?_;(case hd=>rfl);(case hg=>rfl);(case hr=>first|(go_simp;done)|(go_simp;rfl));intro bE hg w6 hbox hb;replace aH:=Sd.mk (Kd.V_below (Kd.V_elderB (vo aH) bE (Nat.le_of_eq hg.symm)) hb);have ab:=Sd.mk (hbox);have e1:=bg HB hg;replace HB:=bs HB hb;clear hb hbox hg)|((with_reducible refine gate_dst (N:=8) rfl ?_);refine box_event ?hg (N:=8) ?hd (cs:=#[.bool false,.slice none 0 0,.int .i64 0]) (t:=29) ?hr ?_;(case hd=>rfl);(case hg=>rfl);(case hr=>first|(go_simp;done)|(go_simp;rfl));intro ak hg w7 hbox hb;replace aH:=Sd.mk (Kd.V_below (Kd.V_elderB (vo aH) ak (Nat.le_of_eq hg.symm)) hb);have ad:=Sd.mk (hbox);have e2:=bg HB hg;replace HB:=bs HB hb;have ac:=kn ab hg;have aB:=km ab hg;replace ab:=kb ab hb;clear hb hbox hg))
 (try simp only [Act.put,sA,sB,sC])
 go_cut [20] (fun v20 wc=>∃ (kq:Nat) (ci:Bool),v20 = .bool ci∧Sd (round_Inc.j0 kq a1 a2 a3 ci ae aa ag=some (r1,r2,r3,r4))∧Sd (kq≤k)∧Sd (Kd.V (Kd.int .u8) 5 wc w.heap.size (fun k_=>(aW k_∨w.heap.size≤k_)∧k_≠bE∧k_≠ak) (.slice ah aa.length ai) aa)∧Sd (wc.heap[bE]?=some (.cells #[.bool ae,(.slice ah aa.length ai),.int .i64 ag] 29 (0,0)))∧Sd (wc.heap[ak]?=some (.cells #[.bool false,(.slice none 0 0),.int .i64 0] 29 (0,0)))∧Sd (Below w.heap.size w wc))
 case first=>
  have H:=HC5.out
  clear HC5
  obtain ⟨cw,A8,H⟩:=bX H
  try dsimp only at H
  by_cases c9:cw=true
  ·subst c9
   rw [if_pos rfl] at H
   obtain ⟨cp,A10,H⟩:=bX H
   try dsimp only at H
   have H':=Sd.mk H
   clear H
   go_wp2_with (first|((with_reducible refine gate_callee (f:=73) rfl ?_);refine gL (some 13) Tryz.func73 #[.int .i64 a3] ?_;(with_reducible refine (round_Is.calls a3 true _ A8.out).mono ?_);rintro e w' ⟨rfl,⟨nd,rfl⟩⟩;refine ⟨_,rfl,?_⟩)|(go_at_call 94;(with_reducible refine (round_isUnit.calls a1 a2 cp _ A10.out).mono ?_);rintro e w' ⟨rfl,⟨nd,rfl⟩⟩))
   go_meet
   case rel=>exact ⟨_,(!cp),(by first|rfl|(simp;done)|(simp [*];done)),H',⟨by first|omega|exact Nat.le_refl _⟩,⟨by (with_reducible repeat (first|apply Kd.V_alloc|apply Kd.V_drewN|apply Kd.V_drew));exact Kd.V_mono aH.out (fun _ hk=>⟨hk.1.1,⟨hk.1.2,hk.2⟩⟩)⟩,⟨ko ab⟩,⟨ko ad⟩,⟨bl HB⟩⟩
  replace c9:=Bool.eq_false_iff.mpr c9
  subst c9
  rw [if_neg (show ¬ (false=true) by decide)] at H
  have H':=Sd.mk H
  clear H
  go_wp2_with (first|((with_reducible refine gate_callee (f:=73) rfl ?_);refine gL (some 13) Tryz.func73 #[.int .i64 a3] ?_;(with_reducible refine (round_Is.calls a3 false _ A8.out).mono ?_);rintro e w' ⟨rfl,⟨nd,rfl⟩⟩;refine ⟨_,rfl,?_⟩))
  go_meet
  case rel=>exact ⟨_,(true),(by first|rfl|(simp;done)|(simp [*];done)),H',⟨by first|omega|exact Nat.le_refl _⟩,⟨by (with_reducible repeat (first|apply Kd.V_alloc|apply Kd.V_drewN|apply Kd.V_drew));exact Kd.V_mono aH.out (fun _ hk=>⟨hk.1.1,⟨hk.1.2,hk.2⟩⟩)⟩,⟨ko ab⟩,⟨ko ad⟩,⟨bl HB⟩⟩
 case rest=>
  clear HC5
  try clear p2
  try clear c7
  try clear c9
  obtain ⟨kq,ci,rfl,HA,HJ4,HO_146001,ab,ad,HB⟩:=hcut
  cases kq with
  | zero=>exact absurd HA.out (by simp [round_Inc.j0])
  | succ kj4=>
   have H:=HA.out
   clear HA
   simp only [round_Inc.j0] at H
   by_cases c11:ci=true
   ·subst c11
    rw [if_pos rfl] at H
    simp only [Option.some.injEq,Prod.mk.injEq] at H
    obtain ⟨rfl,rfl,rfl,rfl⟩:=H
    have e3:=aB.out
    have e4:=ac.out
    have cj:=blkc3 ad.out
    have ck:=blkf3 ad.out
    go_wp2
    refine bodyPost_ret (results_ct rfl _ _ ak 29 #[.bool false,.slice none 0 0,.int .i64 0] (0,0) _ rfl (kp ad rfl) Tryz.underlying29 rfl (by kernel_rfl)) rfl ?_
    exact ⟨_,by first|rfl|(simp <;> rfl)|(simp [*] <;> rfl),(by first|exact Kd.V_nil _ _ _ _ _|exact (Kd.V_mono (Kd.R_V (by first|exact Kd.R_nil _ _ _ _ _|exact Kd.R_nil _ _ _ 0 _|exact Kd.N_nil _ _ _ _ _|exact Kd.V_nil _ _ _ _ _|exact Kd.Q_nil _ _ _ _ _|exact Kd.S_nil _ _ _ _ _)) (fun k_ hk=>by first|exact ⟨(.inr (hk.1)),hk.2⟩|exact (.inr (hk))))),bl HB⟩
   replace c11:=Bool.eq_false_iff.mpr c11
   subst c11
   rw [if_neg (show ¬ (false=true) by decide)] at H
   obtain ⟨⟨be,bC,ez⟩,A14,H⟩:=bX H
   try dsimp only at H
   by_cases c15:ez=true
   rotate_left
   ·replace c15:=Bool.eq_false_iff.mpr c15
    subst c15
    rw [if_neg (show ¬ (false=true) by decide)] at H
    simp only [Option.some.injEq,Prod.mk.injEq] at H
    obtain ⟨rfl,rfl,rfl,rfl⟩:=H
    have e5:=ac.out
    have e6:=aB.out
    have e7:=blkc3 ab.out
    have e8:=blkf3 ab.out
    go_wp2_with (first|((with_reducible refine gate_callee (f:=95) rfl ?_);refine gL (some 25) Tryz.func95 #[.agg #[.bool ae,.slice ah aa.length ai,.int .i64 ag],.int .i64 a1,.int .i64 a2] ?_;(with_reducible refine (round_divided.calls ae _ _ aa ag a1 a2 be bC false _ ?side3 (vc HO_146001) (vl HO_146001) A14.out).mono ?_);(case side3=>refine GL.below HG.out ?_;exact bl HB);rintro e w63 ⟨dG,rfl,ho0,hb⟩;refine ⟨_,rfl,?_⟩;replace HO_146001:=Sd.mk (Kd.V_elder' (vo HO_146001) (Kd.R_base ho0) hb);have aj:=Sd.mk (Kd.R_lower (Kd.R_newM (M:=fun k_=>(w.heap.size≤k_)) ho0 (bz HB) (fun k_ h_=>h_)) (bz HB));replace ab:=kb ab hb;replace ad:=kb ad hb;replace HB:=bs HB hb;(try clear hb);(try clear ho0))|((with_reducible refine gate_dst (N:=10) rfl ?_);refine box_event ?hg (N:=10) ?hd (cs:=#[.slice none 0 0,.int .i64 0,.bool false]) (t:=126) ?hr ?_;(case hd=>rfl);(case hg=>rfl);(case hr=>first|(go_simp;done)|(go_simp;rfl));intro au hg w64 hbox hb;replace HO_146001:=Sd.mk (Kd.V_below (Kd.V_elderB (vo HO_146001) au (Nat.le_of_eq hg.symm)) hb);replace aj:=rb aj hb;have aq:=Sd.mk (hbox);have cN:=bg HB hg;replace HB:=bs HB hb;have bo:=kn ab hg;have bp:=km ab hg;replace ab:=kb ab hb;have ax:=kn ad hg;have ay:=km ad hg;replace ad:=kb ad hb;clear hb hbox hg;obtain ⟨eA,eB,eC⟩:=Kd.R_slice aj.out;subst eC;have e9:=bp.out;have fa:=bo.out;have fb:=ay.out;have fc:=ax.out;have fd:=blkc3 aq.out;have fe:=blkf3 aq.out;have ff:=blkc3 ab.out;have fg:=blkf3 ab.out;have fh:=blkc3 ad.out;have fi:=blkf3 ad.out))
    refine bodyPost_ret (results_ct rfl _ _ ak 29 #[.bool ae,.slice ah aa.length ai,.int .i64 ag] (0,0) _ rfl (kp ad rfl) Tryz.underlying29 rfl (by kernel_rfl)) rfl ?_
    exact ⟨_,by first|rfl|(simp <;> rfl)|(simp [*] <;> rfl),by (with_reducible repeat (first|apply Kd.V_alloc|apply Kd.V_drewN|apply Kd.V_drew));exact Kd.V_mono (Kd.V_far (p:=⟨ak,2,none⟩) (Kd.V_far (p:=⟨ak,1,none⟩) (Kd.V_far (p:=⟨ak,0,none⟩) (Kd.V_far (p:=⟨au,2,none⟩) (Kd.V_far (p:=⟨au,1,none⟩) (Kd.V_far (p:=⟨au,0,none⟩) (Kd.V_mono (Kd.V_mono HO_146001.out (fun k_ hk=>(⟨hk,hk.2⟩:_∧k_≠au))) (fun k_ hk=>(⟨hk,hk.1.1.1.2.2⟩:_∧k_≠ak))) (fun _ hk=>hk.1.2) (.slice eA be.length eB)) (fun _ hk=>hk.1.2) (.int .i64 bC)) (fun _ hk=>hk.1.2) (.bool false)) (fun _ hk=>hk.2) (.bool ae)) (fun _ hk=>hk.2) (.slice ah aa.length ai)) (fun _ hk=>hk.2) (.int .i64 ag)) (fun _ hk=>hk.1.1.1.1.1),bl HB⟩
   subst c15
   rw [if_pos rfl] at H
   obtain ⟨da,A16,H⟩:=bX H
   try dsimp only at H
   by_cases c17:da=true
   ·subst c17
    rw [if_pos rfl] at H
    obtain ⟨cv,A18,H⟩:=bX H
    try dsimp only at H
    obtain ⟨cn,A19,H⟩:=bX H
    try dsimp only at H
    obtain ⟨⟨db,dc,dd,eD⟩,A20,H⟩:=bX H
    try dsimp only at H
    simp only [Option.some.injEq,Prod.mk.injEq] at H
    obtain ⟨rfl,rfl,rfl,rfl⟩:=H
    have fj:=ac.out
    have fk:=aB.out
    have fl:=blkc3 ab.out
    have fm:=blkf3 ab.out
    try go_wp2_with (first|((with_reducible refine gate_callee (f:=95) rfl ?_);refine gL (some 25) Tryz.func95 #[.agg #[.bool ae,.slice ah aa.length ai,.int .i64 ag],.int .i64 a1,.int .i64 a2] ?_;(with_reducible refine (round_divided.calls ae _ _ aa ag a1 a2 be bC true _ ?side3 (vc HO_146001) (vl HO_146001) A14.out).mono ?_);(case side3=>refine GL.below HG.out ?_;exact bl HB);rintro e w23 ⟨dG,rfl,ho0,hb⟩;refine ⟨_,rfl,?_⟩;replace HO_146001:=Sd.mk (Kd.V_elder' (vo HO_146001) (Kd.R_base ho0) hb);have aj:=Sd.mk (Kd.R_lower (Kd.R_newM (M:=fun k_=>(w.heap.size≤k_)) ho0 (bz HB) (fun k_ h_=>h_)) (bz HB));replace ab:=kb ab hb;replace ad:=kb ad hb;replace HB:=bs HB hb;(try clear hb);(try clear ho0))|((with_reducible refine gate_dst (N:=10) rfl ?_);refine box_event ?hg (N:=10) ?hd (cs:=#[.slice none 0 0,.int .i64 0,.bool false]) (t:=126) ?hr ?_;(case hd=>rfl);(case hg=>rfl);(case hr=>first|(go_simp;done)|(go_simp;rfl));intro au hg w24 hbox hb;replace HO_146001:=Sd.mk (Kd.V_below (Kd.V_elderB (vo HO_146001) au (Nat.le_of_eq hg.symm)) hb);replace aj:=rb aj hb;have aq:=Sd.mk (hbox);have cN:=bg HB hg;replace HB:=bs HB hb;have bo:=kn ab hg;have bp:=km ab hg;replace ab:=kb ab hb;have ax:=kn ad hg;have ay:=km ad hg;replace ad:=kb ad hb;clear hb hbox hg;obtain ⟨cq,cc,eE⟩:=Kd.R_slice aj.out;subst eE;have cO:=bp.out;have cP:=bo.out;have fn:=ay.out;have fo:=ax.out;have fp:=blkc3 aq.out;have fq:=blkf3 aq.out;have cQ:=blkc3 ab.out;have cR:=blkf3 ab.out)|((with_reducible refine gate_callee (f:=96) rfl ?_);refine gL (some 36) Tryz.func96 #[.agg #[.slice cq be.length cc,.int .i64 bC,.bool true],.bool ae,.int .i64 a3] ?_;(with_reducible refine (round_found_away.calls _ _ be bC true ae a3 true _ ?side1 (rl aj) A16.out).mono ?_);(case side1=>refine (Kd.R_reads' (e:=5) (base:=w.heap.size) (ok:=fun k_=>((w.heap.size≤k_)∧True)) (n:=be.length) (c:=cc) ?_).2.2;exact (by (with_reducible repeat (first|apply Kd.R_alloc|apply Kd.R_drewN|apply Kd.R_drew));exact (Kd.R_mono (Kd.R_far (p:=⟨au,2,none⟩) (Kd.R_far (p:=⟨au,1,none⟩) (Kd.R_far (p:=⟨au,0,none⟩) (Kd.R_types aj.out aq.out (by decide)) (fun _ hk=>hk.2) (.slice cq be.length cc)) (fun _ hk=>hk.2) (.int .i64 bC)) (fun _ hk=>hk.2) (.bool true)) (fun _ h_=>h_.1))));rintro e w30 ⟨rfl,hb⟩;refine ⟨_,rfl,?_⟩;replace HO_146001:=Sd.mk (Kd.V_below (by (with_reducible repeat (first|apply Kd.V_alloc|apply Kd.V_drewN|apply Kd.V_drew));exact (Kd.V_mono (Kd.V_far (p:=⟨au,2,none⟩) (Kd.V_far (p:=⟨au,1,none⟩) (Kd.V_far (p:=⟨au,0,none⟩) (Kd.V_mono HO_146001.out (fun k_ hk=>(⟨hk,hk.2⟩:_∧k_≠au))) (fun _ hk=>hk.2) (.slice cq be.length cc)) (fun _ hk=>hk.2) (.int .i64 bC)) (fun _ hk=>hk.2) (.bool true)) (fun _ h_=>h_.1))) hb);replace aj:=Sd.mk (Kd.R_below (by (with_reducible repeat (first|apply Kd.R_alloc|apply Kd.R_drewN|apply Kd.R_drew));exact (Kd.R_mono (Kd.R_far (p:=⟨au,2,none⟩) (Kd.R_far (p:=⟨au,1,none⟩) (Kd.R_far (p:=⟨au,0,none⟩) (Kd.R_types aj.out aq.out (by decide)) (fun _ hk=>hk.2) (.slice cq be.length cc)) (fun _ hk=>hk.2) (.int .i64 bC)) (fun _ hk=>hk.2) (.bool true)) (fun _ h_=>h_.1))) hb);replace ab:=kb ab hb;replace ad:=kb ad hb;replace aq:=Sd.mk (blk_below (g:=au) (o:=.cells #[.slice cq be.length cc,.int .i64 bC,.bool true] 126 (0,0)) (kp aq rfl) hb);replace HB:=bs HB hb;(try clear hb);(try clear hk))|((with_reducible refine gate_callee (f:=97) rfl ?_);refine gL (some 38) Tryz.func97 #[.slice cq be.length cc] ?_;(with_reducible refine (round_more.calls _ _ be cv _ (rc aj) (rl aj) A18.out).mono ?_);rintro e w31 ⟨gs,rfl,ho0,hb⟩;refine ⟨_,rfl,?_⟩;replace HO_146001:=Sd.mk (Kd.V_elder' (vo HO_146001) (Kd.R_base ho0) hb);have bq:=Sd.mk (Kd.R_lower (Kd.R_new' (Kd.R_newM (M:=fun k_=>(w.heap.size≤k_)) ho0 (bz HB) (fun k_ h_=>h_)) (Kd.R_lt (ro aj))) (bz HB));replace aj:=Sd.mk (Kd.R_elder' (ro aj) (Kd.R_base ho0) hb);replace ab:=kb ab hb;replace ad:=kb ad hb;replace aq:=kb aq hb;replace HB:=bs HB hb;(try clear hb);(try clear hb2);(try clear hk);(try clear hi);(try clear ho0)))
    replace HO_146001:=Sd.mk (Kd.V_drew HO_146001.out)
    replace aj:=Sd.mk (Kd.R_drew aj.out)
    replace bq:=Sd.mk (Kd.R_drew bq.out)
    replace ab:=Sd.mk (blk_drew ab.out)
    replace ad:=Sd.mk (blk_drew ad.out)
    replace aq:=Sd.mk (blk_drew aq.out)
    replace HB:=Sd.mk (below_drew1 HB.out)
    obtain ⟨eF,eG,dH⟩:=Kd.R_slice bq.out
    (first|subst dH|(injection dH with f1_ f2_ f3_;have f4_:=f1_.symm;have f5_:=f3_.symm;clear f1_ f2_ f3_;subst f4_;subst f5_))
    refine start_ (n:=11) (S:=fun w'=>w'.cell? ⟨bE,0,none⟩=some (.bool ae)∧w'.cell? ⟨bE,1,none⟩=some (.slice ah aa.length ai)∧w'.cell? ⟨bE,2,none⟩=some (.int .i64 ag)) (ds:=[]) (bZ 11 0) (by kernel_rfl) rfl (by kernel_rfl) ⟨(blk_cell ab.out 0).trans rfl,(blk_cell ab.out 1).trans rfl,(blk_cell ab.out 2).trans rfl⟩ (fun hHeld=>?_);refine with_tabW round_Inc.tab9 round_Inc.bits9 (fun HT_ HW_=>?_)
    generalize w31.drew=w32 at HO_146001 aj bq ab ad aq HB hHeld ⊢
    refine p1 0 39 1 HT_ (v:=?_) ?_ (a':=?_) ?_ ?_
    rotate_left
    ·intro w';go_simp;with_reducible rfl
    rotate_left
    ·simp only [Act.put,sA,sB,sC,i64_w,i32_w];rfl
    refine p1 2 41 5 HT_ (v:=?_) ?_ (a':=?_) ?_ ?_
    rotate_left
    ·intro w';go_simp;with_reducible rfl
    rotate_left
    ·simp only [Act.put,sA,sB,sC,i64_w,i32_w];rfl
    refine p1 3 42 13 HT_ (v:=?_) ?_ (a':=?_) ?_ ?_
    rotate_left
    ·intro w';go_simp;with_reducible rfl
    rotate_left
    ·simp only [Act.put,sA,sB,sC,i64_w,i32_w];rfl
    refine p1 5 44 45 HT_ (v:=?_) ?_ (a':=?_) ?_ ?_
    rotate_left
    ·intro w';go_simp;with_reducible rfl
    rotate_left
    ·simp only [Act.put,sA,sB,sC,i64_w,i32_w];rfl
    refine p2 1 40 47 HT_ HW_ (v:=?_) ?_ hHeld (a':=?_) ?_ ?_
    rotate_left
    ·rintro w' ⟨s0,s1,s2⟩;go_simp;with_reducible rfl
    rotate_left
    ·simp only [Act.put,sA,sB,sC,i64_w,i32_w];rfl
    refine one_ (i:=4) (N:=some 43) (bZ 11 63) rfl rfl (one_of HT_.out (by kernel_rfl)) (by decide) (fun K hK=>?_)
    refine goes_ Tryz.func98 (by kernel_rfl) rfl #[.slice eF cv.length eG,.int .i64 a1] (by rfl) rfl rfl (by (try simp only [mA,mB,mC]);first|done|rfl|(simp only [lD,lT];rfl)) ?_
    with_reducible refine (round_times.calls _ _ cv a1 cn _ ?side1 ?side2 A19.out).mono ?_
    (case side1=>exact (Kd.R_reads' bq.out).2.2)
    (case side2=>exact (Kd.R_reads' bq.out).2.1)
    rintro e w34 ⟨gt,rfl,ho0,hb⟩
    refine ⟨_,rfl,?_⟩
    replace HO_146001:=Sd.mk (Kd.V_elder' (vo HO_146001) (Kd.R_base ho0) hb)
    have b2:=Sd.mk (Kd.R_lower (Kd.R_new' (Kd.R_new' (Kd.R_newM (M:=fun k_=>(w.heap.size≤k_)) ho0 (bz HB) (fun k_ h_=>h_)) (Kd.R_lt (ro aj))) (Kd.R_lt (ro bq))) (bz HB))
    replace aj:=Sd.mk (Kd.R_elder' (ro aj) (Kd.R_base ho0) hb)
    replace bq:=Sd.mk (Kd.R_elder' (ro bq) (Kd.R_base ho0) hb)
    replace ab:=kb ab hb
    replace ad:=kb ad hb
    replace aq:=kb aq hb
    replace HB:=bs HB hb
    (try clear hb)
    (try clear hb2)
    (try clear hk)
    (try clear hi)
    (try clear ho0)
    obtain ⟨dI,dJ,dK⟩:=Kd.R_slice b2.out
    (first|subst dK|(injection dK with f1_ f2_ f3_;have f4_:=f1_.symm;have f5_:=f3_.symm;clear f1_ f2_ f3_;subst f4_;subst f5_))
    refine hK.out _ _ ⟨(blk_cell ab.out 0).trans rfl,(blk_cell ab.out 1).trans rfl,(blk_cell ab.out 2).trans rfl⟩ (fun hHeld=>?_)
    clear hK K
    refine norm_ (a':=?_) ?_ ?_
    rotate_left
    ·show Act.put _ (some 43) _=_
     simp only [Act.put,sA,sB,sC,i64_w,i32_w]
     rfl
    refine one_ (i:=6) (N:=some 45) (bZ 11 127) rfl rfl (one_of HT_.out (by kernel_rfl)) (by decide) (fun K hK=>?_)
    refine goes_ Tryz.func58 (by kernel_rfl) rfl #[.bool ae,.slice dI cn.length dJ,.int .i64 a2] (by rfl) rfl rfl (by (try simp only [mA,mB,mC]);first|done|rfl|(simp only [lD,lT];rfl)) ?_
    with_reducible refine (dec_Norm.calls kj4 ae (fun k_=>some k_=(.slice dI cn.length dJ:Value).ownBlock) _ _ cn a2 db dc dd eD _ ?side1 A20.out).mono ?_
    (case side1=>exact Kd.R_V (Kd.R_tight rfl (Kd.R_types (Kd.R_types (Kd.R_types (b2.out) ab.out (by decide)) ad.out (by decide)) aq.out (by decide))))
    rintro e w36 ⟨gu,rfl,ho0,hb⟩
    refine ⟨_,rfl,?_⟩
    replace HO_146001:=Sd.mk (Kd.V_elder' (vo HO_146001) (Kd.R_base ho0) hb)
    have cS:=Sd.mk (Kd.R_lower (Kd.R_new' (Kd.R_new' (Kd.R_new' (Kd.R_newM (M:=fun k_=>(w.heap.size≤k_)) (Kd.R_mono (ok':=fun k_=>True) ho0 (fun _ hk_=>trivial)) (bz HB) (fun k_ h_=>h_)) (Kd.R_lt (ro aj))) (Kd.R_lt (ro bq))) (Kd.R_lt (ro b2))) (bz HB))
    replace aj:=Sd.mk (Kd.R_elder' (ro aj) (Kd.R_base ho0) hb)
    replace bq:=Sd.mk (Kd.R_elder' (ro bq) (Kd.R_base ho0) hb)
    replace b2:=Sd.mk (Kd.R_elder' (ro b2) (Kd.R_base ho0) hb)
    replace ab:=kb ab hb
    replace ad:=kb ad hb
    replace aq:=kb aq hb
    replace HB:=bs HB hb
    (try clear hb)
    (try clear hb2)
    (try clear hk)
    (try clear hi)
    (try clear ho0)
    obtain ⟨dL,dM,dN⟩:=Kd.R_slice cS.out
    (first|subst dN|(injection dN with f1_ f2_ f3_;have f4_:=f1_.symm;have f5_:=f3_.symm;clear f1_ f2_ f3_;subst f4_;subst f5_))
    refine hK.out _ _ ⟨(blk_cell ab.out 0).trans rfl,(blk_cell ab.out 1).trans rfl,(blk_cell ab.out 2).trans rfl⟩ (fun hHeld=>?_)
    clear hK K
    refine norm_ (a':=?_) ?_ ?_
    rotate_left
    ·show Act.put _ (some 45) _=_
     simp only [Act.put,sA,sB,sC,i64_w,i32_w]
     rfl
    refine p1 7 46 255 HT_ (v:=?_) ?_ (a':=?_) ?_ ?_
    rotate_left
    ·intro w';go_simp;with_reducible rfl
    rotate_left
    ·simp only [Act.put,sA,sB,sC,i64_w,i32_w];rfl
    refine p1 8 47 511 HT_ (v:=?_) ?_ (a':=?_) ?_ ?_
    rotate_left
    ·intro w';go_simp;with_reducible rfl
    rotate_left
    ·simp only [Act.put,sA,sB,sC,i64_w,i32_w];rfl
    refine one_ (i:=9) (N:=none) (bZ 11 1023) rfl rfl (one_of HT_.out (by kernel_rfl)) (by decide) (fun K hK=>?_)
    have gv:w36.cell? ⟨ak,0,none⟩=some (.bool false):=(blk_cell ad.out 0).trans rfl
    have hfs37:=blk_frozen ad.out 0
    have hns37_0:=ac.out
    have hns37_2:=ay.out
    have hms37_0:=aB.out
    have hms37_2:=ax.out
    have gw:w36.cell? ⟨ak,1,none⟩=some (.slice none 0 0):=(blk_cell ad.out 1).trans rfl
    have hfs39:=blk_frozen ad.out 1
    have hns39_0:=ac.out
    have hns39_2:=ay.out
    have hms39_0:=aB.out
    have hms39_2:=ax.out
    have gx:w36.cell? ⟨ak,2,none⟩=some (.int .i64 0):=(blk_cell ad.out 2).trans rfl
    have hfs40:=blk_frozen ad.out 2
    have hns40_0:=ac.out
    have hns40_2:=ay.out
    have hms40_0:=aB.out
    have hms40_2:=ax.out
    refine skip_ (w1:=?_) (by rfl) rfl ?_ ?_
    rotate_left
    ·go_simp
     rfl
    refine hK.out _ _ ⟨((cell_far (p:=⟨ak,_,none⟩) ac.out _).trans (((cell_far (p:=⟨ak,_,none⟩) ac.out _).trans (((cell_far (p:=⟨ak,_,none⟩) ac.out _).trans (hHeld.1)))))),((cell_far (p:=⟨ak,_,none⟩) ac.out _).trans (((cell_far (p:=⟨ak,_,none⟩) ac.out _).trans (((cell_far (p:=⟨ak,_,none⟩) ac.out _).trans (hHeld.2.1)))))),((cell_far (p:=⟨ak,_,none⟩) ac.out _).trans (((cell_far (p:=⟨ak,_,none⟩) ac.out _).trans (((cell_far (p:=⟨ak,_,none⟩) ac.out _).trans (hHeld.2.2))))))⟩ (fun hHeld=>?_)
    clear hK K
    refine p1 10 9 2047 HT_ (v:=?_) ?_ (a':=?_) ?_ ?_
    rotate_left
    ·intro w';go_simp;with_reducible rfl
    rotate_left
    ·simp only [Act.put,sA,sB,sC,i64_w,i32_w];rfl
    refine done_ (done_of HT_.out (by kernel_rfl)) ?_
    try go_wp2
    refine bodyPost_ret (results_ct rfl _ _ ak 29 #[.bool db,.slice dL dc.length dM,.int .i64 dd] (0,0) _ rfl (kp ad rfl) Tryz.underlying29 rfl (by kernel_rfl)) rfl ?_
    exact ⟨_,by first|rfl|(simp <;> rfl)|(simp [*] <;> rfl),Kd.V_mono (Kd.R_V (by (with_reducible repeat (first|apply Kd.R_alloc|apply Kd.R_drewN|apply Kd.R_drew));exact Kd.R_mono (Kd.R_far (p:=⟨ak,2,none⟩) (Kd.R_far (p:=⟨ak,1,none⟩) (Kd.R_far (p:=⟨ak,0,none⟩) (Kd.R_types cS.out ad.out (by decide)) (fun _ hk=>hk.2) (.bool db)) (fun _ hk=>hk.2) (.slice dL dc.length dM)) (fun _ hk=>hk.2) (.int .i64 dd)) (fun _ hk=>hk.1.1.1.1.1))) (fun k_ hk=>by first|exact ⟨(.inr (hk.1)),hk.2⟩|exact (.inr (hk))),bl HB⟩
   replace c17:=Bool.eq_false_iff.mpr c17
   subst c17
   rw [if_neg (show ¬ (false=true) by decide)] at H
   obtain ⟨co,A41,H⟩:=bX H
   try dsimp only at H
   obtain ⟨⟨de,df,dg,eH⟩,A42,H⟩:=bX H
   try dsimp only at H
   simp only [Option.some.injEq,Prod.mk.injEq] at H
   obtain ⟨rfl,rfl,rfl,rfl⟩:=H
   have fs:=ac.out
   have ft:=aB.out
   have fu:=blkc3 ab.out
   have fv:=blkf3 ab.out
   try go_wp2_with (first|((with_reducible refine gate_callee (f:=95) rfl ?_);refine gL (some 25) Tryz.func95 #[.agg #[.bool ae,.slice ah aa.length ai,.int .i64 ag],.int .i64 a1,.int .i64 a2] ?_;(with_reducible refine (round_divided.calls ae _ _ aa ag a1 a2 be bC true _ ?side3 (vc HO_146001) (vl HO_146001) A14.out).mono ?_);(case side3=>refine GL.below HG.out ?_;exact bl HB);rintro e w45 ⟨dG,rfl,ho0,hb⟩;refine ⟨_,rfl,?_⟩;replace HO_146001:=Sd.mk (Kd.V_elder' (vo HO_146001) (Kd.R_base ho0) hb);have aj:=Sd.mk (Kd.R_lower (Kd.R_newM (M:=fun k_=>(w.heap.size≤k_)) ho0 (bz HB) (fun k_ h_=>h_)) (bz HB));replace ab:=kb ab hb;replace ad:=kb ad hb;replace HB:=bs HB hb;(try clear hb);(try clear ho0))|((with_reducible refine gate_dst (N:=10) rfl ?_);refine box_event ?hg (N:=10) ?hd (cs:=#[.slice none 0 0,.int .i64 0,.bool false]) (t:=126) ?hr ?_;(case hd=>rfl);(case hg=>rfl);(case hr=>first|(go_simp;done)|(go_simp;rfl));intro au hg w46 hbox hb;replace HO_146001:=Sd.mk (Kd.V_below (Kd.V_elderB (vo HO_146001) au (Nat.le_of_eq hg.symm)) hb);replace aj:=rb aj hb;have aq:=Sd.mk (hbox);have cN:=bg HB hg;replace HB:=bs HB hb;have bo:=kn ab hg;have bp:=km ab hg;replace ab:=kb ab hb;have ax:=kn ad hg;have ay:=km ad hg;replace ad:=kb ad hb;clear hb hbox hg;obtain ⟨cr,cd,eI⟩:=Kd.R_slice aj.out;subst eI;have dO:=bp.out;have dP:=bo.out;have dQ:=ay.out;have dR:=ax.out;have dS:=blkc3 aq.out;have dT:=blkf3 aq.out;have fw:=blkc3 ab.out;have fx:=blkf3 ab.out)|((with_reducible refine gate_callee (f:=96) rfl ?_);refine gL (some 36) Tryz.func96 #[.agg #[.slice cr be.length cd,.int .i64 bC,.bool true],.bool ae,.int .i64 a3] ?_;(with_reducible refine (round_found_away.calls _ _ be bC true ae a3 false _ ?side1 (rl aj) A16.out).mono ?_);(case side1=>refine (Kd.R_reads' (e:=5) (base:=w.heap.size) (ok:=fun k_=>((w.heap.size≤k_)∧True)) (n:=be.length) (c:=cd) ?_).2.2;exact (by (with_reducible repeat (first|apply Kd.R_alloc|apply Kd.R_drewN|apply Kd.R_drew));exact (Kd.R_mono (Kd.R_far (p:=⟨au,2,none⟩) (Kd.R_far (p:=⟨au,1,none⟩) (Kd.R_far (p:=⟨au,0,none⟩) (Kd.R_types aj.out aq.out (by decide)) (fun _ hk=>hk.2) (.slice cr be.length cd)) (fun _ hk=>hk.2) (.int .i64 bC)) (fun _ hk=>hk.2) (.bool true)) (fun _ h_=>h_.1))));rintro e w52 ⟨rfl,hb⟩;refine ⟨_,rfl,?_⟩;replace HO_146001:=Sd.mk (Kd.V_below (by (with_reducible repeat (first|apply Kd.V_alloc|apply Kd.V_drewN|apply Kd.V_drew));exact (Kd.V_mono (Kd.V_far (p:=⟨au,2,none⟩) (Kd.V_far (p:=⟨au,1,none⟩) (Kd.V_far (p:=⟨au,0,none⟩) (Kd.V_mono HO_146001.out (fun k_ hk=>(⟨hk,hk.2⟩:_∧k_≠au))) (fun _ hk=>hk.2) (.slice cr be.length cd)) (fun _ hk=>hk.2) (.int .i64 bC)) (fun _ hk=>hk.2) (.bool true)) (fun _ h_=>h_.1))) hb);replace aj:=Sd.mk (Kd.R_below (by (with_reducible repeat (first|apply Kd.R_alloc|apply Kd.R_drewN|apply Kd.R_drew));exact (Kd.R_mono (Kd.R_far (p:=⟨au,2,none⟩) (Kd.R_far (p:=⟨au,1,none⟩) (Kd.R_far (p:=⟨au,0,none⟩) (Kd.R_types aj.out aq.out (by decide)) (fun _ hk=>hk.2) (.slice cr be.length cd)) (fun _ hk=>hk.2) (.int .i64 bC)) (fun _ hk=>hk.2) (.bool true)) (fun _ h_=>h_.1))) hb);replace ab:=kb ab hb;replace ad:=kb ad hb;replace aq:=Sd.mk (blk_below (g:=au) (o:=.cells #[.slice cr be.length cd,.int .i64 bC,.bool true] 126 (0,0)) (kp aq rfl) hb);replace HB:=bs HB hb;(try clear hb);(try clear hk)))
   replace HO_146001:=Sd.mk (Kd.V_drew HO_146001.out)
   replace aj:=Sd.mk (Kd.R_drew aj.out)
   replace ab:=Sd.mk (blk_drew ab.out)
   replace ad:=Sd.mk (blk_drew ad.out)
   replace aq:=Sd.mk (blk_drew aq.out)
   replace HB:=Sd.mk (below_drew1 HB.out)
   refine start_ (n:=11) (S:=fun w'=>w'.cell? ⟨bE,0,none⟩=some (.bool ae)∧w'.cell? ⟨bE,1,none⟩=some (.slice ah aa.length ai)∧w'.cell? ⟨bE,2,none⟩=some (.int .i64 ag)) (ds:=[]) (bZ 11 0) (by kernel_rfl) rfl (by kernel_rfl) ⟨(blk_cell ab.out 0).trans rfl,(blk_cell ab.out 1).trans rfl,(blk_cell ab.out 2).trans rfl⟩ (fun hHeld=>?_);refine with_tabW round_Inc.tab9 round_Inc.bits9 (fun HT_ HW_=>?_)
   generalize w52.drew=w53 at HO_146001 aj ab ad aq HB hHeld ⊢
   refine p1 0 39 1 HT_ (v:=?_) ?_ (a':=?_) ?_ ?_
   rotate_left
   ·intro w';go_simp;with_reducible rfl
   rotate_left
   ·simp only [Act.put,sA,sB,sC,i64_w,i32_w];rfl
   refine p1 2 41 5 HT_ (v:=?_) ?_ (a':=?_) ?_ ?_
   rotate_left
   ·intro w';go_simp;with_reducible rfl
   rotate_left
   ·simp only [Act.put,sA,sB,sC,i64_w,i32_w];rfl
   refine p1 3 42 13 HT_ (v:=?_) ?_ (a':=?_) ?_ ?_
   rotate_left
   ·intro w';go_simp;with_reducible rfl
   rotate_left
   ·simp only [Act.put,sA,sB,sC,i64_w,i32_w];rfl
   refine p1 5 44 45 HT_ (v:=?_) ?_ (a':=?_) ?_ ?_
   rotate_left
   ·intro w';go_simp;with_reducible rfl
   rotate_left
   ·simp only [Act.put,sA,sB,sC,i64_w,i32_w];rfl
   refine p2 1 40 47 HT_ HW_ (v:=?_) ?_ hHeld (a':=?_) ?_ ?_
   rotate_left
   ·rintro w' ⟨s0,s1,s2⟩;go_simp;with_reducible rfl
   rotate_left
   ·simp only [Act.put,sA,sB,sC,i64_w,i32_w];rfl
   refine one_ (i:=4) (N:=some 43) (bZ 11 63) rfl rfl (one_of HT_.out (by kernel_rfl)) (by decide) (fun K hK=>?_)
   refine goes_ Tryz.func98 (by kernel_rfl) rfl #[.slice cr be.length cd,.int .i64 a1] (by rfl) rfl rfl (by (try simp only [mA,mB,mC]);first|done|rfl|(simp only [lD,lT];rfl)) ?_
   with_reducible refine (round_times.calls _ _ be a1 co _ ?side1 ?side2 A41.out).mono ?_
   (case side1=>exact (Kd.R_reads' aj.out).2.2)
   (case side2=>exact (Kd.R_reads' aj.out).2.1)
   rintro e w54 ⟨gy,rfl,ho0,hb⟩
   refine ⟨_,rfl,?_⟩
   replace HO_146001:=Sd.mk (Kd.V_elder' (vo HO_146001) (Kd.R_base ho0) hb)
   have b3:=Sd.mk (Kd.R_lower (Kd.R_new' (Kd.R_newM (M:=fun k_=>(w.heap.size≤k_)) ho0 (bz HB) (fun k_ h_=>h_)) (Kd.R_lt (ro aj))) (bz HB))
   replace aj:=Sd.mk (Kd.R_elder' (ro aj) (Kd.R_base ho0) hb)
   replace ab:=kb ab hb
   replace ad:=kb ad hb
   replace aq:=kb aq hb
   replace HB:=bs HB hb
   (try clear hb)
   (try clear hb2)
   (try clear hk)
   (try clear hi)
   (try clear ho0)
   obtain ⟨cx,cy,cM⟩:=Kd.R_slice b3.out
   (first|subst cM|(injection cM with f1_ f2_ f3_;have f4_:=f1_.symm;have f5_:=f3_.symm;clear f1_ f2_ f3_;subst f4_;subst f5_))
   refine hK.out _ _ ⟨(blk_cell ab.out 0).trans rfl,(blk_cell ab.out 1).trans rfl,(blk_cell ab.out 2).trans rfl⟩ (fun hHeld=>?_)
   clear hK K
   refine norm_ (a':=?_) ?_ ?_
   rotate_left
   ·show Act.put _ (some 43) _=_
    simp only [Act.put,sA,sB,sC,i64_w,i32_w]
    rfl
   refine one_ (i:=6) (N:=some 45) (bZ 11 127) rfl rfl (one_of HT_.out (by kernel_rfl)) (by decide) (fun K hK=>?_)
   refine goes_ Tryz.func58 (by kernel_rfl) rfl #[.bool ae,.slice cx co.length cy,.int .i64 a2] (by rfl) rfl rfl (by (try simp only [mA,mB,mC]);first|done|rfl|(simp only [lD,lT];rfl)) ?_
   with_reducible refine (dec_Norm.calls kj4 ae (fun k_=>some k_=(.slice cx co.length cy:Value).ownBlock) _ _ co a2 de df dg eH _ ?side1 A42.out).mono ?_
   (case side1=>exact Kd.R_V (Kd.R_tight rfl (Kd.R_types (Kd.R_types (Kd.R_types (b3.out) ab.out (by decide)) ad.out (by decide)) aq.out (by decide))))
   rintro e w56 ⟨gz,rfl,ho0,hb⟩
   refine ⟨_,rfl,?_⟩
   replace HO_146001:=Sd.mk (Kd.V_elder' (vo HO_146001) (Kd.R_base ho0) hb)
   have cT:=Sd.mk (Kd.R_lower (Kd.R_new' (Kd.R_new' (Kd.R_newM (M:=fun k_=>(w.heap.size≤k_)) (Kd.R_mono (ok':=fun k_=>True) ho0 (fun _ hk_=>trivial)) (bz HB) (fun k_ h_=>h_)) (Kd.R_lt (ro aj))) (Kd.R_lt (ro b3))) (bz HB))
   replace aj:=Sd.mk (Kd.R_elder' (ro aj) (Kd.R_base ho0) hb)
   replace b3:=Sd.mk (Kd.R_elder' (ro b3) (Kd.R_base ho0) hb)
   replace ab:=kb ab hb
   replace ad:=kb ad hb
   replace aq:=kb aq hb
   replace HB:=bs HB hb
   (try clear hb)
   (try clear hb2)
   (try clear hk)
   (try clear hi)
   (try clear ho0)
   obtain ⟨dU,dV,dW⟩:=Kd.R_slice cT.out
   (first|subst dW|(injection dW with f1_ f2_ f3_;have f4_:=f1_.symm;have f5_:=f3_.symm;clear f1_ f2_ f3_;subst f4_;subst f5_))
   refine hK.out _ _ ⟨(blk_cell ab.out 0).trans rfl,(blk_cell ab.out 1).trans rfl,(blk_cell ab.out 2).trans rfl⟩ (fun hHeld=>?_)
   clear hK K
   refine norm_ (a':=?_) ?_ ?_
   rotate_left
   ·show Act.put _ (some 45) _=_
    simp only [Act.put,sA,sB,sC,i64_w,i32_w]
    rfl
   refine p1 7 46 255 HT_ (v:=?_) ?_ (a':=?_) ?_ ?_
   rotate_left
   ·intro w';go_simp;with_reducible rfl
   rotate_left
   ·simp only [Act.put,sA,sB,sC,i64_w,i32_w];rfl
   refine p1 8 47 511 HT_ (v:=?_) ?_ (a':=?_) ?_ ?_
   rotate_left
   ·intro w';go_simp;with_reducible rfl
   rotate_left
   ·simp only [Act.put,sA,sB,sC,i64_w,i32_w];rfl
   refine one_ (i:=9) (N:=none) (bZ 11 1023) rfl rfl (one_of HT_.out (by kernel_rfl)) (by decide) (fun K hK=>?_)
   have gA:w56.cell? ⟨ak,0,none⟩=some (.bool false):=(blk_cell ad.out 0).trans rfl
   have hfs57:=blk_frozen ad.out 0
   have hns57_0:=ac.out
   have hns57_2:=ay.out
   have hms57_0:=aB.out
   have hms57_2:=ax.out
   have gB:w56.cell? ⟨ak,1,none⟩=some (.slice none 0 0):=(blk_cell ad.out 1).trans rfl
   have hfs59:=blk_frozen ad.out 1
   have hns59_0:=ac.out
   have hns59_2:=ay.out
   have hms59_0:=aB.out
   have hms59_2:=ax.out
   have gC:w56.cell? ⟨ak,2,none⟩=some (.int .i64 0):=(blk_cell ad.out 2).trans rfl
   have hfs60:=blk_frozen ad.out 2
   have hns60_0:=ac.out
   have hns60_2:=ay.out
   have hms60_0:=aB.out
   have hms60_2:=ax.out
   refine skip_ (w1:=?_) (by rfl) rfl ?_ ?_
   rotate_left
   ·go_simp
    rfl
   refine hK.out _ _ ⟨((cell_far (p:=⟨ak,_,none⟩) ac.out _).trans (((cell_far (p:=⟨ak,_,none⟩) ac.out _).trans (((cell_far (p:=⟨ak,_,none⟩) ac.out _).trans (hHeld.1)))))),((cell_far (p:=⟨ak,_,none⟩) ac.out _).trans (((cell_far (p:=⟨ak,_,none⟩) ac.out _).trans (((cell_far (p:=⟨ak,_,none⟩) ac.out _).trans (hHeld.2.1)))))),((cell_far (p:=⟨ak,_,none⟩) ac.out _).trans (((cell_far (p:=⟨ak,_,none⟩) ac.out _).trans (((cell_far (p:=⟨ak,_,none⟩) ac.out _).trans (hHeld.2.2))))))⟩ (fun hHeld=>?_)
   clear hK K
   refine p1 10 9 2047 HT_ (v:=?_) ?_ (a':=?_) ?_ ?_
   rotate_left
   ·intro w';go_simp;with_reducible rfl
   rotate_left
   ·simp only [Act.put,sA,sB,sC,i64_w,i32_w];rfl
   refine done_ (done_of HT_.out (by kernel_rfl)) ?_
   try go_wp2
   refine bodyPost_ret (results_ct rfl _ _ ak 29 #[.bool de,.slice dU df.length dV,.int .i64 dg] (0,0) _ rfl (kp ad rfl) Tryz.underlying29 rfl (by kernel_rfl)) rfl ?_
   exact ⟨_,by first|rfl|(simp <;> rfl)|(simp [*] <;> rfl),Kd.V_mono (Kd.R_V (by (with_reducible repeat (first|apply Kd.R_alloc|apply Kd.R_drewN|apply Kd.R_drew));exact Kd.R_mono (Kd.R_far (p:=⟨ak,2,none⟩) (Kd.R_far (p:=⟨ak,1,none⟩) (Kd.R_far (p:=⟨ak,0,none⟩) (Kd.R_types cT.out ad.out (by decide)) (fun _ hk=>hk.2) (.bool de)) (fun _ hk=>hk.2) (.slice dU df.length dV)) (fun _ hk=>hk.2) (.int .i64 dg)) (fun _ hk=>hk.1.1.1.1))) (fun k_ hk=>by first|exact ⟨(.inr (hk.1)),hk.2⟩|exact (.inr (hk))),bl HB⟩
def round_To.f (k:Nat)(ae:Bool)(aa:List Int)(ag:Int)(a1:Int)(a2:Int):Option (Bool×List Int×Int×Int):=(round_Inc.f k ae aa ag 1 a1 a2).bind fun bF=>(some (bF.1,bF.2.1,bF.2.2.1,bF.2.2.2))
theorem round_To.mono:∀ a0 a1 a2 a3 a4 k,LeO (round_To.f k a0 a1 a2 a3 a4) (round_To.f (k+1) a0 a1 a2 a3 a4):=by
 intro a0 a1 a2 a3 a4 k
 unfold round_To.f
 repeat' first|(with_reducible first|apply round_Inc.mono|apply LeO.refl|apply LeO.none|refine LeO.ite ?_ ?_|refine LeO.bind ?_ (fun _=>?_))|apply round_Inc.mono|apply LeO.none
set_option maxHeartbeats 8000000 in
set_option maxRecDepth 100000 in
theorem round_To.calls (k:Nat)(ae:Bool)(aW:Nat→Prop)(ah:Option Addr)(ai:Nat)(aa:List Int)(ag:Int)(a1:Int)(a2:Int)(r1:Bool)(r2:List Int)(r3:Int)(r4:Int)(w:World)(hG:GL w)(b1:Kd.V (Kd.int .u8) 5 w w.heap.size (fun k_=>aW k_) (.slice ah aa.length ai) aa)(h:round_To.f k ae aa ag a1 a2=some (r1,r2,r3,r4)) :
  Calls Tryz.prog 41 #[.agg #[.bool ae,.slice ah aa.length ai,.int .i64 ag],.int .i64 a1,.int .i64 a2] w fun e w'=>∃ v1_:Value,e = .returned (.tuple #[.agg #[.bool r1,v1_,.int .i64 r3],.int .i64 r4])∧Kd.V (Kd.int .u8) 5 w' w.heap.size (fun k_=>(aW k_∨w.heap.size≤k_)) v1_ r2∧Below w.heap.size w w':=by
 have hu29:=Tryz.underlying29
 have aH:=Sd.mk (show Kd.V (Kd.int .u8) 5 w w.heap.size (fun k_=>(aW k_∨w.heap.size≤k_)) (.slice ah aa.length ai) aa from Kd.V_mono b1 (fun k_ hk=>.inl hk))
 have HB:=Sd.mk (Below.refl w.heap.size w)
 have HG:=Sd.mk hG
 clear hG
 have H:((round_Inc.f k ae aa ag 1 a1 a2).bind fun bF=>(some (bF.1,bF.2.1,bF.2.2.1,bF.2.2.2)))=some (r1,r2,r3,r4):=h
 clear h
 obtain ⟨⟨dh,di,dj,eJ⟩,A4,H⟩:=bX H
 try dsimp only at H
 simp only [Option.some.injEq,Prod.mk.injEq] at H
 obtain ⟨rfl,rfl,rfl,rfl⟩:=H
 go_enter Tryz.func41,Tryz.ntmps41
 go_wp2_with (first|((with_reducible refine gate_dst (N:=3) rfl ?_);refine box_event ?hg (N:=3) ?hd (cs:=#[.bool ae,.slice ah aa.length ai,.int .i64 ag]) (t:=29) ?hr ?_;(case hd=>rfl);(case hg=>rfl);(case hr=>first|(go_simp;done)|(go_simp;rfl));intro cz hg w5 hbox hb;replace aH:=Sd.mk (Kd.V_below (Kd.V_elderB (vo aH) cz (Nat.le_of_eq hg.symm)) hb);have bG:=Sd.mk (hbox);have fy:=bg HB hg;replace HB:=bs HB hb;clear hb hbox hg)|((with_reducible refine gate_dst (N:=6) rfl ?_);refine box_event ?hg (N:=6) ?hd (cs:=#[.bool false,.slice none 0 0,.int .i64 0]) (t:=29) ?hr ?_;(case hd=>rfl);(case hg=>rfl);(case hr=>first|(go_simp;done)|(go_simp;rfl));intro bM hg w6 hbox hb;replace aH:=Sd.mk (Kd.V_below (Kd.V_elderB (vo aH) bM (Nat.le_of_eq hg.symm)) hb);have bV:=Sd.mk (hbox);have fz:=bg HB hg;replace HB:=bs HB hb;have ct:=kn bG hg;have cu:=km bG hg;replace bG:=kb bG hb;clear hb hbox hg;have gD:=ct.out;have gE:=cu.out;have eK:=blkc3 bG.out;have eL:=blkf3 bG.out)|((with_reducible refine gate_callee (f:=74) rfl ?_);refine gL (some 11) Tryz.func74 #[.agg #[.bool ae,.slice ah aa.length ai,.int .i64 ag],.int .i64 1,.int .i64 a1,.int .i64 a2] ?_;(with_reducible refine (round_Inc.calls k ae (fun k_=>(((aW k_∨w.heap.size≤k_)∧k_≠cz)∧k_≠bM)) _ _ aa ag 1 a1 a2 dh di dj eJ _ ?side2 ?side1 A4.out).mono ?_);(case side1=>exact aH.out);(case side2=>refine GL.below HG.out ?_;exact bl HB);rintro e w9 ⟨gF,rfl,ho0,hb⟩;refine ⟨_,rfl,?_⟩;replace aH:=vb aH hb;have cU:=Sd.mk (Kd.V_lower (Kd.V_mono (ok':=fun k_=>(aW k_∨w.heap.size≤k_)∧k_≠cz∧k_≠bM) ho0 (fun k_ hk_=>⟨Or.elim hk_ (fun hs_=>hs_.1.1) (fun hn_=>(.inr (Nat.le_trans (bz HB) hn_))),Or.elim hk_ (fun hs_=>hs_.1.2) (fun hn_=>(Kd.freshB (ko bG) k_ hn_)),Or.elim hk_ (fun hs_=>hs_.2) (fun hn_=>(Kd.freshB (ko bV) k_ hn_))⟩)) (bz HB));replace bG:=kb bG hb;replace bV:=kb bV hb;replace HB:=bs HB hb;(try clear hb);(try clear ho0);have cA:=blkc3 bV.out;have cB:=blkf3 bV.out;obtain ⟨dX,dY,eM⟩:=Kd.V_slice cU.out;subst eM))
 refine bodyPost_ret (results_ct rfl _ _ bM 29 #[.bool dh,.slice dX di.length dY,.int .i64 dj] (0,0) _ rfl (kp bV rfl) Tryz.underlying29 rfl (by kernel_rfl)) rfl ?_
 exact ⟨_,by first|rfl|(simp <;> rfl)|(simp [*] <;> rfl),by (with_reducible repeat (first|apply Kd.V_alloc|apply Kd.V_drewN|apply Kd.V_drew));exact Kd.V_mono (Kd.V_far (p:=⟨bM,2,none⟩) (Kd.V_far (p:=⟨bM,1,none⟩) (Kd.V_far (p:=⟨bM,0,none⟩) (Kd.V_mono cU.out (fun k_ hk=>(⟨hk,hk.2.2⟩:_∧k_≠bM))) (fun _ hk=>hk.2) (.bool dh)) (fun _ hk=>hk.2) (.slice dX di.length dY)) (fun _ hk=>hk.2) (.int .i64 dj)) (fun _ hk=>hk.1.1),bl HB⟩
def dec_Mag.f (ae:Bool)(aa:List Int)(ag:Int):Option (Int):=some (wrap64 ((wrap64 ((mx (aa.length:Int) 1)+ag)) - 1))
set_option maxHeartbeats 8000000 in
set_option maxRecDepth 100000 in
theorem dec_Mag.calls (ae:Bool)(ah:Option Addr)(ai:Nat)(aa:List Int)(ag:Int)(r:Int)(w:World)(br:Kd.C (Kd.int .u8) w ah aa.length aa)(bu:aa.length≤ai)(h:dec_Mag.f ae aa ag=some r) :
  Calls Tryz.prog 44 #[.agg #[.bool ae,.slice ah aa.length ai,.int .i64 ag]] w fun e w'=>e = .returned (.int .i64 r)∧Below w.heap.size w w':=by
 have hu29:=Tryz.underlying29
 have bN:=Sd.mk br
 have bQ:=Sd.mk bu
 clear br bu
 have HB:=Sd.mk (Below.refl w.heap.size w)
 have H:(some (wrap64 ((wrap64 ((mx (aa.length:Int) 1)+ag)) - 1)))=some r:=h
 clear h
 obtain ⟨ji2,cC⟩:∃ j_:Int,(mx (aa.length:Int) 1)=j_:=⟨_,rfl⟩
 replace H:(some (wrap64 ((wrap64 ((ji2)+ag)) - 1)))=some r:=by first|(rw [cC] at H;exact H)|(simp only [cC] at H ⊢;exact H)
 (try (have hji2l:1≤ji2:=by (rw [← cC];unfold mx;(repeat' split) <;> omega)))
 (try (have hji2m:0≤ji2:=by omega))
 have fA:(if (aa.length:Int)<1 then 1 else (aa.length:Int))=ji2:=cC
 obtain rfl:=Option.some.inj H
 go_enter Tryz.func44,Tryz.ntmps44
 go_wp2_with (first|((with_reducible refine gate_dst (N:=1) rfl ?_);refine box_event ?hg (N:=1) ?hd (cs:=#[.bool ae,.slice ah aa.length ai,.int .i64 ag]) (t:=29) ?hr ?_;(case hd=>rfl);(case hg=>rfl);(case hr=>first|(go_simp;done)|(go_simp;rfl));intro fB hg w3 hbox hb;have cV:=Sd.mk (hbox);have fC:=bg HB hg;replace HB:=bs HB hb;clear hb hbox hg;have gG:=blkc3 cV.out;have gH:=blkf3 cV.out))
 go_ret
 exact ⟨by first|rfl|(simp <;> rfl)|(simp only [← cC];first|rfl|(simp <;> rfl))|(simp [*] <;> rfl),bl HB⟩
def round_Sig.j0:Nat→Int→Int→Bool→Bool→List Int→Int→Option (Bool×List Int×Int×Int)
 | 0,_,_,_,_,_,_=>none
 | k+1,x1,x2,x15,bO,bH,bP=>if x15=true then (some (false,([]:List Int),0,1)) else ((dec_Mag.f bO bH bP).bind fun bW=>(if (bH.length:Int)=0 then (some (bO,bH,bP,0)) else (if (wrap64 ((wrap64 (bW - x1))+1))<(-1000) then (some (bO,bH,bP,0)) else ((round_To.f k bO bH bP (wrap64 ((wrap64 (bW - x1))+1)) x2).bind fun cl=>(some (cl.1,cl.2.1,cl.2.2.1,cl.2.2.2))))))
def round_Sig.f (k:Nat)(ae:Bool)(aa:List Int)(ag:Int)(a1:Int)(a2:Int):Option (Bool×List Int×Int×Int):=(round_Is.f a2).bind fun cD=>(if cD=true then (round_Sig.j0 k a1 a2 (decide (a1<1)) ae aa ag) else (round_Sig.j0 k a1 a2 true ae aa ag))
theorem round_Sig.mono_l:∀ k,(∀ y0 y1 y2 y3 y4 y5,LeO (round_Sig.j0 k y0 y1 y2 y3 y4 y5) (round_Sig.j0 (k+1) y0 y1 y2 y3 y4 y5))
 | 0=>fun _ _ _ _ _ _ r h=>by simp [round_Sig.j0] at h
 | k+1=>by
  have ih0:=round_Sig.mono_l k
  ·intro y0 y1 y2 y3 y4 y5
   unfold round_Sig.j0
   repeat' first|(with_reducible first|apply ih0|apply round_To.mono|apply LeO.refl|apply LeO.none|refine LeO.ite ?_ ?_|refine LeO.bind ?_ (fun _=>?_))|apply ih0|apply round_To.mono|apply LeO.none
theorem round_Sig.mono:∀ a0 a1 a2 a3 a4 k,LeO (round_Sig.f k a0 a1 a2 a3 a4) (round_Sig.f (k+1) a0 a1 a2 a3 a4):=by
 intro a0 a1 a2 a3 a4 k
 have ih0:=round_Sig.mono_l k
 unfold round_Sig.f
 repeat' first|(with_reducible first|apply ih0|apply round_To.mono|apply LeO.refl|apply LeO.none|refine LeO.ite ?_ ?_|refine LeO.bind ?_ (fun _=>?_))|apply ih0|apply round_To.mono|apply LeO.none
set_option maxHeartbeats 8000000 in
set_option maxRecDepth 100000 in
theorem round_Sig.calls (k:Nat)(ae:Bool)(aW:Nat→Prop)(ah:Option Addr)(ai:Nat)(aa:List Int)(ag:Int)(a1:Int)(a2:Int)(r1:Bool)(r2:List Int)(r3:Int)(r4:Int)(w:World)(hG:GL w)(b1:Kd.V (Kd.int .u8) 5 w w.heap.size (fun k_=>aW k_) (.slice ah aa.length ai) aa)(h:round_Sig.f k ae aa ag a1 a2=some (r1,r2,r3,r4)) :
  Calls Tryz.prog 40 #[.agg #[.bool ae,.slice ah aa.length ai,.int .i64 ag],.int .i64 a1,.int .i64 a2] w fun e w'=>∃ v1_:Value,e = .returned (.tuple #[.agg #[.bool r1,v1_,.int .i64 r3],.int .i64 r4])∧Kd.V (Kd.int .u8) 5 w' w.heap.size (fun k_=>(aW k_∨w.heap.size≤k_)) v1_ r2∧Below w.heap.size w w':=by
 have hu29:=Tryz.underlying29
 have aH:=Sd.mk (show Kd.V (Kd.int .u8) 5 w w.heap.size (fun k_=>(aW k_∨w.heap.size≤k_)) (.slice ah aa.length ai) aa from Kd.V_mono b1 (fun k_ hk=>.inl hk))
 have HB:=Sd.mk (Below.refl w.heap.size w)
 have HG:=Sd.mk hG
 clear hG
 have H:((round_Is.f a2).bind fun cD=>(if cD=true then (round_Sig.j0 k a1 a2 (decide (a1<1)) ae aa ag) else (round_Sig.j0 k a1 a2 true ae aa ag)))=some (r1,r2,r3,r4):=h
 clear h
 have HC4:=Sd.mk H
 clear H
 go_enter Tryz.func40,Tryz.ntmps40
 go_upto_region 1 with (first|((with_reducible refine gate_dst (N:=3) rfl ?_);refine box_event ?hg (N:=3) ?hd (cs:=#[.bool ae,.slice ah aa.length ai,.int .i64 ag]) (t:=29) ?hr ?_;(case hd=>rfl);(case hg=>rfl);(case hr=>first|(go_simp;done)|(go_simp;rfl));intro b4 hg w5 hbox hb;replace aH:=Sd.mk (Kd.V_below (Kd.V_elderB (vo aH) b4 (Nat.le_of_eq hg.symm)) hb);have av:=Sd.mk (hbox);have fD:=bg HB hg;replace HB:=bs HB hb;clear hb hbox hg)|((with_reducible refine gate_dst (N:=6) rfl ?_);refine box_event ?hg (N:=6) ?hd (cs:=#[.bool false,.slice none 0 0,.int .i64 0]) (t:=29) ?hr ?_;(case hd=>rfl);(case hg=>rfl);(case hr=>first|(go_simp;done)|(go_simp;rfl));intro aI hg w6 hbox hb;replace aH:=Sd.mk (Kd.V_below (Kd.V_elderB (vo aH) aI (Nat.le_of_eq hg.symm)) hb);have aC:=Sd.mk (hbox);have fE:=bg HB hg;replace HB:=bs HB hb;have bA:=kn av hg;have bB:=km av hg;replace av:=kb av hb;clear hb hbox hg))
 (try simp only [Act.put,sA,sB,sC])
 go_cut [15] (fun v15 wc=>∃ (kq:Nat) (cm:Bool),v15 = .bool cm∧Sd (round_Sig.j0 kq a1 a2 cm ae aa ag=some (r1,r2,r3,r4))∧Sd (kq≤k)∧Sd (Kd.V (Kd.int .u8) 5 wc w.heap.size (fun k_=>(aW k_∨w.heap.size≤k_)∧k_≠b4∧k_≠aI) (.slice ah aa.length ai) aa)∧Sd (wc.heap[b4]?=some (.cells #[.bool ae,(.slice ah aa.length ai),.int .i64 ag] 29 (0,0)))∧Sd (wc.heap[aI]?=some (.cells #[.bool false,(.slice none 0 0),.int .i64 0] 29 (0,0)))∧Sd (Below w.heap.size w wc))
 case first=>
  have H:=HC4.out
  clear HC4
  obtain ⟨cD,A7,H⟩:=bX H
  try dsimp only at H
  by_cases c8:cD=true
  ·subst c8
   rw [if_pos rfl] at H
   have H':=Sd.mk H
   clear H
   go_wp2_with (first|((with_reducible refine gate_callee (f:=73) rfl ?_);refine gL (some 10) Tryz.func73 #[.int .i64 a2] ?_;(with_reducible refine (round_Is.calls a2 true _ A7.out).mono ?_);rintro e w' ⟨rfl,⟨nd,rfl⟩⟩;refine ⟨_,rfl,?_⟩))
   go_meet
   case rel=>exact ⟨_,(decide (a1<1)),(by first|rfl|(simp;done)|(simp [*];done)),H',⟨by first|omega|exact Nat.le_refl _⟩,⟨by (with_reducible repeat (first|apply Kd.V_alloc|apply Kd.V_drewN|apply Kd.V_drew));exact Kd.V_mono aH.out (fun _ hk=>⟨hk.1.1,⟨hk.1.2,hk.2⟩⟩)⟩,⟨ko av⟩,⟨ko aC⟩,⟨bl HB⟩⟩
  replace c8:=Bool.eq_false_iff.mpr c8
  subst c8
  rw [if_neg (show ¬ (false=true) by decide)] at H
  have H':=Sd.mk H
  clear H
  go_wp2_with (first|((with_reducible refine gate_callee (f:=73) rfl ?_);refine gL (some 10) Tryz.func73 #[.int .i64 a2] ?_;(with_reducible refine (round_Is.calls a2 false _ A7.out).mono ?_);rintro e w' ⟨rfl,⟨nd,rfl⟩⟩;refine ⟨_,rfl,?_⟩))
  go_meet
  case rel=>exact ⟨_,(true),(by first|rfl|(simp;done)|(simp [*];done)),H',⟨by first|omega|exact Nat.le_refl _⟩,⟨by (with_reducible repeat (first|apply Kd.V_alloc|apply Kd.V_drewN|apply Kd.V_drew));exact Kd.V_mono aH.out (fun _ hk=>⟨hk.1.1,⟨hk.1.2,hk.2⟩⟩)⟩,⟨ko av⟩,⟨ko aC⟩,⟨bl HB⟩⟩
 case rest=>
  clear HC4
  try clear p2
  try clear c4
  try clear c7
  try clear c8
  obtain ⟨kq,cm,rfl,HA,HJ3,HO_187001,av,aC,HB⟩:=hcut
  cases kq with
  | zero=>exact absurd HA.out (by simp [round_Sig.j0])
  | succ kj3=>
   have H:=HA.out
   clear HA
   simp only [round_Sig.j0] at H
   by_cases c9:cm=true
   ·subst c9
    rw [if_pos rfl] at H
    simp only [Option.some.injEq,Prod.mk.injEq] at H
    obtain ⟨rfl,rfl,rfl,rfl⟩:=H
    have dZ:=bB.out
    have d0:=bA.out
    have d1:=blkc3 aC.out
    have d2:=blkf3 aC.out
    go_wp2
    refine bodyPost_ret (results_ct rfl _ _ aI 29 #[.bool false,.slice none 0 0,.int .i64 0] (0,0) _ rfl (kp aC rfl) Tryz.underlying29 rfl (by kernel_rfl)) rfl ?_
    exact ⟨_,by first|rfl|(simp <;> rfl)|(simp [*] <;> rfl),(by first|exact Kd.V_nil _ _ _ _ _|exact (Kd.V_mono (Kd.R_V (by first|exact Kd.R_nil _ _ _ _ _|exact Kd.R_nil _ _ _ 0 _|exact Kd.N_nil _ _ _ _ _|exact Kd.V_nil _ _ _ _ _|exact Kd.Q_nil _ _ _ _ _|exact Kd.S_nil _ _ _ _ _)) (fun k_ hk=>by first|exact ⟨(.inr (hk.1)),hk.2⟩|exact (.inr (hk))))),bl HB⟩
   replace c9:=Bool.eq_false_iff.mpr c9
   subst c9
   rw [if_neg (show ¬ (false=true) by decide)] at H
   obtain ⟨bW,A12,H⟩:=bX H
   try dsimp only at H
   by_cases c13:(aa.length:Int)=0
   ·rw [if_pos c13] at H
    have d3:((aa.length:Int) == 0)=true:=beq_iff_eq.mpr c13
    have d4:((aa.length:Int) != 0)=false:=bne_eq_false_iff_eq.mpr c13
    clear c13
    simp only [Option.some.injEq,Prod.mk.injEq] at H
    obtain ⟨rfl,rfl,rfl,rfl⟩:=H
    have fF:=bA.out
    have fG:=bB.out
    have cE:=blkc3 av.out
    have cF:=blkf3 av.out
    go_wp2_with (first|((with_reducible refine gate_callee (f:=44) rfl ?_);refine gL (some 18) Tryz.func44 #[.agg #[.bool ae,.slice ah aa.length ai,.int .i64 ag]] ?_;(with_reducible refine (dec_Mag.calls ae _ _ aa ag bW _ (vc HO_187001) (vl HO_187001) A12.out).mono ?_);rintro e w16 ⟨rfl,hb⟩;refine ⟨_,rfl,?_⟩;replace HO_187001:=vb HO_187001 hb;replace av:=kb av hb;replace aC:=kb aC hb;replace HB:=bs HB hb;(try clear hb);have fH:=blkc3 av.out;have fI:=blkf3 av.out;have d5:=blkc3 aC.out;have d6:=blkf3 aC.out))
    refine bodyPost_ret (results_ct rfl _ _ aI 29 #[.bool ae,.slice ah aa.length ai,.int .i64 ag] (0,0) _ rfl (kp aC rfl) Tryz.underlying29 rfl (by kernel_rfl)) rfl ?_
    exact ⟨_,by first|rfl|(simp <;> rfl)|(simp [*] <;> rfl),by (with_reducible repeat (first|apply Kd.V_alloc|apply Kd.V_drewN|apply Kd.V_drew));exact Kd.V_mono (Kd.V_far (p:=⟨aI,2,none⟩) (Kd.V_far (p:=⟨aI,1,none⟩) (Kd.V_far (p:=⟨aI,0,none⟩) (Kd.V_mono HO_187001.out (fun k_ hk=>(⟨hk,hk.2.2⟩:_∧k_≠aI))) (fun _ hk=>hk.2) (.bool ae)) (fun _ hk=>hk.2) (.slice ah aa.length ai)) (fun _ hk=>hk.2) (.int .i64 ag)) (fun _ hk=>hk.1.1),bl HB⟩
   rw [if_neg c13] at H
   have d3:((aa.length:Int) == 0)=false:=beq_eq_false_iff_ne.mpr c13
   have d4:((aa.length:Int) != 0)=true:=bne_iff_ne.mpr c13
   have fJ:¬ (aa=[]):=fun h_=>c13 (by rw [h_];rfl)
   by_cases c19:(wrap64 ((wrap64 (bW - a1))+1))<(-1000)
   ·rw [if_pos c19] at H
    have d7:=decide_eq_true c19
    clear c19
    simp only [Option.some.injEq,Prod.mk.injEq] at H
    obtain ⟨rfl,rfl,rfl,rfl⟩:=H
    have fK:=bA.out
    have fL:=bB.out
    have fM:=blkc3 av.out
    have fN:=blkf3 av.out
    go_wp2_with (first|((with_reducible refine gate_callee (f:=44) rfl ?_);refine gL (some 18) Tryz.func44 #[.agg #[.bool ae,.slice ah aa.length ai,.int .i64 ag]] ?_;(with_reducible refine (dec_Mag.calls ae _ _ aa ag bW _ (vc HO_187001) (vl HO_187001) A12.out).mono ?_);rintro e w22 ⟨rfl,hb⟩;refine ⟨_,rfl,?_⟩;replace HO_187001:=vb HO_187001 hb;replace av:=kb av hb;replace aC:=kb aC hb;replace HB:=bs HB hb;(try clear hb);have d8:=blkc3 av.out;have d9:=blkf3 av.out;have fO:=blkc3 aC.out;have fP:=blkf3 aC.out))
    refine bodyPost_ret (results_ct rfl _ _ aI 29 #[.bool ae,.slice ah aa.length ai,.int .i64 ag] (0,0) _ rfl (kp aC rfl) Tryz.underlying29 rfl (by kernel_rfl)) rfl ?_
    exact ⟨_,by first|rfl|(simp <;> rfl)|(simp [*] <;> rfl),by (with_reducible repeat (first|apply Kd.V_alloc|apply Kd.V_drewN|apply Kd.V_drew));exact Kd.V_mono (Kd.V_far (p:=⟨aI,2,none⟩) (Kd.V_far (p:=⟨aI,1,none⟩) (Kd.V_far (p:=⟨aI,0,none⟩) (Kd.V_mono HO_187001.out (fun k_ hk=>(⟨hk,hk.2.2⟩:_∧k_≠aI))) (fun _ hk=>hk.2) (.bool ae)) (fun _ hk=>hk.2) (.slice ah aa.length ai)) (fun _ hk=>hk.2) (.int .i64 ag)) (fun _ hk=>hk.1.1),bl HB⟩
   rw [if_neg c19] at H
   have d7:=decide_eq_false c19
   clear c19
   obtain ⟨⟨dk,dl,dm,eN⟩,A25,H⟩:=bX H
   try dsimp only at H
   simp only [Option.some.injEq,Prod.mk.injEq] at H
   obtain ⟨rfl,rfl,rfl,rfl⟩:=H
   have cO:=bA.out
   have cP:=bB.out
   have ea:=blkc3 av.out
   have eb:=blkf3 av.out
   go_wp2_with (first|((with_reducible refine gate_callee (f:=44) rfl ?_);refine gL (some 18) Tryz.func44 #[.agg #[.bool ae,.slice ah aa.length ai,.int .i64 ag]] ?_;(with_reducible refine (dec_Mag.calls ae _ _ aa ag bW _ (vc HO_187001) (vl HO_187001) A12.out).mono ?_);rintro e w28 ⟨rfl,hb⟩;refine ⟨_,rfl,?_⟩;replace HO_187001:=vb HO_187001 hb;replace av:=kb av hb;replace aC:=kb aC hb;replace HB:=bs HB hb;(try clear hb);have cQ:=blkc3 av.out;have cR:=blkf3 av.out)|((with_reducible refine gate_callee (f:=41) rfl ?_);refine gL (some 34) Tryz.func41 #[.agg #[.bool ae,.slice ah aa.length ai,.int .i64 ag],.int .i64 (wrap64 ((wrap64 (bW - a1))+1)),.int .i64 a2] ?_;(with_reducible refine (round_To.calls kj3 ae (fun k_=>((aW k_∨w.heap.size≤k_)∧(k_≠b4∧k_≠aI))) _ _ aa ag (wrap64 ((wrap64 (bW - a1))+1)) a2 dk dl dm eN _ ?side2 ?side1 A25.out).mono ?_);(case side1=>exact HO_187001.out);(case side2=>refine GL.below HG.out ?_;exact bl HB);rintro e w30 ⟨gI,rfl,ho0,hb⟩;refine ⟨_,rfl,?_⟩;replace HO_187001:=vb HO_187001 hb;have cW:=Sd.mk (Kd.V_lower (Kd.V_mono (ok':=fun k_=>(aW k_∨w.heap.size≤k_)∧k_≠b4∧k_≠aI) ho0 (fun k_ hk_=>⟨Or.elim hk_ (fun hs_=>hs_.1) (fun hn_=>(.inr (Nat.le_trans (bz HB) hn_))),Or.elim hk_ (fun hs_=>hs_.2.1) (fun hn_=>(Kd.freshB (ko av) k_ hn_)),Or.elim hk_ (fun hs_=>hs_.2.2) (fun hn_=>(Kd.freshB (ko aC) k_ hn_))⟩)) (bz HB));replace av:=kb av hb;replace aC:=kb aC hb;replace HB:=bs HB hb;(try clear hb);(try clear ho0);have fQ:=blkc3 aC.out;have fR:=blkf3 aC.out;obtain ⟨ec,ed,eO⟩:=Kd.V_slice cW.out;subst eO))
   refine bodyPost_ret (results_ct rfl _ _ aI 29 #[.bool dk,.slice ec dl.length ed,.int .i64 dm] (0,0) _ rfl (kp aC rfl) Tryz.underlying29 rfl (by kernel_rfl)) rfl ?_
   exact ⟨_,by first|rfl|(simp <;> rfl)|(simp [*] <;> rfl),by (with_reducible repeat (first|apply Kd.V_alloc|apply Kd.V_drewN|apply Kd.V_drew));exact Kd.V_mono (Kd.V_far (p:=⟨aI,2,none⟩) (Kd.V_far (p:=⟨aI,1,none⟩) (Kd.V_far (p:=⟨aI,0,none⟩) (Kd.V_mono cW.out (fun k_ hk=>(⟨hk,hk.2.2⟩:_∧k_≠aI))) (fun _ hk=>hk.2) (.bool dk)) (fun _ hk=>hk.2) (.slice ec dl.length ed)) (fun _ hk=>hk.2) (.int .i64 dm)) (fun _ hk=>hk.1.1),bl HB⟩
def shape_Round.f (k:Nat)(aK:List (S114))(aa:List (S114))(aL:List (S114))(aM:List (S114))(aX:Bool)(aY:Int)(aN:Int)(aO:Int)(aJ:Int)(aZ:Int)(aD:Int)(aw:Int)(am:Int)(ar:Int)(aE:Bool)(aF:Int)(aG:Int)(a1:Int)(ba:Bool)(aP:List Int)(bb:Int)(a3:Int):Option (Bool×List Int×Int×Int):=if ar>0 then ((round_Sig.f k ba aP bb (wrap64 (1+aJ)) a3).bind fun bI=>(some (bI.1,bI.2.1,bI.2.2.1,bI.2.2.2))) else (if am>0 then ((round_Sig.f k ba aP bb am a3).bind fun bJ=>(some (bJ.1,bJ.2.1,bJ.2.2.1,bJ.2.2.2))) else (if a1≥0 then ((round_To.f k ba aP bb (wrap64 (-a1)) a3).bind fun bK=>(some (bK.1,bK.2.1,bK.2.2.1,bK.2.2.2))) else ((round_To.f k ba aP bb (wrap64 (-aJ)) a3).bind fun bL=>(some (bL.1,bL.2.1,bL.2.2.1,bL.2.2.2)))))
theorem shape_Round.mono:∀ a0 a1 a2 a3 a4 a5 a6 a7 a8 a9 a10 a11 a12 a13 a14 a15 a16 a17 a18 a19 a20 a21 k,LeO (shape_Round.f k a0 a1 a2 a3 a4 a5 a6 a7 a8 a9 a10 a11 a12 a13 a14 a15 a16 a17 a18 a19 a20 a21) (shape_Round.f (k+1) a0 a1 a2 a3 a4 a5 a6 a7 a8 a9 a10 a11 a12 a13 a14 a15 a16 a17 a18 a19 a20 a21):=by
 intro a0 a1 a2 a3 a4 a5 a6 a7 a8 a9 a10 a11 a12 a13 a14 a15 a16 a17 a18 a19 a20 a21 k
 unfold shape_Round.f
 repeat' first|(with_reducible first|apply round_Sig.mono|apply round_To.mono|apply LeO.refl|apply LeO.none|refine LeO.ite ?_ ?_|refine LeO.bind ?_ (fun _=>?_))|apply round_Sig.mono|apply round_To.mono|apply LeO.none
set_option maxHeartbeats 8000000 in
set_option maxRecDepth 100000 in
theorem shape_Round.calls (k:Nat)(bh:Option Addr)(bi:Nat)(aK:List (S114))(ah:Option Addr)(ai:Nat)(aa:List (S114))(bj:Option Addr)(bk:Nat)(aL:List (S114))(bm:Option Addr)(bn:Nat)(aM:List (S114))(aX:Bool)(aY:Int)(aN:Int)(aO:Int)(aJ:Int)(aZ:Int)(aD:Int)(aw:Int)(am:Int)(ar:Int)(aE:Bool)(aF:Int)(aG:Int)(a1:Int)(ba:Bool)(bv:Nat→Prop)(bR:Option Addr)(bS:Nat)(aP:List Int)(bb:Int)(a3:Int)(r1:Bool)(r2:List Int)(r3:Int)(r4:Int)(w:World)(hG:GL w)(b5:Kd.C k114 w bh aK.length aK)(b6:aK.length≤bi)(br:Kd.C k114 w ah aa.length aa)(bu:aa.length≤ai)(b7:Kd.C k114 w bj aL.length aL)(b8:aL.length≤bk)(b9:Kd.C k114 w bm aM.length aM)(ca:aM.length≤bn)(ee:Kd.V (Kd.int .u8) 5 w w.heap.size (fun k_=>bv k_) (.slice bR aP.length bS) aP)(h:shape_Round.f k aK aa aL aM aX aY aN aO aJ aZ aD aw am ar aE aF aG a1 ba aP bb a3=some (r1,r2,r3,r4)) :
  Calls Tryz.prog 15 #[.agg #[.slice bh aK.length bi,.slice ah aa.length ai,.slice bj aL.length bk,.slice bm aM.length bn,.bool aX,.int .i64 aY,.int .i64 aN,.int .i64 aO,.int .i64 aJ,.int .i64 aZ,.int .i64 aD,.int .i64 aw,.int .i64 am,.int .i64 ar,.bool aE,.int .i32 aF,.int .i64 aG],.int .i64 a1,.agg #[.bool ba,.slice bR aP.length bS,.int .i64 bb],.int .i64 a3] w fun e w'=>∃ v1_:Value,e = .returned (.tuple #[.agg #[.bool r1,v1_,.int .i64 r3],.int .i64 r4])∧Kd.V (Kd.int .u8) 5 w' w.heap.size (fun k_=>(bv k_∨w.heap.size≤k_)) v1_ r2∧Below w.heap.size w w':=by
 have hu26:=Tryz.underlying26
 have hu29:=Tryz.underlying29
 have ef:=Sd.mk b5
 have eg:=Sd.mk b6
 clear b5 b6
 have bN:=Sd.mk br
 have bQ:=Sd.mk bu
 clear br bu
 have eh:=Sd.mk b7
 have ei:=Sd.mk b8
 clear b7 b8
 have ej:=Sd.mk b9
 have ek:=Sd.mk ca
 clear b9 ca
 have an:=Sd.mk (show Kd.V (Kd.int .u8) 5 w w.heap.size (fun k_=>(bv k_∨w.heap.size≤k_)) (.slice bR aP.length bS) aP from Kd.V_mono ee (fun k_ hk=>.inl hk))
 have HB:=Sd.mk (Below.refl w.heap.size w)
 have HG:=Sd.mk hG
 clear hG
 have H:(if ar>0 then ((round_Sig.f k ba aP bb (wrap64 (1+aJ)) a3).bind fun bI=>(some (bI.1,bI.2.1,bI.2.2.1,bI.2.2.2))) else (if am>0 then ((round_Sig.f k ba aP bb am a3).bind fun bJ=>(some (bJ.1,bJ.2.1,bJ.2.2.1,bJ.2.2.2))) else (if a1≥0 then ((round_To.f k ba aP bb (wrap64 (-a1)) a3).bind fun bK=>(some (bK.1,bK.2.1,bK.2.2.1,bK.2.2.2))) else ((round_To.f k ba aP bb (wrap64 (-aJ)) a3).bind fun bL=>(some (bL.1,bL.2.1,bL.2.2.1,bL.2.2.2))))))=some (r1,r2,r3,r4):=h
 clear h
 by_cases c5:ar>0
 ·rw [if_pos c5] at H
  have eP:decide (0<ar)=true:=decide_eq_true c5
  clear c5
  obtain ⟨⟨dn,dp,dq,eQ⟩,A6,H⟩:=bX H
  try dsimp only at H
  simp only [Option.some.injEq,Prod.mk.injEq] at H
  obtain ⟨rfl,rfl,rfl,rfl⟩:=H
  go_enter Tryz.func15,Tryz.ntmps15
  go_wp2_with (first|((with_reducible refine gate_dst (N:=4) rfl ?_);refine box_event ?hg (N:=4) ?hd (cs:=#[.slice bh aK.length bi,.slice ah aa.length ai,.slice bj aL.length bk,.slice bm aM.length bn,.bool aX,.int .i64 aY,.int .i64 aN,.int .i64 aO,.int .i64 aJ,.int .i64 aZ,.int .i64 aD,.int .i64 aw,.int .i64 am,.int .i64 ar,.bool aE,.int .i32 aF,.int .i64 aG]) (t:=26) ?hr ?_;(case hd=>rfl);(case hg=>rfl);(case hr=>first|(go_simp;done)|(go_simp;rfl));intro bc hg w7 hbox hb;replace an:=Sd.mk (Kd.V_below (Kd.V_elderB (vo an) bc (Nat.le_of_eq hg.symm)) hb);have af:=Sd.mk (hbox);have cG:=bg HB hg;replace HB:=bs HB hb;clear hb hbox hg)|((with_reducible refine gate_dst (N:=6) rfl ?_);refine box_event ?hg (N:=6) ?hd (cs:=#[.bool ba,.slice bR aP.length bS,.int .i64 bb]) (t:=29) ?hr ?_;(case hd=>rfl);(case hg=>rfl);(case hr=>first|(go_simp;done)|(go_simp;rfl));intro bd hg w8 hbox hb;replace an:=Sd.mk (Kd.V_below (Kd.V_elderB (vo an) bd (Nat.le_of_eq hg.symm)) hb);have al:=Sd.mk (hbox);have cH:=bg HB hg;replace HB:=bs HB hb;have aQ:=kn af hg;have aR:=km af hg;replace af:=kb af hb;clear hb hbox hg)|((with_reducible refine gate_dst (N:=8) rfl ?_);refine box_event ?hg (N:=8) ?hd (cs:=#[.bool false,.slice none 0 0,.int .i64 0]) (t:=29) ?hr ?_;(case hd=>rfl);(case hg=>rfl);(case hr=>first|(go_simp;done)|(go_simp;rfl));intro ao hg w9 hbox hb;replace an:=Sd.mk (Kd.V_below (Kd.V_elderB (vo an) ao (Nat.le_of_eq hg.symm)) hb);have az:=Sd.mk (hbox);have cI:=bg HB hg;replace HB:=bs HB hb;have aS:=kn af hg;have aT:=km af hg;replace af:=kb af hb;have aU:=kn al hg;have aV:=km al hg;replace al:=kb al hb;clear hb hbox hg;have dZ:=aQ.out;have d0:=aR.out;have fS:=aS.out;have fT:=aT.out;have fU:=blkc17 af.out;have fV:=blkf17 af.out;have fW:=aU.out;have fX:=aV.out;have fY:=blkc3 al.out;have fZ:=blkf3 al.out)|((with_reducible refine gate_callee (f:=40) rfl ?_);refine gL (some 19) Tryz.func40 #[.agg #[.bool ba,.slice bR aP.length bS,.int .i64 bb],.int .i64 (wrap64 (1+aJ)),.int .i64 a3] ?_;(with_reducible refine (round_Sig.calls k ba (fun k_=>((((bv k_∨w.heap.size≤k_)∧k_≠bc)∧k_≠bd)∧k_≠ao)) _ _ aP bb (wrap64 (1+aJ)) a3 dn dp dq eQ _ ?side2 ?side1 A6.out).mono ?_);(case side1=>exact an.out);(case side2=>refine GL.below HG.out ?_;exact bl HB);rintro e w15 ⟨gJ,rfl,ho0,hb⟩;refine ⟨_,rfl,?_⟩;replace an:=vb an hb;have cX:=Sd.mk (Kd.V_lower (Kd.V_mono (ok':=fun k_=>(bv k_∨w.heap.size≤k_)∧k_≠bc∧k_≠bd∧k_≠ao) ho0 (fun k_ hk_=>⟨Or.elim hk_ (fun hs_=>hs_.1.1.1) (fun hn_=>(.inr (Nat.le_trans (bz HB) hn_))),Or.elim hk_ (fun hs_=>hs_.1.1.2) (fun hn_=>(Kd.freshB (ko af) k_ hn_)),Or.elim hk_ (fun hs_=>hs_.1.2) (fun hn_=>(Kd.freshB (ko al) k_ hn_)),Or.elim hk_ (fun hs_=>hs_.2) (fun hn_=>(Kd.freshB (ko az) k_ hn_))⟩)) (bz HB));replace af:=kb af hb;replace al:=kb al hb;replace az:=kb az hb;replace HB:=bs HB hb;(try clear hb);(try clear ho0);have el:=blkc3 az.out;have em:=blkf3 az.out;obtain ⟨en,eo,eR⟩:=Kd.V_slice cX.out;subst eR))
  refine bodyPost_ret (results_ct rfl _ _ ao 29 #[.bool dn,.slice en dp.length eo,.int .i64 dq] (0,0) _ rfl (kp az rfl) Tryz.underlying29 rfl (by kernel_rfl)) rfl ?_
  exact ⟨_,by first|rfl|(simp <;> rfl)|(simp [*] <;> rfl),by (with_reducible repeat (first|apply Kd.V_alloc|apply Kd.V_drewN|apply Kd.V_drew));exact Kd.V_mono (Kd.V_far (p:=⟨ao,2,none⟩) (Kd.V_far (p:=⟨ao,1,none⟩) (Kd.V_far (p:=⟨ao,0,none⟩) (Kd.V_mono cX.out (fun k_ hk=>(⟨hk,hk.2.2.2⟩:_∧k_≠ao))) (fun _ hk=>hk.2) (.bool dn)) (fun _ hk=>hk.2) (.slice en dp.length eo)) (fun _ hk=>hk.2) (.int .i64 dq)) (fun _ hk=>hk.1.1),bl HB⟩
 rw [if_neg c5] at H
 have eP:decide (0<ar)=false:=decide_eq_false c5
 clear c5
 by_cases c18:am>0
 ·rw [if_pos c18] at H
  have ep:decide (0<am)=true:=decide_eq_true c18
  clear c18
  obtain ⟨⟨dr,dt,du,eS⟩,A19,H⟩:=bX H
  try dsimp only at H
  simp only [Option.some.injEq,Prod.mk.injEq] at H
  obtain ⟨rfl,rfl,rfl,rfl⟩:=H
  go_enter Tryz.func15,Tryz.ntmps15
  go_wp2_with (first|((with_reducible refine gate_dst (N:=4) rfl ?_);refine box_event ?hg (N:=4) ?hd (cs:=#[.slice bh aK.length bi,.slice ah aa.length ai,.slice bj aL.length bk,.slice bm aM.length bn,.bool aX,.int .i64 aY,.int .i64 aN,.int .i64 aO,.int .i64 aJ,.int .i64 aZ,.int .i64 aD,.int .i64 aw,.int .i64 am,.int .i64 ar,.bool aE,.int .i32 aF,.int .i64 aG]) (t:=26) ?hr ?_;(case hd=>rfl);(case hg=>rfl);(case hr=>first|(go_simp;done)|(go_simp;rfl));intro bc hg w20 hbox hb;replace an:=Sd.mk (Kd.V_below (Kd.V_elderB (vo an) bc (Nat.le_of_eq hg.symm)) hb);have af:=Sd.mk (hbox);have cG:=bg HB hg;replace HB:=bs HB hb;clear hb hbox hg)|((with_reducible refine gate_dst (N:=6) rfl ?_);refine box_event ?hg (N:=6) ?hd (cs:=#[.bool ba,.slice bR aP.length bS,.int .i64 bb]) (t:=29) ?hr ?_;(case hd=>rfl);(case hg=>rfl);(case hr=>first|(go_simp;done)|(go_simp;rfl));intro bd hg w21 hbox hb;replace an:=Sd.mk (Kd.V_below (Kd.V_elderB (vo an) bd (Nat.le_of_eq hg.symm)) hb);have al:=Sd.mk (hbox);have cH:=bg HB hg;replace HB:=bs HB hb;have aQ:=kn af hg;have aR:=km af hg;replace af:=kb af hb;clear hb hbox hg)|((with_reducible refine gate_dst (N:=8) rfl ?_);refine box_event ?hg (N:=8) ?hd (cs:=#[.bool false,.slice none 0 0,.int .i64 0]) (t:=29) ?hr ?_;(case hd=>rfl);(case hg=>rfl);(case hr=>first|(go_simp;done)|(go_simp;rfl));intro ao hg w22 hbox hb;replace an:=Sd.mk (Kd.V_below (Kd.V_elderB (vo an) ao (Nat.le_of_eq hg.symm)) hb);have az:=Sd.mk (hbox);have cI:=bg HB hg;replace HB:=bs HB hb;have aS:=kn af hg;have aT:=km af hg;replace af:=kb af hb;have aU:=kn al hg;have aV:=km al hg;replace al:=kb al hb;clear hb hbox hg;have f0:=aQ.out;have f1:=aR.out;have f2:=aS.out;have f3:=aT.out;have eq:=blkc17 af.out;have er:=blkf17 af.out;have cO:=aU.out;have cP:=aV.out;have ea:=blkc3 al.out;have eb:=blkf3 al.out)|((with_reducible refine gate_callee (f:=40) rfl ?_);refine gL (some 30) Tryz.func40 #[.agg #[.bool ba,.slice bR aP.length bS,.int .i64 bb],.int .i64 am,.int .i64 a3] ?_;(with_reducible refine (round_Sig.calls k ba (fun k_=>((((bv k_∨w.heap.size≤k_)∧k_≠bc)∧k_≠bd)∧k_≠ao)) _ _ aP bb am a3 dr dt du eS _ ?side2 ?side1 A19.out).mono ?_);(case side1=>exact an.out);(case side2=>refine GL.below HG.out ?_;exact bl HB);rintro e w28 ⟨gK,rfl,ho0,hb⟩;refine ⟨_,rfl,?_⟩;replace an:=vb an hb;have cY:=Sd.mk (Kd.V_lower (Kd.V_mono (ok':=fun k_=>(bv k_∨w.heap.size≤k_)∧k_≠bc∧k_≠bd∧k_≠ao) ho0 (fun k_ hk_=>⟨Or.elim hk_ (fun hs_=>hs_.1.1.1) (fun hn_=>(.inr (Nat.le_trans (bz HB) hn_))),Or.elim hk_ (fun hs_=>hs_.1.1.2) (fun hn_=>(Kd.freshB (ko af) k_ hn_)),Or.elim hk_ (fun hs_=>hs_.1.2) (fun hn_=>(Kd.freshB (ko al) k_ hn_)),Or.elim hk_ (fun hs_=>hs_.2) (fun hn_=>(Kd.freshB (ko az) k_ hn_))⟩)) (bz HB));replace af:=kb af hb;replace al:=kb al hb;replace az:=kb az hb;replace HB:=bs HB hb;(try clear hb);(try clear ho0);have cQ:=blkc3 az.out;have cR:=blkf3 az.out;obtain ⟨es,et,eT⟩:=Kd.V_slice cY.out;subst eT))
  refine bodyPost_ret (results_ct rfl _ _ ao 29 #[.bool dr,.slice es dt.length et,.int .i64 du] (0,0) _ rfl (kp az rfl) Tryz.underlying29 rfl (by kernel_rfl)) rfl ?_
  exact ⟨_,by first|rfl|(simp <;> rfl)|(simp [*] <;> rfl),by (with_reducible repeat (first|apply Kd.V_alloc|apply Kd.V_drewN|apply Kd.V_drew));exact Kd.V_mono (Kd.V_far (p:=⟨ao,2,none⟩) (Kd.V_far (p:=⟨ao,1,none⟩) (Kd.V_far (p:=⟨ao,0,none⟩) (Kd.V_mono cY.out (fun k_ hk=>(⟨hk,hk.2.2.2⟩:_∧k_≠ao))) (fun _ hk=>hk.2) (.bool dr)) (fun _ hk=>hk.2) (.slice es dt.length et)) (fun _ hk=>hk.2) (.int .i64 du)) (fun _ hk=>hk.1.1),bl HB⟩
 rw [if_neg c18] at H
 have ep:decide (0<am)=false:=decide_eq_false c18
 clear c18
 by_cases c31:a1≥0
 ·rw [if_pos c31] at H
  have eu:decide (0≤a1)=true:=decide_eq_true c31
  clear c31
  obtain ⟨⟨dv,dw,dx,eU⟩,A32,H⟩:=bX H
  try dsimp only at H
  simp only [Option.some.injEq,Prod.mk.injEq] at H
  obtain ⟨rfl,rfl,rfl,rfl⟩:=H
  go_enter Tryz.func15,Tryz.ntmps15
  go_wp2_with (first|((with_reducible refine gate_dst (N:=4) rfl ?_);refine box_event ?hg (N:=4) ?hd (cs:=#[.slice bh aK.length bi,.slice ah aa.length ai,.slice bj aL.length bk,.slice bm aM.length bn,.bool aX,.int .i64 aY,.int .i64 aN,.int .i64 aO,.int .i64 aJ,.int .i64 aZ,.int .i64 aD,.int .i64 aw,.int .i64 am,.int .i64 ar,.bool aE,.int .i32 aF,.int .i64 aG]) (t:=26) ?hr ?_;(case hd=>rfl);(case hg=>rfl);(case hr=>first|(go_simp;done)|(go_simp;rfl));intro bc hg w33 hbox hb;replace an:=Sd.mk (Kd.V_below (Kd.V_elderB (vo an) bc (Nat.le_of_eq hg.symm)) hb);have af:=Sd.mk (hbox);have cG:=bg HB hg;replace HB:=bs HB hb;clear hb hbox hg)|((with_reducible refine gate_dst (N:=6) rfl ?_);refine box_event ?hg (N:=6) ?hd (cs:=#[.bool ba,.slice bR aP.length bS,.int .i64 bb]) (t:=29) ?hr ?_;(case hd=>rfl);(case hg=>rfl);(case hr=>first|(go_simp;done)|(go_simp;rfl));intro bd hg w34 hbox hb;replace an:=Sd.mk (Kd.V_below (Kd.V_elderB (vo an) bd (Nat.le_of_eq hg.symm)) hb);have al:=Sd.mk (hbox);have cH:=bg HB hg;replace HB:=bs HB hb;have aQ:=kn af hg;have aR:=km af hg;replace af:=kb af hb;clear hb hbox hg)|((with_reducible refine gate_dst (N:=8) rfl ?_);refine box_event ?hg (N:=8) ?hd (cs:=#[.bool false,.slice none 0 0,.int .i64 0]) (t:=29) ?hr ?_;(case hd=>rfl);(case hg=>rfl);(case hr=>first|(go_simp;done)|(go_simp;rfl));intro ao hg w35 hbox hb;replace an:=Sd.mk (Kd.V_below (Kd.V_elderB (vo an) ao (Nat.le_of_eq hg.symm)) hb);have az:=Sd.mk (hbox);have cI:=bg HB hg;replace HB:=bs HB hb;have aS:=kn af hg;have aT:=km af hg;replace af:=kb af hb;have aU:=kn al hg;have aV:=km al hg;replace al:=kb al hb;clear hb hbox hg;have f4:=aQ.out;have f5:=aR.out;have f6:=aS.out;have f7:=aT.out;have f8:=blkc17 af.out;have f9:=blkf17 af.out;have ga:=aU.out;have gb:=aV.out;have gc:=blkc3 al.out;have ge:=blkf3 al.out)|((with_reducible refine gate_callee (f:=41) rfl ?_);refine gL (some 40) Tryz.func41 #[.agg #[.bool ba,.slice bR aP.length bS,.int .i64 bb],.int .i64 (wrap64 (-a1)),.int .i64 a3] ?_;(with_reducible refine (round_To.calls k ba (fun k_=>((((bv k_∨w.heap.size≤k_)∧k_≠bc)∧k_≠bd)∧k_≠ao)) _ _ aP bb (wrap64 (-a1)) a3 dv dw dx eU _ ?side2 ?side1 A32.out).mono ?_);(case side1=>exact an.out);(case side2=>refine GL.below HG.out ?_;exact bl HB);rintro e w41 ⟨gM,rfl,ho0,hb⟩;refine ⟨_,rfl,?_⟩;replace an:=vb an hb;have cZ:=Sd.mk (Kd.V_lower (Kd.V_mono (ok':=fun k_=>(bv k_∨w.heap.size≤k_)∧k_≠bc∧k_≠bd∧k_≠ao) ho0 (fun k_ hk_=>⟨Or.elim hk_ (fun hs_=>hs_.1.1.1) (fun hn_=>(.inr (Nat.le_trans (bz HB) hn_))),Or.elim hk_ (fun hs_=>hs_.1.1.2) (fun hn_=>(Kd.freshB (ko af) k_ hn_)),Or.elim hk_ (fun hs_=>hs_.1.2) (fun hn_=>(Kd.freshB (ko al) k_ hn_)),Or.elim hk_ (fun hs_=>hs_.2) (fun hn_=>(Kd.freshB (ko az) k_ hn_))⟩)) (bz HB));replace af:=kb af hb;replace al:=kb al hb;replace az:=kb az hb;replace HB:=bs HB hb;(try clear hb);(try clear ho0);have gg:=blkc3 az.out;have gh:=blkf3 az.out;obtain ⟨ev,ew,eV⟩:=Kd.V_slice cZ.out;subst eV))
  refine bodyPost_ret (results_ct rfl _ _ ao 29 #[.bool dv,.slice ev dw.length ew,.int .i64 dx] (0,0) _ rfl (kp az rfl) Tryz.underlying29 rfl (by kernel_rfl)) rfl ?_
  exact ⟨_,by first|rfl|(simp <;> rfl)|(simp [*] <;> rfl),by (with_reducible repeat (first|apply Kd.V_alloc|apply Kd.V_drewN|apply Kd.V_drew));exact Kd.V_mono (Kd.V_far (p:=⟨ao,2,none⟩) (Kd.V_far (p:=⟨ao,1,none⟩) (Kd.V_far (p:=⟨ao,0,none⟩) (Kd.V_mono cZ.out (fun k_ hk=>(⟨hk,hk.2.2.2⟩:_∧k_≠ao))) (fun _ hk=>hk.2) (.bool dv)) (fun _ hk=>hk.2) (.slice ev dw.length ew)) (fun _ hk=>hk.2) (.int .i64 dx)) (fun _ hk=>hk.1.1),bl HB⟩
 rw [if_neg c31] at H
 have eu:decide (0≤a1)=false:=decide_eq_false c31
 clear c31
 obtain ⟨⟨dy,dz,dA,eW⟩,A44,H⟩:=bX H
 try dsimp only at H
 simp only [Option.some.injEq,Prod.mk.injEq] at H
 obtain ⟨rfl,rfl,rfl,rfl⟩:=H
 go_enter Tryz.func15,Tryz.ntmps15
 go_wp2_with (first|((with_reducible refine gate_dst (N:=4) rfl ?_);refine box_event ?hg (N:=4) ?hd (cs:=#[.slice bh aK.length bi,.slice ah aa.length ai,.slice bj aL.length bk,.slice bm aM.length bn,.bool aX,.int .i64 aY,.int .i64 aN,.int .i64 aO,.int .i64 aJ,.int .i64 aZ,.int .i64 aD,.int .i64 aw,.int .i64 am,.int .i64 ar,.bool aE,.int .i32 aF,.int .i64 aG]) (t:=26) ?hr ?_;(case hd=>rfl);(case hg=>rfl);(case hr=>first|(go_simp;done)|(go_simp;rfl));intro bc hg w45 hbox hb;replace an:=Sd.mk (Kd.V_below (Kd.V_elderB (vo an) bc (Nat.le_of_eq hg.symm)) hb);have af:=Sd.mk (hbox);have cG:=bg HB hg;replace HB:=bs HB hb;clear hb hbox hg)|((with_reducible refine gate_dst (N:=6) rfl ?_);refine box_event ?hg (N:=6) ?hd (cs:=#[.bool ba,.slice bR aP.length bS,.int .i64 bb]) (t:=29) ?hr ?_;(case hd=>rfl);(case hg=>rfl);(case hr=>first|(go_simp;done)|(go_simp;rfl));intro bd hg w46 hbox hb;replace an:=Sd.mk (Kd.V_below (Kd.V_elderB (vo an) bd (Nat.le_of_eq hg.symm)) hb);have al:=Sd.mk (hbox);have cH:=bg HB hg;replace HB:=bs HB hb;have aQ:=kn af hg;have aR:=km af hg;replace af:=kb af hb;clear hb hbox hg)|((with_reducible refine gate_dst (N:=8) rfl ?_);refine box_event ?hg (N:=8) ?hd (cs:=#[.bool false,.slice none 0 0,.int .i64 0]) (t:=29) ?hr ?_;(case hd=>rfl);(case hg=>rfl);(case hr=>first|(go_simp;done)|(go_simp;rfl));intro ao hg w47 hbox hb;replace an:=Sd.mk (Kd.V_below (Kd.V_elderB (vo an) ao (Nat.le_of_eq hg.symm)) hb);have az:=Sd.mk (hbox);have cI:=bg HB hg;replace HB:=bs HB hb;have aS:=kn af hg;have aT:=km af hg;replace af:=kb af hb;have aU:=kn al hg;have aV:=km al hg;replace al:=kb al hb;clear hb hbox hg;have dO:=aQ.out;have dP:=aR.out;have dQ:=aS.out;have dR:=aT.out;have dS:=blkc17 af.out;have dT:=blkf17 af.out;have gi:=aU.out;have gj:=aV.out;have gk:=blkc3 al.out;have gl:=blkf3 al.out)|((with_reducible refine gate_callee (f:=41) rfl ?_);refine gL (some 48) Tryz.func41 #[.agg #[.bool ba,.slice bR aP.length bS,.int .i64 bb],.int .i64 (wrap64 (-aJ)),.int .i64 a3] ?_;(with_reducible refine (round_To.calls k ba (fun k_=>((((bv k_∨w.heap.size≤k_)∧k_≠bc)∧k_≠bd)∧k_≠ao)) _ _ aP bb (wrap64 (-aJ)) a3 dy dz dA eW _ ?side2 ?side1 A44.out).mono ?_);(case side1=>exact an.out);(case side2=>refine GL.below HG.out ?_;exact bl HB);rintro e w53 ⟨gN,rfl,ho0,hb⟩;refine ⟨_,rfl,?_⟩;replace an:=vb an hb;have c0:=Sd.mk (Kd.V_lower (Kd.V_mono (ok':=fun k_=>(bv k_∨w.heap.size≤k_)∧k_≠bc∧k_≠bd∧k_≠ao) ho0 (fun k_ hk_=>⟨Or.elim hk_ (fun hs_=>hs_.1.1.1) (fun hn_=>(.inr (Nat.le_trans (bz HB) hn_))),Or.elim hk_ (fun hs_=>hs_.1.1.2) (fun hn_=>(Kd.freshB (ko af) k_ hn_)),Or.elim hk_ (fun hs_=>hs_.1.2) (fun hn_=>(Kd.freshB (ko al) k_ hn_)),Or.elim hk_ (fun hs_=>hs_.2) (fun hn_=>(Kd.freshB (ko az) k_ hn_))⟩)) (bz HB));replace af:=kb af hb;replace al:=kb al hb;replace az:=kb az hb;replace HB:=bs HB hb;(try clear hb);(try clear ho0);have gm:=blkc3 az.out;have gn:=blkf3 az.out;obtain ⟨cx,cy,cM⟩:=Kd.V_slice c0.out;subst cM))
 refine bodyPost_ret (results_ct rfl _ _ ao 29 #[.bool dy,.slice cx dz.length cy,.int .i64 dA] (0,0) _ rfl (kp az rfl) Tryz.underlying29 rfl (by kernel_rfl)) rfl ?_
 exact ⟨_,by first|rfl|(simp <;> rfl)|(simp [*] <;> rfl),by (with_reducible repeat (first|apply Kd.V_alloc|apply Kd.V_drewN|apply Kd.V_drew));exact Kd.V_mono (Kd.V_far (p:=⟨ao,2,none⟩) (Kd.V_far (p:=⟨ao,1,none⟩) (Kd.V_far (p:=⟨ao,0,none⟩) (Kd.V_mono c0.out (fun k_ hk=>(⟨hk,hk.2.2.2⟩:_∧k_≠ao))) (fun _ hk=>hk.2) (.bool dy)) (fun _ hk=>hk.2) (.slice cx dz.length cy)) (fun _ hk=>hk.2) (.int .i64 dA)) (fun _ hk=>hk.1.1),bl HB⟩
def shape_least.f (aK:List (S114))(aa:List (S114))(aL:List (S114))(aM:List (S114))(aX:Bool)(aY:Int)(aN:Int)(aO:Int)(aJ:Int)(aZ:Int)(aD:Int)(aw:Int)(am:Int)(ar:Int)(aE:Bool)(aF:Int)(aG:Int)(a1:Int)(a2:Int):Option (Int×Int):=if ar>0 then (some (aN,aO)) else (if am>0 then (some (1,mx (wrap64 ((wrap64 (aw - 1)) - a2)) 0)) else (if a1≥0 then (some (aN,a1)) else (some (aN,aO))))
set_option maxHeartbeats 8000000 in
set_option maxRecDepth 100000 in
theorem shape_least.calls (bh:Option Addr)(bi:Nat)(aK:List (S114))(ah:Option Addr)(ai:Nat)(aa:List (S114))(bj:Option Addr)(bk:Nat)(aL:List (S114))(bm:Option Addr)(bn:Nat)(aM:List (S114))(aX:Bool)(aY:Int)(aN:Int)(aO:Int)(aJ:Int)(aZ:Int)(aD:Int)(aw:Int)(am:Int)(ar:Int)(aE:Bool)(aF:Int)(aG:Int)(a1:Int)(a2:Int)(r1:Int)(r2:Int)(w:World)(b5:Kd.C k114 w bh aK.length aK)(b6:aK.length≤bi)(br:Kd.C k114 w ah aa.length aa)(bu:aa.length≤ai)(b7:Kd.C k114 w bj aL.length aL)(b8:aL.length≤bk)(b9:Kd.C k114 w bm aM.length aM)(ca:aM.length≤bn)(h:shape_least.f aK aa aL aM aX aY aN aO aJ aZ aD aw am ar aE aF aG a1 a2=some (r1,r2)) :
  Calls Tryz.prog 45 #[.agg #[.slice bh aK.length bi,.slice ah aa.length ai,.slice bj aL.length bk,.slice bm aM.length bn,.bool aX,.int .i64 aY,.int .i64 aN,.int .i64 aO,.int .i64 aJ,.int .i64 aZ,.int .i64 aD,.int .i64 aw,.int .i64 am,.int .i64 ar,.bool aE,.int .i32 aF,.int .i64 aG],.int .i64 a1,.int .i64 a2] w fun e w'=>e = .returned (.tuple #[.int .i64 r1,.int .i64 r2])∧Below w.heap.size w w':=by
 have hu26:=Tryz.underlying26
 have ef:=Sd.mk b5
 have eg:=Sd.mk b6
 clear b5 b6
 have bN:=Sd.mk br
 have bQ:=Sd.mk bu
 clear br bu
 have eh:=Sd.mk b7
 have ei:=Sd.mk b8
 clear b7 b8
 have ej:=Sd.mk b9
 have ek:=Sd.mk ca
 clear b9 ca
 have HB:=Sd.mk (Below.refl w.heap.size w)
 have H:(if ar>0 then (some (aN,aO)) else (if am>0 then (some (1,mx (wrap64 ((wrap64 (aw - 1)) - a2)) 0)) else (if a1≥0 then (some (aN,a1)) else (some (aN,aO)))))=some (r1,r2):=h
 clear h
 by_cases c4:ar>0
 ·rw [if_pos c4] at H
  have dB:decide (0<ar)=true:=decide_eq_true c4
  clear c4
  simp only [Option.some.injEq,Prod.mk.injEq] at H
  obtain ⟨rfl,rfl⟩:=H
  go_enter Tryz.func45,Tryz.ntmps45
  go_wp2_with (first|((with_reducible refine gate_dst (N:=3) rfl ?_);refine box_event ?hg (N:=3) ?hd (cs:=#[.slice bh aK.length bi,.slice ah aa.length ai,.slice bj aL.length bk,.slice bm aM.length bn,.bool aX,.int .i64 aY,.int .i64 aN,.int .i64 aO,.int .i64 aJ,.int .i64 aZ,.int .i64 aD,.int .i64 aw,.int .i64 am,.int .i64 ar,.bool aE,.int .i32 aF,.int .i64 aG]) (t:=26) ?hr ?_;(case hd=>rfl);(case hg=>rfl);(case hr=>first|(go_simp;done)|(go_simp;rfl));intro bw hg w5 hbox hb;have ap:=Sd.mk (hbox);have bx:=bg HB hg;replace HB:=bs HB hb;clear hb hbox hg;have dC:=blkc17 ap.out;have dD:=blkf17 ap.out))
  repeat (go_quiet (first|((with_reducible refine gate_dst (N:=3) rfl ?_);refine box_event ?hg (N:=3) ?hd (cs:=#[.slice bh aK.length bi,.slice ah aa.length ai,.slice bj aL.length bk,.slice bm aM.length bn,.bool aX,.int .i64 aY,.int .i64 aN,.int .i64 aO,.int .i64 aJ,.int .i64 aZ,.int .i64 aD,.int .i64 aw,.int .i64 am,.int .i64 ar,.bool aE,.int .i32 aF,.int .i64 aG]) (t:=26) ?hr ?_;(case hd=>rfl);(case hg=>rfl);(case hr=>first|(go_simp;done)|(go_simp;rfl));intro bw hg w5 hbox hb;have ap:=Sd.mk (hbox);have bx:=bg HB hg;replace HB:=bs HB hb;clear hb hbox hg;have dC:=blkc17 ap.out;have dD:=blkf17 ap.out));try go_wp2_with (first|((with_reducible refine gate_dst (N:=3) rfl ?_);refine box_event ?hg (N:=3) ?hd (cs:=#[.slice bh aK.length bi,.slice ah aa.length ai,.slice bj aL.length bk,.slice bm aM.length bn,.bool aX,.int .i64 aY,.int .i64 aN,.int .i64 aO,.int .i64 aJ,.int .i64 aZ,.int .i64 aD,.int .i64 aw,.int .i64 am,.int .i64 ar,.bool aE,.int .i32 aF,.int .i64 aG]) (t:=26) ?hr ?_;(case hd=>rfl);(case hg=>rfl);(case hr=>first|(go_simp;done)|(go_simp;rfl));intro bw hg w5 hbox hb;have ap:=Sd.mk (hbox);have bx:=bg HB hg;replace HB:=bs HB hb;clear hb hbox hg;have dC:=blkc17 ap.out;have dD:=blkf17 ap.out)))
  go_ret2
  exact ⟨by first|rfl|(simp <;> rfl)|(simp [*] <;> rfl),bl HB⟩
 rw [if_neg c4] at H
 have dB:decide (0<ar)=false:=decide_eq_false c4
 clear c4
 by_cases c7:am>0
 ·rw [if_pos c7] at H
  have eX:decide (0<am)=true:=decide_eq_true c7
  clear c7
  obtain ⟨ji8,cJ⟩:∃ j_:Int,(mx (wrap64 ((wrap64 (aw - 1)) - a2)) 0)=j_:=⟨_,rfl⟩
  replace H:(some (1,ji8))=some (r1,r2):=by first|(rw [cJ] at H;exact H)|(simp only [cJ] at H ⊢;exact H)
  (try (have hji8l:0≤ji8:=by (rw [← cJ];unfold mx;(repeat' split) <;> omega)))
  (try (have hji8m:0≤ji8:=by omega))
  have go:(if (wrap64 ((wrap64 (aw - 1)) - a2))<0 then 0 else (wrap64 ((wrap64 (aw - 1)) - a2)))=ji8:=cJ
  simp only [Option.some.injEq,Prod.mk.injEq] at H
  obtain ⟨rfl,rfl⟩:=H
  go_enter Tryz.func45,Tryz.ntmps45
  go_wp2_with (first|((with_reducible refine gate_dst (N:=3) rfl ?_);refine box_event ?hg (N:=3) ?hd (cs:=#[.slice bh aK.length bi,.slice ah aa.length ai,.slice bj aL.length bk,.slice bm aM.length bn,.bool aX,.int .i64 aY,.int .i64 aN,.int .i64 aO,.int .i64 aJ,.int .i64 aZ,.int .i64 aD,.int .i64 aw,.int .i64 am,.int .i64 ar,.bool aE,.int .i32 aF,.int .i64 aG]) (t:=26) ?hr ?_;(case hd=>rfl);(case hg=>rfl);(case hr=>first|(go_simp;done)|(go_simp;rfl));intro bw hg w9 hbox hb;have ap:=Sd.mk (hbox);have bx:=bg HB hg;replace HB:=bs HB hb;clear hb hbox hg;have cA:=blkc17 ap.out;have cB:=blkf17 ap.out))
  repeat (go_quiet (first|((with_reducible refine gate_dst (N:=3) rfl ?_);refine box_event ?hg (N:=3) ?hd (cs:=#[.slice bh aK.length bi,.slice ah aa.length ai,.slice bj aL.length bk,.slice bm aM.length bn,.bool aX,.int .i64 aY,.int .i64 aN,.int .i64 aO,.int .i64 aJ,.int .i64 aZ,.int .i64 aD,.int .i64 aw,.int .i64 am,.int .i64 ar,.bool aE,.int .i32 aF,.int .i64 aG]) (t:=26) ?hr ?_;(case hd=>rfl);(case hg=>rfl);(case hr=>first|(go_simp;done)|(go_simp;rfl));intro bw hg w9 hbox hb;have ap:=Sd.mk (hbox);have bx:=bg HB hg;replace HB:=bs HB hb;clear hb hbox hg;have cA:=blkc17 ap.out;have cB:=blkf17 ap.out));try go_wp2_with (first|((with_reducible refine gate_dst (N:=3) rfl ?_);refine box_event ?hg (N:=3) ?hd (cs:=#[.slice bh aK.length bi,.slice ah aa.length ai,.slice bj aL.length bk,.slice bm aM.length bn,.bool aX,.int .i64 aY,.int .i64 aN,.int .i64 aO,.int .i64 aJ,.int .i64 aZ,.int .i64 aD,.int .i64 aw,.int .i64 am,.int .i64 ar,.bool aE,.int .i32 aF,.int .i64 aG]) (t:=26) ?hr ?_;(case hd=>rfl);(case hg=>rfl);(case hr=>first|(go_simp;done)|(go_simp;rfl));intro bw hg w9 hbox hb;have ap:=Sd.mk (hbox);have bx:=bg HB hg;replace HB:=bs HB hb;clear hb hbox hg;have cA:=blkc17 ap.out;have cB:=blkf17 ap.out)))
  go_ret2
  exact ⟨by first|rfl|(simp <;> rfl)|(simp only [← cJ];first|rfl|(simp <;> rfl))|(simp [*] <;> rfl),bl HB⟩
 rw [if_neg c7] at H
 have eX:decide (0<am)=false:=decide_eq_false c7
 clear c7
 by_cases c11:a1≥0
 ·rw [if_pos c11] at H
  have ex:decide (0≤a1)=true:=decide_eq_true c11
  clear c11
  simp only [Option.some.injEq,Prod.mk.injEq] at H
  obtain ⟨rfl,rfl⟩:=H
  go_enter Tryz.func45,Tryz.ntmps45
  go_wp2_with (first|((with_reducible refine gate_dst (N:=3) rfl ?_);refine box_event ?hg (N:=3) ?hd (cs:=#[.slice bh aK.length bi,.slice ah aa.length ai,.slice bj aL.length bk,.slice bm aM.length bn,.bool aX,.int .i64 aY,.int .i64 aN,.int .i64 aO,.int .i64 aJ,.int .i64 aZ,.int .i64 aD,.int .i64 aw,.int .i64 am,.int .i64 ar,.bool aE,.int .i32 aF,.int .i64 aG]) (t:=26) ?hr ?_;(case hd=>rfl);(case hg=>rfl);(case hr=>first|(go_simp;done)|(go_simp;rfl));intro bw hg w12 hbox hb;have ap:=Sd.mk (hbox);have bx:=bg HB hg;replace HB:=bs HB hb;clear hb hbox hg;have cj:=blkc17 ap.out;have ck:=blkf17 ap.out))
  repeat (go_quiet (first|((with_reducible refine gate_dst (N:=3) rfl ?_);refine box_event ?hg (N:=3) ?hd (cs:=#[.slice bh aK.length bi,.slice ah aa.length ai,.slice bj aL.length bk,.slice bm aM.length bn,.bool aX,.int .i64 aY,.int .i64 aN,.int .i64 aO,.int .i64 aJ,.int .i64 aZ,.int .i64 aD,.int .i64 aw,.int .i64 am,.int .i64 ar,.bool aE,.int .i32 aF,.int .i64 aG]) (t:=26) ?hr ?_;(case hd=>rfl);(case hg=>rfl);(case hr=>first|(go_simp;done)|(go_simp;rfl));intro bw hg w12 hbox hb;have ap:=Sd.mk (hbox);have bx:=bg HB hg;replace HB:=bs HB hb;clear hb hbox hg;have cj:=blkc17 ap.out;have ck:=blkf17 ap.out));try go_wp2_with (first|((with_reducible refine gate_dst (N:=3) rfl ?_);refine box_event ?hg (N:=3) ?hd (cs:=#[.slice bh aK.length bi,.slice ah aa.length ai,.slice bj aL.length bk,.slice bm aM.length bn,.bool aX,.int .i64 aY,.int .i64 aN,.int .i64 aO,.int .i64 aJ,.int .i64 aZ,.int .i64 aD,.int .i64 aw,.int .i64 am,.int .i64 ar,.bool aE,.int .i32 aF,.int .i64 aG]) (t:=26) ?hr ?_;(case hd=>rfl);(case hg=>rfl);(case hr=>first|(go_simp;done)|(go_simp;rfl));intro bw hg w12 hbox hb;have ap:=Sd.mk (hbox);have bx:=bg HB hg;replace HB:=bs HB hb;clear hb hbox hg;have cj:=blkc17 ap.out;have ck:=blkf17 ap.out)))
  go_ret2
  exact ⟨by first|rfl|(simp <;> rfl)|(simp [*] <;> rfl),bl HB⟩
 rw [if_neg c11] at H
 have ex:decide (0≤a1)=false:=decide_eq_false c11
 clear c11
 simp only [Option.some.injEq,Prod.mk.injEq] at H
 obtain ⟨rfl,rfl⟩:=H
 go_enter Tryz.func45,Tryz.ntmps45
 go_wp2_with (first|((with_reducible refine gate_dst (N:=3) rfl ?_);refine box_event ?hg (N:=3) ?hd (cs:=#[.slice bh aK.length bi,.slice ah aa.length ai,.slice bj aL.length bk,.slice bm aM.length bn,.bool aX,.int .i64 aY,.int .i64 aN,.int .i64 aO,.int .i64 aJ,.int .i64 aZ,.int .i64 aD,.int .i64 aw,.int .i64 am,.int .i64 ar,.bool aE,.int .i32 aF,.int .i64 aG]) (t:=26) ?hr ?_;(case hd=>rfl);(case hg=>rfl);(case hr=>first|(go_simp;done)|(go_simp;rfl));intro bw hg w14 hbox hb;have ap:=Sd.mk (hbox);have bx:=bg HB hg;replace HB:=bs HB hb;clear hb hbox hg;have cE:=blkc17 ap.out;have cF:=blkf17 ap.out))
 repeat (go_quiet (first|((with_reducible refine gate_dst (N:=3) rfl ?_);refine box_event ?hg (N:=3) ?hd (cs:=#[.slice bh aK.length bi,.slice ah aa.length ai,.slice bj aL.length bk,.slice bm aM.length bn,.bool aX,.int .i64 aY,.int .i64 aN,.int .i64 aO,.int .i64 aJ,.int .i64 aZ,.int .i64 aD,.int .i64 aw,.int .i64 am,.int .i64 ar,.bool aE,.int .i32 aF,.int .i64 aG]) (t:=26) ?hr ?_;(case hd=>rfl);(case hg=>rfl);(case hr=>first|(go_simp;done)|(go_simp;rfl));intro bw hg w14 hbox hb;have ap:=Sd.mk (hbox);have bx:=bg HB hg;replace HB:=bs HB hb;clear hb hbox hg;have cE:=blkc17 ap.out;have cF:=blkf17 ap.out));try go_wp2_with (first|((with_reducible refine gate_dst (N:=3) rfl ?_);refine box_event ?hg (N:=3) ?hd (cs:=#[.slice bh aK.length bi,.slice ah aa.length ai,.slice bj aL.length bk,.slice bm aM.length bn,.bool aX,.int .i64 aY,.int .i64 aN,.int .i64 aO,.int .i64 aJ,.int .i64 aZ,.int .i64 aD,.int .i64 aw,.int .i64 am,.int .i64 ar,.bool aE,.int .i32 aF,.int .i64 aG]) (t:=26) ?hr ?_;(case hd=>rfl);(case hg=>rfl);(case hr=>first|(go_simp;done)|(go_simp;rfl));intro bw hg w14 hbox hb;have ap:=Sd.mk (hbox);have bx:=bg HB hg;replace HB:=bs HB hb;clear hb hbox hg;have cE:=blkc17 ap.out;have cF:=blkf17 ap.out)))
 go_ret2
 exact ⟨by first|rfl|(simp <;> rfl)|(simp [*] <;> rfl),bl HB⟩
def dec_At.f (ae:Bool)(aa:List Int)(ag:Int)(a1:Int):Option (Int):=(dec_Mag.f ae aa ag).bind fun bf=>(if (aa.length:Int)=0 then (some 0) else (if (wrap64 (bf - a1))<0 then (some 0) else (if (wrap64 (bf - a1))≥(aa.length:Int) then (some 0) else (if 0≤(wrap64 (bf - a1)) then (if (wrap64 (bf - a1))<(aa.length:Int) then (some (rd aa (wrap64 (bf - a1)))) else (none)) else (none)))))
set_option maxHeartbeats 8000000 in
set_option maxRecDepth 100000 in
theorem dec_At.calls (ae:Bool)(ah:Option Addr)(ai:Nat)(aa:List Int)(ag:Int)(a1:Int)(r:Int)(w:World)(br:Kd.C (Kd.int .u8) w ah aa.length aa)(bu:aa.length≤ai)(h:dec_At.f ae aa ag a1=some r) :
  Calls Tryz.prog 47 #[.agg #[.bool ae,.slice ah aa.length ai,.int .i64 ag],.int .i64 a1] w fun e w'=>e = .returned (.int .u8 r)∧Below w.heap.size w w':=by
 have hu29:=Tryz.underlying29
 have bN:=Sd.mk br
 have bQ:=Sd.mk bu
 clear br bu
 have HB:=Sd.mk (Below.refl w.heap.size w)
 have H:((dec_Mag.f ae aa ag).bind fun bf=>(if (aa.length:Int)=0 then (some 0) else (if (wrap64 (bf - a1))<0 then (some 0) else (if (wrap64 (bf - a1))≥(aa.length:Int) then (some 0) else (if 0≤(wrap64 (bf - a1)) then (if (wrap64 (bf - a1))<(aa.length:Int) then (some (rd aa (wrap64 (bf - a1)))) else (none)) else (none))))))=some r:=h
 clear h
 obtain ⟨bf,A3,H⟩:=bX H
 try dsimp only at H
 by_cases c4:(aa.length:Int)=0
 ·rw [if_pos c4] at H
  have dB:((aa.length:Int) == 0)=true:=beq_iff_eq.mpr c4
  have eY:((aa.length:Int) != 0)=false:=bne_eq_false_iff_eq.mpr c4
  clear c4
  obtain rfl:=Option.some.inj H
  go_enter Tryz.func47,Tryz.ntmps47
  go_wp2_with (first|((with_reducible refine gate_dst (N:=2) rfl ?_);(try (refine gate_guard (by rfl) ?_;dsimp only));refine box_event ?hg (N:=2) ?hd (cs:=#[.bool ae,.slice ah aa.length ai,.int .i64 ag]) (t:=29) ?hr ?_;(case hd=>rfl);(case hg=>rfl);(case hr=>first|(go_simp;done)|(go_simp;rfl));intro cK hg w5 hbox hb;have aA:=Sd.mk (hbox);have cL:=bg HB hg;replace HB:=bs HB hb;clear hb hbox hg;have dC:=blkc3 aA.out;have dD:=blkf3 aA.out)|((with_reducible refine gate_callee (f:=44) rfl ?_);refine gL (some 7) Tryz.func44 #[.agg #[.bool ae,.slice ah aa.length ai,.int .i64 ag]] ?_;(with_reducible refine (dec_Mag.calls ae _ _ aa ag bf _ (cb bN HB) bQ.out A3.out).mono ?_);rintro e w7 ⟨rfl,hb⟩;refine ⟨_,rfl,?_⟩;replace aA:=kb aA hb;replace HB:=bs HB hb;(try clear hb);have eK:=blkc3 aA.out;have eL:=blkf3 aA.out))
  go_ret
  exact ⟨by first|rfl|(simp <;> rfl)|(simp [*] <;> rfl),bl HB⟩
 rw [if_neg c4] at H
 have dB:((aa.length:Int) == 0)=false:=beq_eq_false_iff_ne.mpr c4
 have eY:((aa.length:Int) != 0)=true:=bne_iff_ne.mpr c4
 have gO:¬ (aa=[]):=fun h_=>c4 (by rw [h_];rfl)
 by_cases c9:(wrap64 (bf - a1))<0
 ·rw [if_pos c9] at H
  have ey:=decide_eq_true c9
  clear c9
  obtain rfl:=Option.some.inj H
  go_enter Tryz.func47,Tryz.ntmps47
  go_wp2_with (first|((with_reducible refine gate_dst (N:=2) rfl ?_);(try (refine gate_guard (by rfl) ?_;dsimp only));refine box_event ?hg (N:=2) ?hd (cs:=#[.bool ae,.slice ah aa.length ai,.int .i64 ag]) (t:=29) ?hr ?_;(case hd=>rfl);(case hg=>rfl);(case hr=>first|(go_simp;done)|(go_simp;rfl));intro cK hg w10 hbox hb;have aA:=Sd.mk (hbox);have cL:=bg HB hg;replace HB:=bs HB hb;clear hb hbox hg;have d1:=blkc3 aA.out;have d2:=blkf3 aA.out)|((with_reducible refine gate_callee (f:=44) rfl ?_);refine gL (some 7) Tryz.func44 #[.agg #[.bool ae,.slice ah aa.length ai,.int .i64 ag]] ?_;(with_reducible refine (dec_Mag.calls ae _ _ aa ag bf _ (cb bN HB) bQ.out A3.out).mono ?_);rintro e w12 ⟨rfl,hb⟩;refine ⟨_,rfl,?_⟩;replace aA:=kb aA hb;replace HB:=bs HB hb;(try clear hb);have cj:=blkc3 aA.out;have ck:=blkf3 aA.out))
  go_ret
  exact ⟨by first|rfl|(simp <;> rfl)|(simp [*] <;> rfl),bl HB⟩
 rw [if_neg c9] at H
 have ey:=decide_eq_false c9
 clear c9
 by_cases c14:(wrap64 (bf - a1))≥(aa.length:Int)
 ·rw [if_pos c14] at H
  have c1:decide ((aa.length:Int)≤(wrap64 (bf - a1)))=true:=decide_eq_true c14
  clear c14
  obtain rfl:=Option.some.inj H
  go_enter Tryz.func47,Tryz.ntmps47
  go_wp2_with (first|((with_reducible refine gate_dst (N:=2) rfl ?_);(try (refine gate_guard (by rfl) ?_;dsimp only));refine box_event ?hg (N:=2) ?hd (cs:=#[.bool ae,.slice ah aa.length ai,.int .i64 ag]) (t:=29) ?hr ?_;(case hd=>rfl);(case hg=>rfl);(case hr=>first|(go_simp;done)|(go_simp;rfl));intro cK hg w15 hbox hb;have aA:=Sd.mk (hbox);have cL:=bg HB hg;replace HB:=bs HB hb;clear hb hbox hg;have el:=blkc3 aA.out;have em:=blkf3 aA.out)|((with_reducible refine gate_callee (f:=44) rfl ?_);refine gL (some 7) Tryz.func44 #[.agg #[.bool ae,.slice ah aa.length ai,.int .i64 ag]] ?_;(with_reducible refine (dec_Mag.calls ae _ _ aa ag bf _ (cb bN HB) bQ.out A3.out).mono ?_);rintro e w17 ⟨rfl,hb⟩;refine ⟨_,rfl,?_⟩;replace aA:=kb aA hb;replace HB:=bs HB hb;(try clear hb);have d5:=blkc3 aA.out;have d6:=blkf3 aA.out))
  go_ret
  exact ⟨by first|rfl|(simp <;> rfl)|(simp [*] <;> rfl),bl HB⟩
 rw [if_neg c14] at H
 have c1:decide ((aa.length:Int)≤(wrap64 (bf - a1)))=false:=decide_eq_false c14
 clear c14
 obtain ⟨bY,bT⟩:∃ j_:Int,(wrap64 (bf - a1))=j_:=⟨_,rfl⟩
 replace H:(if 0≤(bY) then (if (bY)<(aa.length:Int) then (some (rd aa (bY))) else (none)) else (none))=some r:=by first|(rw [bT] at H;exact H)|(simp only [bT] at H ⊢;exact H)
 (try rw [bT] at ey)
 (try rw [bT] at c1)
 (try rw [bT] at A3)
 have eZ:(IntKind.i64.wrap (bf - a1))=bY:=(i64_w _).trans bT
 by_cases c20:0≤(bY)
 ·rw [if_pos c20] at H
  have gp:=decide_eq_true c20
  clear c20
  by_cases c21:(bY)<(aa.length:Int)
  ·rw [if_pos c21] at H
   have gq:=decide_eq_true c21
   clear c21
   obtain rfl:=Option.some.inj H
   go_enter Tryz.func47,Tryz.ntmps47
   go_wp2_with (first|((with_reducible refine gate_dst (N:=2) rfl ?_);(try (refine gate_guard (by rfl) ?_;dsimp only));refine box_event ?hg (N:=2) ?hd (cs:=#[.bool ae,.slice ah aa.length ai,.int .i64 ag]) (t:=29) ?hr ?_;(case hd=>rfl);(case hg=>rfl);(case hr=>first|(go_simp;done)|(go_simp;rfl));intro cK hg w22 hbox hb;have aA:=Sd.mk (hbox);have cL:=bg HB hg;replace HB:=bs HB hb;clear hb hbox hg;have d8:=blkc3 aA.out;have d9:=blkf3 aA.out)|((with_reducible refine gate_callee (f:=44) rfl ?_);refine gL (some 7) Tryz.func44 #[.agg #[.bool ae,.slice ah aa.length ai,.int .i64 ag]] ?_;(with_reducible refine (dec_Mag.calls ae _ _ aa ag bf _ (cb bN HB) bQ.out A3.out).mono ?_);rintro e w24 ⟨rfl,hb⟩;refine ⟨_,rfl,?_⟩;replace aA:=kb aA hb;replace HB:=bs HB hb;(try clear hb);have eq:=blkc3 aA.out;have er:=blkf3 aA.out;have dE:0≤((bY):Int):=of_decide_eq_true (by first|(with_reducible assumption)|assumption);have dF:(bY)<(aa.length:Int):=of_decide_eq_true (by first|(with_reducible assumption)|assumption);obtain ⟨gr,e0,b0⟩:=Kd.at_int bN.out (bY) dE dF;cases e0;replace b0:=(HB.out.cell (World.block_lt_of_cell? w _ b0)).trans b0;replace dE:=eq_true dE;replace dF:=eq_true dF))
   go_ret
   exact ⟨by first|rfl|(simp <;> rfl)|(simp only [← bT];first|rfl|(simp <;> rfl))|(simp [*] <;> rfl),bl HB⟩
  rw [if_neg c21] at H
  exact absurd H (by simp)
 rw [if_neg c20] at H
 exact absurd H (by simp)
end Go.Proofs.YtklebhlanidloaaGreatDoor.PZ
end
end
