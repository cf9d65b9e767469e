/- Texts of this seat, joined. Conditions: none beyond each statement's own. -/
import Derived.Test.YtklebhlanidloaaGreatDoorC22
section
noncomputable section
namespace Go.Proofs.YtklebhlanidloaaGreatDoor.PZ
open Go.RowKit Go.Proofs.YtklebhlanidloaaGreatDoorW.PrintWords Go.Proofs.YtklebhlanidloaaGreatDoorW.PrintLast Go.Proofs.YtklebhlanidloaaGreatDoorW.PrintMore
attribute [local go_sem] max2_int min2_int max_two min_two max_three min_three max_four min_four   -- for this text's walks alone
set_option linter.unusedVariables false
set_option linter.unusedSimpArgs false
def shape_Write.j0:Nat→Int→List Int→Int→Int→Int→Int→Int→Int→Int→List (S114)→List (S114)→List (S114)→List (S114)→Bool→Int→Int→Int→Int→Int→Int→Int→Int→Int→Bool→Int→Int→Option (List Int)
 | 0,_,_,_,_,_,_,_,_,_,_,_,_,_,_,_,_,_,_,_,_,_,_,_,_,_,_=>none
 | k+1,x11,x12,cl,cm,cn,bY,b0,co,b1,fi,fj,fk,fl,fm,fn,fo,fp,fq,fs,ft,fu,fv,b2,dP,fw,fx=>if b2=0 then (some x12) else (if x12.length<35184372088832 then ((some (x12 ++ [b1]:List Int)).bind fun aC=>(if x11<0 then (if aC.length<35184372088832 then ((some (aC ++ [bY]:List Int)).bind fun bM=>((shape_digitsOf.f k cl cm cn bY b0 co b1 (mx x11 (wrap64 (-x11))) b2).bind fun bj=>(if bM.length+bj.length<35184372088832 then (some (bM ++ bj)) else (none)))) else (none)) else (if dP=true then (if aC.length<35184372088832 then ((some (aC ++ [b0]:List Int)).bind fun bN=>((shape_digitsOf.f k cl cm cn bY b0 co b1 (mx x11 (wrap64 (-x11))) b2).bind fun bk=>(if bN.length+bk.length<35184372088832 then (some (bN ++ bk)) else (none)))) else (none)) else ((shape_digitsOf.f k cl cm cn bY b0 co b1 (mx x11 (wrap64 (-x11))) b2).bind fun bH=>(if aC.length+bH.length<35184372088832 then (some (aC ++ bH)) else (none)))))) else (none))
def shape_Write.f (k:Nat)(ac:Int)(af:Int)(ag:Int)(ad:Int)(ah:Int)(ai:Int)(ae:Int)(bc:List (S114))(bd:List (S114))(be:List (S114))(bf:List (S114))(bx:Bool)(bA:Int)(bB:Int)(bC:Int)(bD:Int)(aV:Int)(ar:Int)(ax:Int)(ay:Int)(ak:Int)(aw:Bool)(az:Int)(aA:Int)(a2:Int)(cp:Bool)(bW:List Int)(cq:Int):Option (List Int):=(shape_Figures.f bc bd be bf bx bA bB bC bD aV ar ax ay ak aw az aA a2 cp bW cq).bind fun bm=>((sym_Grouped.f k ac af ag ad ah ai ae bm.1 aV ar).bind fun bO=>(if (bm.2.1.length:Int)>0 then (if bO.length<35184372088832 then ((some (bO ++ [af]:List Int)).bind fun b9=>((sym_Digits.f k ac af ag ad ah ai ae bm.2.1).bind fun bI=>(if b9.length+bI.length<35184372088832 then (shape_Write.j0 k bm.2.2 (b9 ++ bI) ac af ag ad ah ai ae bc bd be bf bx bA bB bC bD aV ar ax ay ak aw az aA) else (none)))) else (none)) else (shape_Write.j0 k bm.2.2 bO ac af ag ad ah ai ae bc bd be bf bx bA bB bC bD aV ar ax ay ak aw az aA)))
theorem shape_Write.mono_l:∀ k,(∀ y0 y1 y2 y3 y4 y5 y6 y7 y8 y9 y10 y11 y12 y13 y14 y15 y16 y17 y18 y19 y20 y21 y22 y23 y24 y25,LeO (shape_Write.j0 k y0 y1 y2 y3 y4 y5 y6 y7 y8 y9 y10 y11 y12 y13 y14 y15 y16 y17 y18 y19 y20 y21 y22 y23 y24 y25) (shape_Write.j0 (k+1) y0 y1 y2 y3 y4 y5 y6 y7 y8 y9 y10 y11 y12 y13 y14 y15 y16 y17 y18 y19 y20 y21 y22 y23 y24 y25))
 | 0=>fun _ _ _ _ _ _ _ _ _ _ _ _ _ _ _ _ _ _ _ _ _ _ _ _ _ _ r h=>by simp [shape_Write.j0] at h
 | k+1=>by
  have ih0:=shape_Write.mono_l k
  ·intro y0 y1 y2 y3 y4 y5 y6 y7 y8 y9 y10 y11 y12 y13 y14 y15 y16 y17 y18 y19 y20 y21 y22 y23 y24 y25
   unfold shape_Write.j0
   repeat' first|(with_reducible first|apply ih0|apply shape_digitsOf.mono|apply sym_Digits.mono|apply sym_Grouped.mono|apply LeO.refl|apply LeO.none|refine LeO.ite ?_ ?_|refine LeO.bind ?_ (fun _=>?_))|apply ih0|apply shape_digitsOf.mono|apply sym_Digits.mono|apply sym_Grouped.mono|apply LeO.none
theorem shape_Write.mono:∀ a0 a1 a2 a3 a4 a5 a6 a7 a8 a9 a10 a11 a12 a13 a14 a15 a16 a17 a18 a19 a20 a21 a22 a23 a24 a25 a26 a27 k,LeO (shape_Write.f k a0 a1 a2 a3 a4 a5 a6 a7 a8 a9 a10 a11 a12 a13 a14 a15 a16 a17 a18 a19 a20 a21 a22 a23 a24 a25 a26 a27) (shape_Write.f (k+1) a0 a1 a2 a3 a4 a5 a6 a7 a8 a9 a10 a11 a12 a13 a14 a15 a16 a17 a18 a19 a20 a21 a22 a23 a24 a25 a26 a27):=by
 intro a0 a1 a2 a3 a4 a5 a6 a7 a8 a9 a10 a11 a12 a13 a14 a15 a16 a17 a18 a19 a20 a21 a22 a23 a24 a25 a26 a27 k
 have ih0:=shape_Write.mono_l k
 unfold shape_Write.f
 repeat' first|(with_reducible first|apply ih0|apply shape_digitsOf.mono|apply sym_Digits.mono|apply sym_Grouped.mono|apply LeO.refl|apply LeO.none|refine LeO.ite ?_ ?_|refine LeO.bind ?_ (fun _=>?_))|apply ih0|apply shape_digitsOf.mono|apply sym_Digits.mono|apply sym_Grouped.mono|apply LeO.none
def shape_Write.T4:Bool×List (List Nat×List Nat):=(true,[([],[]),([],[]),([1],[1]),([2],[2]),([0,3],[0,3]),([],[]),([],[]),([5,6,4],[5,6]),([4,7,7],[4,7]),([8,8,0,1,2,3,4,5,6,7,8],[0,8])])
def shape_Write.B4:List Nat:=[0,0,2,6,15,0,0,127,255,511]
theorem shape_Write.tab4:rtab .any (opsOf Tryz.f22 4)=shape_Write.T4:=by kernel_rfl
theorem shape_Write.bits4:waitsOk shape_Write.T4.2 shape_Write.B4=true:=by kernel_rfl
set_option maxHeartbeats 8000000 in
set_option maxRecDepth 100000 in
theorem shape_Write.calls (k:Nat)(ac:Int)(af:Int)(ag:Int)(ad:Int)(ah:Int)(ai:Int)(ae:Int)(dp:Option Addr)(dq:Nat)(bc:List (S114))(dr:Option Addr)(dt:Nat)(bd:List (S114))(du:Option Addr)(dv:Nat)(be:List (S114))(dw:Option Addr)(dx:Nat)(bf:List (S114))(bx:Bool)(bA:Int)(bB:Int)(bC:Int)(bD:Int)(aV:Int)(ar:Int)(ax:Int)(ay:Int)(ak:Int)(aw:Bool)(az:Int)(aA:Int)(a2:Int)(cp:Bool)(dy:Option Addr)(dz:Nat)(bW:List Int)(cq:Int)(r:List Int)(w:World)(hG:GL w)(dZ:Kd.C k114 w dp bc.length bc)(d0:bc.length≤dq)(d1:Kd.C k114 w dr bd.length bd)(d2:bd.length≤dt)(d3:Kd.C k114 w du be.length be)(d4:be.length≤dv)(d5:Kd.C k114 w dw bf.length bf)(d6:bf.length≤dx)(d7:Kd.C (Kd.int .u8) w dy bW.length bW)(d8:bW.length≤dz)(h:shape_Write.f k ac af ag ad ah ai ae bc bd be bf bx bA bB bC bD aV ar ax ay ak aw az aA a2 cp bW cq=some r) :
  Calls Tryz.prog 22 #[.agg #[.int .i32 ac,.int .i32 af,.int .i32 ag,.int .i32 ad,.int .i32 ah,.int .i32 ai,.int .i32 ae],.agg #[.slice dp bc.length dq,.slice dr bd.length dt,.slice du be.length dv,.slice dw bf.length dx,.bool bx,.int .i64 bA,.int .i64 bB,.int .i64 bC,.int .i64 bD,.int .i64 aV,.int .i64 ar,.int .i64 ax,.int .i64 ay,.int .i64 ak,.bool aw,.int .i32 az,.int .i64 aA],.int .i64 a2,.agg #[.bool cp,.slice dy bW.length dz,.int .i64 cq]] w fun e w'=>∃ v0_:Value,e = .returned (v0_)∧Kd.R (Kd.int .i32) 21 w' w.heap.size (fun _=>True) v0_ r∧Below w.heap.size w w':=by
 have hu23:=Tryz.underlying23
 have hu26:=Tryz.underlying26
 have hu29:=Tryz.underlying29
 have ez:=Sd.mk dZ
 have eA:=Sd.mk d0
 clear dZ d0
 have eB:=Sd.mk d1
 have eC:=Sd.mk d2
 clear d1 d2
 have eD:=Sd.mk d3
 have eE:=Sd.mk d4
 clear d3 d4
 have eF:=Sd.mk d5
 have eG:=Sd.mk d6
 clear d5 d6
 have eH:=Sd.mk d7
 have eI:=Sd.mk d8
 clear d7 d8
 have HB:=Sd.mk (Below.refl w.heap.size w)
 have HG:=Sd.mk hG
 clear hG
 have H:((shape_Figures.f bc bd be bf bx bA bB bC bD aV ar ax ay ak aw az aA a2 cp bW cq).bind fun bm=>((sym_Grouped.f k ac af ag ad ah ai ae bm.1 aV ar).bind fun bO=>(if (bm.2.1.length:Int)>0 then (if bO.length<35184372088832 then ((some (bO ++ [af]:List Int)).bind fun b9=>((sym_Digits.f k ac af ag ad ah ai ae bm.2.1).bind fun bI=>(if b9.length+bI.length<35184372088832 then (shape_Write.j0 k bm.2.2 (b9 ++ bI) ac af ag ad ah ai ae bc bd be bf bx bA bB bC bD aV ar ax ay ak aw az aA) else (none)))) else (none)) else (shape_Write.j0 k bm.2.2 bO ac af ag ad ah ai ae bc bd be bf bx bA bB bC bD aV ar ax ay ak aw az aA))))=some r:=h
 clear h
 obtain ⟨⟨ek,cr,aq⟩,A5,H⟩:=bX H
 try dsimp only at H
 obtain ⟨bO,A6,H⟩:=bX H
 try dsimp only at H
 have HC7:=Sd.mk H
 clear H
 go_enter Tryz.func22,Tryz.ntmps22
 go_upto_if 30 with (first|((with_reducible refine gate_dst (N:=4) rfl ?_);refine box_event ?hg (N:=4) ?hd (cs:=#[.int .i32 ac,.int .i32 af,.int .i32 ag,.int .i32 ad,.int .i32 ah,.int .i32 ai,.int .i32 ae]) (t:=23) ?hr ?_;(case hd=>rfl);(case hg=>rfl);(case hr=>first|(go_simp;done)|(go_simp;rfl));intro bR hg w8 hbox hb;have aa:=Sd.mk (hbox);have gl:=bg HB hg;replace HB:=bs HB hb;clear hb hbox hg)|((with_reducible refine gate_dst (N:=5) rfl ?_);refine box_event ?hg (N:=5) ?hd (cs:=#[.slice dp bc.length dq,.slice dr bd.length dt,.slice du be.length dv,.slice dw bf.length dx,.bool bx,.int .i64 bA,.int .i64 bB,.int .i64 bC,.int .i64 bD,.int .i64 aV,.int .i64 ar,.int .i64 ax,.int .i64 ay,.int .i64 ak,.bool aw,.int .i32 az,.int .i64 aA]) (t:=26) ?hr ?_;(case hd=>rfl);(case hg=>rfl);(case hr=>first|(go_simp;done)|(go_simp;rfl));intro eJ hg w9 hbox hb;have ab:=Sd.mk (hbox);have gm:=bg HB hg;replace HB:=bs HB hb;have aW:=kn aa hg;have aX:=km aa hg;replace aa:=kb aa hb;clear hb hbox hg)|((with_reducible refine gate_dst (N:=7) rfl ?_);refine box_event ?hg (N:=7) ?hd (cs:=#[.bool cp,.slice dy bW.length dz,.int .i64 cq]) (t:=29) ?hr ?_;(case hd=>rfl);(case hg=>rfl);(case hr=>first|(go_simp;done)|(go_simp;rfl));intro eK hg w10 hbox hb;have aj:=Sd.mk (hbox);have gn:=bg HB hg;replace HB:=bs HB hb;have bu:=kn aa hg;have bv:=km aa hg;replace aa:=kb aa hb;have aY:=kn ab hg;have aZ:=km ab hg;replace ab:=kb ab hb;clear hb hbox hg;have go:=aX.out;have gp:=aW.out;have gq:=aY.out;have gr:=aZ.out;have eL:=blkc17 ab.out;have eM:=blkf17 ab.out;have gs:=bv.out;have gt:=bu.out;have eN:=blkc3 aj.out;have eO:=blkf3 aj.out)|((with_reducible refine gate_callee (f:=17) rfl ?_);refine gL (some 17) Tryz.func17 #[.agg #[.slice dp bc.length dq,.slice dr bd.length dt,.slice du be.length dv,.slice dw bf.length dx,.bool bx,.int .i64 bA,.int .i64 bB,.int .i64 bC,.int .i64 bD,.int .i64 aV,.int .i64 ar,.int .i64 ax,.int .i64 ay,.int .i64 ak,.bool aw,.int .i32 az,.int .i64 aA],.int .i64 a2,.agg #[.bool cp,.slice dy bW.length dz,.int .i64 cq]] ?_;(with_reducible refine (shape_Figures.calls _ _ bc _ _ bd _ _ be _ _ bf bx bA bB bC bD aV ar ax ay ak aw az aA a2 cp _ _ bW cq ek cr aq _ (cb ez HB) eA.out (cb eB HB) eC.out (cb eD HB) eE.out (cb eF HB) eG.out (cb eH HB) eI.out A5.out).mono ?_);rintro e w16 ⟨hP,hQ,rfl,ho0,ho1,hb⟩;refine ⟨_,rfl,?_⟩;have aG:=Sd.mk (Kd.R_lower ho0 (bz HB));have aH:=Sd.mk (Kd.R_lower ho1 (bz HB));replace aa:=kb aa hb;replace ab:=kb ab hb;replace aj:=kb aj hb;replace HB:=bs HB hb;(try clear hb);(try clear ho0);(try clear ho1);have eP:=blkc7 aa.out;have eQ:=blkf7 aa.out;have d9:=blkc17 ab.out;have ea:=blkf17 ab.out;obtain ⟨fz,fA,fB⟩:=Kd.R_slice aG.out;subst fB)|((with_reducible refine gate_callee (f:=49) rfl ?_);refine gL (some 27) Tryz.func49 #[.agg #[.int .i32 ac,.int .i32 af,.int .i32 ag,.int .i32 ad,.int .i32 ah,.int .i32 ai,.int .i32 ae],.slice fz ek.length fA,.int .i64 aV,.int .i64 ar] ?_;(with_reducible refine (sym_Grouped.calls k ac af ag ad ah ai ae _ _ ek aV ar bO _ (rc aG) (rl aG) A6.out).mono ?_);rintro e w20 ⟨fC,rfl,ho0,hb⟩;refine ⟨_,rfl,?_⟩;replace aG:=rb aG hb;replace aH:=rb aH hb;have bn:=Sd.mk (Kd.R_lower ho0 (bz HB));replace aa:=kb aa hb;replace ab:=kb ab hb;replace aj:=kb aj hb;replace HB:=bs HB hb;(try clear hb);(try clear hb2);(try clear hk);(try clear hi);(try clear ho0);obtain ⟨fD,fE,fF⟩:=Kd.R_slice aH.out;subst fF))
 (try simp only [Act.put,sA,sB,sC])
 go_cut [12] (fun v12 wc=>∃ (kq:Nat) (bS:List Int),Sd (shape_Write.j0 kq aq bS ac af ag ad ah ai ae bc bd be bf bx bA bB bC bD aV ar ax ay ak aw az aA=some r)∧Sd (kq≤k)∧Sd (Kd.R (Kd.int .i32) 21 wc w.heap.size (fun _=>True) v12 bS)∧Sd (wc.heap[bR]?=some (.cells #[.int .i32 ac,.int .i32 af,.int .i32 ag,.int .i32 ad,.int .i32 ah,.int .i32 ai,.int .i32 ae] 23 (0,0)))∧Sd (wc.heap[eJ]?=some (.cells #[(.slice dp bc.length dq),(.slice dr bd.length dt),(.slice du be.length dv),(.slice dw bf.length dx),.bool bx,.int .i64 bA,.int .i64 bB,.int .i64 bC,.int .i64 bD,.int .i64 aV,.int .i64 ar,.int .i64 ax,.int .i64 ay,.int .i64 ak,.bool aw,.int .i32 az,.int .i64 aA] 26 (0,0)))∧Sd (wc.heap[eK]?=some (.cells #[.bool cp,(.slice dy bW.length dz),.int .i64 cq] 29 (0,0)))∧Sd (Below w.heap.size w wc))
 case first=>
  have H:=HC7.out
  clear HC7
  by_cases c22:(cr.length:Int)>0
  rotate_left
  ·rw [if_neg c22] at H
   have aI:decide (0<(cr.length:Int))=false:=decide_eq_false c22
   have bE:decide (0<cr.length)=false:=decide_eq_false (by omega)
   clear c22
   (first|rw [aI]|(simp only [i64_w,i32_w];rw [aI])|rw [bE]|skip)
   have H':=Sd.mk H
   clear H
   go_wp2
   go_meet
   case rel=>exact ⟨_,(bO),H',⟨by first|omega|exact Nat.le_refl _⟩,⟨ro bn⟩,⟨ko aa⟩,⟨ko ab⟩,⟨ko aj⟩,⟨bl HB⟩⟩
  rw [if_pos c22] at H
  have aI:decide (0<(cr.length:Int))=true:=decide_eq_true c22
  have bE:decide (0<cr.length)=true:=decide_eq_true (by omega)
  clear c22
  (first|rw [aI]|(simp only [i64_w,i32_w];rw [aI])|rw [bE]|skip)
  by_cases c23:bO.length<35184372088832
  rotate_left
  ·rw [if_neg c23] at H
   exact absurd H (by simp)
  rw [if_pos c23] at H
  have LMc23:=Sd.mk c23
  clear c23
  obtain ⟨b9,cw⟩:∃ y_:List Int,y_=(bO ++ [af]):=⟨_,rfl⟩
  replace H:((sym_Digits.f k ac af ag ad ah ai ae cr).bind fun bI=>(if b9.length+bI.length<35184372088832 then (shape_Write.j0 k aq (b9 ++ bI) ac af ag ad ah ai ae bc bd be bf bx bA bB bC bD aV ar ax ay ak aw az aA) else (none)))=some r:=by first|(rw [cw];with_reducible exact H)|(have H2_:=(Option.bind_some _ _).symm.trans H;rw [cw];with_reducible exact H2_)|(have H2_:=(Option.bind_some _ _).symm.trans H;with_reducible exact H2_)|with_reducible exact H|(rw [cw];exact H)|exact H
  have eR:=Sd.mk cw
  clear cw
  obtain ⟨bI,A24,H⟩:=bX H
  try dsimp only at H
  by_cases c25:b9.length+bI.length<35184372088832
  rotate_left
  ·rw [if_neg c25] at H
   exact absurd H (by simp)
  rw [if_pos c25] at H
  have LMc25:=Sd.mk c25
  clear c25
  obtain ⟨eS,cx⟩:∃ y_:List Int,y_=(b9 ++ bI):=⟨_,rfl⟩
  replace H:(shape_Write.j0 k aq eS ac af ag ad ah ai ae bc bd be bf bx bA bB bC bD aV ar ax ay ak aw az aA)=some r:=by first|(rw [cx];with_reducible exact H)|(have H2_:=(Option.bind_some _ _).symm.trans H;rw [cx];with_reducible exact H2_)|(have H2_:=(Option.bind_some _ _).symm.trans H;with_reducible exact H2_)|with_reducible exact H|(rw [cx];exact H)|exact H
  have eT:=Sd.mk cx
  clear cx
  have H':=Sd.mk H
  clear H
  try go_wp2
  replace aG:=Sd.mk (Kd.R_drew aG.out)
  replace aH:=Sd.mk (Kd.R_drew aH.out)
  replace bn:=Sd.mk (Kd.R_drew bn.out)
  replace aa:=Sd.mk (blk_drew aa.out)
  replace ab:=Sd.mk (blk_drew ab.out)
  replace aj:=Sd.mk (blk_drew aj.out)
  replace HB:=Sd.mk (below_drew1 HB.out)
  refine start_ (n:=10) (S:=fun w'=>w'.cell? ⟨bR,0,none⟩=some (.int .i32 ac)∧w'.cell? ⟨bR,1,none⟩=some (.int .i32 af)∧w'.cell? ⟨bR,2,none⟩=some (.int .i32 ag)∧w'.cell? ⟨bR,3,none⟩=some (.int .i32 ad)∧w'.cell? ⟨bR,4,none⟩=some (.int .i32 ah)∧w'.cell? ⟨bR,5,none⟩=some (.int .i32 ai)∧w'.cell? ⟨bR,6,none⟩=some (.int .i32 ae)) (ds:=[]) (bZ 10 0) (by kernel_rfl) rfl (by kernel_rfl) ⟨(blk_cell aa.out 0).trans rfl,(blk_cell aa.out 1).trans rfl,(blk_cell aa.out 2).trans rfl,(blk_cell aa.out 3).trans rfl,(blk_cell aa.out 4).trans rfl,(blk_cell aa.out 5).trans rfl,(blk_cell aa.out 6).trans rfl⟩ (fun hHeld=>?_);refine with_tabW shape_Write.tab4 shape_Write.bits4 (fun HT_ HW_=>?_)
  generalize w20.drew=w26 at aG aH bn aa ab aj HB hHeld ⊢
  refine p1 0 31 1 HT_ (v:=?_) ?_ (a':=?_) ?_ ?_
  rotate_left
  ·intro w';go_simp;with_reducible rfl
  rotate_left
  ·simp only [Act.put,sA,sB,sC,i64_w,i32_w];rfl
  refine p1 1 32 3 HT_ (v:=?_) ?_ (a':=?_) ?_ ?_
  rotate_left
  ·intro w';go_simp;with_reducible rfl
  rotate_left
  ·simp only [Act.put,sA,sB,sC,i64_w,i32_w];rfl
  refine p1 6 37 67 HT_ (v:=?_) ?_ (a':=?_) ?_ ?_
  rotate_left
  ·intro w';go_simp;with_reducible rfl
  rotate_left
  ·simp only [Act.put,sA,sB,sC,i64_w,i32_w];rfl
  refine p2 2 33 71 HT_ HW_ (v:=?_) ?_ hHeld (a':=?_) ?_ ?_
  rotate_left
  ·rintro w' ⟨s0,s1,s2,s3,s4,s5,s6⟩;go_simp;with_reducible rfl
  rotate_left
  ·simp only [Act.put,sA,sB,sC,i64_w,i32_w];rfl
  refine p2 5 36 103 HT_ HW_ (v:=?_) ?_ hHeld (a':=?_) ?_ ?_
  rotate_left
  ·rintro w' ⟨s0,s1,s2,s3,s4,s5,s6⟩;go_simp;with_reducible rfl
  rotate_left
  ·simp only [Act.put,sA,sB,sC,i64_w,i32_w];rfl
  refine one_ (i:=3) (N:=some 34) (bZ 10 111) rfl rfl (one_of HT_.out (by kernel_rfl)) (by decide) (fun K hK=>?_)
  refine value_ (w1:=?_) (v:=?_) (by rfl) rfl ?_ ?_
  rotate_left 2
  ·go_simp
   constructor
   ·rfl
   rfl
  refine hK.out _ _ ⟨(blk_cell (blk_alloc aa.out _) 0).trans rfl,(blk_cell (blk_alloc aa.out _) 1).trans rfl,(blk_cell (blk_alloc aa.out _) 2).trans rfl,(blk_cell (blk_alloc aa.out _) 3).trans rfl,(blk_cell (blk_alloc aa.out _) 4).trans rfl,(blk_cell (blk_alloc aa.out _) 5).trans rfl,(blk_cell (blk_alloc aa.out _) 6).trans rfl⟩ (fun hHeld=>?_)
  clear hK K
  refine norm_ (a':=?_) ?_ ?_
  rotate_left
  ·show Act.put _ (some 34) _=_
   simp only [Act.put,sA,sB,sC,i64_w,i32_w]
   rfl
  refine one_ (i:=4) (N:=some 35) (bZ 10 127) rfl rfl (one_of HT_.out (by kernel_rfl)) (by decide) (fun K hK=>?_)
  refine Kd.R_append_step (Kd.int .i32) (w0:=w) w.heap.size (by rfl) (.tmp 31) (.tmp 34) 46 21 (.int .i32 0) 4 rfl Tryz.underlying46 info21 rfl (by decide) (by omega) fC bO af [.int .i32 af] (fun _=>True) (fun _=>False) rfl rfl ?aP (fun _ hk=>hk.elim) ?aF ?aO ?aB ?aS ?aL ?_
  (case aP=>exact rfl)
  (case aB=>exact (bl HB))
  (case aF=>exact (fun _ _=>trivial))
  (case aO=>exact (ro bn))
  (case aS=>exact (bz HB))
  (case aL=>have:=LMc23.out;omega)
  intro fG w27 ho hb hg hat
  rw [← eR.out] at ho
  replace aa:=Sd.mk (blk_grown (ko aa) hg (Kd.R_ne bn.out aa.out (by decide)))
  replace ab:=Sd.mk (blk_grown (ko ab) hg (Kd.R_ne bn.out ab.out (by decide)))
  replace aj:=Sd.mk (blk_grown (ko aj) hg (Kd.R_ne bn.out aj.out (by decide)))
  replace aG:=Sd.mk (Kd.R_over' (ro aG) (Kd.R_typed (ro bn)) (by decide) hg)
  replace aH:=Sd.mk (Kd.R_over' (ro aH) (Kd.R_typed (ro bn)) (by decide) hg)
  replace HB:=Sd.mk (hb)
  have bF:=Sd.mk (ho)
  clear bn
  clear ho hb hg hat
  refine hK.out _ _ ⟨(blk_cell aa.out 0).trans rfl,(blk_cell aa.out 1).trans rfl,(blk_cell aa.out 2).trans rfl,(blk_cell aa.out 3).trans rfl,(blk_cell aa.out 4).trans rfl,(blk_cell aa.out 5).trans rfl,(blk_cell aa.out 6).trans rfl⟩ (fun hHeld=>?_)
  clear hK K
  refine norm_ (a':=?_) ?_ ?_
  rotate_left
  ·show Act.put _ (some 35) _=_
   simp only [Act.put,sA,sB,sC,i64_w,i32_w]
   rfl
  refine one_ (i:=7) (N:=some 38) (bZ 10 255) rfl rfl (one_of HT_.out (by kernel_rfl)) (by decide) (fun K hK=>?_)
  refine goes_ Tryz.func50 (by kernel_rfl) rfl #[.agg #[.int .i32 ac,.int .i32 af,.int .i32 ag,.int .i32 ad,.int .i32 ah,.int .i32 ai,.int .i32 ae],.slice fD cr.length fE] (by rfl) rfl rfl (by (try simp only [mA,mB,mC]);first|done|rfl|(simp only [lD,lT];rfl)) ?_
  with_reducible refine (sym_Digits.calls k ac af ag ad ah ai ae _ _ cr bI _ ?side1 ?side2 A24.out).mono ?_
  (case side1=>exact (Kd.R_reads' aH.out).2.2)
  (case side2=>exact (Kd.R_reads' aH.out).2.1)
  rintro e w28 ⟨hR,rfl,ho0,hb⟩
  refine ⟨_,rfl,?_⟩
  replace aG:=rb aG hb
  replace aH:=rb aH hb
  have cy:=Sd.mk (Kd.R_lower (Kd.R_new' ho0 (Kd.R_lt (ro bF))) (bz HB))
  replace bF:=Sd.mk (Kd.R_elder' (ro bF) (Kd.R_base ho0) hb)
  replace aa:=kb aa hb
  replace ab:=kb ab hb
  replace aj:=kb aj hb
  replace HB:=bs HB hb
  (try clear hb)
  (try clear hb2)
  (try clear hk)
  (try clear hi)
  (try clear ho0)
  obtain ⟨el,em,dQ⟩:=Kd.R_slice cy.out
  (first|subst dQ|(injection dQ with f1_ f2_ f3_;have f4_:=f1_.symm;have f5_:=f3_.symm;clear f1_ f2_ f3_;subst f4_;subst f5_))
  refine hK.out _ _ ⟨(blk_cell aa.out 0).trans rfl,(blk_cell aa.out 1).trans rfl,(blk_cell aa.out 2).trans rfl,(blk_cell aa.out 3).trans rfl,(blk_cell aa.out 4).trans rfl,(blk_cell aa.out 5).trans rfl,(blk_cell aa.out 6).trans rfl⟩ (fun hHeld=>?_)
  clear hK K
  refine norm_ (a':=?_) ?_ ?_
  rotate_left
  ·show Act.put _ (some 38) _=_
   simp only [Act.put,sA,sB,sC,i64_w,i32_w]
   rfl
  refine one_ (i:=8) (N:=some 39) (bZ 10 511) rfl rfl (one_of HT_.out (by kernel_rfl)) (by decide) (fun K hK=>?_)
  refine Kd.R_append_rows_step (Kd.int .i32) (w0:=w) w.heap.size (by rfl) (.tmp 35) (.tmp 38) 46 21 (.int .i32 0) 4 rfl Tryz.underlying46 info21 rfl (by decide) (by omega) fG b9 bI _ _ _ (fun k_=>some k_≠(.slice el bI.length em:Value).ownBlock) (fun _=>False) rfl rfl ?aO ?aR (fun _ _ h=>h) (fun _ h=>h.elim) ?aF ?aB ?aS ?aL ?_
  (case aR=>exact (Kd.R_reads' cy.out).2.2)
  (case aB=>exact (bl HB))
  (case aF=>exact (fun k_ hk=>Kd.fresh' (Kd.R_lt (ro cy)) k_ hk))
  (case aO=>exact (by (with_reducible repeat (first|apply Kd.R_alloc|apply Kd.R_drewN|apply Kd.R_drew));exact Kd.R_mono bF.out (fun _ hk=>hk.2)))
  (case aS=>exact (bz HB))
  (case aL=>have:=LMc25.out;omega)
  intro hS w29 ho hb hg hat
  rw [← eT.out] at ho
  replace aa:=Sd.mk (blk_grown (ko aa) hg (Kd.R_ne bF.out aa.out (by decide)))
  replace ab:=Sd.mk (blk_grown (ko ab) hg (Kd.R_ne bF.out ab.out (by decide)))
  replace aj:=Sd.mk (blk_grown (ko aj) hg (Kd.R_ne bF.out aj.out (by decide)))
  replace aG:=Sd.mk (Kd.R_over' (ro aG) (Kd.R_typed (ro bF)) (by decide) hg)
  replace aH:=Sd.mk (Kd.R_over' (ro aH) (Kd.R_typed (ro bF)) (by decide) hg)
  replace cy:=Sd.mk (Kd.R_after (ok:=(fun _=>True)) (ro cy) hg hat)
  replace HB:=Sd.mk (hb)
  have eU:=Sd.mk (ho)
  clear bF
  clear ho hb hg hat
  refine hK.out _ _ ⟨(blk_cell aa.out 0).trans rfl,(blk_cell aa.out 1).trans rfl,(blk_cell aa.out 2).trans rfl,(blk_cell aa.out 3).trans rfl,(blk_cell aa.out 4).trans rfl,(blk_cell aa.out 5).trans rfl,(blk_cell aa.out 6).trans rfl⟩ (fun hHeld=>?_)
  clear hK K
  refine norm_ (a':=?_) ?_ ?_
  rotate_left
  ·show Act.put _ (some 39) _=_
   simp only [Act.put,sA,sB,sC,i64_w,i32_w]
   rfl
  refine p1 9 12 1023 HT_ (v:=?_) ?_ (a':=?_) ?_ ?_
  rotate_left
  ·intro w';go_simp;with_reducible rfl
  rotate_left
  ·simp only [Act.put,sA,sB,sC,i64_w,i32_w];rfl
  refine done_ (done_of HT_.out (by kernel_rfl)) ?_
  try go_wp2
  go_meet
  case rel=>exact ⟨_,(eS),H',⟨by first|omega|exact Nat.le_refl _⟩,⟨by (with_reducible repeat (first|apply Kd.R_alloc|apply Kd.R_drewN|apply Kd.R_drew));exact Kd.R_mono eU.out (fun _ hk=>trivial)⟩,⟨ko aa⟩,⟨ko ab⟩,⟨ko aj⟩,⟨bl HB⟩⟩
 case rest=>
  clear HC7
  try clear c1
  try clear c2
  try clear p2
  try clear c3
  try clear c4
  try clear c5
  try clear c11
  try clear c12
  try clear c14
  try clear c17
  try clear c22
  try clear aI
  try clear bE
  try clear c23
  try clear c25
  try clear eL
  try clear eN
  try clear eP
  try clear d9
  try clear eM
  try clear eO
  try clear eQ
  try clear ea
  obtain ⟨kq,bS,HA,HJ6,HO_12,aa,ab,aj,HB⟩:=hcut
  cases kq with
  | zero=>exact absurd HA.out (by simp [shape_Write.j0])
  | succ kj6=>
   have H:=HA.out
   clear HA
   simp only [shape_Write.j0] at H
   by_cases c31:ak=0
   ·rw [if_pos c31] at H
    have eV:(ak == 0)=true:=beq_iff_eq.mpr c31
    have eW:(ak != 0)=false:=bne_eq_false_iff_eq.mpr c31
    clear c31
    obtain rfl:=Option.some.inj H
    have gu:=aX.out
    have gv:=aW.out
    have gw:=aY.out
    have gx:=aZ.out
    have gy:=blkc17 ab.out
    have gz:=blkf17 ab.out
    go_wp2
    go_ret
    exact ⟨_,by first|rfl|(simp <;> rfl)|(simp [*] <;> rfl),by (with_reducible repeat (first|apply Kd.R_alloc|apply Kd.R_drewN|apply Kd.R_drew));exact HO_12.out,bl HB⟩
   rw [if_neg c31] at H
   have eV:(ak == 0)=false:=beq_eq_false_iff_ne.mpr c31
   have eW:(ak != 0)=true:=bne_iff_ne.mpr c31
   by_cases c35:bS.length<35184372088832
   rotate_left
   ·rw [if_neg c35] at H
    exact absurd H (by simp)
   rw [if_pos c35] at H
   have LMc35:=Sd.mk c35
   clear c35
   obtain ⟨aC,cz⟩:∃ y_:List Int,y_=(bS ++ [ae]):=⟨_,rfl⟩
   replace H:(if aq<0 then (if aC.length<35184372088832 then ((some (aC ++ [ad]:List Int)).bind fun bM=>((shape_digitsOf.f kj6 ac af ag ad ah ai ae (mx aq (wrap64 (-aq))) ak).bind fun bj=>(if bM.length+bj.length<35184372088832 then (some (bM ++ bj)) else (none)))) else (none)) else (if aw=true then (if aC.length<35184372088832 then ((some (aC ++ [ah]:List Int)).bind fun bN=>((shape_digitsOf.f kj6 ac af ag ad ah ai ae (mx aq (wrap64 (-aq))) ak).bind fun bk=>(if bN.length+bk.length<35184372088832 then (some (bN ++ bk)) else (none)))) else (none)) else ((shape_digitsOf.f kj6 ac af ag ad ah ai ae (mx aq (wrap64 (-aq))) ak).bind fun bH=>(if aC.length+bH.length<35184372088832 then (some (aC ++ bH)) else (none)))))=some r:=by first|(rw [cz];with_reducible exact H)|(have H2_:=(Option.bind_some _ _).symm.trans H;rw [cz];with_reducible exact H2_)|(have H2_:=(Option.bind_some _ _).symm.trans H;with_reducible exact H2_)|with_reducible exact H|(rw [cz];exact H)|exact H
   have dA:=Sd.mk cz
   clear cz
   by_cases c36:aq<0
   ·rw [if_pos c36] at H
    have eX:=decide_eq_true c36
    clear c36
    by_cases c37:aC.length<35184372088832
    rotate_left
    ·rw [if_neg c37] at H
     exact absurd H (by simp)
    rw [if_pos c37] at H
    have LMc37:=Sd.mk c37
    clear c37
    obtain ⟨bM,cA⟩:∃ y_:List Int,y_=(aC ++ [ad]):=⟨_,rfl⟩
    replace H:((shape_digitsOf.f kj6 ac af ag ad ah ai ae (mx aq (wrap64 (-aq))) ak).bind fun bj=>(if bM.length+bj.length<35184372088832 then (some (bM ++ bj)) else (none)))=some r:=by first|(rw [cA];with_reducible exact H)|(have H2_:=(Option.bind_some _ _).symm.trans H;rw [cA];with_reducible exact H2_)|(have H2_:=(Option.bind_some _ _).symm.trans H;with_reducible exact H2_)|with_reducible exact H|(rw [cA];exact H)|exact H
    have eY:=Sd.mk cA
    clear cA
    obtain ⟨dR,cB⟩:∃ j_:Int,(mx aq (wrap64 (-aq)))=j_:=⟨_,rfl⟩
    replace H:((shape_digitsOf.f kj6 ac af ag ad ah ai ae (dR) ak).bind fun bj=>(if bM.length+bj.length<35184372088832 then (some (bM ++ bj)) else (none)))=some r:=by first|(rw [cB] at H;exact H)|(simp only [cB] at H ⊢;exact H)
    have fH:(if aq<(wrap64 (-aq)) then (wrap64 (-aq)) else aq)=dR:=cB
    obtain ⟨bj,A39,H⟩:=bX H
    try dsimp only at H
    by_cases c40:bM.length+bj.length<35184372088832
    rotate_left
    ·rw [if_neg c40] at H
     exact absurd H (by simp)
    rw [if_pos c40] at H
    have LMc40:=Sd.mk c40
    clear c40
    obtain ⟨fI,cC⟩:∃ y_:List Int,y_=(bM ++ bj):=⟨_,rfl⟩
    replace H:(some fI)=some r:=by first|(rw [cC];with_reducible exact H)|(have H2_:=(Option.bind_some _ _).symm.trans H;rw [cC];with_reducible exact H2_)|(have H2_:=(Option.bind_some _ _).symm.trans H;with_reducible exact H2_)|with_reducible exact H|(rw [cC];exact H)|exact H
    have eZ:=Sd.mk cC
    clear cC
    obtain rfl:=Option.some.inj H
    have gA:=aX.out
    have gB:=aW.out
    have gC:=aY.out
    have gD:=aZ.out
    have gE:=blkc17 ab.out
    have gF:=blkf17 ab.out
    have gG:=bu.out
    have gH:=bv.out
    have gI:=blkc7 aa.out
    have gJ:=blkf7 aa.out
    go_wp2_with (first|((with_reducible refine gate_builtin (b:=.append) (xs:=#[.tmp 44,.tmp 47]) rfl ?_);at_builtin;refine Kd.R_append (Kd.int .i32) (w0:=w) w.heap.size rfl (.tmp 44) (.tmp 47) 46 21 (.int .i32 0) 4 rfl Tryz.underlying46 info21 rfl (by decide) (by omega) u12 bS ae [.int .i32 ae] (fun _=>True) (fun _=>False) rfl rfl ?aP (fun _ hk=>hk.elim) ?aF ?aO ?aB ?aS ?aL ?_;(case aP=>exact rfl);(case aB=>exact (bl HB));(case aF=>exact (fun _ _=>trivial));(case aO=>exact (ro HO_12));(case aS=>exact (bz HB));(case aL=>have:=LMc35.out;omega);intro dB w46 ho hb hg hat;rw [← dA.out] at ho;replace aa:=Sd.mk (blk_grown (ko aa) hg (Kd.R_ne HO_12.out aa.out (by decide)));replace ab:=Sd.mk (blk_grown (ko ab) hg (Kd.R_ne HO_12.out ab.out (by decide)));replace aj:=Sd.mk (blk_grown (ko aj) hg (Kd.R_ne HO_12.out aj.out (by decide)));replace HB:=Sd.mk (hb);have au:=Sd.mk (ho);clear HO_12;clear ho hb hg hat;have gK:=blkc7 aa.out;have gM:=blkf7 aa.out)|((with_reducible refine gate_builtin (b:=.append) (xs:=#[.tmp 52,.tmp 55]) rfl ?_);at_builtin;refine Kd.R_append (Kd.int .i32) (w0:=w) w.heap.size rfl (.tmp 52) (.tmp 55) 46 21 (.int .i32 0) 4 rfl Tryz.underlying46 info21 rfl (by decide) (by omega) dB aC ad [.int .i32 ad] (fun _=>True) (fun _=>False) rfl rfl ?aP (fun _ hk=>hk.elim) ?aF ?aO ?aB ?aS ?aL ?_;(case aP=>exact rfl);(case aB=>exact (bl HB));(case aF=>exact (fun _ _=>trivial));(case aO=>exact (ro au));(case aS=>exact (bz HB));(case aL=>have:=LMc37.out;omega);intro fJ w48 ho hb hg hat;rw [← eY.out] at ho;replace aa:=Sd.mk (blk_grown (ko aa) hg (Kd.R_ne au.out aa.out (by decide)));replace ab:=Sd.mk (blk_grown (ko ab) hg (Kd.R_ne au.out ab.out (by decide)));replace aj:=Sd.mk (blk_grown (ko aj) hg (Kd.R_ne au.out aj.out (by decide)));replace HB:=Sd.mk (hb);have bT:=Sd.mk (ho);clear au;clear ho hb hg hat;have gN:=blkc7 aa.out;have gO:=blkf7 aa.out;have gP:=blkc17 ab.out;have gQ:=blkf17 ab.out)|((with_reducible refine gate_callee (f:=51) rfl ?_);refine goesL_ (some 73) rfl rfl Tryz.func51 (by kernel_rfl) rfl #[.agg #[.int .i32 ac,.int .i32 af,.int .i32 ag,.int .i32 ad,.int .i32 ah,.int .i32 ai,.int .i32 ae],.int .i64 dR,.int .i64 ak] rfl (by (try simp only [List.map_toArray,List.map_cons,List.map_nil]);first|done|(simp only [cB];rfl)|rfl|(simp only [List.length_drop,List.length_take];rfl)) ?_;(with_reducible refine (shape_digitsOf.calls kj6 ac af ag ad ah ai ae dR ak bj _ ?side1 A39.out).mono ?_);(case side1=>refine GL.below HG.out ?_;exact bl HB);rintro e w51 ⟨hT,rfl,ho0,hb⟩;refine ⟨_,rfl,?_⟩;have cD:=Sd.mk (Kd.R_lower (Kd.R_new' ho0 (Kd.R_lt (ro bT))) (bz HB));replace bT:=Sd.mk (Kd.R_elder' (ro bT) (Kd.R_base ho0) hb);replace aa:=kb aa hb;replace ab:=kb ab hb;replace aj:=kb aj hb;replace HB:=bs HB hb;(try clear hb);(try clear ho0);obtain ⟨fK,fL,fM⟩:=Kd.R_slice cD.out;subst fM)|((with_reducible refine gate_builtin (b:=.append) (xs:=#[.tmp 65,.tmp 73]) rfl ?_);at_builtin;refine Kd.R_append_rows (Kd.int .i32) (w0:=w) w.heap.size rfl (.tmp 65) (.tmp 73) 46 21 (.int .i32 0) 4 rfl Tryz.underlying46 info21 rfl (by decide) (by omega) fJ bM bj _ _ _ (fun k_=>some k_≠(.slice fK bj.length fL:Value).ownBlock) (fun _=>False) rfl rfl ?aO ?aR (fun _ _ h=>h) (fun _ h=>h.elim) ?aF ?aB ?aS ?aL ?_;(case aR=>exact (Kd.R_reads' cD.out).2.2);(case aB=>exact (bl HB));(case aF=>exact (fun k_ hk=>Kd.fresh' (Kd.R_lt (ro cD)) k_ hk));(case aO=>exact (by (with_reducible repeat (first|apply Kd.R_alloc|apply Kd.R_drewN|apply Kd.R_drew));exact Kd.R_mono bT.out (fun _ hk=>hk.2)));(case aS=>exact (bz HB));(case aL=>have:=LMc40.out;omega);intro hU w52 ho hb hg hat;rw [← eZ.out] at ho;replace aa:=Sd.mk (blk_grown (ko aa) hg (Kd.R_ne bT.out aa.out (by decide)));replace ab:=Sd.mk (blk_grown (ko ab) hg (Kd.R_ne bT.out ab.out (by decide)));replace aj:=Sd.mk (blk_grown (ko aj) hg (Kd.R_ne bT.out aj.out (by decide)));replace cD:=Sd.mk (Kd.R_after (ok:=(fun _=>True)) (ro cD) hg hat);replace HB:=Sd.mk (hb);have e0:=Sd.mk (ho);clear bT;clear ho hb hg hat))
    go_ret
    exact ⟨_,by first|rfl|(simp <;> rfl)|(simp only [← cB];first|rfl|(simp <;> rfl))|(simp [*] <;> rfl),by (with_reducible repeat (first|apply Kd.R_alloc|apply Kd.R_drewN|apply Kd.R_drew));exact Kd.R_mono e0.out (fun _ hk=>trivial),bl HB⟩
   rw [if_neg c36] at H
   have eX:=decide_eq_false c36
   clear c36
   by_cases c54:aw=true
   ·subst c54
    rw [if_pos rfl] at H
    by_cases c55:aC.length<35184372088832
    rotate_left
    ·rw [if_neg c55] at H
     exact absurd H (by simp)
    rw [if_pos c55] at H
    have LMc55:=Sd.mk c55
    clear c55
    obtain ⟨bN,cE⟩:∃ y_:List Int,y_=(aC ++ [ah]):=⟨_,rfl⟩
    replace H:((shape_digitsOf.f kj6 ac af ag ad ah ai ae (mx aq (wrap64 (-aq))) ak).bind fun bk=>(if bN.length+bk.length<35184372088832 then (some (bN ++ bk)) else (none)))=some r:=by first|(rw [cE];with_reducible exact H)|(have H2_:=(Option.bind_some _ _).symm.trans H;rw [cE];with_reducible exact H2_)|(have H2_:=(Option.bind_some _ _).symm.trans H;with_reducible exact H2_)|with_reducible exact H|(rw [cE];exact H)|exact H
    have e1:=Sd.mk cE
    clear cE
    obtain ⟨dS,cF⟩:∃ j_:Int,(mx aq (wrap64 (-aq)))=j_:=⟨_,rfl⟩
    replace H:((shape_digitsOf.f kj6 ac af ag ad ah ai ae (dS) ak).bind fun bk=>(if bN.length+bk.length<35184372088832 then (some (bN ++ bk)) else (none)))=some r:=by first|(rw [cF] at H;exact H)|(simp only [cF] at H ⊢;exact H)
    have fN:(if aq<(wrap64 (-aq)) then (wrap64 (-aq)) else aq)=dS:=cF
    obtain ⟨bk,A57,H⟩:=bX H
    try dsimp only at H
    by_cases c58:bN.length+bk.length<35184372088832
    rotate_left
    ·rw [if_neg c58] at H
     exact absurd H (by simp)
    rw [if_pos c58] at H
    have LMc58:=Sd.mk c58
    clear c58
    obtain ⟨fO,cG⟩:∃ y_:List Int,y_=(bN ++ bk):=⟨_,rfl⟩
    replace H:(some fO)=some r:=by first|(rw [cG];with_reducible exact H)|(have H2_:=(Option.bind_some _ _).symm.trans H;rw [cG];with_reducible exact H2_)|(have H2_:=(Option.bind_some _ _).symm.trans H;with_reducible exact H2_)|with_reducible exact H|(rw [cG];exact H)|exact H
    have e2:=Sd.mk cG
    clear cG
    obtain rfl:=Option.some.inj H
    have gR:=aX.out
    have gS:=aW.out
    have gT:=aY.out
    have gU:=aZ.out
    have gV:=blkc17 ab.out
    have gW:=blkf17 ab.out
    have gX:=bu.out
    have gY:=bv.out
    have gZ:=blkc7 aa.out
    have g0:=blkf7 aa.out
    go_wp2_with (first|((with_reducible refine gate_builtin (b:=.append) (xs:=#[.tmp 44,.tmp 47]) rfl ?_);at_builtin;refine Kd.R_append (Kd.int .i32) (w0:=w) w.heap.size rfl (.tmp 44) (.tmp 47) 46 21 (.int .i32 0) 4 rfl Tryz.underlying46 info21 rfl (by decide) (by omega) u12 bS ae [.int .i32 ae] (fun _=>True) (fun _=>False) rfl rfl ?aP (fun _ hk=>hk.elim) ?aF ?aO ?aB ?aS ?aL ?_;(case aP=>exact rfl);(case aB=>exact (bl HB));(case aF=>exact (fun _ _=>trivial));(case aO=>exact (ro HO_12));(case aS=>exact (bz HB));(case aL=>have:=LMc35.out;omega);intro dB w64 ho hb hg hat;rw [← dA.out] at ho;replace aa:=Sd.mk (blk_grown (ko aa) hg (Kd.R_ne HO_12.out aa.out (by decide)));replace ab:=Sd.mk (blk_grown (ko ab) hg (Kd.R_ne HO_12.out ab.out (by decide)));replace aj:=Sd.mk (blk_grown (ko aj) hg (Kd.R_ne HO_12.out aj.out (by decide)));replace HB:=Sd.mk (hb);have au:=Sd.mk (ho);clear HO_12;clear ho hb hg hat;have g1:=blkc17 ab.out;have g2:=blkf17 ab.out;have g3:=blkc7 aa.out;have g4:=blkf7 aa.out)|((with_reducible refine gate_builtin (b:=.append) (xs:=#[.tmp 60,.tmp 63]) rfl ?_);at_builtin;refine Kd.R_append (Kd.int .i32) (w0:=w) w.heap.size rfl (.tmp 60) (.tmp 63) 46 21 (.int .i32 0) 4 rfl Tryz.underlying46 info21 rfl (by decide) (by omega) dB aC ah [.int .i32 ah] (fun _=>True) (fun _=>False) rfl rfl ?aP (fun _ hk=>hk.elim) ?aF ?aO ?aB ?aS ?aL ?_;(case aP=>exact rfl);(case aB=>exact (bl HB));(case aF=>exact (fun _ _=>trivial));(case aO=>exact (ro au));(case aS=>exact (bz HB));(case aL=>have:=LMc55.out;omega);intro fP w67 ho hb hg hat;rw [← e1.out] at ho;replace aa:=Sd.mk (blk_grown (ko aa) hg (Kd.R_ne au.out aa.out (by decide)));replace ab:=Sd.mk (blk_grown (ko ab) hg (Kd.R_ne au.out ab.out (by decide)));replace aj:=Sd.mk (blk_grown (ko aj) hg (Kd.R_ne au.out aj.out (by decide)));replace HB:=Sd.mk (hb);have bU:=Sd.mk (ho);clear au;clear ho hb hg hat;have g5:=blkc7 aa.out;have g6:=blkf7 aa.out;have g7:=blkc17 ab.out;have g8:=blkf17 ab.out)|((with_reducible refine gate_callee (f:=51) rfl ?_);refine goesL_ (some 73) rfl rfl Tryz.func51 (by kernel_rfl) rfl #[.agg #[.int .i32 ac,.int .i32 af,.int .i32 ag,.int .i32 ad,.int .i32 ah,.int .i32 ai,.int .i32 ae],.int .i64 dS,.int .i64 ak] rfl (by (try simp only [List.map_toArray,List.map_cons,List.map_nil]);first|done|(simp only [cF];rfl)|rfl|(simp only [List.length_drop,List.length_take];rfl)) ?_;(with_reducible refine (shape_digitsOf.calls kj6 ac af ag ad ah ai ae dS ak bk _ ?side1 A57.out).mono ?_);(case side1=>refine GL.below HG.out ?_;exact bl HB);rintro e w70 ⟨hV,rfl,ho0,hb⟩;refine ⟨_,rfl,?_⟩;have cH:=Sd.mk (Kd.R_lower (Kd.R_new' ho0 (Kd.R_lt (ro bU))) (bz HB));replace bU:=Sd.mk (Kd.R_elder' (ro bU) (Kd.R_base ho0) hb);replace aa:=kb aa hb;replace ab:=kb ab hb;replace aj:=kb aj hb;replace HB:=bs HB hb;(try clear hb);(try clear ho0);obtain ⟨fQ,fR,fS⟩:=Kd.R_slice cH.out;subst fS)|((with_reducible refine gate_builtin (b:=.append) (xs:=#[.tmp 65,.tmp 73]) rfl ?_);at_builtin;refine Kd.R_append_rows (Kd.int .i32) (w0:=w) w.heap.size rfl (.tmp 65) (.tmp 73) 46 21 (.int .i32 0) 4 rfl Tryz.underlying46 info21 rfl (by decide) (by omega) fP bN bk _ _ _ (fun k_=>some k_≠(.slice fQ bk.length fR:Value).ownBlock) (fun _=>False) rfl rfl ?aO ?aR (fun _ _ h=>h) (fun _ h=>h.elim) ?aF ?aB ?aS ?aL ?_;(case aR=>exact (Kd.R_reads' cH.out).2.2);(case aB=>exact (bl HB));(case aF=>exact (fun k_ hk=>Kd.fresh' (Kd.R_lt (ro cH)) k_ hk));(case aO=>exact (by (with_reducible repeat (first|apply Kd.R_alloc|apply Kd.R_drewN|apply Kd.R_drew));exact Kd.R_mono bU.out (fun _ hk=>hk.2)));(case aS=>exact (bz HB));(case aL=>have:=LMc58.out;omega);intro hW w71 ho hb hg hat;rw [← e2.out] at ho;replace aa:=Sd.mk (blk_grown (ko aa) hg (Kd.R_ne bU.out aa.out (by decide)));replace ab:=Sd.mk (blk_grown (ko ab) hg (Kd.R_ne bU.out ab.out (by decide)));replace aj:=Sd.mk (blk_grown (ko aj) hg (Kd.R_ne bU.out aj.out (by decide)));replace cH:=Sd.mk (Kd.R_after (ok:=(fun _=>True)) (ro cH) hg hat);replace HB:=Sd.mk (hb);have e3:=Sd.mk (ho);clear bU;clear ho hb hg hat))
    go_ret
    exact ⟨_,by first|rfl|(simp <;> rfl)|(simp only [← cF];first|rfl|(simp <;> rfl))|(simp [*] <;> rfl),by (with_reducible repeat (first|apply Kd.R_alloc|apply Kd.R_drewN|apply Kd.R_drew));exact Kd.R_mono e3.out (fun _ hk=>trivial),bl HB⟩
   replace c54:=Bool.eq_false_iff.mpr c54
   subst c54
   rw [if_neg (show ¬ (false=true) by decide)] at H
   obtain ⟨dT,cI⟩:∃ j_:Int,(mx aq (wrap64 (-aq)))=j_:=⟨_,rfl⟩
   replace H:((shape_digitsOf.f kj6 ac af ag ad ah ai ae (dT) ak).bind fun bH=>(if aC.length+bH.length<35184372088832 then (some (aC ++ bH)) else (none)))=some r:=by first|(rw [cI] at H;exact H)|(simp only [cI] at H ⊢;exact H)
   have fT:(if aq<(wrap64 (-aq)) then (wrap64 (-aq)) else aq)=dT:=cI
   obtain ⟨bH,A74,H⟩:=bX H
   try dsimp only at H
   by_cases c75:aC.length+bH.length<35184372088832
   rotate_left
   ·rw [if_neg c75] at H
    exact absurd H (by simp)
   rw [if_pos c75] at H
   have LMc75:=Sd.mk c75
   clear c75
   obtain ⟨fU,cJ⟩:∃ y_:List Int,y_=(aC ++ bH):=⟨_,rfl⟩
   replace H:(some fU)=some r:=by first|(rw [cJ];with_reducible exact H)|(have H2_:=(Option.bind_some _ _).symm.trans H;rw [cJ];with_reducible exact H2_)|(have H2_:=(Option.bind_some _ _).symm.trans H;with_reducible exact H2_)|with_reducible exact H|(rw [cJ];exact H)|exact H
   have e4:=Sd.mk cJ
   clear cJ
   obtain rfl:=Option.some.inj H
   have g9:=aX.out
   have ha:=aW.out
   have hc:=aY.out
   have hf:=aZ.out
   have hh:=blkc17 ab.out
   have hj:=blkf17 ab.out
   have hl:=bu.out
   have hm:=bv.out
   have hn:=blkc7 aa.out
   have hp:=blkf7 aa.out
   go_wp2_with (first|((with_reducible refine gate_builtin (b:=.append) (xs:=#[.tmp 44,.tmp 47]) rfl ?_);at_builtin;refine Kd.R_append (Kd.int .i32) (w0:=w) w.heap.size rfl (.tmp 44) (.tmp 47) 46 21 (.int .i32 0) 4 rfl Tryz.underlying46 info21 rfl (by decide) (by omega) u12 bS ae [.int .i32 ae] (fun _=>True) (fun _=>False) rfl rfl ?aP (fun _ hk=>hk.elim) ?aF ?aO ?aB ?aS ?aL ?_;(case aP=>exact rfl);(case aB=>exact (bl HB));(case aF=>exact (fun _ _=>trivial));(case aO=>exact (ro HO_12));(case aS=>exact (bz HB));(case aL=>have:=LMc35.out;omega);intro dB w81 ho hb hg hat;rw [← dA.out] at ho;replace aa:=Sd.mk (blk_grown (ko aa) hg (Kd.R_ne HO_12.out aa.out (by decide)));replace ab:=Sd.mk (blk_grown (ko ab) hg (Kd.R_ne HO_12.out ab.out (by decide)));replace aj:=Sd.mk (blk_grown (ko aj) hg (Kd.R_ne HO_12.out aj.out (by decide)));replace HB:=Sd.mk (hb);have au:=Sd.mk (ho);clear HO_12;clear ho hb hg hat;have hq:=blkc17 ab.out;have hs:=blkf17 ab.out;have ht:=blkc7 aa.out;have hu:=blkf7 aa.out)|((with_reducible refine gate_callee (f:=51) rfl ?_);refine goesL_ (some 73) rfl rfl Tryz.func51 (by kernel_rfl) rfl #[.agg #[.int .i32 ac,.int .i32 af,.int .i32 ag,.int .i32 ad,.int .i32 ah,.int .i32 ai,.int .i32 ae],.int .i64 dT,.int .i64 ak] rfl (by (try simp only [List.map_toArray,List.map_cons,List.map_nil]);first|done|(simp only [cI];rfl)|rfl|(simp only [List.length_drop,List.length_take];rfl)) ?_;(with_reducible refine (shape_digitsOf.calls kj6 ac af ag ad ah ai ae dT ak bH _ ?side1 A74.out).mono ?_);(case side1=>refine GL.below HG.out ?_;exact bl HB);rintro e w84 ⟨hX,rfl,ho0,hb⟩;refine ⟨_,rfl,?_⟩;have cK:=Sd.mk (Kd.R_lower (Kd.R_new' ho0 (Kd.R_lt (ro au))) (bz HB));replace au:=Sd.mk (Kd.R_elder' (ro au) (Kd.R_base ho0) hb);replace aa:=kb aa hb;replace ab:=kb ab hb;replace aj:=kb aj hb;replace HB:=bs HB hb;(try clear hb);(try clear ho0);obtain ⟨fV,fW,fX⟩:=Kd.R_slice cK.out;subst fX)|((with_reducible refine gate_builtin (b:=.append) (xs:=#[.tmp 65,.tmp 73]) rfl ?_);at_builtin;refine Kd.R_append_rows (Kd.int .i32) (w0:=w) w.heap.size rfl (.tmp 65) (.tmp 73) 46 21 (.int .i32 0) 4 rfl Tryz.underlying46 info21 rfl (by decide) (by omega) dB aC bH _ _ _ (fun k_=>some k_≠(.slice fV bH.length fW:Value).ownBlock) (fun _=>False) rfl rfl ?aO ?aR (fun _ _ h=>h) (fun _ h=>h.elim) ?aF ?aB ?aS ?aL ?_;(case aR=>exact (Kd.R_reads' cK.out).2.2);(case aB=>exact (bl HB));(case aF=>exact (fun k_ hk=>Kd.fresh' (Kd.R_lt (ro cK)) k_ hk));(case aO=>exact (by (with_reducible repeat (first|apply Kd.R_alloc|apply Kd.R_drewN|apply Kd.R_drew));exact Kd.R_mono au.out (fun _ hk=>hk.2)));(case aS=>exact (bz HB));(case aL=>have:=LMc75.out;omega);intro hY w85 ho hb hg hat;rw [← e4.out] at ho;replace aa:=Sd.mk (blk_grown (ko aa) hg (Kd.R_ne au.out aa.out (by decide)));replace ab:=Sd.mk (blk_grown (ko ab) hg (Kd.R_ne au.out ab.out (by decide)));replace aj:=Sd.mk (blk_grown (ko aj) hg (Kd.R_ne au.out aj.out (by decide)));replace cK:=Sd.mk (Kd.R_after (ok:=(fun _=>True)) (ro cK) hg hat);replace HB:=Sd.mk (hb);have e5:=Sd.mk (ho);clear au;clear ho hb hg hat))
   go_ret
   exact ⟨_,by first|rfl|(simp <;> rfl)|(simp only [← cI];first|rfl|(simp <;> rfl))|(simp [*] <;> rfl),by (with_reducible repeat (first|apply Kd.R_alloc|apply Kd.R_drewN|apply Kd.R_drew));exact Kd.R_mono e5.out (fun _ hk=>trivial),bl HB⟩
def slices_Index_rune_rune.l0:Nat→List Int→Int→Int→Int→Option (Int)
 | 0,_,_,_,_=>none
 | k+1,x0,x1,x7,x8=>if x8<x7 then (if 0≤x8 then (if x8<(x0.length:Int) then (if x1=(rd x0 x8) then (some x8) else (slices_Index_rune_rune.l0 k x0 x1 x7 (wrap64 (x8+1)))) else (none)) else (none)) else (some (-1))
def slices_Index_rune_rune.f (k:Nat)(l0:List Int)(a1:Int):Option (Int):=slices_Index_rune_rune.l0 k l0 a1 (l0.length:Int) 0
theorem slices_Index_rune_rune.mono_l:∀ k,(∀ y0 y1 y2 y3,LeO (slices_Index_rune_rune.l0 k y0 y1 y2 y3) (slices_Index_rune_rune.l0 (k+1) y0 y1 y2 y3))
 | 0=>fun _ _ _ _ r h=>by simp [slices_Index_rune_rune.l0] at h
 | k+1=>by
  have ih0:=slices_Index_rune_rune.mono_l k
  ·intro y0 y1 y2 y3
   unfold slices_Index_rune_rune.l0
   repeat' first|(with_reducible first|apply ih0|apply LeO.refl|apply LeO.none|refine LeO.ite ?_ ?_|refine LeO.bind ?_ (fun _=>?_))|apply ih0|apply LeO.none
theorem slices_Index_rune_rune.mono:∀ a0 a1 k,LeO (slices_Index_rune_rune.f k a0 a1) (slices_Index_rune_rune.f (k+1) a0 a1):=by
 intro a0 a1 k
 have ih0:=slices_Index_rune_rune.mono_l k
 unfold slices_Index_rune_rune.f
 repeat' first|(with_reducible first|apply ih0|apply LeO.refl|apply LeO.none|refine LeO.ite ?_ ?_|refine LeO.bind ?_ (fun _=>?_))|apply ih0|apply LeO.none
set_option maxHeartbeats 8000000 in
set_option maxRecDepth 100000 in
theorem slices_Index_rune_rune.calls (k:Nat)(A0:Option Addr)(c0:Nat)(l0:List Int)(a1:Int)(r:Int)(w:World)(hr0:Kd.C (Kd.int .i32) w A0 l0.length l0)(hc0:l0.length≤c0)(h:slices_Index_rune_rune.f k l0 a1=some r) :
  Calls Tryz.prog 77 #[.slice A0 l0.length c0,.int .i32 a1] w fun e w'=>e = .returned (.int .i64 r)∧Drawn0 w w':=by
 have HR0:=Sd.mk hr0
 have HC0:=Sd.mk hc0
 clear hr0 hc0
 have H:(slices_Index_rune_rune.l0 k l0 a1 (l0.length:Int) 0)=some r:=h
 clear h
 have H':=Sd.mk H
 clear H
 go_enter Tryz.func77,Tryz.ntmps77
 go_wp2
 go_loopg [8] k (fun kq v8 w'=>∃ (bi:Int),v8 = .int .i64 bi∧Sd (slices_Index_rune_rune.l0 kq l0 a1 (l0.length:Int) bi=some r)∧Sd (kq≤k)∧Drawn0 w w')
 case atStart=>exact ⟨(0),(by first|rfl|(simp;done)|(simp [*];done)),H',⟨Nat.le_refl _⟩,by repeat (first|exact Drawn0.refl _|apply Drawn0.step)⟩
 case round=>
  clear H'
  try clear p2
  obtain ⟨bi,rfl,HA,HK1,⟨m1,rfl⟩⟩:=hrel
  cases gk with
  | zero=>exact absurd HA.out (by simp [slices_Index_rune_rune.l0])
  | succ k1=>
   have H:=HA.out
   clear HA
   simp only [slices_Index_rune_rune.l0] at H
   by_cases c3:bi<(l0.length:Int)
   rotate_left
   ·rw [if_neg c3] at H
    have dm:=decide_eq_false c3
    clear c3
    obtain rfl:=Option.some.inj H
    go_wp2
    go_ret
    exact ⟨by first|rfl|(simp;done)|(simp [*];done),by repeat (first|exact Drawn0.refl _|apply Drawn0.step)⟩
   rw [if_pos c3] at H
   have dm:=decide_eq_true c3
   clear c3
   by_cases c4:0≤bi
   rotate_left
   ·rw [if_neg c4] at H
    exact absurd H (by simp)
   rw [if_pos c4] at H
   have dU:=decide_eq_true c4
   clear c4
   by_cases c5:bi<(l0.length:Int)
   rotate_left
   ·rw [if_neg c5] at H
    exact absurd H (by simp)
   rw [if_pos c5] at H
   have bP:=decide_eq_true c5
   clear c5
   by_cases c6:a1=(rd l0 bi)
   ·rw [if_pos c6] at H
    have bQ:(a1 == (rd l0 bi))=true:=beq_iff_eq.mpr c6
    have cL:(a1 != (rd l0 bi))=false:=bne_eq_false_iff_eq.mpr c6
    clear c6
    obtain rfl:=Option.some.inj H
    have cZ:0≤(bi:Int):=of_decide_eq_true (by first|(with_reducible assumption)|assumption)
    have da:bi<(l0.length:Int):=of_decide_eq_true (by first|(with_reducible assumption)|assumption)
    obtain ⟨e6,en,dV⟩:=Kd.at_int HR0.out bi cZ da
    cases en
    replace cZ:=eq_true cZ
    replace da:=eq_true da
    go_wp2
    go_ret
    exact ⟨by first|rfl|(simp;done)|(simp [*];done),by repeat (first|exact Drawn0.refl _|apply Drawn0.step)⟩
   rw [if_neg c6] at H
   have bQ:(a1 == (rd l0 bi))=false:=beq_eq_false_iff_ne.mpr c6
   have cL:(a1 != (rd l0 bi))=true:=bne_iff_ne.mpr c6
   have H':=Sd.mk H
   clear H
   have cZ:0≤(bi:Int):=of_decide_eq_true (by first|(with_reducible assumption)|assumption)
   have da:bi<(l0.length:Int):=of_decide_eq_true (by first|(with_reducible assumption)|assumption)
   obtain ⟨e6,en,dV⟩:=Kd.at_int HR0.out bi cZ da
   cases en
   replace cZ:=eq_true cZ
   replace da:=eq_true da
   go_wp2
   go_roundg k1
   case measure=>have:=HK1.out;omega
   case rel=>exact ⟨(wrap64 (bi+1)),(by first|rfl|(simp;done)|(simp [*];done)),H',⟨by have:=HK1.out;omega⟩,by repeat (first|exact Drawn0.refl _|apply Drawn0.step)⟩
def shape_cut.f (k:Nat)(l0:List Int)(a1:Int):Option (List Int×List Int×Bool):=(slices_Index_rune_rune.f k l0 a1).bind fun ap=>(if ap<0 then (some (l0,([]:List Int),false)) else (if 0≤ap then (if ap≤(l0.length:Int) then (if 0≤(wrap64 (ap+1)) then (if (wrap64 (ap+1))≤(l0.length:Int) then (some ((l0.take (ap:Int).toNat),(l0.drop ((wrap64 (ap+1)):Int).toNat),true)) else (none)) else (none)) else (none)) else (none)))
theorem shape_cut.mono:∀ a0 a1 k,LeO (shape_cut.f k a0 a1) (shape_cut.f (k+1) a0 a1):=by
 intro a0 a1 k
 unfold shape_cut.f
 repeat' first|(with_reducible first|apply slices_Index_rune_rune.mono|apply LeO.refl|apply LeO.none|refine LeO.ite ?_ ?_|refine LeO.bind ?_ (fun _=>?_))|apply slices_Index_rune_rune.mono|apply LeO.none
set_option maxHeartbeats 8000000 in
set_option maxRecDepth 100000 in
theorem shape_cut.calls (k:Nat)(P0_:Nat→Prop)(A0:Option Addr)(c0:Nat)(l0:List Int)(a1:Int)(r1:List Int)(r2:List Int)(r3:Bool)(w:World)(hs0:Kd.V (Kd.int .i32) 21 w w.heap.size (fun k_=>P0_ k_) (.slice A0 l0.length c0) l0)(h:shape_cut.f k l0 a1=some (r1,r2,r3)) :
  Calls Tryz.prog 55 #[.slice A0 l0.length c0,.int .i32 a1] w fun e w'=>∃ v0_ v1_:Value,e = .returned (.tuple #[v0_,v1_,.bool r3])∧Kd.V (Kd.int .i32) 21 w' w.heap.size (fun k_=>(P0_ k_∨w.heap.size≤k_)) v0_ r1∧Kd.V (Kd.int .i32) 21 w' w.heap.size (fun k_=>(P0_ k_∨w.heap.size≤k_)) v1_ r2∧Below w.heap.size w w':=by
 have HO0:=Sd.mk (show Kd.V (Kd.int .i32) 21 w w.heap.size (fun k_=>(P0_ k_∨w.heap.size≤k_)) (.slice A0 l0.length c0) l0 from Kd.V_mono hs0 (fun k_ hk=>.inl hk))
 have HB:=Sd.mk (Below.refl w.heap.size w)
 have H:((slices_Index_rune_rune.f k l0 a1).bind fun ap=>(if ap<0 then (some (l0,([]:List Int),false)) else (if 0≤ap then (if ap≤(l0.length:Int) then (if 0≤(wrap64 (ap+1)) then (if (wrap64 (ap+1))≤(l0.length:Int) then (some ((l0.take (ap:Int).toNat),(l0.drop ((wrap64 (ap+1)):Int).toNat),true)) else (none)) else (none)) else (none)) else (none))))=some (r1,r2,r3):=h
 clear h
 obtain ⟨ap,A3,H⟩:=bX H
 try dsimp only at H
 by_cases c4:ap<0
 ·rw [if_pos c4] at H
  have dU:=decide_eq_true c4
  clear c4
  simp only [Option.some.injEq,Prod.mk.injEq] at H
  obtain ⟨rfl,rfl,rfl⟩:=H
  go_enter Tryz.func55,Tryz.ntmps55
  go_wp2_with (first|(go_at_call 77;(with_reducible refine (slices_Index_rune_rune.calls k _ _ l0 a1 ap _ (vc HO0) (vl HO0) A3.out).mono ?_);rintro e w' ⟨rfl,⟨nd,rfl⟩⟩;(try first|exact ⟨rfl,_,World.drewN_drewN _ _ _⟩|exact ⟨rfl,_,Eq.trans (World.drewN_drewN _ _ _) (congrArg (World.drewN _) (Nat.add_assoc _ _ _))⟩)))
  repeat (go_quiet (first|(go_at_call 77;(with_reducible refine (slices_Index_rune_rune.calls k _ _ l0 a1 ap _ (vc HO0) (vl HO0) A3.out).mono ?_);rintro e w' ⟨rfl,⟨nd,rfl⟩⟩;(try first|exact ⟨rfl,_,World.drewN_drewN _ _ _⟩|exact ⟨rfl,_,Eq.trans (World.drewN_drewN _ _ _) (congrArg (World.drewN _) (Nat.add_assoc _ _ _))⟩)));try go_wp2_with (first|(go_at_call 77;(with_reducible refine (slices_Index_rune_rune.calls k _ _ l0 a1 ap _ (vc HO0) (vl HO0) A3.out).mono ?_);rintro e w' ⟨rfl,⟨nd,rfl⟩⟩;(try first|exact ⟨rfl,_,World.drewN_drewN _ _ _⟩|exact ⟨rfl,_,Eq.trans (World.drewN_drewN _ _ _) (congrArg (World.drewN _) (Nat.add_assoc _ _ _))⟩))))
  go_ret3
  exact ⟨_,_,by first|rfl|(simp <;> rfl)|(simp [*] <;> rfl),by (with_reducible repeat (first|apply Kd.V_alloc|apply Kd.V_drewN|apply Kd.V_drew));exact HO0.out,(by first|exact Kd.V_nil _ _ _ _ _|exact (Kd.V_mono (Kd.R_V (by first|exact Kd.R_nil _ _ _ _ _|exact Kd.R_nil _ _ _ 0 _|exact Kd.N_nil _ _ _ _ _|exact Kd.V_nil _ _ _ _ _|exact Kd.Q_nil _ _ _ _ _|exact Kd.S_nil _ _ _ _ _)) (fun k_ hk=>by first|exact ⟨(.inr (hk.1)),hk.2⟩|exact (.inr (hk))))),bl HB⟩
 rw [if_neg c4] at H
 have dU:=decide_eq_false c4
 clear c4
 by_cases c5:0≤ap
 rotate_left
 ·rw [if_neg c5] at H
  exact absurd H (by simp)
 rw [if_pos c5] at H
 have bP:=eq_true c5
 have ct:=decide_eq_true c5
 clear c5
 by_cases c6:ap≤(l0.length:Int)
 rotate_left
 ·rw [if_neg c6] at H
  exact absurd H (by simp)
 rw [if_pos c6] at H
 have bQ:=eq_true c6
 have cL:=decide_eq_true c6
 clear c6
 obtain ⟨bG,cM⟩:∃ y_:List Int,y_=(l0.take (ap:Int).toNat):=⟨_,rfl⟩
 replace H:(if 0≤(wrap64 (ap+1)) then (if (wrap64 (ap+1))≤(l0.length:Int) then (some (bG,(l0.drop ((wrap64 (ap+1)):Int).toNat),true)) else (none)) else (none))=some (r1,r2,r3):=by first|(rw [cM];with_reducible exact H)|(have H2_:=(Option.bind_some _ _).symm.trans H;rw [cM];with_reducible exact H2_)|(have H2_:=(Option.bind_some _ _).symm.trans H;with_reducible exact H2_)|with_reducible exact H|(rw [cM];exact H)|exact H
 have ci:=Sd.mk cM
 clear cM
 obtain ⟨ji7,dC⟩:∃ j_:Int,(wrap64 (ap+1))=j_:=⟨_,rfl⟩
 replace H:(if 0≤(ji7) then (if (ji7)≤(l0.length:Int) then (some (bG,(l0.drop ((ji7):Int).toNat),true)) else (none)) else (none))=some (r1,r2,r3):=by first|(rw [dC] at H;exact H)|(simp only [dC] at H ⊢;exact H)
 (try rw [dC] at A3)
 have hv:(IntKind.i64.wrap (ap+1))=ji7:=(i64_w _).trans dC
 by_cases c8:0≤(ji7)
 rotate_left
 ·rw [if_neg c8] at H
  exact absurd H (by simp)
 rw [if_pos c8] at H
 have eo:=eq_true c8
 have e7:=decide_eq_true c8
 clear c8
 by_cases c9:(ji7)≤(l0.length:Int)
 rotate_left
 ·rw [if_neg c9] at H
  exact absurd H (by simp)
 rw [if_pos c9] at H
 have hZ:=eq_true c9
 have h0:=decide_eq_true c9
 clear c9
 obtain ⟨aE,cN⟩:∃ y_:List Int,y_=(l0.drop ((ji7):Int).toNat):=⟨_,rfl⟩
 replace H:(some (bG,aE,true))=some (r1,r2,r3):=by first|(rw [cN];with_reducible exact H)|(have H2_:=(Option.bind_some _ _).symm.trans H;rw [cN];with_reducible exact H2_)|(have H2_:=(Option.bind_some _ _).symm.trans H;with_reducible exact H2_)|with_reducible exact H|(rw [cN];exact H)|exact H
 have cj:=Sd.mk cN
 clear cN
 simp only [Option.some.injEq,Prod.mk.injEq] at H
 obtain ⟨rfl,rfl,rfl⟩:=H
 go_enter Tryz.func55,Tryz.ntmps55
 go_wp2_with (first|(go_at_call 77;(with_reducible refine (slices_Index_rune_rune.calls k _ _ l0 a1 ap _ (vc HO0) (vl HO0) A3.out).mono ?_);rintro e w' ⟨rfl,⟨nd,rfl⟩⟩;(try first|exact ⟨rfl,_,World.drewN_drewN _ _ _⟩|exact ⟨rfl,_,Eq.trans (World.drewN_drewN _ _ _) (congrArg (World.drewN _) (Nat.add_assoc _ _ _))⟩);have q10:(ap:Int)≤((l0.length:Int):Int):=of_decide_eq_true (by first|(with_reducible assumption)|assumption);obtain ⟨i010,hi010,_,hsz10,_⟩:=info_parts info21;have hroom10:l0.length≤c0:=(Kd.V_reads' HO0.out).2.1;have hC10:Kd.F (Kd.int .i32) _ _ A0 l0.length l0:=(Kd.V_at (base:=w.heap.size) HO0.out).2.2;have hcut10:=cut_to (P:=Tryz.prog) 46 21 .i64 Tryz.underlying46 hi010 A0 l0.length c0 ap (of_decide_eq_true (by first|(with_reducible assumption)|assumption)) q10 hroom10;have ca:=Kd.F_take (m:=(ap:Int).toNat) hC10 (by omega);have cc:bG.length=(ap:Int).toNat:=(by rw [ci.out,List.length_take];omega);rw [← ci.out] at ca;rw [← cc] at hcut10;have dD:=Sd.mk (show Kd.V (Kd.int .i32) 21 _ w.heap.size _ (.slice A0 bG.length c0) bG from Kd.V_mk (by omega) ca);have eb:=Sd.mk (show bG.length≤c0 from by omega);clear ca hC10 hroom10 hi010 hsz10;have KY10:=Sd.mk cc;clear cc;replace q10:=eq_true q10;have q11:((ji7):Int)≤((l0.length:Int):Int):=of_decide_eq_true (by first|(with_reducible assumption)|assumption);obtain ⟨i011,hi011,_,hsz11,_⟩:=info_parts info21;have hroom11:l0.length≤c0:=(Kd.V_reads' HO0.out).2.1;have hC11:Kd.F (Kd.int .i32) _ _ A0 l0.length l0:=(Kd.V_at (base:=w.heap.size) HO0.out).2.2;have dE:(0:Int)≤((ji7):Int):=of_decide_eq_true (by first|(with_reducible assumption)|assumption);have hcut11:=cut_from (P:=Tryz.prog) 46 21 .i64 Tryz.underlying46 hi011 1 hsz11 A0 l0.length c0 (ji7) dE q11;have bo:=Kd.F_cut (m:=((ji7):Int).toNat) (c:=c0) hC11 (by omega) hroom11;obtain ⟨A11,hA11⟩:∃ Az_,Az_=(if c0=((ji7):Int).toNat then A0 else (A0:Option Addr).map (·.add (((ji7):Int).toNat * 1))):=⟨_,rfl⟩;obtain ⟨c11,bJ⟩:∃ cz_,cz_=c0 - ((ji7):Int).toNat:=⟨_,rfl⟩;have bp:aE.length=l0.length - ((ji7):Int).toNat:=(by rw [cj.out,List.length_drop] <;> omega);rw [show (l0).drop ((ji7):Int).toNat=aE from cj.out.symm] at bo;replace bo:Kd.F (Kd.int .i32) _ _ A11 aE.length aE:=(by rw [hA11];exact bo);rw [← bp,← hA11,← bJ] at hcut11;have dF:=Sd.mk (show Kd.V (Kd.int .i32) 21 _ w.heap.size _ (.slice A11 aE.length c11) aE from Kd.V_mk (by rw [bp,bJ];exact Nat.sub_le_sub_right hroom11 _) bo);have ec:=Sd.mk (show aE.length≤c11 from by rw [bp,bJ];exact Nat.sub_le_sub_right hroom11 _);clear bo hC11 hroom11 hi011 hsz11 bJ;have KY11:=Sd.mk bp;have KA11:=Sd.mk hA11;clear bp hA11;replace q11:=eq_true q11))
 repeat (go_quiet (first|(go_at_call 77;(with_reducible refine (slices_Index_rune_rune.calls k _ _ l0 a1 ap _ (vc HO0) (vl HO0) A3.out).mono ?_);rintro e w' ⟨rfl,⟨nd,rfl⟩⟩;(try first|exact ⟨rfl,_,World.drewN_drewN _ _ _⟩|exact ⟨rfl,_,Eq.trans (World.drewN_drewN _ _ _) (congrArg (World.drewN _) (Nat.add_assoc _ _ _))⟩);have q10:(ap:Int)≤((l0.length:Int):Int):=of_decide_eq_true (by first|(with_reducible assumption)|assumption);obtain ⟨i010,hi010,_,hsz10,_⟩:=info_parts info21;have hroom10:l0.length≤c0:=(Kd.V_reads' HO0.out).2.1;have hC10:Kd.F (Kd.int .i32) _ _ A0 l0.length l0:=(Kd.V_at (base:=w.heap.size) HO0.out).2.2;have hcut10:=cut_to (P:=Tryz.prog) 46 21 .i64 Tryz.underlying46 hi010 A0 l0.length c0 ap (of_decide_eq_true (by first|(with_reducible assumption)|assumption)) q10 hroom10;have ca:=Kd.F_take (m:=(ap:Int).toNat) hC10 (by omega);have cc:bG.length=(ap:Int).toNat:=(by rw [ci.out,List.length_take];omega);rw [← ci.out] at ca;rw [← cc] at hcut10;have dD:=Sd.mk (show Kd.V (Kd.int .i32) 21 _ w.heap.size _ (.slice A0 bG.length c0) bG from Kd.V_mk (by omega) ca);have eb:=Sd.mk (show bG.length≤c0 from by omega);clear ca hC10 hroom10 hi010 hsz10;have KY10:=Sd.mk cc;clear cc;replace q10:=eq_true q10;have q11:((ji7):Int)≤((l0.length:Int):Int):=of_decide_eq_true (by first|(with_reducible assumption)|assumption);obtain ⟨i011,hi011,_,hsz11,_⟩:=info_parts info21;have hroom11:l0.length≤c0:=(Kd.V_reads' HO0.out).2.1;have hC11:Kd.F (Kd.int .i32) _ _ A0 l0.length l0:=(Kd.V_at (base:=w.heap.size) HO0.out).2.2;have dE:(0:Int)≤((ji7):Int):=of_decide_eq_true (by first|(with_reducible assumption)|assumption);have hcut11:=cut_from (P:=Tryz.prog) 46 21 .i64 Tryz.underlying46 hi011 1 hsz11 A0 l0.length c0 (ji7) dE q11;have bo:=Kd.F_cut (m:=((ji7):Int).toNat) (c:=c0) hC11 (by omega) hroom11;obtain ⟨A11,hA11⟩:∃ Az_,Az_=(if c0=((ji7):Int).toNat then A0 else (A0:Option Addr).map (·.add (((ji7):Int).toNat * 1))):=⟨_,rfl⟩;obtain ⟨c11,bJ⟩:∃ cz_,cz_=c0 - ((ji7):Int).toNat:=⟨_,rfl⟩;have bp:aE.length=l0.length - ((ji7):Int).toNat:=(by rw [cj.out,List.length_drop] <;> omega);rw [show (l0).drop ((ji7):Int).toNat=aE from cj.out.symm] at bo;replace bo:Kd.F (Kd.int .i32) _ _ A11 aE.length aE:=(by rw [hA11];exact bo);rw [← bp,← hA11,← bJ] at hcut11;have dF:=Sd.mk (show Kd.V (Kd.int .i32) 21 _ w.heap.size _ (.slice A11 aE.length c11) aE from Kd.V_mk (by rw [bp,bJ];exact Nat.sub_le_sub_right hroom11 _) bo);have ec:=Sd.mk (show aE.length≤c11 from by rw [bp,bJ];exact Nat.sub_le_sub_right hroom11 _);clear bo hC11 hroom11 hi011 hsz11 bJ;have KY11:=Sd.mk bp;have KA11:=Sd.mk hA11;clear bp hA11;replace q11:=eq_true q11));try go_wp2_with (first|(go_at_call 77;(with_reducible refine (slices_Index_rune_rune.calls k _ _ l0 a1 ap _ (vc HO0) (vl HO0) A3.out).mono ?_);rintro e w' ⟨rfl,⟨nd,rfl⟩⟩;(try first|exact ⟨rfl,_,World.drewN_drewN _ _ _⟩|exact ⟨rfl,_,Eq.trans (World.drewN_drewN _ _ _) (congrArg (World.drewN _) (Nat.add_assoc _ _ _))⟩);have q10:(ap:Int)≤((l0.length:Int):Int):=of_decide_eq_true (by first|(with_reducible assumption)|assumption);obtain ⟨i010,hi010,_,hsz10,_⟩:=info_parts info21;have hroom10:l0.length≤c0:=(Kd.V_reads' HO0.out).2.1;have hC10:Kd.F (Kd.int .i32) _ _ A0 l0.length l0:=(Kd.V_at (base:=w.heap.size) HO0.out).2.2;have hcut10:=cut_to (P:=Tryz.prog) 46 21 .i64 Tryz.underlying46 hi010 A0 l0.length c0 ap (of_decide_eq_true (by first|(with_reducible assumption)|assumption)) q10 hroom10;have ca:=Kd.F_take (m:=(ap:Int).toNat) hC10 (by omega);have cc:bG.length=(ap:Int).toNat:=(by rw [ci.out,List.length_take];omega);rw [← ci.out] at ca;rw [← cc] at hcut10;have dD:=Sd.mk (show Kd.V (Kd.int .i32) 21 _ w.heap.size _ (.slice A0 bG.length c0) bG from Kd.V_mk (by omega) ca);have eb:=Sd.mk (show bG.length≤c0 from by omega);clear ca hC10 hroom10 hi010 hsz10;have KY10:=Sd.mk cc;clear cc;replace q10:=eq_true q10;have q11:((ji7):Int)≤((l0.length:Int):Int):=of_decide_eq_true (by first|(with_reducible assumption)|assumption);obtain ⟨i011,hi011,_,hsz11,_⟩:=info_parts info21;have hroom11:l0.length≤c0:=(Kd.V_reads' HO0.out).2.1;have hC11:Kd.F (Kd.int .i32) _ _ A0 l0.length l0:=(Kd.V_at (base:=w.heap.size) HO0.out).2.2;have dE:(0:Int)≤((ji7):Int):=of_decide_eq_true (by first|(with_reducible assumption)|assumption);have hcut11:=cut_from (P:=Tryz.prog) 46 21 .i64 Tryz.underlying46 hi011 1 hsz11 A0 l0.length c0 (ji7) dE q11;have bo:=Kd.F_cut (m:=((ji7):Int).toNat) (c:=c0) hC11 (by omega) hroom11;obtain ⟨A11,hA11⟩:∃ Az_,Az_=(if c0=((ji7):Int).toNat then A0 else (A0:Option Addr).map (·.add (((ji7):Int).toNat * 1))):=⟨_,rfl⟩;obtain ⟨c11,bJ⟩:∃ cz_,cz_=c0 - ((ji7):Int).toNat:=⟨_,rfl⟩;have bp:aE.length=l0.length - ((ji7):Int).toNat:=(by rw [cj.out,List.length_drop] <;> omega);rw [show (l0).drop ((ji7):Int).toNat=aE from cj.out.symm] at bo;replace bo:Kd.F (Kd.int .i32) _ _ A11 aE.length aE:=(by rw [hA11];exact bo);rw [← bp,← hA11,← bJ] at hcut11;have dF:=Sd.mk (show Kd.V (Kd.int .i32) 21 _ w.heap.size _ (.slice A11 aE.length c11) aE from Kd.V_mk (by rw [bp,bJ];exact Nat.sub_le_sub_right hroom11 _) bo);have ec:=Sd.mk (show aE.length≤c11 from by rw [bp,bJ];exact Nat.sub_le_sub_right hroom11 _);clear bo hC11 hroom11 hi011 hsz11 bJ;have KY11:=Sd.mk bp;have KA11:=Sd.mk hA11;clear bp hA11;replace q11:=eq_true q11)))
 go_ret3
 exact ⟨_,_,by first|rfl|(simp <;> rfl)|(simp only [← dC];first|rfl|(simp <;> rfl))|(simp [*] <;> rfl),by (with_reducible repeat (first|apply Kd.V_alloc|apply Kd.V_drewN|apply Kd.V_drew));exact dD.out,by (with_reducible repeat (first|apply Kd.V_alloc|apply Kd.V_drewN|apply Kd.V_drew));exact dF.out,bl HB⟩
def sym_Value.f (ac:Int)(af:Int)(ag:Int)(ad:Int)(ah:Int)(ai:Int)(ae:Int)(a1:Int):Option (Int×Bool):=if a1<ac then (some (0,false)) else (if a1≥(wrap32 (ac+10)) then (some (0,false)) else (some ((wrap32 (a1 - ac)) % 256,true)))
set_option maxHeartbeats 8000000 in
set_option maxRecDepth 100000 in
theorem sym_Value.calls (ac:Int)(af:Int)(ag:Int)(ad:Int)(ah:Int)(ai:Int)(ae:Int)(a1:Int)(r1:Int)(r2:Bool)(w:World)(h:sym_Value.f ac af ag ad ah ai ae a1=some (r1,r2)) :
  Calls Tryz.prog 78 #[.agg #[.int .i32 ac,.int .i32 af,.int .i32 ag,.int .i32 ad,.int .i32 ah,.int .i32 ai,.int .i32 ae],.int .i32 a1] w fun e w'=>e = .returned (.tuple #[.int .u8 r1,.bool r2])∧Below w.heap.size w w':=by
 have hu23:=Tryz.underlying23
 have HB:=Sd.mk (Below.refl w.heap.size w)
 have H:(if a1<ac then (some (0,false)) else (if a1≥(wrap32 (ac+10)) then (some (0,false)) else (some ((wrap32 (a1 - ac)) % 256,true))))=some (r1,r2):=h
 clear h
 by_cases c3:a1<ac
 ·rw [if_pos c3] at H
  have dm:=decide_eq_true c3
  clear c3
  simp only [Option.some.injEq,Prod.mk.injEq] at H
  obtain ⟨rfl,rfl⟩:=H
  go_enter Tryz.func78,Tryz.ntmps78
  go_wp2_with (first|((with_reducible refine gate_dst (N:=2) rfl ?_);refine box_event ?hg (N:=2) ?hd (cs:=#[.int .i32 ac,.int .i32 af,.int .i32 ag,.int .i32 ad,.int .i32 ah,.int .i32 ai,.int .i32 ae]) (t:=23) ?hr ?_;(case hd=>rfl);(case hg=>rfl);(case hr=>first|(go_simp;done)|(go_simp;rfl));intro ed hg w4 hbox hb;have bV:=Sd.mk (hbox);have ee:=bg HB hg;replace HB:=bs HB hb;clear hb hbox hg;have h2:=blkc7 bV.out;have h3:=blkf7 bV.out))
  go_ret2
  exact ⟨by first|rfl|(simp <;> rfl)|(simp [*] <;> rfl),bl HB⟩
 rw [if_neg c3] at H
 have dm:=decide_eq_false c3
 clear c3
 by_cases c6:a1≥(wrap32 (ac+10))
 ·rw [if_pos c6] at H
  have bQ:decide ((wrap32 (ac+10))≤a1)=true:=decide_eq_true c6
  clear c6
  simp only [Option.some.injEq,Prod.mk.injEq] at H
  obtain ⟨rfl,rfl⟩:=H
  go_enter Tryz.func78,Tryz.ntmps78
  go_wp2_with (first|((with_reducible refine gate_dst (N:=2) rfl ?_);refine box_event ?hg (N:=2) ?hd (cs:=#[.int .i32 ac,.int .i32 af,.int .i32 ag,.int .i32 ad,.int .i32 ah,.int .i32 ai,.int .i32 ae]) (t:=23) ?hr ?_;(case hd=>rfl);(case hg=>rfl);(case hr=>first|(go_simp;done)|(go_simp;rfl));intro ed hg w7 hbox hb;have bV:=Sd.mk (hbox);have ee:=bg HB hg;replace HB:=bs HB hb;clear hb hbox hg;have h4:=blkc7 bV.out;have h5:=blkf7 bV.out))
  go_ret2
  exact ⟨by first|rfl|(simp <;> rfl)|(simp [*] <;> rfl),bl HB⟩
 rw [if_neg c6] at H
 have bQ:decide ((wrap32 (ac+10))≤a1)=false:=decide_eq_false c6
 clear c6
 simp only [Option.some.injEq,Prod.mk.injEq] at H
 obtain ⟨rfl,rfl⟩:=H
 go_enter Tryz.func78,Tryz.ntmps78
 go_wp2_with (first|((with_reducible refine gate_dst (N:=2) rfl ?_);refine box_event ?hg (N:=2) ?hd (cs:=#[.int .i32 ac,.int .i32 af,.int .i32 ag,.int .i32 ad,.int .i32 ah,.int .i32 ai,.int .i32 ae]) (t:=23) ?hr ?_;(case hd=>rfl);(case hg=>rfl);(case hr=>first|(go_simp;done)|(go_simp;rfl));intro ed hg w9 hbox hb;have bV:=Sd.mk (hbox);have ee:=bg HB hg;replace HB:=bs HB hb;clear hb hbox hg;have hw:=blkc7 bV.out;have hx:=blkf7 bV.out))
 go_ret2
 exact ⟨by first|rfl|(simp <;> rfl)|(simp [*] <;> rfl),bl HB⟩
def slices_Equal_rune_rune.l0:Nat→List Int→List Int→Int→Int→Option (Bool)
 | 0,_,_,_,_=>none
 | k+1,x0,x1,x12,x13=>if x13<x12 then (if 0≤x13 then (if x13<(x0.length:Int) then (if x13<(x1.length:Int) then (if (rd x0 x13)=(rd x1 x13) then (slices_Equal_rune_rune.l0 k x0 x1 x12 (wrap64 (x13+1))) else (some false)) else (none)) else (none)) else (none)) else (some true)
def slices_Equal_rune_rune.f (k:Nat)(l0:List Int)(l1:List Int):Option (Bool):=if (l0.length:Int)=(l1.length:Int) then (slices_Equal_rune_rune.l0 k l0 l1 (l0.length:Int) 0) else (some false)
theorem slices_Equal_rune_rune.mono_l:∀ k,(∀ y0 y1 y2 y3,LeO (slices_Equal_rune_rune.l0 k y0 y1 y2 y3) (slices_Equal_rune_rune.l0 (k+1) y0 y1 y2 y3))
 | 0=>fun _ _ _ _ r h=>by simp [slices_Equal_rune_rune.l0] at h
 | k+1=>by
  have ih0:=slices_Equal_rune_rune.mono_l k
  ·intro y0 y1 y2 y3
   unfold slices_Equal_rune_rune.l0
   repeat' first|(with_reducible first|apply ih0|apply LeO.refl|apply LeO.none|refine LeO.ite ?_ ?_|refine LeO.bind ?_ (fun _=>?_))|apply ih0|apply LeO.none
theorem slices_Equal_rune_rune.mono:∀ a0 a1 k,LeO (slices_Equal_rune_rune.f k a0 a1) (slices_Equal_rune_rune.f (k+1) a0 a1):=by
 intro a0 a1 k
 have ih0:=slices_Equal_rune_rune.mono_l k
 unfold slices_Equal_rune_rune.f
 repeat' first|(with_reducible first|apply ih0|apply LeO.refl|apply LeO.none|refine LeO.ite ?_ ?_|refine LeO.bind ?_ (fun _=>?_))|apply ih0|apply LeO.none
set_option maxHeartbeats 8000000 in
set_option maxRecDepth 100000 in
theorem slices_Equal_rune_rune.calls (k:Nat)(A0:Option Addr)(c0:Nat)(l0:List Int)(A1:Option Addr)(c1:Nat)(l1:List Int)(r:Bool)(w:World)(hr0:Kd.C (Kd.int .i32) w A0 l0.length l0)(hc0:l0.length≤c0)(hr1:Kd.C (Kd.int .i32) w A1 l1.length l1)(hc1:l1.length≤c1)(h:slices_Equal_rune_rune.f k l0 l1=some r) :
  Calls Tryz.prog 79 #[.slice A0 l0.length c0,.slice A1 l1.length c1] w fun e w'=>e = .returned (.bool r)∧Drawn0 w w':=by
 have HR0:=Sd.mk hr0
 have HC0:=Sd.mk hc0
 clear hr0 hc0
 have HR1:=Sd.mk hr1
 have HC1:=Sd.mk hc1
 clear hr1 hc1
 have H:(if (l0.length:Int)=(l1.length:Int) then (slices_Equal_rune_rune.l0 k l0 l1 (l0.length:Int) 0) else (some false))=some r:=h
 clear h
 by_cases c3:(l0.length:Int)=(l1.length:Int)
 rotate_left
 ·rw [if_neg c3] at H
  have dm:((l0.length:Int) == (l1.length:Int))=false:=beq_eq_false_iff_ne.mpr c3
  have e8:((l0.length:Int) != (l1.length:Int))=true:=bne_iff_ne.mpr c3
  have e9:(l0.length == l1.length)=false:=by first|simpa using c3|(simp at c3 ⊢;omega)
  obtain rfl:=Option.some.inj H
  go_enter Tryz.func79,Tryz.ntmps79
  go_wp2
  repeat (go_quiet (fail);try go_wp2)
  go_ret
  exact ⟨by first|rfl|(simp;done)|(simp [*];done),by repeat (first|exact Drawn0.refl _|apply Drawn0.step)⟩
 rw [if_pos c3] at H
 have dm:((l0.length:Int) == (l1.length:Int))=true:=beq_iff_eq.mpr c3
 have e8:((l0.length:Int) != (l1.length:Int))=false:=bne_eq_false_iff_eq.mpr c3
 have e9:(l0.length == l1.length)=true:=by first|simpa using c3|(simp at c3 ⊢;omega)
 clear c3
 have H':=Sd.mk H
 clear H
 go_enter Tryz.func79,Tryz.ntmps79
 go_wp2
 repeat (go_quiet (fail);try go_wp2)
 go_loopg [13] k (fun kq v13 w'=>∃ (an:Int),v13 = .int .i64 an∧Sd (slices_Equal_rune_rune.l0 kq l0 l1 (l0.length:Int) an=some r)∧Sd (kq≤k)∧Drawn0 w w')
 case atStart=>exact ⟨(0),(by first|rfl|(simp;done)|(simp [*];done)),H',⟨Nat.le_refl _⟩,by repeat (first|exact Drawn0.refl _|apply Drawn0.step)⟩
 case round=>
  clear H'
  try clear c1
  try clear p2
  try clear c3
  try clear dm
  try clear e8
  try clear e9
  obtain ⟨an,rfl,HA,HK1,⟨m1,rfl⟩⟩:=hrel
  cases gk with
  | zero=>exact absurd HA.out (by simp [slices_Equal_rune_rune.l0])
  | succ k1=>
   have H:=HA.out
   clear HA
   simp only [slices_Equal_rune_rune.l0] at H
   by_cases c4:an<(l0.length:Int)
   rotate_left
   ·rw [if_neg c4] at H
    have dU:=decide_eq_false c4
    clear c4
    obtain rfl:=Option.some.inj H
    go_wp2
    repeat (go_quiet (fail);try go_wp2)
    go_ret
    exact ⟨by first|rfl|(simp;done)|(simp [*];done),by repeat (first|exact Drawn0.refl _|apply Drawn0.step)⟩
   rw [if_pos c4] at H
   have dU:=decide_eq_true c4
   clear c4
   by_cases c5:0≤an
   rotate_left
   ·rw [if_neg c5] at H
    exact absurd H (by simp)
   rw [if_pos c5] at H
   have bP:=decide_eq_true c5
   clear c5
   by_cases c6:an<(l0.length:Int)
   rotate_left
   ·rw [if_neg c6] at H
    exact absurd H (by simp)
   rw [if_pos c6] at H
   have bQ:=decide_eq_true c6
   clear c6
   by_cases c7:an<(l1.length:Int)
   rotate_left
   ·rw [if_neg c7] at H
    exact absurd H (by simp)
   rw [if_pos c7] at H
   have fY:=decide_eq_true c7
   clear c7
   by_cases c8:(rd l0 an)=(rd l1 an)
   ·rw [if_pos c8] at H
    have eo:((rd l0 an) == (rd l1 an))=true:=beq_iff_eq.mpr c8
    have e7:((rd l0 an) != (rd l1 an))=false:=bne_eq_false_iff_eq.mpr c8
    clear c8
    have H':=Sd.mk H
    clear H
    have db:0≤(an:Int):=of_decide_eq_true (by first|(with_reducible assumption)|assumption)
    have dc:an<(l0.length:Int):=of_decide_eq_true (by first|(with_reducible assumption)|assumption)
    obtain ⟨fa,ep,dW⟩:=Kd.at_int HR0.out an db dc
    cases ep
    replace db:=eq_true db
    replace dc:=eq_true dc
    have dd:0≤(an:Int):=of_decide_eq_true (by first|(with_reducible assumption)|assumption)
    have de:an<(l1.length:Int):=of_decide_eq_true (by first|(with_reducible assumption)|assumption)
    obtain ⟨fb,eq,dX⟩:=Kd.at_int HR1.out an dd de
    cases eq
    replace dd:=eq_true dd
    replace de:=eq_true de
    go_wp2
    repeat (go_quiet (fail);try go_wp2)
    go_roundg k1
    case measure=>have:=HK1.out;omega
    case rel=>exact ⟨(wrap64 (an+1)),(by first|rfl|(simp;done)|(simp [*];done)),H',⟨by have:=HK1.out;omega⟩,by repeat (first|exact Drawn0.refl _|apply Drawn0.step)⟩
   rw [if_neg c8] at H
   have eo:((rd l0 an) == (rd l1 an))=false:=beq_eq_false_iff_ne.mpr c8
   have e7:((rd l0 an) != (rd l1 an))=true:=bne_iff_ne.mpr c8
   obtain rfl:=Option.some.inj H
   have db:0≤(an:Int):=of_decide_eq_true (by first|(with_reducible assumption)|assumption)
   have dc:an<(l0.length:Int):=of_decide_eq_true (by first|(with_reducible assumption)|assumption)
   obtain ⟨fa,ep,dW⟩:=Kd.at_int HR0.out an db dc
   cases ep
   replace db:=eq_true db
   replace dc:=eq_true dc
   have dd:0≤(an:Int):=of_decide_eq_true (by first|(with_reducible assumption)|assumption)
   have de:an<(l1.length:Int):=of_decide_eq_true (by first|(with_reducible assumption)|assumption)
   obtain ⟨fb,eq,dX⟩:=Kd.at_int HR1.out an dd de
   cases eq
   replace dd:=eq_true dd
   replace de:=eq_true de
   go_wp2
   repeat (go_quiet (fail);try go_wp2)
   go_ret
   exact ⟨by first|rfl|(simp;done)|(simp [*];done),by repeat (first|exact Drawn0.refl _|apply Drawn0.step)⟩
def sym_Ungrouped.l0:Nat→List Int→Int→Int→List Int→List Int→Int→Int→Int→Int→Int→Int→Int→Int→Int→Option (List Int×Int×Int)
 | 0,_,_,_,_,_,_,_,_,_,_,_,_,_,_=>none
 | k+1,x1,x2,x3,x11,x16,x17,x18,b3,b4,bK,b5,b6,b7,b8=>if x18<x17 then (if 0≤x18 then (if x18<(x16.length:Int) then ((sym_Value.f b3 b4 bK b5 b6 b7 b8 (rd x16 x18)).bind fun ef=>(if ef.2=true then (if x11.length<140737488355328 then (sym_Ungrouped.l0 k x1 x2 x3 (x11 ++ [ef.1]) x16 x17 (wrap64 (x18+1)) b3 b4 bK b5 b6 b7 b8) else (none)) else (if (rd x16 x18)=bK then (sym_Ungrouped.l0 k x1 x2 x3 x11 x16 x17 (wrap64 (x18+1)) b3 b4 bK b5 b6 b7 b8) else (some (([]:List Int),x18,10))))) else (none)) else (none)) else ((sym_Grouped.f k b3 b4 bK b5 b6 b7 b8 x11 x2 x3).bind fun cO=>((slices_Equal_rune_rune.f k cO x1).bind fun er=>(if er=true then (some (x11,0,0)) else (some (([]:List Int),(x1.length:Int),10)))))
def sym_Ungrouped.f (k:Nat)(ac:Int)(af:Int)(ag:Int)(ad:Int)(ah:Int)(ai:Int)(ae:Int)(l1:List Int)(a2:Int)(a3:Int):Option (List Int×Int×Int):=sym_Ungrouped.l0 k l1 a2 a3 ([]:List Int) l1 (l1.length:Int) 0 ac af ag ad ah ai ae
theorem sym_Ungrouped.mono_l:∀ k,(∀ y0 y1 y2 y3 y4 y5 y6 y7 y8 y9 y10 y11 y12 y13,LeO (sym_Ungrouped.l0 k y0 y1 y2 y3 y4 y5 y6 y7 y8 y9 y10 y11 y12 y13) (sym_Ungrouped.l0 (k+1) y0 y1 y2 y3 y4 y5 y6 y7 y8 y9 y10 y11 y12 y13))
 | 0=>fun _ _ _ _ _ _ _ _ _ _ _ _ _ _ r h=>by simp [sym_Ungrouped.l0] at h
 | k+1=>by
  have ih0:=sym_Ungrouped.mono_l k
  ·intro y0 y1 y2 y3 y4 y5 y6 y7 y8 y9 y10 y11 y12 y13
   unfold sym_Ungrouped.l0
   repeat' first|(with_reducible first|apply ih0|apply slices_Equal_rune_rune.mono|apply sym_Grouped.mono|apply LeO.refl|apply LeO.none|refine LeO.ite ?_ ?_|refine LeO.bind ?_ (fun _=>?_))|apply ih0|apply slices_Equal_rune_rune.mono|apply sym_Grouped.mono|apply LeO.none
theorem sym_Ungrouped.mono:∀ a0 a1 a2 a3 a4 a5 a6 a7 a8 a9 k,LeO (sym_Ungrouped.f k a0 a1 a2 a3 a4 a5 a6 a7 a8 a9) (sym_Ungrouped.f (k+1) a0 a1 a2 a3 a4 a5 a6 a7 a8 a9):=by
 intro a0 a1 a2 a3 a4 a5 a6 a7 a8 a9 k
 have ih0:=sym_Ungrouped.mono_l k
 unfold sym_Ungrouped.f
 repeat' first|(with_reducible first|apply ih0|apply slices_Equal_rune_rune.mono|apply sym_Grouped.mono|apply LeO.refl|apply LeO.none|refine LeO.ite ?_ ?_|refine LeO.bind ?_ (fun _=>?_))|apply ih0|apply slices_Equal_rune_rune.mono|apply sym_Grouped.mono|apply LeO.none
set_option maxHeartbeats 8000000 in
set_option maxRecDepth 100000 in
theorem sym_Ungrouped.calls (k:Nat)(ac:Int)(af:Int)(ag:Int)(ad:Int)(ah:Int)(ai:Int)(ae:Int)(A1:Option Addr)(c1:Nat)(l1:List Int)(a2:Int)(a3:Int)(r1:List Int)(r2:Int)(r3:Int)(w:World)(hr1:Kd.C (Kd.int .i32) w A1 l1.length l1)(hc1:l1.length≤c1)(h:sym_Ungrouped.f k ac af ag ad ah ai ae l1 a2 a3=some (r1,r2,r3)) :
  Calls Tryz.prog 57 #[.agg #[.int .i32 ac,.int .i32 af,.int .i32 ag,.int .i32 ad,.int .i32 ah,.int .i32 ai,.int .i32 ae],.slice A1 l1.length c1,.int .i64 a2,.int .i64 a3] w fun e w'=>∃ v0_:Value,e = .returned (.tuple #[v0_,.int .i64 r2,.int .i64 r3])∧Kd.R (Kd.int .u8) 5 w' w.heap.size (fun _=>True) v0_ r1∧Below w.heap.size w w':=by
 have hu23:=Tryz.underlying23
 have HR1:=Sd.mk hr1
 have HC1:=Sd.mk hc1
 clear hr1 hc1
 have HB:=Sd.mk (Below.refl w.heap.size w)
 have H:(sym_Ungrouped.l0 k l1 a2 a3 ([]:List Int) l1 (l1.length:Int) 0 ac af ag ad ah ai ae)=some (r1,r2,r3):=h
 clear h
 have H':=Sd.mk H
 clear H
 go_enter Tryz.func57,Tryz.ntmps57
 go_wp2_with (first|((with_reducible refine gate_dst (N:=4) rfl ?_);refine box_event ?hg (N:=4) ?hd (cs:=#[.int .i32 ac,.int .i32 af,.int .i32 ag,.int .i32 ad,.int .i32 ah,.int .i32 ai,.int .i32 ae]) (t:=23) ?hr ?_;(case hd=>rfl);(case hg=>rfl);(case hr=>first|(go_simp;done)|(go_simp;rfl));intro fc hg w5 hbox hb;have al:=Sd.mk (hbox);have hy:=bg HB hg;replace HB:=bs HB hb;clear hb hbox hg))
 go_loopg [11,18] k (fun kq v11 v18 w'=>∃ (bq:List Int) (ao:Int),v18 = .int .i64 ao∧Sd (sym_Ungrouped.l0 kq l1 a2 a3 bq l1 (l1.length:Int) ao ac af ag ad ah ai ae=some (r1,r2,r3))∧Sd (kq≤k)∧Sd (Kd.R (Kd.int .u8) 5 w' w.heap.size (fun _=>True) v11 bq)∧Sd (w'.heap[fc]?=some (.cells #[.int .i32 ac,.int .i32 af,.int .i32 ag,.int .i32 ad,.int .i32 ah,.int .i32 ai,.int .i32 ae] 23 (0,0)))∧Sd (Below w.heap.size w w'))
 case atStart=>exact ⟨(([]:List Int)),(0),(by first|rfl|(simp;done)|(simp [*];done)),H',⟨Nat.le_refl _⟩,⟨by first|exact Kd.R_nil _ _ _ _ _|exact Kd.N_nil _ _ _ _ _|exact Kd.V_nil _ _ _ _ _|exact Kd.Q_nil _ _ _ _ _|exact Kd.S_nil _ _ _ _ _⟩,⟨ko al⟩,⟨bl HB⟩⟩
 case round=>
  clear H'
  try clear c1
  try clear p2
  try clear c5
  obtain ⟨bq,ao,rfl,HA,HK1,HO_11,al,HB⟩:=hrel
  cases gk with
  | zero=>exact absurd HA.out (by simp [sym_Ungrouped.l0])
  | succ k1=>
   have H:=HA.out
   clear HA
   simp only [sym_Ungrouped.l0] at H
   by_cases c6:ao<(l1.length:Int)
   rotate_left
   ·rw [if_neg c6] at H
    have bQ:=decide_eq_false c6
    clear c6
    obtain ⟨cO,A22,H⟩:=bX H
    try dsimp only at H
    obtain ⟨er,A23,H⟩:=bX H
    try dsimp only at H
    by_cases c24:er=true
    ·subst c24
     rw [if_pos rfl] at H
     simp only [Option.some.injEq,Prod.mk.injEq] at H
     obtain ⟨rfl,rfl,rfl⟩:=H
     have hz:=blkc7 al.out
     have hA:=blkf7 al.out
     obtain ⟨fZ,f0,f1⟩:=Kd.R_slice HO_11.out
     subst f1
     go_wp2_with (first|((with_reducible refine gate_callee (f:=49) rfl ?_);refine gL (some 46) Tryz.func49 #[.agg #[.int .i32 ac,.int .i32 af,.int .i32 ag,.int .i32 ad,.int .i32 ah,.int .i32 ai,.int .i32 ae],.slice fZ bq.length f0,.int .i64 a2,.int .i64 a3] ?_;(with_reducible refine (sym_Grouped.calls k1 ac af ag ad ah ai ae _ _ bq a2 a3 cO _ (rc HO_11) (rl HO_11) A22.out).mono ?_);rintro e w27 ⟨f2,rfl,ho0,hb⟩;refine ⟨_,rfl,?_⟩;replace HO_11:=rb HO_11 hb;have cd:=Sd.mk (Kd.R_lower ho0 (bz HB));replace al:=kb al hb;replace HB:=bs HB hb;(try clear hb);(try clear ho0);obtain ⟨f3,f4,f5⟩:=Kd.R_slice cd.out;subst f5)|((with_reducible refine gate_callee (f:=79) rfl ?_);refine gL (some 48) Tryz.func79 #[.slice f3 cO.length f4,.slice A1 l1.length c1] ?_;(with_reducible refine (slices_Equal_rune_rune.calls k1 _ _ cO _ _ l1 true _ (rc cd) (rl cd) (cb HR1 HB) HC1.out A23.out).mono ?_);rintro e w' ⟨rfl,⟨nd,rfl⟩⟩;refine ⟨_,rfl,?_⟩))
     go_ret3
     exact ⟨_,by first|rfl|(simp <;> rfl)|(simp [*] <;> rfl),by (with_reducible repeat (first|apply Kd.R_alloc|apply Kd.R_drewN|apply Kd.R_drew));exact HO_11.out,bl HB⟩
    replace c24:=Bool.eq_false_iff.mpr c24
    subst c24
    rw [if_neg (show ¬ (false=true) by decide)] at H
    simp only [Option.some.injEq,Prod.mk.injEq] at H
    obtain ⟨rfl,rfl,rfl⟩:=H
    have hB:=blkc7 al.out
    have hC:=blkf7 al.out
    obtain ⟨el,em,dQ⟩:=Kd.R_slice HO_11.out
    subst dQ
    go_wp2_with (first|((with_reducible refine gate_callee (f:=49) rfl ?_);refine gL (some 46) Tryz.func49 #[.agg #[.int .i32 ac,.int .i32 af,.int .i32 ag,.int .i32 ad,.int .i32 ah,.int .i32 ai,.int .i32 ae],.slice el bq.length em,.int .i64 a2,.int .i64 a3] ?_;(with_reducible refine (sym_Grouped.calls k1 ac af ag ad ah ai ae _ _ bq a2 a3 cO _ (rc HO_11) (rl HO_11) A22.out).mono ?_);rintro e w31 ⟨f2,rfl,ho0,hb⟩;refine ⟨_,rfl,?_⟩;replace HO_11:=rb HO_11 hb;have cd:=Sd.mk (Kd.R_lower ho0 (bz HB));replace al:=kb al hb;replace HB:=bs HB hb;(try clear hb);(try clear ho0);obtain ⟨f6,f7,f8⟩:=Kd.R_slice cd.out;subst f8)|((with_reducible refine gate_callee (f:=79) rfl ?_);refine gL (some 48) Tryz.func79 #[.slice f6 cO.length f7,.slice A1 l1.length c1] ?_;(with_reducible refine (slices_Equal_rune_rune.calls k1 _ _ cO _ _ l1 false _ (rc cd) (rl cd) (cb HR1 HB) HC1.out A23.out).mono ?_);rintro e w' ⟨rfl,⟨nd,rfl⟩⟩;refine ⟨_,rfl,?_⟩))
    go_ret3
    exact ⟨_,by first|rfl|(simp <;> rfl)|(simp [*] <;> rfl),by first|exact Kd.R_nil _ _ _ _ _|exact Kd.N_nil _ _ _ _ _|exact Kd.V_nil _ _ _ _ _|exact Kd.Q_nil _ _ _ _ _|exact Kd.S_nil _ _ _ _ _,bl HB⟩
   rw [if_pos c6] at H
   have bQ:=decide_eq_true c6
   clear c6
   by_cases c7:0≤ao
   rotate_left
   ·rw [if_neg c7] at H
    exact absurd H (by simp)
   rw [if_pos c7] at H
   have fY:=decide_eq_true c7
   clear c7
   by_cases c8:ao<(l1.length:Int)
   rotate_left
   ·rw [if_neg c8] at H
    exact absurd H (by simp)
   rw [if_pos c8] at H
   have eo:=decide_eq_true c8
   clear c8
   obtain ⟨⟨dn,f9⟩,A9,H⟩:=bX H
   try dsimp only at H
   by_cases c10:f9=true
   ·subst c10
    rw [if_pos rfl] at H
    by_cases c11:bq.length<140737488355328
    rotate_left
    ·rw [if_neg c11] at H
     exact absurd H (by simp)
    rw [if_pos c11] at H
    have LMc11:=Sd.mk c11
    clear c11
    obtain ⟨fd,cP⟩:∃ y_:List Int,y_=(bq ++ [dn]):=⟨_,rfl⟩
    replace H:(sym_Ungrouped.l0 k1 l1 a2 a3 fd l1 (l1.length:Int) (wrap64 (ao+1)) ac af ag ad ah ai ae)=some (r1,r2,r3):=by first|(rw [cP];with_reducible exact H)|(have H2_:=(Option.bind_some _ _).symm.trans H;rw [cP];with_reducible exact H2_)|(have H2_:=(Option.bind_some _ _).symm.trans H;with_reducible exact H2_)|with_reducible exact H|(rw [cP];exact H)|exact H
    have fe:=Sd.mk cP
    clear cP
    have H':=Sd.mk H
    clear H
    have ce:0≤(ao:Int):=of_decide_eq_true (by first|(with_reducible assumption)|assumption)
    have cf:ao<(l1.length:Int):=of_decide_eq_true (by first|(with_reducible assumption)|assumption)
    obtain ⟨eg,dG,av⟩:=Kd.at_int HR1.out ao ce cf
    cases dG
    replace av:=(HB.out.cell (World.block_lt_of_cell? w _ av)).trans av
    replace ce:=eq_true ce
    replace cf:=eq_true cf
    have cQ:=blkc7 al.out
    have cR:=blkf7 al.out
    go_wp2_with (first|((with_reducible refine gate_callee (f:=78) rfl ?_);refine gL (some 26) Tryz.func78 #[.agg #[.int .i32 ac,.int .i32 af,.int .i32 ag,.int .i32 ad,.int .i32 ah,.int .i32 ai,.int .i32 ae],.int .i32 (rd l1 ao)] ?_;(with_reducible refine (sym_Value.calls ac af ag ad ah ai ae (rd l1 ao) dn true _ A9.out).mono ?_);rintro e w13 ⟨rfl,hb⟩;refine ⟨_,rfl,?_⟩;replace HO_11:=rb HO_11 hb;replace al:=kb al hb;replace HB:=bs HB hb;(try clear hb))|((with_reducible refine gate_builtin (b:=.append) (xs:=#[.tmp 31,.tmp 33]) rfl ?_);at_builtin;refine Kd.R_append (Kd.int .u8) (w0:=w) w.heap.size rfl (.tmp 31) (.tmp 33) 27 5 (.int .u8 0) 1 rfl Tryz.underlying27 info5 rfl (by decide) (by omega) u11 bq dn [.int .u8 dn] (fun _=>True) (fun _=>False) rfl rfl ?aP (fun _ hk=>hk.elim) ?aF ?aO ?aB ?aS ?aL ?_;(case aP=>exact rfl);(case aB=>exact (bl HB));(case aF=>exact (fun _ _=>trivial));(case aO=>exact (ro HO_11));(case aS=>exact (bz HB));(case aL=>have:=LMc11.out;omega);intro h6 w14 ho hb hg hat;rw [← fe.out] at ho;replace al:=Sd.mk (blk_grown (ko al) hg (Kd.R_ne HO_11.out al.out (by decide)));replace HB:=Sd.mk (hb);have ff:=Sd.mk (ho);clear HO_11;clear ho hb hg hat))
    go_roundg k1
    case measure=>have:=HK1.out;omega
    case rel=>exact ⟨(fd),(wrap64 (ao+1)),(by first|rfl|(simp;done)|(simp [*];done)),H',⟨by have:=HK1.out;omega⟩,⟨ro ff⟩,⟨ko al⟩,⟨bl HB⟩⟩
   replace c10:=Bool.eq_false_iff.mpr c10
   subst c10
   rw [if_neg (show ¬ (false=true) by decide)] at H
   by_cases c15:(rd l1 ao)=ag
   ·rw [if_pos c15] at H
    have cS:((rd l1 ao) == ag)=true:=beq_iff_eq.mpr c15
    have cT:((rd l1 ao) != ag)=false:=bne_eq_false_iff_eq.mpr c15
    clear c15
    have H':=Sd.mk H
    clear H
    have ce:0≤(ao:Int):=of_decide_eq_true (by first|(with_reducible assumption)|assumption)
    have cf:ao<(l1.length:Int):=of_decide_eq_true (by first|(with_reducible assumption)|assumption)
    obtain ⟨eg,dG,av⟩:=Kd.at_int HR1.out ao ce cf
    cases dG
    replace av:=(HB.out.cell (World.block_lt_of_cell? w _ av)).trans av
    replace ce:=eq_true ce
    replace cf:=eq_true cf
    have hD:=blkc7 al.out
    have hE:=blkf7 al.out
    go_wp2_with (first|((with_reducible refine gate_callee (f:=78) rfl ?_);refine gL (some 26) Tryz.func78 #[.agg #[.int .i32 ac,.int .i32 af,.int .i32 ag,.int .i32 ad,.int .i32 ah,.int .i32 ai,.int .i32 ae],.int .i32 (rd l1 ao)] ?_;(with_reducible refine (sym_Value.calls ac af ag ad ah ai ae (rd l1 ao) dn false _ A9.out).mono ?_);rintro e w17 ⟨rfl,hb⟩;refine ⟨_,rfl,?_⟩;replace HO_11:=rb HO_11 hb;replace al:=kb al hb;replace HB:=bs HB hb;(try clear hb);have d9:=blkc7 al.out;have ea:=blkf7 al.out))
    go_roundg k1
    case measure=>have:=HK1.out;omega
    case rel=>exact ⟨(bq),(wrap64 (ao+1)),(by first|rfl|(simp;done)|(simp [*];done)),H',⟨by have:=HK1.out;omega⟩,⟨ro HO_11⟩,⟨ko al⟩,⟨bl HB⟩⟩
   rw [if_neg c15] at H
   have cS:((rd l1 ao) == ag)=false:=beq_eq_false_iff_ne.mpr c15
   have cT:((rd l1 ao) != ag)=true:=bne_iff_ne.mpr c15
   simp only [Option.some.injEq,Prod.mk.injEq] at H
   obtain ⟨rfl,rfl,rfl⟩:=H
   have ce:0≤(ao:Int):=of_decide_eq_true (by first|(with_reducible assumption)|assumption)
   have cf:ao<(l1.length:Int):=of_decide_eq_true (by first|(with_reducible assumption)|assumption)
   obtain ⟨eg,dG,av⟩:=Kd.at_int HR1.out ao ce cf
   cases dG
   replace av:=(HB.out.cell (World.block_lt_of_cell? w _ av)).trans av
   replace ce:=eq_true ce
   replace cf:=eq_true cf
   have dH:=blkc7 al.out
   have dI:=blkf7 al.out
   go_wp2_with (first|((with_reducible refine gate_callee (f:=78) rfl ?_);refine gL (some 26) Tryz.func78 #[.agg #[.int .i32 ac,.int .i32 af,.int .i32 ag,.int .i32 ad,.int .i32 ah,.int .i32 ai,.int .i32 ae],.int .i32 (rd l1 ao)] ?_;(with_reducible refine (sym_Value.calls ac af ag ad ah ai ae (rd l1 ao) dn false _ A9.out).mono ?_);rintro e w20 ⟨rfl,hb⟩;refine ⟨_,rfl,?_⟩;replace HO_11:=rb HO_11 hb;replace al:=kb al hb;replace HB:=bs HB hb;(try clear hb);have hF:=blkc7 al.out;have hH:=blkf7 al.out))
   go_ret3
   exact ⟨_,by first|rfl|(simp <;> rfl)|(simp [*] <;> rfl),by first|exact Kd.R_nil _ _ _ _ _|exact Kd.N_nil _ _ _ _ _|exact Kd.V_nil _ _ _ _ _|exact Kd.Q_nil _ _ _ _ _|exact Kd.S_nil _ _ _ _ _,bl HB⟩
mutual
def shape_power.j0:Nat→List Int→Bool→Int→Int→Int→Int→Int→Int→Int→Option (Int×Bool)
 | 0,_,_,_,_,_,_,_,_,_=>none
 | k+1,x1,x6,aJ,aK,aM,aN,aD,aQ,aT=>if x6=true then (shape_power.j1 k x1 x6 true aJ aK aM aN aD aQ aT) else (if (x1.length:Int)>0 then (if 0<(x1.length:Int) then (shape_power.j1 k x1 x6 ((rd x1 0) == aD) aJ aK aM aN aD aQ aT) else (none)) else (shape_power.j1 k x1 x6 false aJ aK aM aN aD aQ aT))
def shape_power.j1:Nat→List Int→Bool→Bool→Int→Int→Int→Int→Int→Int→Int→Option (Int×Bool)
 | 0,_,_,_,_,_,_,_,_,_,_=>none
 | k+1,x1,x6,x37,aJ,aK,aM,aN,aD,aQ,aT=>if x37=true then (if 1≤(x1.length:Int) then (shape_power.j2 k (x1.drop 1) x6 aJ aK aM aN aD aQ aT) else (none)) else (shape_power.j2 k x1 x6 aJ aK aM aN aD aQ aT)
def shape_power.j2:Nat→List Int→Bool→Int→Int→Int→Int→Int→Int→Int→Option (Int×Bool)
 | 0,_,_,_,_,_,_,_,_,_=>none
 | k+1,x1,x6,aJ,aK,aM,aN,aD,aQ,aT=>(sym_Ungrouped.f k aJ aK aM aN aD aQ aT x1 0 0).bind fun dh=>(if dh.2.2=0 then (if (x1.length:Int)=0 then (shape_power.j3 k x6 dh.1 true) else (shape_power.j3 k x6 dh.1 (decide ((x1.length:Int)>40)))) else (shape_power.j3 k x6 dh.1 true))
def shape_power.j3:Nat→Bool→List Int→Bool→Option (Int×Bool)
 | 0,_,_,_=>none
 | k+1,x6,x7,x58=>if x58=true then (some (0,false)) else (shape_power.l0 k x6 0 x7 (x7.length:Int) 0)
def shape_power.l0:Nat→Bool→Int→List Int→Int→Int→Option (Int×Bool)
 | 0,_,_,_,_,_=>none
 | k+1,x6,x10,x59,x60,x61=>if x61<x60 then (if 0≤x61 then (if x61<(x59.length:Int) then (shape_power.l0 k x6 (mn (wrap64 ((wrap64 (x10 * 10))+(wrap64 (rd x59 x61)))) 100001) x59 x60 (wrap64 (x61+1))) else (none)) else (none)) else (if x6=true then (some (wrap64 (-x10),decide (x10≤100000))) else (some (x10,decide (x10≤100000))))
end
def shape_power.f (k:Nat)(ac:Int)(af:Int)(ag:Int)(ad:Int)(ah:Int)(ai:Int)(ae:Int)(l1:List Int):Option (Int×Bool):=if (l1.length:Int)>0 then (if 0<(l1.length:Int) then (shape_power.j0 k l1 ((rd l1 0) == ad) ac af ag ad ah ai ae) else (none)) else (shape_power.j0 k l1 false ac af ag ad ah ai ae)
theorem shape_power.mono_l:∀ k,(∀ y0 y1 y2 y3 y4 y5 y6 y7 y8,LeO (shape_power.j0 k y0 y1 y2 y3 y4 y5 y6 y7 y8) (shape_power.j0 (k+1) y0 y1 y2 y3 y4 y5 y6 y7 y8))∧(∀ y0 y1 y2 y3 y4 y5 y6 y7 y8 y9,LeO (shape_power.j1 k y0 y1 y2 y3 y4 y5 y6 y7 y8 y9) (shape_power.j1 (k+1) y0 y1 y2 y3 y4 y5 y6 y7 y8 y9))∧(∀ y0 y1 y2 y3 y4 y5 y6 y7 y8,LeO (shape_power.j2 k y0 y1 y2 y3 y4 y5 y6 y7 y8) (shape_power.j2 (k+1) y0 y1 y2 y3 y4 y5 y6 y7 y8))∧(∀ y0 y1 y2,LeO (shape_power.j3 k y0 y1 y2) (shape_power.j3 (k+1) y0 y1 y2))∧(∀ y0 y1 y2 y3 y4,LeO (shape_power.l0 k y0 y1 y2 y3 y4) (shape_power.l0 (k+1) y0 y1 y2 y3 y4))
 | 0=>⟨fun _ _ _ _ _ _ _ _ _ r h=>by simp [shape_power.j0] at h,fun _ _ _ _ _ _ _ _ _ _ r h=>by simp [shape_power.j1] at h,fun _ _ _ _ _ _ _ _ _ r h=>by simp [shape_power.j2] at h,fun _ _ _ r h=>by simp [shape_power.j3] at h,fun _ _ _ _ _ r h=>by simp [shape_power.l0] at h⟩
 | k+1=>by
  obtain ⟨ih0,ih1,ih2,ih3,ih4⟩:=shape_power.mono_l k
  refine ⟨?_,?_,?_,?_,?_⟩
  ·intro y0 y1 y2 y3 y4 y5 y6 y7 y8
   unfold shape_power.j0
   repeat' first|(with_reducible first|apply ih0|apply ih1|apply ih2|apply ih3|apply ih4|apply sym_Ungrouped.mono|apply LeO.refl|apply LeO.none|refine LeO.ite ?_ ?_|refine LeO.bind ?_ (fun _=>?_))|apply ih0|apply ih1|apply ih2|apply ih3|apply ih4|apply sym_Ungrouped.mono|apply LeO.none
  ·intro y0 y1 y2 y3 y4 y5 y6 y7 y8 y9
   unfold shape_power.j1
   repeat' first|(with_reducible first|apply ih0|apply ih1|apply ih2|apply ih3|apply ih4|apply sym_Ungrouped.mono|apply LeO.refl|apply LeO.none|refine LeO.ite ?_ ?_|refine LeO.bind ?_ (fun _=>?_))|apply ih0|apply ih1|apply ih2|apply ih3|apply ih4|apply sym_Ungrouped.mono|apply LeO.none
  ·intro y0 y1 y2 y3 y4 y5 y6 y7 y8
   unfold shape_power.j2
   repeat' first|(with_reducible first|apply ih0|apply ih1|apply ih2|apply ih3|apply ih4|apply sym_Ungrouped.mono|apply LeO.refl|apply LeO.none|refine LeO.ite ?_ ?_|refine LeO.bind ?_ (fun _=>?_))|apply ih0|apply ih1|apply ih2|apply ih3|apply ih4|apply sym_Ungrouped.mono|apply LeO.none
  ·intro y0 y1 y2
   unfold shape_power.j3
   repeat' first|(with_reducible first|apply ih0|apply ih1|apply ih2|apply ih3|apply ih4|apply sym_Ungrouped.mono|apply LeO.refl|apply LeO.none|refine LeO.ite ?_ ?_|refine LeO.bind ?_ (fun _=>?_))|apply ih0|apply ih1|apply ih2|apply ih3|apply ih4|apply sym_Ungrouped.mono|apply LeO.none
  ·intro y0 y1 y2 y3 y4
   unfold shape_power.l0
   repeat' first|(with_reducible first|apply ih0|apply ih1|apply ih2|apply ih3|apply ih4|apply sym_Ungrouped.mono|apply LeO.refl|apply LeO.none|refine LeO.ite ?_ ?_|refine LeO.bind ?_ (fun _=>?_))|apply ih0|apply ih1|apply ih2|apply ih3|apply ih4|apply sym_Ungrouped.mono|apply LeO.none
theorem shape_power.mono:∀ a0 a1 a2 a3 a4 a5 a6 a7 k,LeO (shape_power.f k a0 a1 a2 a3 a4 a5 a6 a7) (shape_power.f (k+1) a0 a1 a2 a3 a4 a5 a6 a7):=by
 intro a0 a1 a2 a3 a4 a5 a6 a7 k
 obtain ⟨ih0,ih1,ih2,ih3,ih4⟩:=shape_power.mono_l k
 unfold shape_power.f
 repeat' first|(with_reducible first|apply ih0|apply ih1|apply ih2|apply ih3|apply ih4|apply sym_Ungrouped.mono|apply LeO.refl|apply LeO.none|refine LeO.ite ?_ ?_|refine LeO.bind ?_ (fun _=>?_))|apply ih0|apply ih1|apply ih2|apply ih3|apply ih4|apply sym_Ungrouped.mono|apply LeO.none
set_option maxHeartbeats 8000000 in
set_option maxRecDepth 100000 in
theorem shape_power.calls (k:Nat)(ac:Int)(af:Int)(ag:Int)(ad:Int)(ah:Int)(ai:Int)(ae:Int)(P1_:Nat→Prop)(A1:Option Addr)(c1:Nat)(l1:List Int)(r1:Int)(r2:Bool)(w:World)(hs1:Kd.V (Kd.int .i32) 21 w w.heap.size (fun k_=>P1_ k_) (.slice A1 l1.length c1) l1)(h:shape_power.f k ac af ag ad ah ai ae l1=some (r1,r2)) :
  Calls Tryz.prog 56 #[.agg #[.int .i32 ac,.int .i32 af,.int .i32 ag,.int .i32 ad,.int .i32 ah,.int .i32 ai,.int .i32 ae],.slice A1 l1.length c1] w fun e w'=>e = .returned (.tuple #[.int .i64 r1,.bool r2])∧Below w.heap.size w w':=by
 have hu23:=Tryz.underlying23
 have HO1:=Sd.mk (show Kd.V (Kd.int .i32) 21 w w.heap.size (fun k_=>(P1_ k_∨w.heap.size≤k_)) (.slice A1 l1.length c1) l1 from Kd.V_mono hs1 (fun k_ hk=>.inl hk))
 have HB:=Sd.mk (Below.refl w.heap.size w)
 have H:(if (l1.length:Int)>0 then (if 0<(l1.length:Int) then (shape_power.j0 k l1 ((rd l1 0) == ad) ac af ag ad ah ai ae) else (none)) else (shape_power.j0 k l1 false ac af ag ad ah ai ae))=some (r1,r2):=h
 clear h
 have HC3:=Sd.mk H
 clear H
 go_enter Tryz.func56,Tryz.ntmps56
 go_upto_region 1 with (first|((with_reducible refine gate_dst (N:=2) rfl ?_);(try (refine gate_guard (by rfl) ?_;dsimp only));refine box_event ?hg (N:=2) ?hd (cs:=#[.int .i32 ac,.int .i32 af,.int .i32 ag,.int .i32 ad,.int .i32 ah,.int .i32 ai,.int .i32 ae]) (t:=23) ?hr ?_;(case hd=>rfl);(case hg=>rfl);(case hr=>first|(go_simp;done)|(go_simp;rfl));intro ba hg w4 hbox hb;replace HO1:=Sd.mk (Kd.V_below (Kd.V_elderB (vo HO1) ba (Nat.le_of_eq hg.symm)) hb);have am:=Sd.mk (hbox);have eh:=bg HB hg;replace HB:=bs HB hb;clear hb hbox hg))
 repeat (go_quiet (first|((with_reducible refine gate_dst (N:=2) rfl ?_);(try (refine gate_guard (by rfl) ?_;dsimp only));refine box_event ?hg (N:=2) ?hd (cs:=#[.int .i32 ac,.int .i32 af,.int .i32 ag,.int .i32 ad,.int .i32 ah,.int .i32 ai,.int .i32 ae]) (t:=23) ?hr ?_;(case hd=>rfl);(case hg=>rfl);(case hr=>first|(go_simp;done)|(go_simp;rfl));intro ba hg w4 hbox hb;replace HO1:=Sd.mk (Kd.V_below (Kd.V_elderB (vo HO1) ba (Nat.le_of_eq hg.symm)) hb);have am:=Sd.mk (hbox);have eh:=bg HB hg;replace HB:=bs HB hb;clear hb hbox hg));go_upto_region 1 with (first|((with_reducible refine gate_dst (N:=2) rfl ?_);(try (refine gate_guard (by rfl) ?_;dsimp only));refine box_event ?hg (N:=2) ?hd (cs:=#[.int .i32 ac,.int .i32 af,.int .i32 ag,.int .i32 ad,.int .i32 ah,.int .i32 ai,.int .i32 ae]) (t:=23) ?hr ?_;(case hd=>rfl);(case hg=>rfl);(case hr=>first|(go_simp;done)|(go_simp;rfl));intro ba hg w4 hbox hb;replace HO1:=Sd.mk (Kd.V_below (Kd.V_elderB (vo HO1) ba (Nat.le_of_eq hg.symm)) hb);have am:=Sd.mk (hbox);have eh:=bg HB hg;replace HB:=bs HB hb;clear hb hbox hg)))
 (try simp only [Act.put,sA,sB,sC])
 go_cut [6] (fun v6 wc=>∃ (kq:Nat) (cg:Bool),v6 = .bool cg∧Sd (shape_power.j0 kq l1 cg ac af ag ad ah ai ae=some (r1,r2))∧Sd (kq≤k)∧Sd (Kd.V (Kd.int .i32) 21 wc w.heap.size (fun k_=>(P1_ k_∨w.heap.size≤k_)∧k_≠ba) (.slice A1 l1.length c1) l1)∧Sd (wc.heap[ba]?=some (.cells #[.int .i32 ac,.int .i32 af,.int .i32 ag,.int .i32 ad,.int .i32 ah,.int .i32 ai,.int .i32 ae] 23 (0,0)))∧Sd (Below w.heap.size w wc))
 case first=>
  have H:=HC3.out
  clear HC3
  by_cases c5:(l1.length:Int)>0
  rotate_left
  ·rw [if_neg c5] at H
   have bP:decide (0<(l1.length:Int))=false:=decide_eq_false c5
   have ct:decide (0<l1.length)=false:=decide_eq_false (by omega)
   clear c5
   (first|rw [bP]|(simp only [i64_w,i32_w];rw [bP])|rw [ct]|skip)
   have H':=Sd.mk H
   clear H
   go_wp2
   repeat (go_quiet (fail);try go_wp2)
   go_meet
   case rel=>exact ⟨_,(false),(by first|rfl|(simp;done)|(simp [*];done)),H',⟨by first|omega|exact Nat.le_refl _⟩,⟨vo HO1⟩,⟨ko am⟩,⟨bl HB⟩⟩
  rw [if_pos c5] at H
  have bP:decide (0<(l1.length:Int))=true:=decide_eq_true c5
  have ct:decide (0<l1.length)=true:=decide_eq_true (by omega)
  clear c5
  (first|rw [bP]|(simp only [i64_w,i32_w];rw [bP])|rw [ct]|skip)
  by_cases c6:0<(l1.length:Int)
  rotate_left
  ·rw [if_neg c6] at H
   exact absurd H (by simp)
  rw [if_pos c6] at H
  have bQ:=decide_eq_true c6
  have cL:decide (0<l1.length)=true:=decide_eq_true (by omega)
  clear c6
  have H':=Sd.mk H
  clear H
  have cU:0≤(0:Int):=(by omega)
  have cV:0<(l1.length:Int):=of_decide_eq_true (by first|(with_reducible assumption)|assumption)
  obtain ⟨hI,ga,bh⟩:=Kd.at_int (Kd.V_reads' HO1.out).2.2 0 cU cV
  cases ga
  have qi332:(0<l1.length)=True:=eq_true (by omega)
  (try rw [show ((0:Int)).toNat=0 from rfl] at bh)
  (try rw [Addr.add_zero'] at bh)
  replace cU:=eq_true cU
  replace cV:=eq_true cV
  have dJ:=blkc7 am.out
  have dK:=blkf7 am.out
  go_wp2
  repeat (go_quiet (fail);try go_wp2)
  go_meet
  case rel=>exact ⟨_,(((rd l1 0) == ad)),(by first|rfl|(simp;done)|(simp [*];done)),H',⟨by first|omega|exact Nat.le_refl _⟩,⟨vo HO1⟩,⟨ko am⟩,⟨bl HB⟩⟩
 case rest=>
  clear HC3
  try clear c1
  try clear p2
  try clear p3
  try clear q3
  try clear hx3
  try clear qi3
  try clear c5
  try clear bP
  try clear ct
  try clear c6
  try clear bQ
  try clear cL
  try clear dJ
  try clear dK
  try clear bh
  try clear cU
  try clear cV
  obtain ⟨kq,cg,rfl,HA,HJ2,HO_1,am,HB⟩:=hcut
  cases kq with
  | zero=>exact absurd HA.out (by simp [shape_power.j0])
  | succ kj2=>
   have H:=HA.out
   clear HA
   simp only [shape_power.j0] at H
   have HC8:=Sd.mk H
   clear H
   go_upto_region 2 with (fail)
   repeat (go_quiet (fail);go_upto_region 2 with (fail))
   go_cut [37] (fun v37 wc=>∃ (kq:Nat) (di:Bool),v37 = .bool di∧Sd (shape_power.j1 kq l1 cg di ac af ag ad ah ai ae=some (r1,r2))∧Sd (kq≤kj2)∧Sd (Kd.V (Kd.int .i32) 21 wc w.heap.size (fun k_=>(P1_ k_∨w.heap.size≤k_)∧k_≠ba) (.slice A1 l1.length c1) l1)∧Sd (wc.heap[ba]?=some (.cells #[.int .i32 ac,.int .i32 af,.int .i32 ag,.int .i32 ad,.int .i32 ah,.int .i32 ai,.int .i32 ae] 23 (0,0)))∧Sd (Below w.heap.size w wc))
   case first=>
    have H:=HC8.out
    clear HC8
    by_cases c9:cg=true
    ·subst c9
     rw [if_pos rfl] at H
     have H':=Sd.mk H
     clear H
     go_wp2
     repeat (go_quiet (fail);try go_wp2)
     go_meet
     case rel=>exact ⟨_,(true),(by first|rfl|(simp;done)|(simp [*];done)),H',⟨by have:=HJ2.out;first|omega|exact Nat.le_refl _⟩,⟨vo HO_1⟩,⟨ko am⟩,⟨bl HB⟩⟩
    replace c9:=Bool.eq_false_iff.mpr c9
    subst c9
    rw [if_neg (show ¬ (false=true) by decide)] at H
    by_cases c10:(l1.length:Int)>0
    rotate_left
    ·rw [if_neg c10] at H
     have bL:decide (0<(l1.length:Int))=false:=decide_eq_false c10
     have ch:decide (0<l1.length)=false:=decide_eq_false (by omega)
     clear c10
     (first|rw [bL]|(simp only [i64_w,i32_w];rw [bL])|rw [ch]|skip)
     have H':=Sd.mk H
     clear H
     go_wp2
     repeat (go_quiet (fail);try go_wp2)
     go_meet
     case rel=>exact ⟨_,(false),(by first|rfl|(simp;done)|(simp [*];done)),H',⟨by have:=HJ2.out;first|omega|exact Nat.le_refl _⟩,⟨vo HO_1⟩,⟨ko am⟩,⟨bl HB⟩⟩
    rw [if_pos c10] at H
    have bL:decide (0<(l1.length:Int))=true:=decide_eq_true c10
    have ch:decide (0<l1.length)=true:=decide_eq_true (by omega)
    clear c10
    (first|rw [bL]|(simp only [i64_w,i32_w];rw [bL])|rw [ch]|skip)
    by_cases c11:0<(l1.length:Int)
    rotate_left
    ·rw [if_neg c11] at H
     exact absurd H (by simp)
    rw [if_pos c11] at H
    have dj:=decide_eq_true c11
    have dk:decide (0<l1.length)=true:=decide_eq_true (by omega)
    clear c11
    have H':=Sd.mk H
    clear H
    have df:0≤(0:Int):=(by omega)
    have dg:0<(l1.length:Int):=of_decide_eq_true (by first|(with_reducible assumption)|assumption)
    obtain ⟨hJ,gb,bw⟩:=Kd.at_int (Kd.V_reads' HO_1.out).2.2 0 df dg
    cases gb
    have qi333:(0<l1.length)=True:=eq_true (by omega)
    (try rw [show ((0:Int)).toNat=0 from rfl] at bw)
    (try rw [Addr.add_zero'] at bw)
    replace df:=eq_true df
    replace dg:=eq_true dg
    have cQ:=blkc7 am.out
    have cR:=blkf7 am.out
    go_wp2
    repeat (go_quiet (fail);try go_wp2)
    go_meet
    case rel=>exact ⟨_,(((rd l1 0) == ah)),(by first|rfl|(simp;done)|(simp [*];done)),H',⟨by have:=HJ2.out;first|omega|exact Nat.le_refl _⟩,⟨vo HO_1⟩,⟨ko am⟩,⟨bl HB⟩⟩
   case rest=>
    clear HC8
    try clear c1
    try clear p2
    try clear p3
    try clear q3
    try clear hx3
    try clear qi3
    try clear c5
    try clear bP
    try clear ct
    try clear c6
    try clear bQ
    try clear cL
    try clear c9
    try clear c10
    try clear bL
    try clear ch
    try clear c11
    try clear dj
    try clear dk
    try clear cQ
    try clear dJ
    try clear cR
    try clear dK
    try clear bh
    try clear bw
    try clear p2
    try clear p3
    try clear cU
    try clear df
    try clear q3
    try clear cV
    try clear dg
    obtain ⟨kq,di,rfl,HA,HJ7,HO_1,am,HB⟩:=hcut
    cases kq with
    | zero=>exact absurd HA.out (by simp [shape_power.j1])
    | succ kj7=>
     have H:=HA.out
     clear HA
     simp only [shape_power.j1] at H
     have es:=Sd.mk H
     clear H
     go_upto_if 37 with (fail)
     repeat (go_quiet (fail);go_upto_if 37 with (fail))
     go_cut [1] (fun v1 wc=>∃ (kq:Nat) (bb:List Int),Sd (shape_power.j2 kq bb cg ac af ag ad ah ai ae=some (r1,r2))∧Sd (kq≤kj7)∧Sd (Kd.V (Kd.int .i32) 21 wc w.heap.size (fun k_=>(P1_ k_∨w.heap.size≤k_)∧k_≠ba) v1 bb)∧Sd (wc.heap[ba]?=some (.cells #[.int .i32 ac,.int .i32 af,.int .i32 ag,.int .i32 ad,.int .i32 ah,.int .i32 ai,.int .i32 ae] 23 (0,0)))∧Sd (Below w.heap.size w wc))
     case first=>
      have H:=es.out
      clear es
      by_cases c14:di=true
      rotate_left
      ·replace c14:=Bool.eq_false_iff.mpr c14
       subst c14
       rw [if_neg (show ¬ (false=true) by decide)] at H
       have H':=Sd.mk H
       clear H
       go_wp2
       repeat (go_quiet (fail);try go_wp2)
       go_meet
       case rel=>exact ⟨_,(l1),H',⟨by have:=HJ2.out;have:=HJ7.out;first|omega|exact Nat.le_refl _⟩,⟨vo HO_1⟩,⟨ko am⟩,⟨bl HB⟩⟩
      subst c14
      rw [if_pos rfl] at H
      by_cases c15:1≤(l1.length:Int)
      rotate_left
      ·rw [if_neg c15] at H
       exact absurd H (by simp)
      rw [if_pos c15] at H
      have cS:=eq_true c15
      have cT:=decide_eq_true c15
      clear c15
      obtain ⟨cu,cW⟩:∃ y_:List Int,y_=(l1.drop 1):=⟨_,rfl⟩
      replace H:(shape_power.j2 kj7 cu cg ac af ag ad ah ai ae)=some (r1,r2):=by first|(rw [cW];with_reducible exact H)|(have H2_:=(Option.bind_some _ _).symm.trans H;rw [cW];with_reducible exact H2_)|(have H2_:=(Option.bind_some _ _).symm.trans H;with_reducible exact H2_)|with_reducible exact H|(rw [cW];exact H)|exact H
      have ei:=Sd.mk cW
      clear cW
      have H':=Sd.mk H
      clear H
      have q16:(1:Int)≤((l1.length:Int):Int):=of_decide_eq_true (by first|(with_reducible assumption)|assumption)
      obtain ⟨i016,hi016,_,hsz16,_⟩:=info_parts info21
      have hroom16:l1.length≤c1:=(Kd.V_reads' HO_1.out).2.1
      have hC16:Kd.F (Kd.int .i32) _ _ A1 l1.length l1:=(Kd.V_at (base:=w.heap.size) HO_1.out).2.2
      have hcut16:=cut_from (P:=Tryz.prog) 46 21 .i64 Tryz.underlying46 hi016 1 hsz16 A1 l1.length c1 1 (by omega) q16
      have dL:=Kd.F_cut (m:=(1:Int).toNat) (c:=c1) hC16 (by omega) hroom16
      obtain ⟨A16,hA16⟩:∃ Az_,Az_=(if c1=(1:Int).toNat then A1 else (A1:Option Addr).map (·.add ((1:Int).toNat * 1))):=⟨_,rfl⟩
      obtain ⟨c16,dY⟩:∃ cz_,cz_=c1 - (1:Int).toNat:=⟨_,rfl⟩
      have dM:cu.length=l1.length - (1:Int).toNat:=(by rw [ei.out,List.length_drop] <;> omega)
      rw [show (l1).drop (1:Int).toNat=cu from ei.out.symm] at dL
      replace dL:Kd.F (Kd.int .i32) _ _ A16 cu.length cu:=(by rw [hA16];exact dL)
      rw [← dM,← hA16,← dY] at hcut16
      have fg:=Sd.mk (show Kd.V (Kd.int .i32) 21 _ w.heap.size _ (.slice A16 cu.length c16) cu from Kd.V_mk (by rw [dM,dY];exact Nat.sub_le_sub_right hroom16 _) dL)
      have hL:=Sd.mk (show cu.length≤c16 from by rw [dM,dY];exact Nat.sub_le_sub_right hroom16 _)
      clear dL hC16 hroom16 hi016 hsz16 dY
      have KY16:=Sd.mk dM
      have KA16:=Sd.mk hA16
      clear dM hA16
      replace q16:=eq_true q16
      go_wp2
      repeat (go_quiet (fail);try go_wp2)
      go_meet
      case rel=>exact ⟨_,(cu),H',⟨by have:=HJ2.out;have:=HJ7.out;first|omega|exact Nat.le_refl _⟩,⟨vo fg⟩,⟨ko am⟩,⟨bl HB⟩⟩
     case rest=>
      clear es
      try clear c1
      try clear q1
      try clear p2
      try clear p3
      try clear q3
      try clear hx3
      try clear qi3
      try clear c5
      try clear bP
      try clear ct
      try clear c6
      try clear bQ
      try clear cL
      try clear c9
      try clear c10
      try clear bL
      try clear ch
      try clear c11
      try clear dj
      try clear dk
      try clear c14
      try clear c15
      try clear cS
      try clear cT
      try clear c16
      try clear q16
      try clear cQ
      try clear dJ
      try clear cR
      try clear dK
      try clear bh
      try clear bw
      try clear p2
      try clear p3
      try clear cU
      try clear df
      try clear q16
      try clear q3
      try clear cV
      try clear dg
      obtain ⟨kq,bb,HA,HJ12,HO_1,am,HB⟩:=hcut
      cases kq with
      | zero=>exact absurd HA.out (by simp [shape_power.j2])
      | succ kj12=>
       have H:=HA.out
       clear HA
       simp only [shape_power.j2] at H
       obtain ⟨⟨br,et,cX⟩,A17,H⟩:=bX H
       try dsimp only at H
       have eu:=Sd.mk H
       clear H
       have dH:=blkc7 am.out
       have dI:=blkf7 am.out
       obtain ⟨h7,h8,gc⟩:=Kd.V_slice HO_1.out
       subst gc
       go_upto_region 5 with (first|(go_at_call 57;(with_reducible refine (sym_Ungrouped.calls kj12 ac af ag ad ah ai ae _ _ bb 0 0 br et cX _ (vc HO_1) (vl HO_1) A17.out).mono ?_);rintro e w21 ⟨ev,rfl,ho0,hb⟩;replace HO_1:=Sd.mk (Kd.V_elder' (vo HO_1) (Kd.R_base ho0) hb);have cY:=Sd.mk (Kd.R_lower (Kd.R_newM (M:=fun k_=>(w.heap.size≤k_)) ho0 (bz HB) (fun k_ h_=>h_)) (bz HB));replace am:=kb am hb;replace HB:=bs HB hb;(try clear hb);(try clear ho0)))
       repeat (go_quiet (first|(go_at_call 57;(with_reducible refine (sym_Ungrouped.calls kj12 ac af ag ad ah ai ae _ _ bb 0 0 br et cX _ (vc HO_1) (vl HO_1) A17.out).mono ?_);rintro e w21 ⟨ev,rfl,ho0,hb⟩;replace HO_1:=Sd.mk (Kd.V_elder' (vo HO_1) (Kd.R_base ho0) hb);have cY:=Sd.mk (Kd.R_lower (Kd.R_newM (M:=fun k_=>(w.heap.size≤k_)) ho0 (bz HB) (fun k_ h_=>h_)) (bz HB));replace am:=kb am hb;replace HB:=bs HB hb;(try clear hb);(try clear hb2);(try clear hk);(try clear hi);(try clear ho0)));go_upto_region 5 with (first|(go_at_call 57;(with_reducible refine (sym_Ungrouped.calls kj12 ac af ag ad ah ai ae _ _ bb 0 0 br et cX _ (vc HO_1) (vl HO_1) A17.out).mono ?_);rintro e w21 ⟨ev,rfl,ho0,hb⟩;replace HO_1:=Sd.mk (Kd.V_elder' (vo HO_1) (Kd.R_base ho0) hb);have cY:=Sd.mk (Kd.R_lower (Kd.R_newM (M:=fun k_=>(w.heap.size≤k_)) ho0 (bz HB) (fun k_ h_=>h_)) (bz HB));replace am:=kb am hb;replace HB:=bs HB hb;(try clear hb);(try clear hb2);(try clear hk);(try clear hi);(try clear ho0))))
       (try simp only [Act.put,sA,sB,sC])
       go_cut [58] (fun v58 wc=>∃ (kq:Nat) (cv:Bool),v58 = .bool cv∧Sd (shape_power.j3 kq cg br cv=some (r1,r2))∧Sd (kq≤kj12)∧Sd (Kd.R (Kd.int .u8) 5 wc w.heap.size (fun k_=>(w.heap.size≤k_)) ev br)∧Sd (wc.heap[ba]?=some (.cells #[.int .i32 ac,.int .i32 af,.int .i32 ag,.int .i32 ad,.int .i32 ah,.int .i32 ai,.int .i32 ae] 23 (0,0)))∧Sd (Below w.heap.size w wc))
       case first=>
        have H:=eu.out
        clear eu
        by_cases c22:cX=0
        rotate_left
        ·rw [if_neg c22] at H
         have aI:(cX == 0)=false:=beq_eq_false_iff_ne.mpr c22
         have bE:(cX != 0)=true:=bne_iff_ne.mpr c22
         (first|rw [aI]|(simp only [i64_w,i32_w];rw [aI])|rw [bE]|skip)
         have H':=Sd.mk H
         clear H
         go_wp2
         repeat (go_quiet (fail);try go_wp2)
         go_meet
         case rel=>exact ⟨_,(true),(by first|rfl|(simp;done)|(simp [*];done)),H',⟨by have:=HJ2.out;have:=HJ7.out;have:=HJ12.out;first|omega|exact Nat.le_refl _⟩,⟨by (with_reducible repeat (first|apply Kd.R_alloc|apply Kd.R_drewN|apply Kd.R_drew));exact Kd.R_mono cY.out (fun _ hk=>hk.1)⟩,⟨ko am⟩,⟨bl HB⟩⟩
        rw [if_pos c22] at H
        have aI:(cX == 0)=true:=beq_iff_eq.mpr c22
        have bE:(cX != 0)=false:=bne_eq_false_iff_eq.mpr c22
        clear c22
        (first|rw [aI]|(simp only [i64_w,i32_w];rw [aI])|rw [bE]|skip)
        by_cases c23:(bb.length:Int)=0
        ·rw [if_pos c23] at H
         have dN:((bb.length:Int) == 0)=true:=beq_iff_eq.mpr c23
         have dO:((bb.length:Int) != 0)=false:=bne_eq_false_iff_eq.mpr c23
         clear c23
         have H':=Sd.mk H
         clear H
         go_wp2
         repeat (go_quiet (fail);try go_wp2)
         go_meet
         case rel=>exact ⟨_,(true),(by first|rfl|(simp;done)|(simp [*];done)),H',⟨by have:=HJ2.out;have:=HJ7.out;have:=HJ12.out;first|omega|exact Nat.le_refl _⟩,⟨by (with_reducible repeat (first|apply Kd.R_alloc|apply Kd.R_drewN|apply Kd.R_drew));exact Kd.R_mono cY.out (fun _ hk=>hk.1)⟩,⟨ko am⟩,⟨bl HB⟩⟩
        rw [if_neg c23] at H
        have dN:((bb.length:Int) == 0)=false:=beq_eq_false_iff_ne.mpr c23
        have dO:((bb.length:Int) != 0)=true:=bne_iff_ne.mpr c23
        have ej:¬ (bb=[]):=fun h_=>c23 (by rw [h_];rfl)
        have H':=Sd.mk H
        clear H
        go_wp2
        repeat (go_quiet (fail);try go_wp2)
        go_meet
        case rel=>exact ⟨_,(decide ((bb.length:Int)>40)),(by first|rfl|(simp;done)|(simp [*];done)),H',⟨by have:=HJ2.out;have:=HJ7.out;have:=HJ12.out;first|omega|exact Nat.le_refl _⟩,⟨by (with_reducible repeat (first|apply Kd.R_alloc|apply Kd.R_drewN|apply Kd.R_drew));exact Kd.R_mono cY.out (fun _ hk=>hk.1)⟩,⟨ko am⟩,⟨bl HB⟩⟩
       case rest=>
        clear eu
        try clear c1
        try clear q1
        try clear c2
        try clear p2
        try clear p3
        try clear q3
        try clear hx3
        try clear qi3
        try clear c5
        try clear bP
        try clear ct
        try clear c6
        try clear bQ
        try clear cL
        try clear c9
        try clear c10
        try clear bL
        try clear ch
        try clear c11
        try clear dj
        try clear dk
        try clear c14
        try clear c15
        try clear cS
        try clear cT
        try clear c16
        try clear q16
        try clear c22
        try clear aI
        try clear bE
        try clear c23
        try clear dN
        try clear dO
        try clear ej
        try clear cQ
        try clear dH
        try clear dJ
        try clear cR
        try clear dI
        try clear dK
        try clear bh
        try clear bw
        try clear p2
        try clear p3
        try clear cU
        try clear df
        try clear q1
        try clear q16
        try clear q3
        try clear cV
        try clear dg
        obtain ⟨kq,cv,rfl,HA,HJ17,HO_7,am,HB⟩:=hcut
        cases kq with
        | zero=>exact absurd HA.out (by simp [shape_power.j3])
        | succ kj17=>
         have H:=HA.out
         clear HA
         simp only [shape_power.j3] at H
         by_cases c24:cv=true
         ·subst c24
          rw [if_pos rfl] at H
          simp only [Option.some.injEq,Prod.mk.injEq] at H
          obtain ⟨rfl,rfl⟩:=H
          go_wp2
          repeat (go_quiet (fail);try go_wp2)
          go_ret2
          exact ⟨by first|rfl|(simp <;> rfl)|(simp [*] <;> rfl),bl HB⟩
         replace c24:=Bool.eq_false_iff.mpr c24
         subst c24
         rw [if_neg (show ¬ (false=true) by decide)] at H
         have H':=Sd.mk H
         clear H
         obtain ⟨ge,gg,gh⟩:=Kd.R_slice HO_7.out
         subst gh
         go_wp2
         repeat (go_quiet (fail);try go_wp2)
         go_loopg [10,61] kj17 (fun kq v10 v61 w'=>∃ (ck:Int) (aU:Int),v10 = .int .i64 ck∧v61 = .int .i64 aU∧Sd (shape_power.l0 kq cg ck br (br.length:Int) aU=some (r1,r2))∧Sd (kq≤kj17)∧Sd (Kd.R (Kd.int .u8) 5 w' w.heap.size (fun k_=>(w.heap.size≤k_)) (.slice ge br.length gg) br)∧Sd (w'.heap[ba]?=some (.cells #[.int .i32 ac,.int .i32 af,.int .i32 ag,.int .i32 ad,.int .i32 ah,.int .i32 ai,.int .i32 ae] 23 (0,0)))∧Sd (Below w.heap.size w w'))
         case atStart=>exact ⟨(0),(0),(by first|rfl|(simp;done)|(simp [*];done)),(by first|rfl|(simp;done)|(simp [*];done)),H',⟨Nat.le_refl _⟩,⟨ro HO_7⟩,⟨ko am⟩,⟨bl HB⟩⟩
         case round=>
          clear H'
          try clear c1
          try clear q1
          try clear c2
          try clear p2
          try clear p3
          try clear q3
          try clear hx3
          try clear qi3
          try clear c5
          try clear bP
          try clear ct
          try clear c6
          try clear bQ
          try clear cL
          try clear c9
          try clear c10
          try clear bL
          try clear ch
          try clear c11
          try clear dj
          try clear dk
          try clear c14
          try clear c15
          try clear cS
          try clear cT
          try clear c16
          try clear q16
          try clear c22
          try clear aI
          try clear bE
          try clear c23
          try clear dN
          try clear dO
          try clear ej
          try clear c24
          try clear cQ
          try clear dH
          try clear dJ
          try clear cR
          try clear dI
          try clear dK
          try clear bh
          try clear bw
          try clear p2
          try clear p3
          try clear cU
          try clear df
          try clear q1
          try clear q16
          try clear q3
          try clear cV
          try clear dg
          obtain ⟨ck,aU,rfl,rfl,HA,HK5,HO_59,am,HB⟩:=hrel
          cases gk with
          | zero=>exact absurd HA.out (by simp [shape_power.l0])
          | succ k5=>
           have H:=HA.out
           clear HA
           simp only [shape_power.l0] at H
           by_cases c26:aU<(br.length:Int)
           ·rw [if_pos c26] at H
            have fh:=decide_eq_true c26
            clear c26
            by_cases c27:0≤aU
            rotate_left
            ·rw [if_neg c27] at H
             exact absurd H (by simp)
            rw [if_pos c27] at H
            have hM:=decide_eq_true c27
            clear c27
            by_cases c28:aU<(br.length:Int)
            rotate_left
            ·rw [if_neg c28] at H
             exact absurd H (by simp)
            rw [if_pos c28] at H
            have hN:=decide_eq_true c28
            clear c28
            obtain ⟨ew,dl⟩:∃ j_:Int,(mn (wrap64 ((wrap64 (ck * 10))+(wrap64 (rd br aU)))) 100001)=j_:=⟨_,rfl⟩
            replace H:(shape_power.l0 k5 cg ew br (br.length:Int) (wrap64 (aU+1)))=some (r1,r2):=by first|(rw [dl] at H;exact H)|(simp only [dl] at H ⊢;exact H)
            have gi:(if 100001<(wrap64 ((wrap64 (ck * 10))+(wrap64 (rd br aU)))) then 100001 else (wrap64 ((wrap64 (ck * 10))+(wrap64 (rd br aU)))))=ew:=dl
            have H':=Sd.mk H
            clear H
            have ex:0≤(aU:Int):=of_decide_eq_true (by first|(with_reducible assumption)|assumption)
            have ey:aU<(br.length:Int):=of_decide_eq_true (by first|(with_reducible assumption)|assumption)
            obtain ⟨hO,gj,fy⟩:=Kd.at_int (Kd.R_reads' HO_59.out).2.2 aU ex ey
            cases gj
            replace ex:=eq_true ex
            replace ey:=eq_true ey
            go_wp2
            repeat (go_quiet (fail);try go_wp2)
            go_roundg k5
            case measure=>have:=HJ2.out;have:=HJ7.out;have:=HJ12.out;have:=HJ17.out;have:=HK5.out;omega
            case rel=>exact ⟨(ew),(wrap64 (aU+1)),(by first|rfl|(simp;done)|(simp only [← dl] <;> (first|rfl|simp))|(simp [*];done)),(by first|rfl|(simp;done)|(simp [*];done)),H',⟨by have:=HJ2.out;have:=HJ7.out;have:=HJ12.out;have:=HJ17.out;have:=HK5.out;omega⟩,⟨ro HO_59⟩,⟨ko am⟩,⟨bl HB⟩⟩
           rw [if_neg c26] at H
           have fh:=decide_eq_false c26
           clear c26
           by_cases c30:cg=true
           ·subst c30
            rw [if_pos rfl] at H
            simp only [Option.some.injEq,Prod.mk.injEq] at H
            obtain ⟨rfl,rfl⟩:=H
            go_wp2
            repeat (go_quiet (fail);try go_wp2)
            go_ret2
            exact ⟨by first|rfl|(simp <;> rfl)|(simp [*] <;> rfl),bl HB⟩
           replace c30:=Bool.eq_false_iff.mpr c30
           subst c30
           rw [if_neg (show ¬ (false=true) by decide)] at H
           simp only [Option.some.injEq,Prod.mk.injEq] at H
           obtain ⟨rfl,rfl⟩:=H
           go_wp2
           repeat (go_quiet (fail);try go_wp2)
           go_ret2
           exact ⟨by first|rfl|(simp <;> rfl)|(simp [*] <;> rfl),bl HB⟩
end Go.Proofs.YtklebhlanidloaaGreatDoor.PZ
end
end
