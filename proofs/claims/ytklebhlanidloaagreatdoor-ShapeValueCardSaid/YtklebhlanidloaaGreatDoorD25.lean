/- Texts of this seat, joined. Conditions: none beyond each statement's own. -/
import Derived.Test.YtklebhlanidloaaGreatDoorD23
set_option linter.all false
section
noncomputable section
namespace Go.Proofs.YtklebhlanidloaaGreatDoor.PZ
open Go.RowKit Go.Proofs.YtklebhlanidloaaGreatDoorW.PrintWords Go.Proofs.YtklebhlanidloaaGreatDoorW.PrintLast Go.Proofs.YtklebhlanidloaaGreatDoorW.PrintMore
attribute [local go_sem] max2_int min2_int max_two min_two max_three min_three max_four min_four   -- for this text's walks alone
def shape_Write.j0:Nat→Int→List Int→Int→Int→Int→Int→Int→Int→Int→List (S114)→List (S114)→List (S114)→List (S114)→Bool→Int→Int→Int→Int→Int→Int→Int→Int→Int→Bool→Int→Int→Option (List Int)
 | 0,_,_,_,_,_,_,_,_,_,_,_,_,_,_,_,_,_,_,_,_,_,_,_,_,_,_=>none
 | k+1,x11,x12,ck,cl,cm,bX,bY,cn,b0,fo,fp,fq,fs,ft,fu,fv,fw,fx,fy,fz,fA,fB,b1,dO,fC,fD=>if b1=0 then (some x12) else (if x12.length<35184372088832 then ((some (x12 ++ [b0]:List Int)).bind fun aC=>(if x11<0 then (if aC.length<35184372088832 then ((some (aC ++ [bX]:List Int)).bind fun bM=>((shape_digitsOf.f k ck cl cm bX bY cn b0 (mx x11 (wrap64 (-x11))) b1).bind fun bj=>(if bM.length+bj.length<35184372088832 then (some (bM ++ bj)) else (none)))) else (none)) else (if dO=true then (if aC.length<35184372088832 then ((some (aC ++ [bY]:List Int)).bind fun bN=>((shape_digitsOf.f k ck cl cm bX bY cn b0 (mx x11 (wrap64 (-x11))) b1).bind fun bk=>(if bN.length+bk.length<35184372088832 then (some (bN ++ bk)) else (none)))) else (none)) else ((shape_digitsOf.f k ck cl cm bX bY cn b0 (mx x11 (wrap64 (-x11))) b1).bind fun bH=>(if aC.length+bH.length<35184372088832 then (some (aC ++ bH)) else (none)))))) else (none))
def shape_Write.f (k:Nat)(ac:Int)(af:Int)(ag:Int)(ad:Int)(ah:Int)(ai:Int)(ae:Int)(bc:List (S114))(bd:List (S114))(be:List (S114))(bf:List (S114))(bx:Bool)(bA:Int)(bB:Int)(bC:Int)(bD:Int)(aV:Int)(ar:Int)(ax:Int)(ay:Int)(ak:Int)(aw:Bool)(az:Int)(aA:Int)(a2:Int)(co:Bool)(bW:List Int)(cp:Int):Option (List Int):=(shape_Figures.f bc bd be bf bx bA bB bC bD aV ar ax ay ak aw az aA a2 co bW cp).bind fun bm=>((sym_Grouped.f k ac af ag ad ah ai ae bm.1 aV ar).bind fun bO=>(if (bm.2.1.length:Int)>0 then (if bO.length<35184372088832 then ((some (bO ++ [af]:List Int)).bind fun b8=>((sym_Digits.f k ac af ag ad ah ai ae bm.2.1).bind fun bI=>(if b8.length+bI.length<35184372088832 then (shape_Write.j0 k bm.2.2 (b8 ++ bI) ac af ag ad ah ai ae bc bd be bf bx bA bB bC bD aV ar ax ay ak aw az aA) else (none)))) else (none)) else (shape_Write.j0 k bm.2.2 bO ac af ag ad ah ai ae bc bd be bf bx bA bB bC bD aV ar ax ay ak aw az aA)))
theorem shape_Write.mono_l:∀ k,(∀ y0 y1 y2 y3 y4 y5 y6 y7 y8 y9 y10 y11 y12 y13 y14 y15 y16 y17 y18 y19 y20 y21 y22 y23 y24 y25,LeO (shape_Write.j0 k y0 y1 y2 y3 y4 y5 y6 y7 y8 y9 y10 y11 y12 y13 y14 y15 y16 y17 y18 y19 y20 y21 y22 y23 y24 y25) (shape_Write.j0 (k+1) y0 y1 y2 y3 y4 y5 y6 y7 y8 y9 y10 y11 y12 y13 y14 y15 y16 y17 y18 y19 y20 y21 y22 y23 y24 y25))
 | 0=>fun _ _ _ _ _ _ _ _ _ _ _ _ _ _ _ _ _ _ _ _ _ _ _ _ _ _ r h=>by simp [shape_Write.j0] at h
 | k+1=>by
  have ih0:=shape_Write.mono_l k
  ·intro y0 y1 y2 y3 y4 y5 y6 y7 y8 y9 y10 y11 y12 y13 y14 y15 y16 y17 y18 y19 y20 y21 y22 y23 y24 y25
   unfold shape_Write.j0
   repeat' first|(with_reducible first|apply ih0|apply shape_digitsOf.mono|apply sym_Digits.mono|apply sym_Grouped.mono|apply LeO.refl|apply LeO.none|refine LeO.ite ?_ ?_|refine LeO.bind ?_ (fun _=>?_))|apply ih0|apply shape_digitsOf.mono|apply sym_Digits.mono|apply sym_Grouped.mono|apply LeO.none
theorem shape_Write.mono:∀ a0 a1 a2 a3 a4 a5 a6 a7 a8 a9 a10 a11 a12 a13 a14 a15 a16 a17 a18 a19 a20 a21 a22 a23 a24 a25 a26 a27 k,LeO (shape_Write.f k a0 a1 a2 a3 a4 a5 a6 a7 a8 a9 a10 a11 a12 a13 a14 a15 a16 a17 a18 a19 a20 a21 a22 a23 a24 a25 a26 a27) (shape_Write.f (k+1) a0 a1 a2 a3 a4 a5 a6 a7 a8 a9 a10 a11 a12 a13 a14 a15 a16 a17 a18 a19 a20 a21 a22 a23 a24 a25 a26 a27):=by
 intro a0 a1 a2 a3 a4 a5 a6 a7 a8 a9 a10 a11 a12 a13 a14 a15 a16 a17 a18 a19 a20 a21 a22 a23 a24 a25 a26 a27 k
 have ih0:=shape_Write.mono_l k
 unfold shape_Write.f
 repeat' first|(with_reducible first|apply ih0|apply shape_digitsOf.mono|apply sym_Digits.mono|apply sym_Grouped.mono|apply LeO.refl|apply LeO.none|refine LeO.ite ?_ ?_|refine LeO.bind ?_ (fun _=>?_))|apply ih0|apply shape_digitsOf.mono|apply sym_Digits.mono|apply sym_Grouped.mono|apply LeO.none
def shape_Write.T4:Bool×List (List Nat×List Nat):=(true,[([],[]),([],[]),([1],[1]),([2],[2]),([0,3],[0,3]),([],[]),([],[]),([5,6,4],[5,6]),([4,7,7],[4,7]),([8,8,0,1,2,3,4,5,6,7,8],[0,8])])
def shape_Write.B4:List Nat:=[0,0,2,6,15,0,0,127,255,511]
theorem shape_Write.tab4:rtab .any (opsOf Tryz.f22 4)=shape_Write.T4:=by kernel_rfl
theorem shape_Write.bits4:waitsOk shape_Write.T4.2 shape_Write.B4=true:=by kernel_rfl
set_option maxHeartbeats 8000000 in
set_option maxRecDepth 100000 in
theorem shape_Write.calls (k:Nat)(ac:Int)(af:Int)(ag:Int)(ad:Int)(ah:Int)(ai:Int)(ae:Int)(dn:Option Addr)(dp:Nat)(bc:List (S114))(dq:Option Addr)(dr:Nat)(bd:List (S114))(dt:Option Addr)(du:Nat)(be:List (S114))(dv:Option Addr)(dw:Nat)(bf:List (S114))(bx:Bool)(bA:Int)(bB:Int)(bC:Int)(bD:Int)(aV:Int)(ar:Int)(ax:Int)(ay:Int)(ak:Int)(aw:Bool)(az:Int)(aA:Int)(a2:Int)(co:Bool)(dx:Option Addr)(dy:Nat)(bW:List Int)(cp:Int)(r:List Int)(w:World)(hG:GL w)(dY:Kd.C k114 w dn bc.length bc)(dZ:bc.length≤dp)(d0:Kd.C k114 w dq bd.length bd)(d1:bd.length≤dr)(d2:Kd.C k114 w dt be.length be)(d3:be.length≤du)(d4:Kd.C k114 w dv bf.length bf)(d5:bf.length≤dw)(d6:Kd.C (Kd.int .u8) w dx bW.length bW)(d7:bW.length≤dy)(h:shape_Write.f k ac af ag ad ah ai ae bc bd be bf bx bA bB bC bD aV ar ax ay ak aw az aA a2 co bW cp=some r) :
  Calls Tryz.prog 22 #[.agg #[.int .i32 ac,.int .i32 af,.int .i32 ag,.int .i32 ad,.int .i32 ah,.int .i32 ai,.int .i32 ae],.agg #[.slice dn bc.length dp,.slice dq bd.length dr,.slice dt be.length du,.slice dv bf.length dw,.bool bx,.int .i64 bA,.int .i64 bB,.int .i64 bC,.int .i64 bD,.int .i64 aV,.int .i64 ar,.int .i64 ax,.int .i64 ay,.int .i64 ak,.bool aw,.int .i32 az,.int .i64 aA],.int .i64 a2,.agg #[.bool co,.slice dx bW.length dy,.int .i64 cp]] w fun e w'=>∃ v0_:Value,e = .returned (v0_)∧Kd.R (Kd.int .i32) 21 w' w.heap.size (fun _=>True) v0_ r∧Below w.heap.size w w':=by
 have hu23:=Tryz.underlying23
 have hu26:=Tryz.underlying26
 have hu29:=Tryz.underlying29
 have ey:=zS dY
 have ez:=zS dZ
 clear dY dZ
 have eA:=zS d0
 have eB:=zS d1
 clear d0 d1
 have eC:=zS d2
 have eD:=zS d3
 clear d2 d3
 have eE:=zS d4
 have eF:=zS d5
 clear d4 d5
 have eG:=zS d6
 have eH:=zS d7
 clear d6 d7
 have HB:=zS (Below.refl w.heap.size w)
 have HG:=zS hG
 clear hG
 have H:((shape_Figures.f bc bd be bf bx bA bB bC bD aV ar ax ay ak aw az aA a2 co bW cp).bind fun bm=>((sym_Grouped.f k ac af ag ad ah ai ae bm.1 aV ar).bind fun bO=>(if (bm.2.1.length:Int)>0 then (if bO.length<35184372088832 then ((some (bO ++ [af]:List Int)).bind fun b8=>((sym_Digits.f k ac af ag ad ah ai ae bm.2.1).bind fun bI=>(if b8.length+bI.length<35184372088832 then (shape_Write.j0 k bm.2.2 (b8 ++ bI) ac af ag ad ah ai ae bc bd be bf bx bA bB bC bD aV ar ax ay ak aw az aA) else (none)))) else (none)) else (shape_Write.j0 k bm.2.2 bO ac af ag ad ah ai ae bc bd be bf bx bA bB bC bD aV ar ax ay ak aw az aA))))=some r:=h
 clear h
 replace H:=Option.bind_eq_some_iff.mp H
 obtain ⟨⟨ej,cq,aq⟩,A50,H⟩:=H
 try dsimp only at H
 have A5:=zS A50
 clear A50
 replace H:=Option.bind_eq_some_iff.mp H
 obtain ⟨bO,A60,H⟩:=H
 try dsimp only at H
 have A6:=zS A60
 clear A60
 have HC7:=zS H
 clear H
 go_enter Tryz.func22,Tryz.ntmps22
 go_upto_if 30 with (first|((with_reducible refine gate_dst (N:=4) rfl ?_);refine box_event ?hg (N:=4) ?hd (cs:=#[.int .i32 ac,.int .i32 af,.int .i32 ag,.int .i32 ad,.int .i32 ah,.int .i32 ai,.int .i32 ae]) (t:=23) ?hr ?_;(case hd=>rfl);(case hg=>rfl);(case hr=>first|(go_simp;done)|(go_simp;rfl));intro bR hg w8 hbox hb;have aa:=zS (hbox);have gr:=bg HB hg;replace HB:=bs HB hb;clear hb hbox hg)|((with_reducible refine gate_dst (N:=5) rfl ?_);refine box_event ?hg (N:=5) ?hd (cs:=#[.slice dn bc.length dp,.slice dq bd.length dr,.slice dt be.length du,.slice dv bf.length dw,.bool bx,.int .i64 bA,.int .i64 bB,.int .i64 bC,.int .i64 bD,.int .i64 aV,.int .i64 ar,.int .i64 ax,.int .i64 ay,.int .i64 ak,.bool aw,.int .i32 az,.int .i64 aA]) (t:=26) ?hr ?_;(case hd=>rfl);(case hg=>rfl);(case hr=>first|(go_simp;done)|(go_simp;rfl));intro eI hg w9 hbox hb;have ab:=zS (hbox);have gs:=bg HB hg;replace HB:=bs HB hb;have aW:=kn aa hg;have aX:=km aa hg;replace aa:=kb aa hb;clear hb hbox hg)|((with_reducible refine gate_dst (N:=7) rfl ?_);refine box_event ?hg (N:=7) ?hd (cs:=#[.bool co,.slice dx bW.length dy,.int .i64 cp]) (t:=29) ?hr ?_;(case hd=>rfl);(case hg=>rfl);(case hr=>first|(go_simp;done)|(go_simp;rfl));intro eJ hg w10 hbox hb;have aj:=zS (hbox);have gt:=bg HB hg;replace HB:=bs HB hb;have bu:=kn aa hg;have bv:=km aa hg;replace aa:=kb aa hb;have aY:=kn ab hg;have aZ:=km ab hg;replace ab:=kb ab hb;clear hb hbox hg;have gu:=aX.out;have gv:=aW.out;have gw:=aY.out;have gx:=aZ.out;have eK:=blkc17 ab.out;have eL:=blkf17 ab.out;have gy:=bv.out;have gz:=bu.out;have eM:=blkc3 aj.out;have eN:=blkf3 aj.out)|((with_reducible refine gate_callee (f:=17) rfl ?_);refine gL (some 17) Tryz.func17 #[.agg #[.slice dn bc.length dp,.slice dq bd.length dr,.slice dt be.length du,.slice dv bf.length dw,.bool bx,.int .i64 bA,.int .i64 bB,.int .i64 bC,.int .i64 bD,.int .i64 aV,.int .i64 ar,.int .i64 ax,.int .i64 ay,.int .i64 ak,.bool aw,.int .i32 az,.int .i64 aA],.int .i64 a2,.agg #[.bool co,.slice dx bW.length dy,.int .i64 cp]] ?_;(with_reducible refine (shape_Figures.calls _ _ bc _ _ bd _ _ be _ _ bf bx bA bB bC bD aV ar ax ay ak aw az aA a2 co _ _ bW cp ej cq aq _ (cb ey HB) ez.out (cb eA HB) eB.out (cb eC HB) eD.out (cb eE HB) eF.out (cb eG HB) eH.out A5.out).mono ?_);rintro e w16 ⟨hV,hW,rfl,ho0,ho1,hb⟩;refine ⟨_,rfl,?_⟩;have aG:=zS (Kd.R_lower ho0 (bz HB));have aH:=zS (Kd.R_lower ho1 (bz HB));replace aa:=kb aa hb;replace ab:=kb ab hb;replace aj:=kb aj hb;replace HB:=bs HB hb;(try clear hb);(try clear ho0);(try clear ho1);have eO:=blkc7 aa.out;have eP:=blkf7 aa.out;have d8:=blkc17 ab.out;have d9:=blkf17 ab.out;obtain ⟨fF,fG,fH⟩:=Kd.R_slice aG.out;subst fH)|((with_reducible refine gate_callee (f:=49) rfl ?_);refine gL (some 27) Tryz.func49 #[.agg #[.int .i32 ac,.int .i32 af,.int .i32 ag,.int .i32 ad,.int .i32 ah,.int .i32 ai,.int .i32 ae],.slice fF ej.length fG,.int .i64 aV,.int .i64 ar] ?_;(with_reducible refine (sym_Grouped.calls k ac af ag ad ah ai ae _ _ ej aV ar bO _ (rc aG) (rl aG) A6.out).mono ?_);rintro e w20 ⟨fI,rfl,ho0,hb⟩;refine ⟨_,rfl,?_⟩;replace aG:=rb aG hb;replace aH:=rb aH hb;have bn:=zS (Kd.R_lower ho0 (bz HB));replace aa:=kb aa hb;replace ab:=kb ab hb;replace aj:=kb aj hb;replace HB:=bs HB hb;(try clear hb);(try clear hb2);(try clear hk);(try clear hi);(try clear ho0);obtain ⟨fJ,fK,fL⟩:=Kd.R_slice aH.out;subst fL))
 (try simp only [Act.put,sA,sB,sC])
 go_cut [12] (fun v12 wc=>∃ (kq:Nat) (bS:List Int),Sd (shape_Write.j0 kq aq bS ac af ag ad ah ai ae bc bd be bf bx bA bB bC bD aV ar ax ay ak aw az aA=some r)∧Sd (kq≤k)∧Sd (Kd.R (Kd.int .i32) 21 wc w.heap.size (fun _=>True) v12 bS)∧Sd (wc.heap[bR]?=some (.cells #[.int .i32 ac,.int .i32 af,.int .i32 ag,.int .i32 ad,.int .i32 ah,.int .i32 ai,.int .i32 ae] 23 (0,0)))∧Sd (wc.heap[eI]?=some (.cells #[(.slice dn bc.length dp),(.slice dq bd.length dr),(.slice dt be.length du),(.slice dv bf.length dw),.bool bx,.int .i64 bA,.int .i64 bB,.int .i64 bC,.int .i64 bD,.int .i64 aV,.int .i64 ar,.int .i64 ax,.int .i64 ay,.int .i64 ak,.bool aw,.int .i32 az,.int .i64 aA] 26 (0,0)))∧Sd (wc.heap[eJ]?=some (.cells #[.bool co,(.slice dx bW.length dy),.int .i64 cp] 29 (0,0)))∧Sd (Below w.heap.size w wc))
 case first=>
  have H:=HC7.out
  clear HC7
  by_cases c22:(cq.length:Int)>0
  rotate_left
  ·rw [if_neg c22] at H
   have aI:decide (0<(cq.length:Int))=false:=zD c22
   have bE:decide (0<cq.length)=false:=zD (by omega)
   clear c22
   (first|rw [aI]|(simp only [i64_w,i32_w];rw [aI])|rw [bE]|skip)
   have H':=zS H
   clear H
   go_wp2
   go_meet
   case rel=>exact ⟨_,(bO),H',⟨by first|omega|exact Nat.le_refl _⟩,⟨ro bn⟩,⟨ko aa⟩,⟨ko ab⟩,⟨ko aj⟩,⟨bl HB⟩⟩
  rw [if_pos c22] at H
  have aI:decide (0<(cq.length:Int))=true:=zC c22
  have bE:decide (0<cq.length)=true:=zC (by omega)
  clear c22
  (first|rw [aI]|(simp only [i64_w,i32_w];rw [aI])|rw [bE]|skip)
  by_cases c23:bO.length<35184372088832
  rotate_left
  ·rw [if_neg c23] at H
   exact absurd H (by simp)
  rw [if_pos c23] at H
  have LMc23:=zS c23
  clear c23
  obtain ⟨b8,cv⟩:∃ y_:List Int,y_=(bO ++ [af]):=⟨_,rfl⟩
  replace H:((sym_Digits.f k ac af ag ad ah ai ae cq).bind fun bI=>(if b8.length+bI.length<35184372088832 then (shape_Write.j0 k aq (b8 ++ bI) ac af ag ad ah ai ae bc bd be bf bx bA bB bC bD aV ar ax ay ak aw az aA) else (none)))=some r:=by first|(rw [cv];with_reducible exact H)|(have H2_:=(Option.bind_some _ _).symm.trans H;rw [cv];with_reducible exact H2_)|(have H2_:=(Option.bind_some _ _).symm.trans H;with_reducible exact H2_)|with_reducible exact H|(rw [cv];exact H)|exact H
  have eQ:=zS cv
  clear cv
  replace H:=Option.bind_eq_some_iff.mp H
  obtain ⟨bI,eR,H⟩:=H
  try dsimp only at H
  have A24:=zS eR
  clear eR
  by_cases c25:b8.length+bI.length<35184372088832
  rotate_left
  ·rw [if_neg c25] at H
   exact absurd H (by simp)
  rw [if_pos c25] at H
  have LMc25:=zS c25
  clear c25
  obtain ⟨eS,cw⟩:∃ y_:List Int,y_=(b8 ++ bI):=⟨_,rfl⟩
  replace H:(shape_Write.j0 k aq eS ac af ag ad ah ai ae bc bd be bf bx bA bB bC bD aV ar ax ay ak aw az aA)=some r:=by first|(rw [cw];with_reducible exact H)|(have H2_:=(Option.bind_some _ _).symm.trans H;rw [cw];with_reducible exact H2_)|(have H2_:=(Option.bind_some _ _).symm.trans H;with_reducible exact H2_)|with_reducible exact H|(rw [cw];exact H)|exact H
  have eT:=zS cw
  clear cw
  have H':=zS H
  clear H
  try go_wp2
  replace aG:=zS (Kd.R_drew aG.out)
  replace aH:=zS (Kd.R_drew aH.out)
  replace bn:=zS (Kd.R_drew bn.out)
  replace aa:=zS (blk_drew aa.out)
  replace ab:=zS (blk_drew ab.out)
  replace aj:=zS (blk_drew aj.out)
  replace HB:=zS (below_drew1 HB.out)
  refine start_ (n:=10) (S:=fun w'=>w'.cell? ⟨bR,0,none⟩=some (.int .i32 ac)∧w'.cell? ⟨bR,1,none⟩=some (.int .i32 af)∧w'.cell? ⟨bR,2,none⟩=some (.int .i32 ag)∧w'.cell? ⟨bR,3,none⟩=some (.int .i32 ad)∧w'.cell? ⟨bR,4,none⟩=some (.int .i32 ah)∧w'.cell? ⟨bR,5,none⟩=some (.int .i32 ai)∧w'.cell? ⟨bR,6,none⟩=some (.int .i32 ae)) (ds:=[]) (bZ 10 0) (by kernel_rfl) rfl (by kernel_rfl) ⟨(blk_cell aa.out 0).trans rfl,(blk_cell aa.out 1).trans rfl,(blk_cell aa.out 2).trans rfl,(blk_cell aa.out 3).trans rfl,(blk_cell aa.out 4).trans rfl,(blk_cell aa.out 5).trans rfl,(blk_cell aa.out 6).trans rfl⟩ (fun hHeld=>?_);refine with_tabW shape_Write.tab4 shape_Write.bits4 (fun HT_ HW_=>?_)
  generalize w20.drew=w26 at aG aH bn aa ab aj HB hHeld ⊢
  refine p1 0 31 1 HT_ (v:=?_) ?_ (a':=?_) ?_ ?_
  rotate_left
  ·intro w';go_simp;with_reducible rfl
  rotate_left
  ·simp only [Act.put,sA,sB,sC,i64_w,i32_w];rfl
  refine p1 1 32 3 HT_ (v:=?_) ?_ (a':=?_) ?_ ?_
  rotate_left
  ·intro w';go_simp;with_reducible rfl
  rotate_left
  ·simp only [Act.put,sA,sB,sC,i64_w,i32_w];rfl
  refine p1 6 37 67 HT_ (v:=?_) ?_ (a':=?_) ?_ ?_
  rotate_left
  ·intro w';go_simp;with_reducible rfl
  rotate_left
  ·simp only [Act.put,sA,sB,sC,i64_w,i32_w];rfl
  refine p2 2 33 71 HT_ HW_ (v:=?_) ?_ hHeld (a':=?_) ?_ ?_
  rotate_left
  ·rintro w' ⟨s0,s1,s2,s3,s4,s5,s6⟩;go_simp;with_reducible rfl
  rotate_left
  ·simp only [Act.put,sA,sB,sC,i64_w,i32_w];rfl
  refine p2 5 36 103 HT_ HW_ (v:=?_) ?_ hHeld (a':=?_) ?_ ?_
  rotate_left
  ·rintro w' ⟨s0,s1,s2,s3,s4,s5,s6⟩;go_simp;with_reducible rfl
  rotate_left
  ·simp only [Act.put,sA,sB,sC,i64_w,i32_w];rfl
  refine one_ (i:=3) (N:=some 34) (bZ 10 111) rfl rfl (one_of HT_.out (by kernel_rfl)) (by decide) (fun K hK=>?_)
  refine value_ (w1:=?_) (v:=?_) (by rfl) rfl ?_ ?_
  rotate_left 2
  ·go_simp
   constructor
   ·rfl
   rfl
  refine hK.out _ _ ⟨(blk_cell (blk_alloc aa.out _) 0).trans rfl,(blk_cell (blk_alloc aa.out _) 1).trans rfl,(blk_cell (blk_alloc aa.out _) 2).trans rfl,(blk_cell (blk_alloc aa.out _) 3).trans rfl,(blk_cell (blk_alloc aa.out _) 4).trans rfl,(blk_cell (blk_alloc aa.out _) 5).trans rfl,(blk_cell (blk_alloc aa.out _) 6).trans rfl⟩ (fun hHeld=>?_)
  clear hK K
  refine norm_ (a':=?_) ?_ ?_
  rotate_left
  ·show Act.put _ (some 34) _=_
   simp only [Act.put,sA,sB,sC,i64_w,i32_w]
   rfl
  refine one_ (i:=4) (N:=some 35) (bZ 10 127) rfl rfl (one_of HT_.out (by kernel_rfl)) (by decide) (fun K hK=>?_)
  refine Kd.R_append_step (Kd.int .i32) (w0:=w) w.heap.size (by rfl) (.tmp 31) (.tmp 34) 46 21 (.int .i32 0) 4 rfl Tryz.underlying46 info21 rfl (by decide) (by omega) fI bO af [.int .i32 af] (fun _=>True) (fun _=>False) rfl rfl ?aP (fun _ hk=>hk.elim) ?aF ?aO ?aB ?aS ?aL ?_
  (case aP=>exact rfl)
  (case aB=>exact (bl HB))
  (case aF=>exact (fun _ _=>trivial))
  (case aO=>exact (ro bn))
  (case aS=>exact (bz HB))
  (case aL=>have:=LMc23.out;omega)
  intro fM w27 ho hb hg hat
  rw [← eQ.out] at ho
  replace aa:=zS (blk_grown (ko aa) hg (Kd.R_ne bn.out aa.out (by decide)))
  replace ab:=zS (blk_grown (ko ab) hg (Kd.R_ne bn.out ab.out (by decide)))
  replace aj:=zS (blk_grown (ko aj) hg (Kd.R_ne bn.out aj.out (by decide)))
  replace aG:=zS (Kd.R_over' (ro aG) (Kd.R_typed (ro bn)) (by decide) hg)
  replace aH:=zS (Kd.R_over' (ro aH) (Kd.R_typed (ro bn)) (by decide) hg)
  replace HB:=zS (hb)
  have bF:=zS (ho)
  clear bn
  clear ho hb hg hat
  refine hK.out _ _ ⟨(blk_cell aa.out 0).trans rfl,(blk_cell aa.out 1).trans rfl,(blk_cell aa.out 2).trans rfl,(blk_cell aa.out 3).trans rfl,(blk_cell aa.out 4).trans rfl,(blk_cell aa.out 5).trans rfl,(blk_cell aa.out 6).trans rfl⟩ (fun hHeld=>?_)
  clear hK K
  refine norm_ (a':=?_) ?_ ?_
  rotate_left
  ·show Act.put _ (some 35) _=_
   simp only [Act.put,sA,sB,sC,i64_w,i32_w]
   rfl
  refine one_ (i:=7) (N:=some 38) (bZ 10 255) rfl rfl (one_of HT_.out (by kernel_rfl)) (by decide) (fun K hK=>?_)
  refine goes_ Tryz.func50 (by kernel_rfl) rfl #[.agg #[.int .i32 ac,.int .i32 af,.int .i32 ag,.int .i32 ad,.int .i32 ah,.int .i32 ai,.int .i32 ae],.slice fJ cq.length fK] (by rfl) rfl rfl (by (try simp only [mA,mB,mC]);first|done|rfl|(simp only [lD,lT];rfl)) ?_
  with_reducible refine (sym_Digits.calls k ac af ag ad ah ai ae _ _ cq bI _ ?side1 ?side2 A24.out).mono ?_
  (case side1=>exact (Kd.R_reads' aH.out).2.2)
  (case side2=>exact (Kd.R_reads' aH.out).2.1)
  rintro e w28 ⟨hX,rfl,ho0,hb⟩
  refine ⟨_,rfl,?_⟩
  replace aG:=rb aG hb
  replace aH:=rb aH hb
  have cx:=zS (Kd.R_lower (Kd.R_new' ho0 (Kd.R_lt (ro bF))) (bz HB))
  replace bF:=zS (Kd.R_elder' (ro bF) (Kd.R_base ho0) hb)
  replace aa:=kb aa hb
  replace ab:=kb ab hb
  replace aj:=kb aj hb
  replace HB:=bs HB hb
  (try clear hb)
  (try clear hb2)
  (try clear hk)
  (try clear hi)
  (try clear ho0)
  obtain ⟨ek,el,dP⟩:=Kd.R_slice cx.out
  (first|subst dP|(injection dP with f1_ f2_ f3_;have f4_:=f1_.symm;have f5_:=f3_.symm;clear f1_ f2_ f3_;subst f4_;subst f5_))
  refine hK.out _ _ ⟨(blk_cell aa.out 0).trans rfl,(blk_cell aa.out 1).trans rfl,(blk_cell aa.out 2).trans rfl,(blk_cell aa.out 3).trans rfl,(blk_cell aa.out 4).trans rfl,(blk_cell aa.out 5).trans rfl,(blk_cell aa.out 6).trans rfl⟩ (fun hHeld=>?_)
  clear hK K
  refine norm_ (a':=?_) ?_ ?_
  rotate_left
  ·show Act.put _ (some 38) _=_
   simp only [Act.put,sA,sB,sC,i64_w,i32_w]
   rfl
  refine one_ (i:=8) (N:=some 39) (bZ 10 511) rfl rfl (one_of HT_.out (by kernel_rfl)) (by decide) (fun K hK=>?_)
  refine Kd.R_append_rows_step (Kd.int .i32) (w0:=w) w.heap.size (by rfl) (.tmp 35) (.tmp 38) 46 21 (.int .i32 0) 4 rfl Tryz.underlying46 info21 rfl (by decide) (by omega) fM b8 bI _ _ _ (fun k_=>some k_≠(.slice ek bI.length el:Value).ownBlock) (fun _=>False) rfl rfl ?aO ?aR (fun _ _ h=>h) (fun _ h=>h.elim) ?aF ?aB ?aS ?aL ?_
  (case aR=>exact (Kd.R_reads' cx.out).2.2)
  (case aB=>exact (bl HB))
  (case aF=>exact (fun k_ hk=>Kd.fresh' (Kd.R_lt (ro cx)) k_ hk))
  (case aO=>exact (by (with_reducible repeat (first|apply Kd.R_alloc|apply Kd.R_drewN|apply Kd.R_drew));exact Kd.R_mono bF.out (fun _ hk=>hk.2)))
  (case aS=>exact (bz HB))
  (case aL=>have:=LMc25.out;omega)
  intro hY w29 ho hb hg hat
  rw [← eT.out] at ho
  replace aa:=zS (blk_grown (ko aa) hg (Kd.R_ne bF.out aa.out (by decide)))
  replace ab:=zS (blk_grown (ko ab) hg (Kd.R_ne bF.out ab.out (by decide)))
  replace aj:=zS (blk_grown (ko aj) hg (Kd.R_ne bF.out aj.out (by decide)))
  replace aG:=zS (Kd.R_over' (ro aG) (Kd.R_typed (ro bF)) (by decide) hg)
  replace aH:=zS (Kd.R_over' (ro aH) (Kd.R_typed (ro bF)) (by decide) hg)
  replace cx:=zS (Kd.R_after (ok:=(fun _=>True)) (ro cx) hg hat)
  replace HB:=zS (hb)
  have eU:=zS (ho)
  clear bF
  clear ho hb hg hat
  refine hK.out _ _ ⟨(blk_cell aa.out 0).trans rfl,(blk_cell aa.out 1).trans rfl,(blk_cell aa.out 2).trans rfl,(blk_cell aa.out 3).trans rfl,(blk_cell aa.out 4).trans rfl,(blk_cell aa.out 5).trans rfl,(blk_cell aa.out 6).trans rfl⟩ (fun hHeld=>?_)
  clear hK K
  refine norm_ (a':=?_) ?_ ?_
  rotate_left
  ·show Act.put _ (some 39) _=_
   simp only [Act.put,sA,sB,sC,i64_w,i32_w]
   rfl
  refine p1 9 12 1023 HT_ (v:=?_) ?_ (a':=?_) ?_ ?_
  rotate_left
  ·intro w';go_simp;with_reducible rfl
  rotate_left
  ·simp only [Act.put,sA,sB,sC,i64_w,i32_w];rfl
  refine done_ (done_of HT_.out (by kernel_rfl)) ?_
  try go_wp2
  go_meet
  case rel=>exact ⟨_,(eS),H',⟨by first|omega|exact Nat.le_refl _⟩,⟨by (with_reducible repeat (first|apply Kd.R_alloc|apply Kd.R_drewN|apply Kd.R_drew));exact Kd.R_mono eU.out (fun _ hk=>trivial)⟩,⟨ko aa⟩,⟨ko ab⟩,⟨ko aj⟩,⟨bl HB⟩⟩
 case rest=>
  clear HC7
  try clear c1
  try clear c2
  try clear p2
  try clear c3
  try clear c4
  try clear c5
  try clear c11
  try clear c12
  try clear c14
  try clear c17
  try clear c22
  try clear aI
  try clear bE
  try clear c23
  try clear c25
  try clear eK
  try clear eM
  try clear eO
  try clear d8
  try clear eL
  try clear eN
  try clear eP
  try clear d9
  obtain ⟨kq,bS,HA,HJ6,HO_12,aa,ab,aj,HB⟩:=hcut
  cases kq with
  | zero=>exact absurd HA.out (by simp [shape_Write.j0])
  | succ kj6=>
   have H:=HA.out
   clear HA
   simp only [shape_Write.j0] at H
   by_cases c31:ak=0
   ·rw [if_pos c31] at H
    have eV:(ak == 0)=true:=zH c31
    have eW:(ak != 0)=false:=zG c31
    clear c31
    obtain rfl:=zE H
    have gA:=aX.out
    have gB:=aW.out
    have gC:=aY.out
    have gD:=aZ.out
    have gE:=blkc17 ab.out
    have gF:=blkf17 ab.out
    go_wp2
    go_ret
    exact ⟨_,by first|rfl|(simp <;> rfl)|(simp [*] <;> rfl),by (with_reducible repeat (first|apply Kd.R_alloc|apply Kd.R_drewN|apply Kd.R_drew));exact HO_12.out,bl HB⟩
   rw [if_neg c31] at H
   have eV:(ak == 0)=false:=zF c31
   have eW:(ak != 0)=true:=zI c31
   by_cases c35:bS.length<35184372088832
   rotate_left
   ·rw [if_neg c35] at H
    exact absurd H (by simp)
   rw [if_pos c35] at H
   have LMc35:=zS c35
   clear c35
   obtain ⟨aC,cy⟩:∃ y_:List Int,y_=(bS ++ [ae]):=⟨_,rfl⟩
   replace H:(if aq<0 then (if aC.length<35184372088832 then ((some (aC ++ [ad]:List Int)).bind fun bM=>((shape_digitsOf.f kj6 ac af ag ad ah ai ae (mx aq (wrap64 (-aq))) ak).bind fun bj=>(if bM.length+bj.length<35184372088832 then (some (bM ++ bj)) else (none)))) else (none)) else (if aw=true then (if aC.length<35184372088832 then ((some (aC ++ [ah]:List Int)).bind fun bN=>((shape_digitsOf.f kj6 ac af ag ad ah ai ae (mx aq (wrap64 (-aq))) ak).bind fun bk=>(if bN.length+bk.length<35184372088832 then (some (bN ++ bk)) else (none)))) else (none)) else ((shape_digitsOf.f kj6 ac af ag ad ah ai ae (mx aq (wrap64 (-aq))) ak).bind fun bH=>(if aC.length+bH.length<35184372088832 then (some (aC ++ bH)) else (none)))))=some r:=by first|(rw [cy];with_reducible exact H)|(have H2_:=(Option.bind_some _ _).symm.trans H;rw [cy];with_reducible exact H2_)|(have H2_:=(Option.bind_some _ _).symm.trans H;with_reducible exact H2_)|with_reducible exact H|(rw [cy];exact H)|exact H
   have dz:=zS cy
   clear cy
   by_cases c36:aq<0
   ·rw [if_pos c36] at H
    have eX:=zC c36
    clear c36
    by_cases c37:aC.length<35184372088832
    rotate_left
    ·rw [if_neg c37] at H
     exact absurd H (by simp)
    rw [if_pos c37] at H
    have LMc37:=zS c37
    clear c37
    obtain ⟨bM,cz⟩:∃ y_:List Int,y_=(aC ++ [ad]):=⟨_,rfl⟩
    replace H:((shape_digitsOf.f kj6 ac af ag ad ah ai ae (mx aq (wrap64 (-aq))) ak).bind fun bj=>(if bM.length+bj.length<35184372088832 then (some (bM ++ bj)) else (none)))=some r:=by first|(rw [cz];with_reducible exact H)|(have H2_:=(Option.bind_some _ _).symm.trans H;rw [cz];with_reducible exact H2_)|(have H2_:=(Option.bind_some _ _).symm.trans H;with_reducible exact H2_)|with_reducible exact H|(rw [cz];exact H)|exact H
    have eY:=zS cz
    clear cz
    obtain ⟨dQ,cA⟩:∃ j_:Int,(mx aq (wrap64 (-aq)))=j_:=⟨_,rfl⟩
    replace H:((shape_digitsOf.f kj6 ac af ag ad ah ai ae (dQ) ak).bind fun bj=>(if bM.length+bj.length<35184372088832 then (some (bM ++ bj)) else (none)))=some r:=by first|(rw [cA] at H;exact H)|(simp only [cA] at H ⊢;exact H)
    have fN:(if aq<(wrap64 (-aq)) then (wrap64 (-aq)) else aq)=dQ:=cA
    replace H:=Option.bind_eq_some_iff.mp H
    obtain ⟨bj,eZ,H⟩:=H
    try dsimp only at H
    have A39:=zS eZ
    clear eZ
    by_cases c40:bM.length+bj.length<35184372088832
    rotate_left
    ·rw [if_neg c40] at H
     exact absurd H (by simp)
    rw [if_pos c40] at H
    have LMc40:=zS c40
    clear c40
    obtain ⟨fO,cB⟩:∃ y_:List Int,y_=(bM ++ bj):=⟨_,rfl⟩
    replace H:(some fO)=some r:=by first|(rw [cB];with_reducible exact H)|(have H2_:=(Option.bind_some _ _).symm.trans H;rw [cB];with_reducible exact H2_)|(have H2_:=(Option.bind_some _ _).symm.trans H;with_reducible exact H2_)|with_reducible exact H|(rw [cB];exact H)|exact H
    have e0:=zS cB
    clear cB
    obtain rfl:=zE H
    have gG:=aX.out
    have gH:=aW.out
    have gI:=aY.out
    have gJ:=aZ.out
    have gK:=blkc17 ab.out
    have gM:=blkf17 ab.out
    have gN:=bu.out
    have gO:=bv.out
    have gP:=blkc7 aa.out
    have gQ:=blkf7 aa.out
    go_wp2_with (first|((with_reducible refine gate_builtin (b:=.append) (xs:=#[.tmp 44,.tmp 47]) rfl ?_);at_builtin;refine Kd.R_append (Kd.int .i32) (w0:=w) w.heap.size rfl (.tmp 44) (.tmp 47) 46 21 (.int .i32 0) 4 rfl Tryz.underlying46 info21 rfl (by decide) (by omega) u12 bS ae [.int .i32 ae] (fun _=>True) (fun _=>False) rfl rfl ?aP (fun _ hk=>hk.elim) ?aF ?aO ?aB ?aS ?aL ?_;(case aP=>exact rfl);(case aB=>exact (bl HB));(case aF=>exact (fun _ _=>trivial));(case aO=>exact (ro HO_12));(case aS=>exact (bz HB));(case aL=>have:=LMc35.out;omega);intro dA w46 ho hb hg hat;rw [← dz.out] at ho;replace aa:=zS (blk_grown (ko aa) hg (Kd.R_ne HO_12.out aa.out (by decide)));replace ab:=zS (blk_grown (ko ab) hg (Kd.R_ne HO_12.out ab.out (by decide)));replace aj:=zS (blk_grown (ko aj) hg (Kd.R_ne HO_12.out aj.out (by decide)));replace HB:=zS (hb);have au:=zS (ho);clear HO_12;clear ho hb hg hat;have gR:=blkc7 aa.out;have gS:=blkf7 aa.out)|((with_reducible refine gate_builtin (b:=.append) (xs:=#[.tmp 52,.tmp 55]) rfl ?_);at_builtin;refine Kd.R_append (Kd.int .i32) (w0:=w) w.heap.size rfl (.tmp 52) (.tmp 55) 46 21 (.int .i32 0) 4 rfl Tryz.underlying46 info21 rfl (by decide) (by omega) dA aC ad [.int .i32 ad] (fun _=>True) (fun _=>False) rfl rfl ?aP (fun _ hk=>hk.elim) ?aF ?aO ?aB ?aS ?aL ?_;(case aP=>exact rfl);(case aB=>exact (bl HB));(case aF=>exact (fun _ _=>trivial));(case aO=>exact (ro au));(case aS=>exact (bz HB));(case aL=>have:=LMc37.out;omega);intro fP w48 ho hb hg hat;rw [← eY.out] at ho;replace aa:=zS (blk_grown (ko aa) hg (Kd.R_ne au.out aa.out (by decide)));replace ab:=zS (blk_grown (ko ab) hg (Kd.R_ne au.out ab.out (by decide)));replace aj:=zS (blk_grown (ko aj) hg (Kd.R_ne au.out aj.out (by decide)));replace HB:=zS (hb);have bT:=zS (ho);clear au;clear ho hb hg hat;have gT:=blkc7 aa.out;have gU:=blkf7 aa.out;have gV:=blkc17 ab.out;have gW:=blkf17 ab.out)|((with_reducible refine gate_callee (f:=51) rfl ?_);refine goesL_ (some 73) rfl rfl Tryz.func51 (by kernel_rfl) rfl #[.agg #[.int .i32 ac,.int .i32 af,.int .i32 ag,.int .i32 ad,.int .i32 ah,.int .i32 ai,.int .i32 ae],.int .i64 dQ,.int .i64 ak] rfl (by (try simp only [List.map_toArray,List.map_cons,List.map_nil]);first|done|(simp only [cA];rfl)|rfl|(simp only [List.length_drop,List.length_take];rfl)) ?_;(with_reducible refine (shape_digitsOf.calls kj6 ac af ag ad ah ai ae dQ ak bj _ ?side1 A39.out).mono ?_);(case side1=>refine GL.below HG.out ?_;exact bl HB);rintro e w51 ⟨hZ,rfl,ho0,hb⟩;refine ⟨_,rfl,?_⟩;have cC:=zS (Kd.R_lower (Kd.R_new' ho0 (Kd.R_lt (ro bT))) (bz HB));replace bT:=zS (Kd.R_elder' (ro bT) (Kd.R_base ho0) hb);replace aa:=kb aa hb;replace ab:=kb ab hb;replace aj:=kb aj hb;replace HB:=bs HB hb;(try clear hb);(try clear ho0);obtain ⟨fQ,fR,fS⟩:=Kd.R_slice cC.out;subst fS)|((with_reducible refine gate_builtin (b:=.append) (xs:=#[.tmp 65,.tmp 73]) rfl ?_);at_builtin;refine Kd.R_append_rows (Kd.int .i32) (w0:=w) w.heap.size rfl (.tmp 65) (.tmp 73) 46 21 (.int .i32 0) 4 rfl Tryz.underlying46 info21 rfl (by decide) (by omega) fP bM bj _ _ _ (fun k_=>some k_≠(.slice fQ bj.length fR:Value).ownBlock) (fun _=>False) rfl rfl ?aO ?aR (fun _ _ h=>h) (fun _ h=>h.elim) ?aF ?aB ?aS ?aL ?_;(case aR=>exact (Kd.R_reads' cC.out).2.2);(case aB=>exact (bl HB));(case aF=>exact (fun k_ hk=>Kd.fresh' (Kd.R_lt (ro cC)) k_ hk));(case aO=>exact (by (with_reducible repeat (first|apply Kd.R_alloc|apply Kd.R_drewN|apply Kd.R_drew));exact Kd.R_mono bT.out (fun _ hk=>hk.2)));(case aS=>exact (bz HB));(case aL=>have:=LMc40.out;omega);intro h0 w52 ho hb hg hat;rw [← e0.out] at ho;replace aa:=zS (blk_grown (ko aa) hg (Kd.R_ne bT.out aa.out (by decide)));replace ab:=zS (blk_grown (ko ab) hg (Kd.R_ne bT.out ab.out (by decide)));replace aj:=zS (blk_grown (ko aj) hg (Kd.R_ne bT.out aj.out (by decide)));replace cC:=zS (Kd.R_after (ok:=(fun _=>True)) (ro cC) hg hat);replace HB:=zS (hb);have e1:=zS (ho);clear bT;clear ho hb hg hat))
    go_ret
    exact ⟨_,by first|rfl|(simp <;> rfl)|(simp only [← cA];first|rfl|(simp <;> rfl))|(simp [*] <;> rfl),by (with_reducible repeat (first|apply Kd.R_alloc|apply Kd.R_drewN|apply Kd.R_drew));exact Kd.R_mono e1.out (fun _ hk=>trivial),bl HB⟩
   rw [if_neg c36] at H
   have eX:=zD c36
   clear c36
   by_cases c54:aw=true
   ·subst c54
    rw [if_pos rfl] at H
    by_cases c55:aC.length<35184372088832
    rotate_left
    ·rw [if_neg c55] at H
     exact absurd H (by simp)
    rw [if_pos c55] at H
    have LMc55:=zS c55
    clear c55
    obtain ⟨bN,cD⟩:∃ y_:List Int,y_=(aC ++ [ah]):=⟨_,rfl⟩
    replace H:((shape_digitsOf.f kj6 ac af ag ad ah ai ae (mx aq (wrap64 (-aq))) ak).bind fun bk=>(if bN.length+bk.length<35184372088832 then (some (bN ++ bk)) else (none)))=some r:=by first|(rw [cD];with_reducible exact H)|(have H2_:=(Option.bind_some _ _).symm.trans H;rw [cD];with_reducible exact H2_)|(have H2_:=(Option.bind_some _ _).symm.trans H;with_reducible exact H2_)|with_reducible exact H|(rw [cD];exact H)|exact H
    have e2:=zS cD
    clear cD
    obtain ⟨dR,cE⟩:∃ j_:Int,(mx aq (wrap64 (-aq)))=j_:=⟨_,rfl⟩
    replace H:((shape_digitsOf.f kj6 ac af ag ad ah ai ae (dR) ak).bind fun bk=>(if bN.length+bk.length<35184372088832 then (some (bN ++ bk)) else (none)))=some r:=by first|(rw [cE] at H;exact H)|(simp only [cE] at H ⊢;exact H)
    have fT:(if aq<(wrap64 (-aq)) then (wrap64 (-aq)) else aq)=dR:=cE
    replace H:=Option.bind_eq_some_iff.mp H
    obtain ⟨bk,e3,H⟩:=H
    try dsimp only at H
    have A57:=zS e3
    clear e3
    by_cases c58:bN.length+bk.length<35184372088832
    rotate_left
    ·rw [if_neg c58] at H
     exact absurd H (by simp)
    rw [if_pos c58] at H
    have LMc58:=zS c58
    clear c58
    obtain ⟨fU,cF⟩:∃ y_:List Int,y_=(bN ++ bk):=⟨_,rfl⟩
    replace H:(some fU)=some r:=by first|(rw [cF];with_reducible exact H)|(have H2_:=(Option.bind_some _ _).symm.trans H;rw [cF];with_reducible exact H2_)|(have H2_:=(Option.bind_some _ _).symm.trans H;with_reducible exact H2_)|with_reducible exact H|(rw [cF];exact H)|exact H
    have e4:=zS cF
    clear cF
    obtain rfl:=zE H
    have gX:=aX.out
    have gY:=aW.out
    have gZ:=aY.out
    have g0:=aZ.out
    have g1:=blkc17 ab.out
    have g2:=blkf17 ab.out
    have g3:=bu.out
    have g4:=bv.out
    have g5:=blkc7 aa.out
    have g6:=blkf7 aa.out
    go_wp2_with (first|((with_reducible refine gate_builtin (b:=.append) (xs:=#[.tmp 44,.tmp 47]) rfl ?_);at_builtin;refine Kd.R_append (Kd.int .i32) (w0:=w) w.heap.size rfl (.tmp 44) (.tmp 47) 46 21 (.int .i32 0) 4 rfl Tryz.underlying46 info21 rfl (by decide) (by omega) u12 bS ae [.int .i32 ae] (fun _=>True) (fun _=>False) rfl rfl ?aP (fun _ hk=>hk.elim) ?aF ?aO ?aB ?aS ?aL ?_;(case aP=>exact rfl);(case aB=>exact (bl HB));(case aF=>exact (fun _ _=>trivial));(case aO=>exact (ro HO_12));(case aS=>exact (bz HB));(case aL=>have:=LMc35.out;omega);intro dA w64 ho hb hg hat;rw [← dz.out] at ho;replace aa:=zS (blk_grown (ko aa) hg (Kd.R_ne HO_12.out aa.out (by decide)));replace ab:=zS (blk_grown (ko ab) hg (Kd.R_ne HO_12.out ab.out (by decide)));replace aj:=zS (blk_grown (ko aj) hg (Kd.R_ne HO_12.out aj.out (by decide)));replace HB:=zS (hb);have au:=zS (ho);clear HO_12;clear ho hb hg hat;have g7:=blkc17 ab.out;have g8:=blkf17 ab.out;have g9:=blkc7 aa.out;have ha:=blkf7 aa.out)|((with_reducible refine gate_builtin (b:=.append) (xs:=#[.tmp 60,.tmp 63]) rfl ?_);at_builtin;refine Kd.R_append (Kd.int .i32) (w0:=w) w.heap.size rfl (.tmp 60) (.tmp 63) 46 21 (.int .i32 0) 4 rfl Tryz.underlying46 info21 rfl (by decide) (by omega) dA aC ah [.int .i32 ah] (fun _=>True) (fun _=>False) rfl rfl ?aP (fun _ hk=>hk.elim) ?aF ?aO ?aB ?aS ?aL ?_;(case aP=>exact rfl);(case aB=>exact (bl HB));(case aF=>exact (fun _ _=>trivial));(case aO=>exact (ro au));(case aS=>exact (bz HB));(case aL=>have:=LMc55.out;omega);intro fV w67 ho hb hg hat;rw [← e2.out] at ho;replace aa:=zS (blk_grown (ko aa) hg (Kd.R_ne au.out aa.out (by decide)));replace ab:=zS (blk_grown (ko ab) hg (Kd.R_ne au.out ab.out (by decide)));replace aj:=zS (blk_grown (ko aj) hg (Kd.R_ne au.out aj.out (by decide)));replace HB:=zS (hb);have bU:=zS (ho);clear au;clear ho hb hg hat;have hc:=blkc7 aa.out;have hf:=blkf7 aa.out;have hh:=blkc17 ab.out;have hj:=blkf17 ab.out)|((with_reducible refine gate_callee (f:=51) rfl ?_);refine goesL_ (some 73) rfl rfl Tryz.func51 (by kernel_rfl) rfl #[.agg #[.int .i32 ac,.int .i32 af,.int .i32 ag,.int .i32 ad,.int .i32 ah,.int .i32 ai,.int .i32 ae],.int .i64 dR,.int .i64 ak] rfl (by (try simp only [List.map_toArray,List.map_cons,List.map_nil]);first|done|(simp only [cE];rfl)|rfl|(simp only [List.length_drop,List.length_take];rfl)) ?_;(with_reducible refine (shape_digitsOf.calls kj6 ac af ag ad ah ai ae dR ak bk _ ?side1 A57.out).mono ?_);(case side1=>refine GL.below HG.out ?_;exact bl HB);rintro e w70 ⟨h2,rfl,ho0,hb⟩;refine ⟨_,rfl,?_⟩;have cG:=zS (Kd.R_lower (Kd.R_new' ho0 (Kd.R_lt (ro bU))) (bz HB));replace bU:=zS (Kd.R_elder' (ro bU) (Kd.R_base ho0) hb);replace aa:=kb aa hb;replace ab:=kb ab hb;replace aj:=kb aj hb;replace HB:=bs HB hb;(try clear hb);(try clear ho0);obtain ⟨fW,fX,fY⟩:=Kd.R_slice cG.out;subst fY)|((with_reducible refine gate_builtin (b:=.append) (xs:=#[.tmp 65,.tmp 73]) rfl ?_);at_builtin;refine Kd.R_append_rows (Kd.int .i32) (w0:=w) w.heap.size rfl (.tmp 65) (.tmp 73) 46 21 (.int .i32 0) 4 rfl Tryz.underlying46 info21 rfl (by decide) (by omega) fV bN bk _ _ _ (fun k_=>some k_≠(.slice fW bk.length fX:Value).ownBlock) (fun _=>False) rfl rfl ?aO ?aR (fun _ _ h=>h) (fun _ h=>h.elim) ?aF ?aB ?aS ?aL ?_;(case aR=>exact (Kd.R_reads' cG.out).2.2);(case aB=>exact (bl HB));(case aF=>exact (fun k_ hk=>Kd.fresh' (Kd.R_lt (ro cG)) k_ hk));(case aO=>exact (by (with_reducible repeat (first|apply Kd.R_alloc|apply Kd.R_drewN|apply Kd.R_drew));exact Kd.R_mono bU.out (fun _ hk=>hk.2)));(case aS=>exact (bz HB));(case aL=>have:=LMc58.out;omega);intro h3 w71 ho hb hg hat;rw [← e4.out] at ho;replace aa:=zS (blk_grown (ko aa) hg (Kd.R_ne bU.out aa.out (by decide)));replace ab:=zS (blk_grown (ko ab) hg (Kd.R_ne bU.out ab.out (by decide)));replace aj:=zS (blk_grown (ko aj) hg (Kd.R_ne bU.out aj.out (by decide)));replace cG:=zS (Kd.R_after (ok:=(fun _=>True)) (ro cG) hg hat);replace HB:=zS (hb);have e5:=zS (ho);clear bU;clear ho hb hg hat))
    go_ret
    exact ⟨_,by first|rfl|(simp <;> rfl)|(simp only [← cE];first|rfl|(simp <;> rfl))|(simp [*] <;> rfl),by (with_reducible repeat (first|apply Kd.R_alloc|apply Kd.R_drewN|apply Kd.R_drew));exact Kd.R_mono e5.out (fun _ hk=>trivial),bl HB⟩
   replace c54:=Bool.eq_false_iff.mpr c54
   subst c54
   rw [if_neg (show ¬ (false=true) by decide)] at H
   obtain ⟨dS,cH⟩:∃ j_:Int,(mx aq (wrap64 (-aq)))=j_:=⟨_,rfl⟩
   replace H:((shape_digitsOf.f kj6 ac af ag ad ah ai ae (dS) ak).bind fun bH=>(if aC.length+bH.length<35184372088832 then (some (aC ++ bH)) else (none)))=some r:=by first|(rw [cH] at H;exact H)|(simp only [cH] at H ⊢;exact H)
   have fZ:(if aq<(wrap64 (-aq)) then (wrap64 (-aq)) else aq)=dS:=cH
   replace H:=Option.bind_eq_some_iff.mp H
   obtain ⟨bH,e6,H⟩:=H
   try dsimp only at H
   have A74:=zS e6
   clear e6
   by_cases c75:aC.length+bH.length<35184372088832
   rotate_left
   ·rw [if_neg c75] at H
    exact absurd H (by simp)
   rw [if_pos c75] at H
   have LMc75:=zS c75
   clear c75
   obtain ⟨f0,cI⟩:∃ y_:List Int,y_=(aC ++ bH):=⟨_,rfl⟩
   replace H:(some f0)=some r:=by first|(rw [cI];with_reducible exact H)|(have H2_:=(Option.bind_some _ _).symm.trans H;rw [cI];with_reducible exact H2_)|(have H2_:=(Option.bind_some _ _).symm.trans H;with_reducible exact H2_)|with_reducible exact H|(rw [cI];exact H)|exact H
   have e7:=zS cI
   clear cI
   obtain rfl:=zE H
   have hl:=aX.out
   have hm:=aW.out
   have hn:=aY.out
   have hp:=aZ.out
   have hq:=blkc17 ab.out
   have hs:=blkf17 ab.out
   have ht:=bu.out
   have hu:=bv.out
   have hv:=blkc7 aa.out
   have hw:=blkf7 aa.out
   go_wp2_with (first|((with_reducible refine gate_builtin (b:=.append) (xs:=#[.tmp 44,.tmp 47]) rfl ?_);at_builtin;refine Kd.R_append (Kd.int .i32) (w0:=w) w.heap.size rfl (.tmp 44) (.tmp 47) 46 21 (.int .i32 0) 4 rfl Tryz.underlying46 info21 rfl (by decide) (by omega) u12 bS ae [.int .i32 ae] (fun _=>True) (fun _=>False) rfl rfl ?aP (fun _ hk=>hk.elim) ?aF ?aO ?aB ?aS ?aL ?_;(case aP=>exact rfl);(case aB=>exact (bl HB));(case aF=>exact (fun _ _=>trivial));(case aO=>exact (ro HO_12));(case aS=>exact (bz HB));(case aL=>have:=LMc35.out;omega);intro dA w81 ho hb hg hat;rw [← dz.out] at ho;replace aa:=zS (blk_grown (ko aa) hg (Kd.R_ne HO_12.out aa.out (by decide)));replace ab:=zS (blk_grown (ko ab) hg (Kd.R_ne HO_12.out ab.out (by decide)));replace aj:=zS (blk_grown (ko aj) hg (Kd.R_ne HO_12.out aj.out (by decide)));replace HB:=zS (hb);have au:=zS (ho);clear HO_12;clear ho hb hg hat;have hx:=blkc17 ab.out;have hy:=blkf17 ab.out;have hz:=blkc7 aa.out;have hA:=blkf7 aa.out)|((with_reducible refine gate_callee (f:=51) rfl ?_);refine goesL_ (some 73) rfl rfl Tryz.func51 (by kernel_rfl) rfl #[.agg #[.int .i32 ac,.int .i32 af,.int .i32 ag,.int .i32 ad,.int .i32 ah,.int .i32 ai,.int .i32 ae],.int .i64 dS,.int .i64 ak] rfl (by (try simp only [List.map_toArray,List.map_cons,List.map_nil]);first|done|(simp only [cH];rfl)|rfl|(simp only [List.length_drop,List.length_take];rfl)) ?_;(with_reducible refine (shape_digitsOf.calls kj6 ac af ag ad ah ai ae dS ak bH _ ?side1 A74.out).mono ?_);(case side1=>refine GL.below HG.out ?_;exact bl HB);rintro e w84 ⟨h4,rfl,ho0,hb⟩;refine ⟨_,rfl,?_⟩;have cJ:=zS (Kd.R_lower (Kd.R_new' ho0 (Kd.R_lt (ro au))) (bz HB));replace au:=zS (Kd.R_elder' (ro au) (Kd.R_base ho0) hb);replace aa:=kb aa hb;replace ab:=kb ab hb;replace aj:=kb aj hb;replace HB:=bs HB hb;(try clear hb);(try clear ho0);obtain ⟨f1,f2,f3⟩:=Kd.R_slice cJ.out;subst f3)|((with_reducible refine gate_builtin (b:=.append) (xs:=#[.tmp 65,.tmp 73]) rfl ?_);at_builtin;refine Kd.R_append_rows (Kd.int .i32) (w0:=w) w.heap.size rfl (.tmp 65) (.tmp 73) 46 21 (.int .i32 0) 4 rfl Tryz.underlying46 info21 rfl (by decide) (by omega) dA aC bH _ _ _ (fun k_=>some k_≠(.slice f1 bH.length f2:Value).ownBlock) (fun _=>False) rfl rfl ?aO ?aR (fun _ _ h=>h) (fun _ h=>h.elim) ?aF ?aB ?aS ?aL ?_;(case aR=>exact (Kd.R_reads' cJ.out).2.2);(case aB=>exact (bl HB));(case aF=>exact (fun k_ hk=>Kd.fresh' (Kd.R_lt (ro cJ)) k_ hk));(case aO=>exact (by (with_reducible repeat (first|apply Kd.R_alloc|apply Kd.R_drewN|apply Kd.R_drew));exact Kd.R_mono au.out (fun _ hk=>hk.2)));(case aS=>exact (bz HB));(case aL=>have:=LMc75.out;omega);intro h5 w85 ho hb hg hat;rw [← e7.out] at ho;replace aa:=zS (blk_grown (ko aa) hg (Kd.R_ne au.out aa.out (by decide)));replace ab:=zS (blk_grown (ko ab) hg (Kd.R_ne au.out ab.out (by decide)));replace aj:=zS (blk_grown (ko aj) hg (Kd.R_ne au.out aj.out (by decide)));replace cJ:=zS (Kd.R_after (ok:=(fun _=>True)) (ro cJ) hg hat);replace HB:=zS (hb);have e8:=zS (ho);clear au;clear ho hb hg hat))
   go_ret
   exact ⟨_,by first|rfl|(simp <;> rfl)|(simp only [← cH];first|rfl|(simp <;> rfl))|(simp [*] <;> rfl),by (with_reducible repeat (first|apply Kd.R_alloc|apply Kd.R_drewN|apply Kd.R_drew));exact Kd.R_mono e8.out (fun _ hk=>trivial),bl HB⟩
def slices_Index_rune_rune.l0:Nat→List Int→Int→Int→Int→Option (Int)
 | 0,_,_,_,_=>none
 | k+1,x0,x1,x7,x8=>if x8<x7 then (if 0≤x8 then (if x8<(x0.length:Int) then (if x1=(rd x0 x8) then (some x8) else (slices_Index_rune_rune.l0 k x0 x1 x7 (wrap64 (x8+1)))) else (none)) else (none)) else (some (-1))
def slices_Index_rune_rune.f (k:Nat)(l0:List Int)(a1:Int):Option (Int):=slices_Index_rune_rune.l0 k l0 a1 (l0.length:Int) 0
theorem slices_Index_rune_rune.mono_l:∀ k,(∀ y0 y1 y2 y3,LeO (slices_Index_rune_rune.l0 k y0 y1 y2 y3) (slices_Index_rune_rune.l0 (k+1) y0 y1 y2 y3))
 | 0=>fun _ _ _ _ r h=>by simp [slices_Index_rune_rune.l0] at h
 | k+1=>by
  have ih0:=slices_Index_rune_rune.mono_l k
  ·intro y0 y1 y2 y3
   unfold slices_Index_rune_rune.l0
   repeat' first|(with_reducible first|apply ih0|apply LeO.refl|apply LeO.none|refine LeO.ite ?_ ?_|refine LeO.bind ?_ (fun _=>?_))|apply ih0|apply LeO.none
theorem slices_Index_rune_rune.mono:∀ a0 a1 k,LeO (slices_Index_rune_rune.f k a0 a1) (slices_Index_rune_rune.f (k+1) a0 a1):=by
 intro a0 a1 k
 have ih0:=slices_Index_rune_rune.mono_l k
 unfold slices_Index_rune_rune.f
 repeat' first|(with_reducible first|apply ih0|apply LeO.refl|apply LeO.none|refine LeO.ite ?_ ?_|refine LeO.bind ?_ (fun _=>?_))|apply ih0|apply LeO.none
set_option maxHeartbeats 8000000 in
set_option maxRecDepth 100000 in
theorem slices_Index_rune_rune.calls (k:Nat)(A0:Option Addr)(c0:Nat)(l0:List Int)(a1:Int)(r:Int)(w:World)(hr0:Kd.C (Kd.int .i32) w A0 l0.length l0)(hc0:l0.length≤c0)(h:slices_Index_rune_rune.f k l0 a1=some r) :
  Calls Tryz.prog 77 #[.slice A0 l0.length c0,.int .i32 a1] w fun e w'=>e = .returned (.int .i64 r)∧Drawn0 w w':=by
 have HR0:=zS hr0
 have HC0:=zS hc0
 clear hr0 hc0
 have H:(slices_Index_rune_rune.l0 k l0 a1 (l0.length:Int) 0)=some r:=h
 clear h
 have H':=zS H
 clear H
 go_enter Tryz.func77,Tryz.ntmps77
 go_wp2
 go_loopg [8] k (fun kq v8 w'=>∃ (bi:Int),v8 = .int .i64 bi∧Sd (slices_Index_rune_rune.l0 kq l0 a1 (l0.length:Int) bi=some r)∧Sd (kq≤k)∧Drawn0 w w')
 case atStart=>exact ⟨(0),(by first|rfl|(simp;done)|(simp [*];done)),H',⟨Nat.le_refl _⟩,by repeat (first|exact Drawn0.refl _|apply Drawn0.step)⟩
 case round=>
  clear H'
  try clear p2
  obtain ⟨bi,rfl,HA,HK1,⟨m1,rfl⟩⟩:=hrel
  cases gk with
  | zero=>exact absurd HA.out (by simp [slices_Index_rune_rune.l0])
  | succ k1=>
   have H:=HA.out
   clear HA
   simp only [slices_Index_rune_rune.l0] at H
   by_cases c3:bi<(l0.length:Int)
   rotate_left
   ·rw [if_neg c3] at H
    have dl:=zD c3
    clear c3
    obtain rfl:=zE H
    go_wp2
    go_ret
    exact ⟨by first|rfl|(simp;done)|(simp [*];done),by repeat (first|exact Drawn0.refl _|apply Drawn0.step)⟩
   rw [if_pos c3] at H
   have dl:=zC c3
   clear c3
   by_cases c4:0≤bi
   rotate_left
   ·rw [if_neg c4] at H
    exact absurd H (by simp)
   rw [if_pos c4] at H
   have dT:=zC c4
   clear c4
   by_cases c5:bi<(l0.length:Int)
   rotate_left
   ·rw [if_neg c5] at H
    exact absurd H (by simp)
   rw [if_pos c5] at H
   have bP:=zC c5
   clear c5
   by_cases c6:a1=(rd l0 bi)
   ·rw [if_pos c6] at H
    have bQ:(a1 == (rd l0 bi))=true:=zH c6
    have cK:(a1 != (rd l0 bi))=false:=zG c6
    clear c6
    obtain rfl:=zE H
    have cY:0≤(bi:Int):=zB (by first|(with_reducible assumption)|assumption)
    have cZ:bi<(l0.length:Int):=zB (by first|(with_reducible assumption)|assumption)
    obtain ⟨e9,em,dU⟩:=Kd.at_int HR0.out bi cY cZ
    cases em
    replace cY:=eq_true cY
    replace cZ:=eq_true cZ
    go_wp2
    go_ret
    exact ⟨by first|rfl|(simp;done)|(simp [*];done),by repeat (first|exact Drawn0.refl _|apply Drawn0.step)⟩
   rw [if_neg c6] at H
   have bQ:(a1 == (rd l0 bi))=false:=zF c6
   have cK:(a1 != (rd l0 bi))=true:=zI c6
   have H':=zS H
   clear H
   have cY:0≤(bi:Int):=zB (by first|(with_reducible assumption)|assumption)
   have cZ:bi<(l0.length:Int):=zB (by first|(with_reducible assumption)|assumption)
   obtain ⟨e9,em,dU⟩:=Kd.at_int HR0.out bi cY cZ
   cases em
   replace cY:=eq_true cY
   replace cZ:=eq_true cZ
   go_wp2
   go_roundg k1
   case measure=>have:=HK1.out;omega
   case rel=>exact ⟨(wrap64 (bi+1)),(by first|rfl|(simp;done)|(simp [*];done)),H',⟨by have:=HK1.out;omega⟩,by repeat (first|exact Drawn0.refl _|apply Drawn0.step)⟩
def shape_cut.f (k:Nat)(l0:List Int)(a1:Int):Option (List Int×List Int×Bool):=(slices_Index_rune_rune.f k l0 a1).bind fun ap=>(if ap<0 then (some (l0,([]:List Int),false)) else (if 0≤ap then (if ap≤(l0.length:Int) then (if 0≤(wrap64 (ap+1)) then (if (wrap64 (ap+1))≤(l0.length:Int) then (some ((l0.take (ap:Int).toNat),(l0.drop ((wrap64 (ap+1)):Int).toNat),true)) else (none)) else (none)) else (none)) else (none)))
theorem shape_cut.mono:∀ a0 a1 k,LeO (shape_cut.f k a0 a1) (shape_cut.f (k+1) a0 a1):=by
 intro a0 a1 k
 unfold shape_cut.f
 repeat' first|(with_reducible first|apply slices_Index_rune_rune.mono|apply LeO.refl|apply LeO.none|refine LeO.ite ?_ ?_|refine LeO.bind ?_ (fun _=>?_))|apply slices_Index_rune_rune.mono|apply LeO.none
set_option maxHeartbeats 8000000 in
set_option maxRecDepth 100000 in
theorem shape_cut.calls (k:Nat)(P0_:Nat→Prop)(A0:Option Addr)(c0:Nat)(l0:List Int)(a1:Int)(r1:List Int)(r2:List Int)(r3:Bool)(w:World)(hs0:Kd.V (Kd.int .i32) 21 w w.heap.size (fun k_=>P0_ k_) (.slice A0 l0.length c0) l0)(h:shape_cut.f k l0 a1=some (r1,r2,r3)) :
  Calls Tryz.prog 55 #[.slice A0 l0.length c0,.int .i32 a1] w fun e w'=>∃ v0_ v1_:Value,e = .returned (.tuple #[v0_,v1_,.bool r3])∧Kd.V (Kd.int .i32) 21 w' w.heap.size (fun k_=>(P0_ k_∨w.heap.size≤k_)) v0_ r1∧Kd.V (Kd.int .i32) 21 w' w.heap.size (fun k_=>(P0_ k_∨w.heap.size≤k_)) v1_ r2∧Below w.heap.size w w':=by
 have HO0:=zS (show Kd.V (Kd.int .i32) 21 w w.heap.size (fun k_=>(P0_ k_∨w.heap.size≤k_)) (.slice A0 l0.length c0) l0 from Kd.V_mono hs0 (fun k_ hk=>.inl hk))
 have HB:=zS (Below.refl w.heap.size w)
 have H:((slices_Index_rune_rune.f k l0 a1).bind fun ap=>(if ap<0 then (some (l0,([]:List Int),false)) else (if 0≤ap then (if ap≤(l0.length:Int) then (if 0≤(wrap64 (ap+1)) then (if (wrap64 (ap+1))≤(l0.length:Int) then (some ((l0.take (ap:Int).toNat),(l0.drop ((wrap64 (ap+1)):Int).toNat),true)) else (none)) else (none)) else (none)) else (none))))=some (r1,r2,r3):=h
 clear h
 replace H:=Option.bind_eq_some_iff.mp H
 obtain ⟨ap,A30,H⟩:=H
 try dsimp only at H
 have A3:=zS A30
 clear A30
 by_cases c4:ap<0
 ·rw [if_pos c4] at H
  have dT:=zC c4
  clear c4
  simp only [Option.some.injEq,Prod.mk.injEq] at H
  obtain ⟨rfl,rfl,rfl⟩:=H
  go_enter Tryz.func55,Tryz.ntmps55
  go_wp2_with (first|(go_at_call 77;(with_reducible refine (slices_Index_rune_rune.calls k _ _ l0 a1 ap _ (vc HO0) (vl HO0) A3.out).mono ?_);rintro e w' ⟨rfl,⟨nd,rfl⟩⟩;(try first|exact ⟨rfl,_,World.drewN_drewN _ _ _⟩|exact ⟨rfl,_,Eq.trans (World.drewN_drewN _ _ _) (congrArg (World.drewN _) (Nat.add_assoc _ _ _))⟩)))
  repeat (go_quiet (first|(go_at_call 77;(with_reducible refine (slices_Index_rune_rune.calls k _ _ l0 a1 ap _ (vc HO0) (vl HO0) A3.out).mono ?_);rintro e w' ⟨rfl,⟨nd,rfl⟩⟩;(try first|exact ⟨rfl,_,World.drewN_drewN _ _ _⟩|exact ⟨rfl,_,Eq.trans (World.drewN_drewN _ _ _) (congrArg (World.drewN _) (Nat.add_assoc _ _ _))⟩)));try go_wp2_with (first|(go_at_call 77;(with_reducible refine (slices_Index_rune_rune.calls k _ _ l0 a1 ap _ (vc HO0) (vl HO0) A3.out).mono ?_);rintro e w' ⟨rfl,⟨nd,rfl⟩⟩;(try first|exact ⟨rfl,_,World.drewN_drewN _ _ _⟩|exact ⟨rfl,_,Eq.trans (World.drewN_drewN _ _ _) (congrArg (World.drewN _) (Nat.add_assoc _ _ _))⟩))))
  go_ret3
  exact ⟨_,_,by first|rfl|(simp <;> rfl)|(simp [*] <;> rfl),by (with_reducible repeat (first|apply Kd.V_alloc|apply Kd.V_drewN|apply Kd.V_drew));exact HO0.out,(by first|exact Kd.V_nil _ _ _ _ _|exact (Kd.V_mono (Kd.R_V (by first|exact Kd.R_nil _ _ _ _ _|exact Kd.R_nil _ _ _ 0 _|exact Kd.N_nil _ _ _ _ _|exact Kd.V_nil _ _ _ _ _|exact Kd.Q_nil _ _ _ _ _|exact Kd.S_nil _ _ _ _ _)) (fun k_ hk=>by first|exact ⟨(.inr (hk.1)),hk.2⟩|exact (.inr (hk))))),bl HB⟩
 rw [if_neg c4] at H
 have dT:=zD c4
 clear c4
 by_cases c5:0≤ap
 rotate_left
 ·rw [if_neg c5] at H
  exact absurd H (by simp)
 rw [if_pos c5] at H
 have bP:=eq_true c5
 have cr:=zC c5
 clear c5
 by_cases c6:ap≤(l0.length:Int)
 rotate_left
 ·rw [if_neg c6] at H
  exact absurd H (by simp)
 rw [if_pos c6] at H
 have bQ:=eq_true c6
 have cK:=zC c6
 clear c6
 obtain ⟨bG,cL⟩:∃ y_:List Int,y_=(l0.take (ap:Int).toNat):=⟨_,rfl⟩
 replace H:(if 0≤(wrap64 (ap+1)) then (if (wrap64 (ap+1))≤(l0.length:Int) then (some (bG,(l0.drop ((wrap64 (ap+1)):Int).toNat),true)) else (none)) else (none))=some (r1,r2,r3):=by first|(rw [cL];with_reducible exact H)|(have H2_:=(Option.bind_some _ _).symm.trans H;rw [cL];with_reducible exact H2_)|(have H2_:=(Option.bind_some _ _).symm.trans H;with_reducible exact H2_)|with_reducible exact H|(rw [cL];exact H)|exact H
 have ch:=zS cL
 clear cL
 obtain ⟨ji7,dB⟩:∃ j_:Int,(wrap64 (ap+1))=j_:=⟨_,rfl⟩
 replace H:(if 0≤(ji7) then (if (ji7)≤(l0.length:Int) then (some (bG,(l0.drop ((ji7):Int).toNat),true)) else (none)) else (none))=some (r1,r2,r3):=by first|(rw [dB] at H;exact H)|(simp only [dB] at H ⊢;exact H)
 (try rw [dB] at A3)
 have hB:(IntKind.i64.wrap (ap+1))=ji7:=(i64_w _).trans dB
 by_cases c8:0≤(ji7)
 rotate_left
 ·rw [if_neg c8] at H
  exact absurd H (by simp)
 rw [if_pos c8] at H
 have en:=eq_true c8
 have fa:=zC c8
 clear c8
 by_cases c9:(ji7)≤(l0.length:Int)
 rotate_left
 ·rw [if_neg c9] at H
  exact absurd H (by simp)
 rw [if_pos c9] at H
 have h6:=eq_true c9
 have h7:=zC c9
 clear c9
 obtain ⟨aE,cM⟩:∃ y_:List Int,y_=(l0.drop ((ji7):Int).toNat):=⟨_,rfl⟩
 replace H:(some (bG,aE,true))=some (r1,r2,r3):=by first|(rw [cM];with_reducible exact H)|(have H2_:=(Option.bind_some _ _).symm.trans H;rw [cM];with_reducible exact H2_)|(have H2_:=(Option.bind_some _ _).symm.trans H;with_reducible exact H2_)|with_reducible exact H|(rw [cM];exact H)|exact H
 have ci:=zS cM
 clear cM
 simp only [Option.some.injEq,Prod.mk.injEq] at H
 obtain ⟨rfl,rfl,rfl⟩:=H
 go_enter Tryz.func55,Tryz.ntmps55
 go_wp2_with (first|(go_at_call 77;(with_reducible refine (slices_Index_rune_rune.calls k _ _ l0 a1 ap _ (vc HO0) (vl HO0) A3.out).mono ?_);rintro e w' ⟨rfl,⟨nd,rfl⟩⟩;(try first|exact ⟨rfl,_,World.drewN_drewN _ _ _⟩|exact ⟨rfl,_,Eq.trans (World.drewN_drewN _ _ _) (congrArg (World.drewN _) (Nat.add_assoc _ _ _))⟩);have q10:(ap:Int)≤((l0.length:Int):Int):=zB (by first|(with_reducible assumption)|assumption);obtain ⟨i010,hi010,_,hsz10,_⟩:=info_parts info21;have hroom10:l0.length≤c0:=(Kd.V_reads' HO0.out).2.1;have hC10:Kd.F (Kd.int .i32) _ _ A0 l0.length l0:=(Kd.V_at (base:=w.heap.size) HO0.out).2.2;have hcut10:=cut_to (P:=Tryz.prog) 46 21 .i64 Tryz.underlying46 hi010 A0 l0.length c0 ap (zB (by first|(with_reducible assumption)|assumption)) q10 hroom10;have b9:=Kd.F_take (m:=(ap:Int).toNat) hC10 (by omega);have ca:bG.length=(ap:Int).toNat:=(by rw [ch.out,List.length_take];omega);rw [← ch.out] at b9;rw [← ca] at hcut10;have dC:=zS (show Kd.V (Kd.int .i32) 21 _ w.heap.size _ (.slice A0 bG.length c0) bG from Kd.V_mk (by omega) b9);have ea:=zS (show bG.length≤c0 from by omega);clear b9 hC10 hroom10 hi010 hsz10;have KY10:=zS ca;clear ca;replace q10:=eq_true q10;have q11:((ji7):Int)≤((l0.length:Int):Int):=zB (by first|(with_reducible assumption)|assumption);obtain ⟨i011,hi011,_,hsz11,_⟩:=info_parts info21;have hroom11:l0.length≤c0:=(Kd.V_reads' HO0.out).2.1;have hC11:Kd.F (Kd.int .i32) _ _ A0 l0.length l0:=(Kd.V_at (base:=w.heap.size) HO0.out).2.2;have dD:(0:Int)≤((ji7):Int):=zB (by first|(with_reducible assumption)|assumption);have hcut11:=cut_from (P:=Tryz.prog) 46 21 .i64 Tryz.underlying46 hi011 1 hsz11 A0 l0.length c0 (ji7) dD q11;have bo:=Kd.F_cut (m:=((ji7):Int).toNat) (c:=c0) hC11 (by omega) hroom11;obtain ⟨A11,hA11⟩:∃ Az_,Az_=(if c0=((ji7):Int).toNat then A0 else (A0:Option Addr).map (·.add (((ji7):Int).toNat * 1))):=⟨_,rfl⟩;obtain ⟨c11,bJ⟩:∃ cz_,cz_=c0 - ((ji7):Int).toNat:=⟨_,rfl⟩;have bp:aE.length=l0.length - ((ji7):Int).toNat:=(by rw [ci.out,List.length_drop] <;> omega);rw [show (l0).drop ((ji7):Int).toNat=aE from ci.out.symm] at bo;replace bo:Kd.F (Kd.int .i32) _ _ A11 aE.length aE:=(by rw [hA11];exact bo);rw [← bp,← hA11,← bJ] at hcut11;have dE:=zS (show Kd.V (Kd.int .i32) 21 _ w.heap.size _ (.slice A11 aE.length c11) aE from Kd.V_mk (by rw [bp,bJ];exact Nat.sub_le_sub_right hroom11 _) bo);have eb:=zS (show aE.length≤c11 from by rw [bp,bJ];exact Nat.sub_le_sub_right hroom11 _);clear bo hC11 hroom11 hi011 hsz11 bJ;have KY11:=zS bp;have KA11:=zS hA11;clear bp hA11;replace q11:=eq_true q11))
 repeat (go_quiet (first|(go_at_call 77;(with_reducible refine (slices_Index_rune_rune.calls k _ _ l0 a1 ap _ (vc HO0) (vl HO0) A3.out).mono ?_);rintro e w' ⟨rfl,⟨nd,rfl⟩⟩;(try first|exact ⟨rfl,_,World.drewN_drewN _ _ _⟩|exact ⟨rfl,_,Eq.trans (World.drewN_drewN _ _ _) (congrArg (World.drewN _) (Nat.add_assoc _ _ _))⟩);have q10:(ap:Int)≤((l0.length:Int):Int):=zB (by first|(with_reducible assumption)|assumption);obtain ⟨i010,hi010,_,hsz10,_⟩:=info_parts info21;have hroom10:l0.length≤c0:=(Kd.V_reads' HO0.out).2.1;have hC10:Kd.F (Kd.int .i32) _ _ A0 l0.length l0:=(Kd.V_at (base:=w.heap.size) HO0.out).2.2;have hcut10:=cut_to (P:=Tryz.prog) 46 21 .i64 Tryz.underlying46 hi010 A0 l0.length c0 ap (zB (by first|(with_reducible assumption)|assumption)) q10 hroom10;have b9:=Kd.F_take (m:=(ap:Int).toNat) hC10 (by omega);have ca:bG.length=(ap:Int).toNat:=(by rw [ch.out,List.length_take];omega);rw [← ch.out] at b9;rw [← ca] at hcut10;have dC:=zS (show Kd.V (Kd.int .i32) 21 _ w.heap.size _ (.slice A0 bG.length c0) bG from Kd.V_mk (by omega) b9);have ea:=zS (show bG.length≤c0 from by omega);clear b9 hC10 hroom10 hi010 hsz10;have KY10:=zS ca;clear ca;replace q10:=eq_true q10;have q11:((ji7):Int)≤((l0.length:Int):Int):=zB (by first|(with_reducible assumption)|assumption);obtain ⟨i011,hi011,_,hsz11,_⟩:=info_parts info21;have hroom11:l0.length≤c0:=(Kd.V_reads' HO0.out).2.1;have hC11:Kd.F (Kd.int .i32) _ _ A0 l0.length l0:=(Kd.V_at (base:=w.heap.size) HO0.out).2.2;have dD:(0:Int)≤((ji7):Int):=zB (by first|(with_reducible assumption)|assumption);have hcut11:=cut_from (P:=Tryz.prog) 46 21 .i64 Tryz.underlying46 hi011 1 hsz11 A0 l0.length c0 (ji7) dD q11;have bo:=Kd.F_cut (m:=((ji7):Int).toNat) (c:=c0) hC11 (by omega) hroom11;obtain ⟨A11,hA11⟩:∃ Az_,Az_=(if c0=((ji7):Int).toNat then A0 else (A0:Option Addr).map (·.add (((ji7):Int).toNat * 1))):=⟨_,rfl⟩;obtain ⟨c11,bJ⟩:∃ cz_,cz_=c0 - ((ji7):Int).toNat:=⟨_,rfl⟩;have bp:aE.length=l0.length - ((ji7):Int).toNat:=(by rw [ci.out,List.length_drop] <;> omega);rw [show (l0).drop ((ji7):Int).toNat=aE from ci.out.symm] at bo;replace bo:Kd.F (Kd.int .i32) _ _ A11 aE.length aE:=(by rw [hA11];exact bo);rw [← bp,← hA11,← bJ] at hcut11;have dE:=zS (show Kd.V (Kd.int .i32) 21 _ w.heap.size _ (.slice A11 aE.length c11) aE from Kd.V_mk (by rw [bp,bJ];exact Nat.sub_le_sub_right hroom11 _) bo);have eb:=zS (show aE.length≤c11 from by rw [bp,bJ];exact Nat.sub_le_sub_right hroom11 _);clear bo hC11 hroom11 hi011 hsz11 bJ;have KY11:=zS bp;have KA11:=zS hA11;clear bp hA11;replace q11:=eq_true q11));try go_wp2_with (first|(go_at_call 77;(with_reducible refine (slices_Index_rune_rune.calls k _ _ l0 a1 ap _ (vc HO0) (vl HO0) A3.out).mono ?_);rintro e w' ⟨rfl,⟨nd,rfl⟩⟩;(try first|exact ⟨rfl,_,World.drewN_drewN _ _ _⟩|exact ⟨rfl,_,Eq.trans (World.drewN_drewN _ _ _) (congrArg (World.drewN _) (Nat.add_assoc _ _ _))⟩);have q10:(ap:Int)≤((l0.length:Int):Int):=zB (by first|(with_reducible assumption)|assumption);obtain ⟨i010,hi010,_,hsz10,_⟩:=info_parts info21;have hroom10:l0.length≤c0:=(Kd.V_reads' HO0.out).2.1;have hC10:Kd.F (Kd.int .i32) _ _ A0 l0.length l0:=(Kd.V_at (base:=w.heap.size) HO0.out).2.2;have hcut10:=cut_to (P:=Tryz.prog) 46 21 .i64 Tryz.underlying46 hi010 A0 l0.length c0 ap (zB (by first|(with_reducible assumption)|assumption)) q10 hroom10;have b9:=Kd.F_take (m:=(ap:Int).toNat) hC10 (by omega);have ca:bG.length=(ap:Int).toNat:=(by rw [ch.out,List.length_take];omega);rw [← ch.out] at b9;rw [← ca] at hcut10;have dC:=zS (show Kd.V (Kd.int .i32) 21 _ w.heap.size _ (.slice A0 bG.length c0) bG from Kd.V_mk (by omega) b9);have ea:=zS (show bG.length≤c0 from by omega);clear b9 hC10 hroom10 hi010 hsz10;have KY10:=zS ca;clear ca;replace q10:=eq_true q10;have q11:((ji7):Int)≤((l0.length:Int):Int):=zB (by first|(with_reducible assumption)|assumption);obtain ⟨i011,hi011,_,hsz11,_⟩:=info_parts info21;have hroom11:l0.length≤c0:=(Kd.V_reads' HO0.out).2.1;have hC11:Kd.F (Kd.int .i32) _ _ A0 l0.length l0:=(Kd.V_at (base:=w.heap.size) HO0.out).2.2;have dD:(0:Int)≤((ji7):Int):=zB (by first|(with_reducible assumption)|assumption);have hcut11:=cut_from (P:=Tryz.prog) 46 21 .i64 Tryz.underlying46 hi011 1 hsz11 A0 l0.length c0 (ji7) dD q11;have bo:=Kd.F_cut (m:=((ji7):Int).toNat) (c:=c0) hC11 (by omega) hroom11;obtain ⟨A11,hA11⟩:∃ Az_,Az_=(if c0=((ji7):Int).toNat then A0 else (A0:Option Addr).map (·.add (((ji7):Int).toNat * 1))):=⟨_,rfl⟩;obtain ⟨c11,bJ⟩:∃ cz_,cz_=c0 - ((ji7):Int).toNat:=⟨_,rfl⟩;have bp:aE.length=l0.length - ((ji7):Int).toNat:=(by rw [ci.out,List.length_drop] <;> omega);rw [show (l0).drop ((ji7):Int).toNat=aE from ci.out.symm] at bo;replace bo:Kd.F (Kd.int .i32) _ _ A11 aE.length aE:=(by rw [hA11];exact bo);rw [← bp,← hA11,← bJ] at hcut11;have dE:=zS (show Kd.V (Kd.int .i32) 21 _ w.heap.size _ (.slice A11 aE.length c11) aE from Kd.V_mk (by rw [bp,bJ];exact Nat.sub_le_sub_right hroom11 _) bo);have eb:=zS (show aE.length≤c11 from by rw [bp,bJ];exact Nat.sub_le_sub_right hroom11 _);clear bo hC11 hroom11 hi011 hsz11 bJ;have KY11:=zS bp;have KA11:=zS hA11;clear bp hA11;replace q11:=eq_true q11)))
 go_ret3
 exact ⟨_,_,by first|rfl|(simp <;> rfl)|(simp only [← dB];first|rfl|(simp <;> rfl))|(simp [*] <;> rfl),by (with_reducible repeat (first|apply Kd.V_alloc|apply Kd.V_drewN|apply Kd.V_drew));exact dC.out,by (with_reducible repeat (first|apply Kd.V_alloc|apply Kd.V_drewN|apply Kd.V_drew));exact dE.out,bl HB⟩
def sym_Value.f (ac:Int)(af:Int)(ag:Int)(ad:Int)(ah:Int)(ai:Int)(ae:Int)(a1:Int):Option (Int×Bool):=if a1<ac then (some (0,false)) else (if a1≥(wrap32 (ac+10)) then (some (0,false)) else (some ((wrap32 (a1 - ac)) % 256,true)))
set_option maxHeartbeats 8000000 in
set_option maxRecDepth 100000 in
theorem sym_Value.calls (ac:Int)(af:Int)(ag:Int)(ad:Int)(ah:Int)(ai:Int)(ae:Int)(a1:Int)(r1:Int)(r2:Bool)(w:World)(h:sym_Value.f ac af ag ad ah ai ae a1=some (r1,r2)) :
  Calls Tryz.prog 78 #[.agg #[.int .i32 ac,.int .i32 af,.int .i32 ag,.int .i32 ad,.int .i32 ah,.int .i32 ai,.int .i32 ae],.int .i32 a1] w fun e w'=>e = .returned (.tuple #[.int .u8 r1,.bool r2])∧Below w.heap.size w w':=by
 have hu23:=Tryz.underlying23
 have HB:=zS (Below.refl w.heap.size w)
 have H:(if a1<ac then (some (0,false)) else (if a1≥(wrap32 (ac+10)) then (some (0,false)) else (some ((wrap32 (a1 - ac)) % 256,true))))=some (r1,r2):=h
 clear h
 by_cases c3:a1<ac
 ·rw [if_pos c3] at H
  have dl:=zC c3
  clear c3
  simp only [Option.some.injEq,Prod.mk.injEq] at H
  obtain ⟨rfl,rfl⟩:=H
  go_enter Tryz.func78,Tryz.ntmps78
  go_wp2_with (first|((with_reducible refine gate_dst (N:=2) rfl ?_);refine box_event ?hg (N:=2) ?hd (cs:=#[.int .i32 ac,.int .i32 af,.int .i32 ag,.int .i32 ad,.int .i32 ah,.int .i32 ai,.int .i32 ae]) (t:=23) ?hr ?_;(case hd=>rfl);(case hg=>rfl);(case hr=>first|(go_simp;done)|(go_simp;rfl));intro ec hg w4 hbox hb;have bV:=zS (hbox);have ed:=bg HB hg;replace HB:=bs HB hb;clear hb hbox hg;have h8:=blkc7 bV.out;have h9:=blkf7 bV.out))
  go_ret2
  exact ⟨by first|rfl|(simp <;> rfl)|(simp [*] <;> rfl),bl HB⟩
 rw [if_neg c3] at H
 have dl:=zD c3
 clear c3
 by_cases c6:a1≥(wrap32 (ac+10))
 ·rw [if_pos c6] at H
  have bQ:decide ((wrap32 (ac+10))≤a1)=true:=zC c6
  clear c6
  simp only [Option.some.injEq,Prod.mk.injEq] at H
  obtain ⟨rfl,rfl⟩:=H
  go_enter Tryz.func78,Tryz.ntmps78
  go_wp2_with (first|((with_reducible refine gate_dst (N:=2) rfl ?_);refine box_event ?hg (N:=2) ?hd (cs:=#[.int .i32 ac,.int .i32 af,.int .i32 ag,.int .i32 ad,.int .i32 ah,.int .i32 ai,.int .i32 ae]) (t:=23) ?hr ?_;(case hd=>rfl);(case hg=>rfl);(case hr=>first|(go_simp;done)|(go_simp;rfl));intro ec hg w7 hbox hb;have bV:=zS (hbox);have ed:=bg HB hg;replace HB:=bs HB hb;clear hb hbox hg;have ia:=blkc7 bV.out;have ib:=blkf7 bV.out))
  go_ret2
  exact ⟨by first|rfl|(simp <;> rfl)|(simp [*] <;> rfl),bl HB⟩
 rw [if_neg c6] at H
 have bQ:decide ((wrap32 (ac+10))≤a1)=false:=zD c6
 clear c6
 simp only [Option.some.injEq,Prod.mk.injEq] at H
 obtain ⟨rfl,rfl⟩:=H
 go_enter Tryz.func78,Tryz.ntmps78
 go_wp2_with (first|((with_reducible refine gate_dst (N:=2) rfl ?_);refine box_event ?hg (N:=2) ?hd (cs:=#[.int .i32 ac,.int .i32 af,.int .i32 ag,.int .i32 ad,.int .i32 ah,.int .i32 ai,.int .i32 ae]) (t:=23) ?hr ?_;(case hd=>rfl);(case hg=>rfl);(case hr=>first|(go_simp;done)|(go_simp;rfl));intro ec hg w9 hbox hb;have bV:=zS (hbox);have ed:=bg HB hg;replace HB:=bs HB hb;clear hb hbox hg;have hC:=blkc7 bV.out;have hD:=blkf7 bV.out))
 go_ret2
 exact ⟨by first|rfl|(simp <;> rfl)|(simp [*] <;> rfl),bl HB⟩
def slices_Equal_rune_rune.l0:Nat→List Int→List Int→Int→Int→Option (Bool)
 | 0,_,_,_,_=>none
 | k+1,x0,x1,x12,x13=>if x13<x12 then (if 0≤x13 then (if x13<(x0.length:Int) then (if x13<(x1.length:Int) then (if (rd x0 x13)=(rd x1 x13) then (slices_Equal_rune_rune.l0 k x0 x1 x12 (wrap64 (x13+1))) else (some false)) else (none)) else (none)) else (none)) else (some true)
def slices_Equal_rune_rune.f (k:Nat)(l0:List Int)(l1:List Int):Option (Bool):=if (l0.length:Int)=(l1.length:Int) then (slices_Equal_rune_rune.l0 k l0 l1 (l0.length:Int) 0) else (some false)
theorem slices_Equal_rune_rune.mono_l:∀ k,(∀ y0 y1 y2 y3,LeO (slices_Equal_rune_rune.l0 k y0 y1 y2 y3) (slices_Equal_rune_rune.l0 (k+1) y0 y1 y2 y3))
 | 0=>fun _ _ _ _ r h=>by simp [slices_Equal_rune_rune.l0] at h
 | k+1=>by
  have ih0:=slices_Equal_rune_rune.mono_l k
  ·intro y0 y1 y2 y3
   unfold slices_Equal_rune_rune.l0
   repeat' first|(with_reducible first|apply ih0|apply LeO.refl|apply LeO.none|refine LeO.ite ?_ ?_|refine LeO.bind ?_ (fun _=>?_))|apply ih0|apply LeO.none
theorem slices_Equal_rune_rune.mono:∀ a0 a1 k,LeO (slices_Equal_rune_rune.f k a0 a1) (slices_Equal_rune_rune.f (k+1) a0 a1):=by
 intro a0 a1 k
 have ih0:=slices_Equal_rune_rune.mono_l k
 unfold slices_Equal_rune_rune.f
 repeat' first|(with_reducible first|apply ih0|apply LeO.refl|apply LeO.none|refine LeO.ite ?_ ?_|refine LeO.bind ?_ (fun _=>?_))|apply ih0|apply LeO.none
set_option maxHeartbeats 8000000 in
set_option maxRecDepth 100000 in
theorem slices_Equal_rune_rune.calls (k:Nat)(A0:Option Addr)(c0:Nat)(l0:List Int)(A1:Option Addr)(c1:Nat)(l1:List Int)(r:Bool)(w:World)(hr0:Kd.C (Kd.int .i32) w A0 l0.length l0)(hc0:l0.length≤c0)(hr1:Kd.C (Kd.int .i32) w A1 l1.length l1)(hc1:l1.length≤c1)(h:slices_Equal_rune_rune.f k l0 l1=some r) :
  Calls Tryz.prog 79 #[.slice A0 l0.length c0,.slice A1 l1.length c1] w fun e w'=>e = .returned (.bool r)∧Drawn0 w w':=by
 have HR0:=zS hr0
 have HC0:=zS hc0
 clear hr0 hc0
 have HR1:=zS hr1
 have HC1:=zS hc1
 clear hr1 hc1
 have H:(if (l0.length:Int)=(l1.length:Int) then (slices_Equal_rune_rune.l0 k l0 l1 (l0.length:Int) 0) else (some false))=some r:=h
 clear h
 by_cases c3:(l0.length:Int)=(l1.length:Int)
 rotate_left
 ·rw [if_neg c3] at H
  have dl:((l0.length:Int) == (l1.length:Int))=false:=zF c3
  have fb:((l0.length:Int) != (l1.length:Int))=true:=zI c3
  have fc:(l0.length == l1.length)=false:=by first|simpa using c3|(simp at c3 ⊢;omega)
  obtain rfl:=zE H
  go_enter Tryz.func79,Tryz.ntmps79
  go_wp2
  repeat (go_quiet (fail);try go_wp2)
  go_ret
  exact ⟨by first|rfl|(simp;done)|(simp [*];done),by repeat (first|exact Drawn0.refl _|apply Drawn0.step)⟩
 rw [if_pos c3] at H
 have dl:((l0.length:Int) == (l1.length:Int))=true:=zH c3
 have fb:((l0.length:Int) != (l1.length:Int))=false:=zG c3
 have fc:(l0.length == l1.length)=true:=by first|simpa using c3|(simp at c3 ⊢;omega)
 clear c3
 have H':=zS H
 clear H
 go_enter Tryz.func79,Tryz.ntmps79
 go_wp2
 repeat (go_quiet (fail);try go_wp2)
 go_loopg [13] k (fun kq v13 w'=>∃ (an:Int),v13 = .int .i64 an∧Sd (slices_Equal_rune_rune.l0 kq l0 l1 (l0.length:Int) an=some r)∧Sd (kq≤k)∧Drawn0 w w')
 case atStart=>exact ⟨(0),(by first|rfl|(simp;done)|(simp [*];done)),H',⟨Nat.le_refl _⟩,by repeat (first|exact Drawn0.refl _|apply Drawn0.step)⟩
 case round=>
  clear H'
  try clear c1
  try clear p2
  try clear c3
  try clear dl
  try clear fb
  try clear fc
  obtain ⟨an,rfl,HA,HK1,⟨m1,rfl⟩⟩:=hrel
  cases gk with
  | zero=>exact absurd HA.out (by simp [slices_Equal_rune_rune.l0])
  | succ k1=>
   have H:=HA.out
   clear HA
   simp only [slices_Equal_rune_rune.l0] at H
   by_cases c4:an<(l0.length:Int)
   rotate_left
   ·rw [if_neg c4] at H
    have dT:=zD c4
    clear c4
    obtain rfl:=zE H
    go_wp2
    repeat (go_quiet (fail);try go_wp2)
    go_ret
    exact ⟨by first|rfl|(simp;done)|(simp [*];done),by repeat (first|exact Drawn0.refl _|apply Drawn0.step)⟩
   rw [if_pos c4] at H
   have dT:=zC c4
   clear c4
   by_cases c5:0≤an
   rotate_left
   ·rw [if_neg c5] at H
    exact absurd H (by simp)
   rw [if_pos c5] at H
   have bP:=zC c5
   clear c5
   by_cases c6:an<(l0.length:Int)
   rotate_left
   ·rw [if_neg c6] at H
    exact absurd H (by simp)
   rw [if_pos c6] at H
   have bQ:=zC c6
   clear c6
   by_cases c7:an<(l1.length:Int)
   rotate_left
   ·rw [if_neg c7] at H
    exact absurd H (by simp)
   rw [if_pos c7] at H
   have f4:=zC c7
   clear c7
   by_cases c8:(rd l0 an)=(rd l1 an)
   ·rw [if_pos c8] at H
    have en:((rd l0 an) == (rd l1 an))=true:=zH c8
    have fa:((rd l0 an) != (rd l1 an))=false:=zG c8
    clear c8
    have H':=zS H
    clear H
    have da:0≤(an:Int):=zB (by first|(with_reducible assumption)|assumption)
    have db:an<(l0.length:Int):=zB (by first|(with_reducible assumption)|assumption)
    obtain ⟨fd,eo,dV⟩:=Kd.at_int HR0.out an da db
    cases eo
    replace da:=eq_true da
    replace db:=eq_true db
    have dc:0≤(an:Int):=zB (by first|(with_reducible assumption)|assumption)
    have dd:an<(l1.length:Int):=zB (by first|(with_reducible assumption)|assumption)
    obtain ⟨fe,ep,dW⟩:=Kd.at_int HR1.out an dc dd
    cases ep
    replace dc:=eq_true dc
    replace dd:=eq_true dd
    go_wp2
    repeat (go_quiet (fail);try go_wp2)
    go_roundg k1
    case measure=>have:=HK1.out;omega
    case rel=>exact ⟨(wrap64 (an+1)),(by first|rfl|(simp;done)|(simp [*];done)),H',⟨by have:=HK1.out;omega⟩,by repeat (first|exact Drawn0.refl _|apply Drawn0.step)⟩
   rw [if_neg c8] at H
   have en:((rd l0 an) == (rd l1 an))=false:=zF c8
   have fa:((rd l0 an) != (rd l1 an))=true:=zI c8
   obtain rfl:=zE H
   have da:0≤(an:Int):=zB (by first|(with_reducible assumption)|assumption)
   have db:an<(l0.length:Int):=zB (by first|(with_reducible assumption)|assumption)
   obtain ⟨fd,eo,dV⟩:=Kd.at_int HR0.out an da db
   cases eo
   replace da:=eq_true da
   replace db:=eq_true db
   have dc:0≤(an:Int):=zB (by first|(with_reducible assumption)|assumption)
   have dd:an<(l1.length:Int):=zB (by first|(with_reducible assumption)|assumption)
   obtain ⟨fe,ep,dW⟩:=Kd.at_int HR1.out an dc dd
   cases ep
   replace dc:=eq_true dc
   replace dd:=eq_true dd
   go_wp2
   repeat (go_quiet (fail);try go_wp2)
   go_ret
   exact ⟨by first|rfl|(simp;done)|(simp [*];done),by repeat (first|exact Drawn0.refl _|apply Drawn0.step)⟩
def sym_Ungrouped.l0:Nat→List Int→Int→Int→List Int→List Int→Int→Int→Int→Int→Int→Int→Int→Int→Int→Option (List Int×Int×Int)
 | 0,_,_,_,_,_,_,_,_,_,_,_,_,_,_=>none
 | k+1,x1,x2,x3,x11,x16,x17,x18,b2,b3,bK,b4,b5,b6,b7=>if x18<x17 then (if 0≤x18 then (if x18<(x16.length:Int) then ((sym_Value.f b2 b3 bK b4 b5 b6 b7 (rd x16 x18)).bind fun ee=>(if ee.2=true then (if x11.length<140737488355328 then (sym_Ungrouped.l0 k x1 x2 x3 (x11 ++ [ee.1]) x16 x17 (wrap64 (x18+1)) b2 b3 bK b4 b5 b6 b7) else (none)) else (if (rd x16 x18)=bK then (sym_Ungrouped.l0 k x1 x2 x3 x11 x16 x17 (wrap64 (x18+1)) b2 b3 bK b4 b5 b6 b7) else (some (([]:List Int),x18,10))))) else (none)) else (none)) else ((sym_Grouped.f k b2 b3 bK b4 b5 b6 b7 x11 x2 x3).bind fun cN=>((slices_Equal_rune_rune.f k cN x1).bind fun eq=>(if eq=true then (some (x11,0,0)) else (some (([]:List Int),(x1.length:Int),10)))))
def sym_Ungrouped.f (k:Nat)(ac:Int)(af:Int)(ag:Int)(ad:Int)(ah:Int)(ai:Int)(ae:Int)(l1:List Int)(a2:Int)(a3:Int):Option (List Int×Int×Int):=sym_Ungrouped.l0 k l1 a2 a3 ([]:List Int) l1 (l1.length:Int) 0 ac af ag ad ah ai ae
theorem sym_Ungrouped.mono_l:∀ k,(∀ y0 y1 y2 y3 y4 y5 y6 y7 y8 y9 y10 y11 y12 y13,LeO (sym_Ungrouped.l0 k y0 y1 y2 y3 y4 y5 y6 y7 y8 y9 y10 y11 y12 y13) (sym_Ungrouped.l0 (k+1) y0 y1 y2 y3 y4 y5 y6 y7 y8 y9 y10 y11 y12 y13))
 | 0=>fun _ _ _ _ _ _ _ _ _ _ _ _ _ _ r h=>by simp [sym_Ungrouped.l0] at h
 | k+1=>by
  have ih0:=sym_Ungrouped.mono_l k
  ·intro y0 y1 y2 y3 y4 y5 y6 y7 y8 y9 y10 y11 y12 y13
   unfold sym_Ungrouped.l0
   repeat' first|(with_reducible first|apply ih0|apply slices_Equal_rune_rune.mono|apply sym_Grouped.mono|apply LeO.refl|apply LeO.none|refine LeO.ite ?_ ?_|refine LeO.bind ?_ (fun _=>?_))|apply ih0|apply slices_Equal_rune_rune.mono|apply sym_Grouped.mono|apply LeO.none
theorem sym_Ungrouped.mono:∀ a0 a1 a2 a3 a4 a5 a6 a7 a8 a9 k,LeO (sym_Ungrouped.f k a0 a1 a2 a3 a4 a5 a6 a7 a8 a9) (sym_Ungrouped.f (k+1) a0 a1 a2 a3 a4 a5 a6 a7 a8 a9):=by
 intro a0 a1 a2 a3 a4 a5 a6 a7 a8 a9 k
 have ih0:=sym_Ungrouped.mono_l k
 unfold sym_Ungrouped.f
 repeat' first|(with_reducible first|apply ih0|apply slices_Equal_rune_rune.mono|apply sym_Grouped.mono|apply LeO.refl|apply LeO.none|refine LeO.ite ?_ ?_|refine LeO.bind ?_ (fun _=>?_))|apply ih0|apply slices_Equal_rune_rune.mono|apply sym_Grouped.mono|apply LeO.none
set_option maxHeartbeats 8000000 in
set_option maxRecDepth 100000 in
theorem sym_Ungrouped.calls (k:Nat)(ac:Int)(af:Int)(ag:Int)(ad:Int)(ah:Int)(ai:Int)(ae:Int)(A1:Option Addr)(c1:Nat)(l1:List Int)(a2:Int)(a3:Int)(r1:List Int)(r2:Int)(r3:Int)(w:World)(hr1:Kd.C (Kd.int .i32) w A1 l1.length l1)(hc1:l1.length≤c1)(h:sym_Ungrouped.f k ac af ag ad ah ai ae l1 a2 a3=some (r1,r2,r3)) :
  Calls Tryz.prog 57 #[.agg #[.int .i32 ac,.int .i32 af,.int .i32 ag,.int .i32 ad,.int .i32 ah,.int .i32 ai,.int .i32 ae],.slice A1 l1.length c1,.int .i64 a2,.int .i64 a3] w fun e w'=>∃ v0_:Value,e = .returned (.tuple #[v0_,.int .i64 r2,.int .i64 r3])∧Kd.R (Kd.int .u8) 5 w' w.heap.size (fun _=>True) v0_ r1∧Below w.heap.size w w':=by
 have hu23:=Tryz.underlying23
 have HR1:=zS hr1
 have HC1:=zS hc1
 clear hr1 hc1
 have HB:=zS (Below.refl w.heap.size w)
 have H:(sym_Ungrouped.l0 k l1 a2 a3 ([]:List Int) l1 (l1.length:Int) 0 ac af ag ad ah ai ae)=some (r1,r2,r3):=h
 clear h
 have H':=zS H
 clear H
 go_enter Tryz.func57,Tryz.ntmps57
 go_wp2_with (first|((with_reducible refine gate_dst (N:=4) rfl ?_);refine box_event ?hg (N:=4) ?hd (cs:=#[.int .i32 ac,.int .i32 af,.int .i32 ag,.int .i32 ad,.int .i32 ah,.int .i32 ai,.int .i32 ae]) (t:=23) ?hr ?_;(case hd=>rfl);(case hg=>rfl);(case hr=>first|(go_simp;done)|(go_simp;rfl));intro ff hg w5 hbox hb;have al:=zS (hbox);have hE:=bg HB hg;replace HB:=bs HB hb;clear hb hbox hg))
 go_loopg [11,18] k (fun kq v11 v18 w'=>∃ (bq:List Int) (ao:Int),v18 = .int .i64 ao∧Sd (sym_Ungrouped.l0 kq l1 a2 a3 bq l1 (l1.length:Int) ao ac af ag ad ah ai ae=some (r1,r2,r3))∧Sd (kq≤k)∧Sd (Kd.R (Kd.int .u8) 5 w' w.heap.size (fun _=>True) v11 bq)∧Sd (w'.heap[ff]?=some (.cells #[.int .i32 ac,.int .i32 af,.int .i32 ag,.int .i32 ad,.int .i32 ah,.int .i32 ai,.int .i32 ae] 23 (0,0)))∧Sd (Below w.heap.size w w'))
 case atStart=>exact ⟨(([]:List Int)),(0),(by first|rfl|(simp;done)|(simp [*];done)),H',⟨Nat.le_refl _⟩,⟨by first|exact Kd.R_nil _ _ _ _ _|exact Kd.N_nil _ _ _ _ _|exact Kd.V_nil _ _ _ _ _|exact Kd.Q_nil _ _ _ _ _|exact Kd.S_nil _ _ _ _ _⟩,⟨ko al⟩,⟨bl HB⟩⟩
 case round=>
  clear H'
  try clear c1
  try clear p2
  try clear c5
  obtain ⟨bq,ao,rfl,HA,HK1,HO_11,al,HB⟩:=hrel
  cases gk with
  | zero=>exact absurd HA.out (by simp [sym_Ungrouped.l0])
  | succ k1=>
   have H:=HA.out
   clear HA
   simp only [sym_Ungrouped.l0] at H
   by_cases c6:ao<(l1.length:Int)
   rotate_left
   ·rw [if_neg c6] at H
    have bQ:=zD c6
    clear c6
    replace H:=Option.bind_eq_some_iff.mp H
    obtain ⟨cN,fg,H⟩:=H
    try dsimp only at H
    have A22:=zS fg
    clear fg
    replace H:=Option.bind_eq_some_iff.mp H
    obtain ⟨eq,fh,H⟩:=H
    try dsimp only at H
    have A23:=zS fh
    clear fh
    by_cases c24:eq=true
    ·subst c24
     rw [if_pos rfl] at H
     simp only [Option.some.injEq,Prod.mk.injEq] at H
     obtain ⟨rfl,rfl,rfl⟩:=H
     have hF:=blkc7 al.out
     have hH:=blkf7 al.out
     obtain ⟨f5,f6,f7⟩:=Kd.R_slice HO_11.out
     subst f7
     go_wp2_with (first|((with_reducible refine gate_callee (f:=49) rfl ?_);refine gL (some 46) Tryz.func49 #[.agg #[.int .i32 ac,.int .i32 af,.int .i32 ag,.int .i32 ad,.int .i32 ah,.int .i32 ai,.int .i32 ae],.slice f5 bq.length f6,.int .i64 a2,.int .i64 a3] ?_;(with_reducible refine (sym_Grouped.calls k1 ac af ag ad ah ai ae _ _ bq a2 a3 cN _ (rc HO_11) (rl HO_11) A22.out).mono ?_);rintro e w27 ⟨f8,rfl,ho0,hb⟩;refine ⟨_,rfl,?_⟩;replace HO_11:=rb HO_11 hb;have cc:=zS (Kd.R_lower ho0 (bz HB));replace al:=kb al hb;replace HB:=bs HB hb;(try clear hb);(try clear ho0);obtain ⟨f9,ga,gb⟩:=Kd.R_slice cc.out;subst gb)|((with_reducible refine gate_callee (f:=79) rfl ?_);refine gL (some 48) Tryz.func79 #[.slice f9 cN.length ga,.slice A1 l1.length c1] ?_;(with_reducible refine (slices_Equal_rune_rune.calls k1 _ _ cN _ _ l1 true _ (rc cc) (rl cc) (cb HR1 HB) HC1.out A23.out).mono ?_);rintro e w' ⟨rfl,⟨nd,rfl⟩⟩;refine ⟨_,rfl,?_⟩))
     go_ret3
     exact ⟨_,by first|rfl|(simp <;> rfl)|(simp [*] <;> rfl),by (with_reducible repeat (first|apply Kd.R_alloc|apply Kd.R_drewN|apply Kd.R_drew));exact HO_11.out,bl HB⟩
    replace c24:=Bool.eq_false_iff.mpr c24
    subst c24
    rw [if_neg (show ¬ (false=true) by decide)] at H
    simp only [Option.some.injEq,Prod.mk.injEq] at H
    obtain ⟨rfl,rfl,rfl⟩:=H
    have hI:=blkc7 al.out
    have hJ:=blkf7 al.out
    obtain ⟨ek,el,dP⟩:=Kd.R_slice HO_11.out
    subst dP
    go_wp2_with (first|((with_reducible refine gate_callee (f:=49) rfl ?_);refine gL (some 46) Tryz.func49 #[.agg #[.int .i32 ac,.int .i32 af,.int .i32 ag,.int .i32 ad,.int .i32 ah,.int .i32 ai,.int .i32 ae],.slice ek bq.length el,.int .i64 a2,.int .i64 a3] ?_;(with_reducible refine (sym_Grouped.calls k1 ac af ag ad ah ai ae _ _ bq a2 a3 cN _ (rc HO_11) (rl HO_11) A22.out).mono ?_);rintro e w31 ⟨f8,rfl,ho0,hb⟩;refine ⟨_,rfl,?_⟩;replace HO_11:=rb HO_11 hb;have cc:=zS (Kd.R_lower ho0 (bz HB));replace al:=kb al hb;replace HB:=bs HB hb;(try clear hb);(try clear ho0);obtain ⟨gc,ge,gg⟩:=Kd.R_slice cc.out;subst gg)|((with_reducible refine gate_callee (f:=79) rfl ?_);refine gL (some 48) Tryz.func79 #[.slice gc cN.length ge,.slice A1 l1.length c1] ?_;(with_reducible refine (slices_Equal_rune_rune.calls k1 _ _ cN _ _ l1 false _ (rc cc) (rl cc) (cb HR1 HB) HC1.out A23.out).mono ?_);rintro e w' ⟨rfl,⟨nd,rfl⟩⟩;refine ⟨_,rfl,?_⟩))
    go_ret3
    exact ⟨_,by first|rfl|(simp <;> rfl)|(simp [*] <;> rfl),by first|exact Kd.R_nil _ _ _ _ _|exact Kd.N_nil _ _ _ _ _|exact Kd.V_nil _ _ _ _ _|exact Kd.Q_nil _ _ _ _ _|exact Kd.S_nil _ _ _ _ _,bl HB⟩
   rw [if_pos c6] at H
   have bQ:=zC c6
   clear c6
   by_cases c7:0≤ao
   rotate_left
   ·rw [if_neg c7] at H
    exact absurd H (by simp)
   rw [if_pos c7] at H
   have f4:=zC c7
   clear c7
   by_cases c8:ao<(l1.length:Int)
   rotate_left
   ·rw [if_neg c8] at H
    exact absurd H (by simp)
   rw [if_pos c8] at H
   have en:=zC c8
   clear c8
   replace H:=Option.bind_eq_some_iff.mp H
   obtain ⟨⟨dm,gh⟩,A90,H⟩:=H
   try dsimp only at H
   have A9:=zS A90
   clear A90
   by_cases c10:gh=true
   ·subst c10
    rw [if_pos rfl] at H
    by_cases c11:bq.length<140737488355328
    rotate_left
    ·rw [if_neg c11] at H
     exact absurd H (by simp)
    rw [if_pos c11] at H
    have LMc11:=zS c11
    clear c11
    obtain ⟨fi,cO⟩:∃ y_:List Int,y_=(bq ++ [dm]):=⟨_,rfl⟩
    replace H:(sym_Ungrouped.l0 k1 l1 a2 a3 fi l1 (l1.length:Int) (wrap64 (ao+1)) ac af ag ad ah ai ae)=some (r1,r2,r3):=by first|(rw [cO];with_reducible exact H)|(have H2_:=(Option.bind_some _ _).symm.trans H;rw [cO];with_reducible exact H2_)|(have H2_:=(Option.bind_some _ _).symm.trans H;with_reducible exact H2_)|with_reducible exact H|(rw [cO];exact H)|exact H
    have fj:=zS cO
    clear cO
    have H':=zS H
    clear H
    have cd:0≤(ao:Int):=zB (by first|(with_reducible assumption)|assumption)
    have ce:ao<(l1.length:Int):=zB (by first|(with_reducible assumption)|assumption)
    obtain ⟨ef,dF,av⟩:=Kd.at_int HR1.out ao cd ce
    cases dF
    replace av:=(HB.out.cell (World.block_lt_of_cell? w _ av)).trans av
    replace cd:=eq_true cd
    replace ce:=eq_true ce
    have cP:=blkc7 al.out
    have cQ:=blkf7 al.out
    go_wp2_with (first|((with_reducible refine gate_callee (f:=78) rfl ?_);refine gL (some 26) Tryz.func78 #[.agg #[.int .i32 ac,.int .i32 af,.int .i32 ag,.int .i32 ad,.int .i32 ah,.int .i32 ai,.int .i32 ae],.int .i32 (rd l1 ao)] ?_;(with_reducible refine (sym_Value.calls ac af ag ad ah ai ae (rd l1 ao) dm true _ A9.out).mono ?_);rintro e w13 ⟨rfl,hb⟩;refine ⟨_,rfl,?_⟩;replace HO_11:=rb HO_11 hb;replace al:=kb al hb;replace HB:=bs HB hb;(try clear hb))|((with_reducible refine gate_builtin (b:=.append) (xs:=#[.tmp 31,.tmp 33]) rfl ?_);at_builtin;refine Kd.R_append (Kd.int .u8) (w0:=w) w.heap.size rfl (.tmp 31) (.tmp 33) 27 5 (.int .u8 0) 1 rfl Tryz.underlying27 info5 rfl (by decide) (by omega) u11 bq dm [.int .u8 dm] (fun _=>True) (fun _=>False) rfl rfl ?aP (fun _ hk=>hk.elim) ?aF ?aO ?aB ?aS ?aL ?_;(case aP=>exact rfl);(case aB=>exact (bl HB));(case aF=>exact (fun _ _=>trivial));(case aO=>exact (ro HO_11));(case aS=>exact (bz HB));(case aL=>have:=LMc11.out;omega);intro ic w14 ho hb hg hat;rw [← fj.out] at ho;replace al:=zS (blk_grown (ko al) hg (Kd.R_ne HO_11.out al.out (by decide)));replace HB:=zS (hb);have fk:=zS (ho);clear HO_11;clear ho hb hg hat))
    go_roundg k1
    case measure=>have:=HK1.out;omega
    case rel=>exact ⟨(fi),(wrap64 (ao+1)),(by first|rfl|(simp;done)|(simp [*];done)),H',⟨by have:=HK1.out;omega⟩,⟨ro fk⟩,⟨ko al⟩,⟨bl HB⟩⟩
   replace c10:=Bool.eq_false_iff.mpr c10
   subst c10
   rw [if_neg (show ¬ (false=true) by decide)] at H
   by_cases c15:(rd l1 ao)=ag
   ·rw [if_pos c15] at H
    have cR:((rd l1 ao) == ag)=true:=zH c15
    have cS:((rd l1 ao) != ag)=false:=zG c15
    clear c15
    have H':=zS H
    clear H
    have cd:0≤(ao:Int):=zB (by first|(with_reducible assumption)|assumption)
    have ce:ao<(l1.length:Int):=zB (by first|(with_reducible assumption)|assumption)
    obtain ⟨ef,dF,av⟩:=Kd.at_int HR1.out ao cd ce
    cases dF
    replace av:=(HB.out.cell (World.block_lt_of_cell? w _ av)).trans av
    replace cd:=eq_true cd
    replace ce:=eq_true ce
    have hL:=blkc7 al.out
    have hM:=blkf7 al.out
    go_wp2_with (first|((with_reducible refine gate_callee (f:=78) rfl ?_);refine gL (some 26) Tryz.func78 #[.agg #[.int .i32 ac,.int .i32 af,.int .i32 ag,.int .i32 ad,.int .i32 ah,.int .i32 ai,.int .i32 ae],.int .i32 (rd l1 ao)] ?_;(with_reducible refine (sym_Value.calls ac af ag ad ah ai ae (rd l1 ao) dm false _ A9.out).mono ?_);rintro e w17 ⟨rfl,hb⟩;refine ⟨_,rfl,?_⟩;replace HO_11:=rb HO_11 hb;replace al:=kb al hb;replace HB:=bs HB hb;(try clear hb);have d8:=blkc7 al.out;have d9:=blkf7 al.out))
    go_roundg k1
    case measure=>have:=HK1.out;omega
    case rel=>exact ⟨(bq),(wrap64 (ao+1)),(by first|rfl|(simp;done)|(simp [*];done)),H',⟨by have:=HK1.out;omega⟩,⟨ro HO_11⟩,⟨ko al⟩,⟨bl HB⟩⟩
   rw [if_neg c15] at H
   have cR:((rd l1 ao) == ag)=false:=zF c15
   have cS:((rd l1 ao) != ag)=true:=zI c15
   simp only [Option.some.injEq,Prod.mk.injEq] at H
   obtain ⟨rfl,rfl,rfl⟩:=H
   have cd:0≤(ao:Int):=zB (by first|(with_reducible assumption)|assumption)
   have ce:ao<(l1.length:Int):=zB (by first|(with_reducible assumption)|assumption)
   obtain ⟨ef,dF,av⟩:=Kd.at_int HR1.out ao cd ce
   cases dF
   replace av:=(HB.out.cell (World.block_lt_of_cell? w _ av)).trans av
   replace cd:=eq_true cd
   replace ce:=eq_true ce
   have dG:=blkc7 al.out
   have dH:=blkf7 al.out
   go_wp2_with (first|((with_reducible refine gate_callee (f:=78) rfl ?_);refine gL (some 26) Tryz.func78 #[.agg #[.int .i32 ac,.int .i32 af,.int .i32 ag,.int .i32 ad,.int .i32 ah,.int .i32 ai,.int .i32 ae],.int .i32 (rd l1 ao)] ?_;(with_reducible refine (sym_Value.calls ac af ag ad ah ai ae (rd l1 ao) dm false _ A9.out).mono ?_);rintro e w20 ⟨rfl,hb⟩;refine ⟨_,rfl,?_⟩;replace HO_11:=rb HO_11 hb;replace al:=kb al hb;replace HB:=bs HB hb;(try clear hb);have hN:=blkc7 al.out;have hO:=blkf7 al.out))
   go_ret3
   exact ⟨_,by first|rfl|(simp <;> rfl)|(simp [*] <;> rfl),by first|exact Kd.R_nil _ _ _ _ _|exact Kd.N_nil _ _ _ _ _|exact Kd.V_nil _ _ _ _ _|exact Kd.Q_nil _ _ _ _ _|exact Kd.S_nil _ _ _ _ _,bl HB⟩
mutual
def shape_power.j0:Nat→List Int→Bool→Int→Int→Int→Int→Int→Int→Int→Option (Int×Bool)
 | 0,_,_,_,_,_,_,_,_,_=>none
 | k+1,x1,x6,aJ,aK,aM,aN,aD,aQ,aT=>if x6=true then (shape_power.j1 k x1 x6 true aJ aK aM aN aD aQ aT) else (if (x1.length:Int)>0 then (if 0<(x1.length:Int) then (shape_power.j1 k x1 x6 ((rd x1 0) == aD) aJ aK aM aN aD aQ aT) else (none)) else (shape_power.j1 k x1 x6 false aJ aK aM aN aD aQ aT))
def shape_power.j1:Nat→List Int→Bool→Bool→Int→Int→Int→Int→Int→Int→Int→Option (Int×Bool)
 | 0,_,_,_,_,_,_,_,_,_,_=>none
 | k+1,x1,x6,x37,aJ,aK,aM,aN,aD,aQ,aT=>if x37=true then (if 1≤(x1.length:Int) then (shape_power.j2 k (x1.drop 1) x6 aJ aK aM aN aD aQ aT) else (none)) else (shape_power.j2 k x1 x6 aJ aK aM aN aD aQ aT)
def shape_power.j2:Nat→List Int→Bool→Int→Int→Int→Int→Int→Int→Int→Option (Int×Bool)
 | 0,_,_,_,_,_,_,_,_,_=>none
 | k+1,x1,x6,aJ,aK,aM,aN,aD,aQ,aT=>(sym_Ungrouped.f k aJ aK aM aN aD aQ aT x1 0 0).bind fun dg=>(if dg.2.2=0 then (if (x1.length:Int)=0 then (shape_power.j3 k x6 dg.1 true) else (shape_power.j3 k x6 dg.1 (decide ((x1.length:Int)>40)))) else (shape_power.j3 k x6 dg.1 true))
def shape_power.j3:Nat→Bool→List Int→Bool→Option (Int×Bool)
 | 0,_,_,_=>none
 | k+1,x6,x7,x58=>if x58=true then (some (0,false)) else (shape_power.l0 k x6 0 x7 (x7.length:Int) 0)
def shape_power.l0:Nat→Bool→Int→List Int→Int→Int→Option (Int×Bool)
 | 0,_,_,_,_,_=>none
 | k+1,x6,x10,x59,x60,x61=>if x61<x60 then (if 0≤x61 then (if x61<(x59.length:Int) then (shape_power.l0 k x6 (mn (wrap64 ((wrap64 (x10 * 10))+(wrap64 (rd x59 x61)))) 100001) x59 x60 (wrap64 (x61+1))) else (none)) else (none)) else (if x6=true then (some (wrap64 (-x10),decide (x10≤100000))) else (some (x10,decide (x10≤100000))))
end
def shape_power.f (k:Nat)(ac:Int)(af:Int)(ag:Int)(ad:Int)(ah:Int)(ai:Int)(ae:Int)(l1:List Int):Option (Int×Bool):=if (l1.length:Int)>0 then (if 0<(l1.length:Int) then (shape_power.j0 k l1 ((rd l1 0) == ad) ac af ag ad ah ai ae) else (none)) else (shape_power.j0 k l1 false ac af ag ad ah ai ae)
theorem shape_power.mono_l:∀ k,(∀ y0 y1 y2 y3 y4 y5 y6 y7 y8,LeO (shape_power.j0 k y0 y1 y2 y3 y4 y5 y6 y7 y8) (shape_power.j0 (k+1) y0 y1 y2 y3 y4 y5 y6 y7 y8))∧(∀ y0 y1 y2 y3 y4 y5 y6 y7 y8 y9,LeO (shape_power.j1 k y0 y1 y2 y3 y4 y5 y6 y7 y8 y9) (shape_power.j1 (k+1) y0 y1 y2 y3 y4 y5 y6 y7 y8 y9))∧(∀ y0 y1 y2 y3 y4 y5 y6 y7 y8,LeO (shape_power.j2 k y0 y1 y2 y3 y4 y5 y6 y7 y8) (shape_power.j2 (k+1) y0 y1 y2 y3 y4 y5 y6 y7 y8))∧(∀ y0 y1 y2,LeO (shape_power.j3 k y0 y1 y2) (shape_power.j3 (k+1) y0 y1 y2))∧(∀ y0 y1 y2 y3 y4,LeO (shape_power.l0 k y0 y1 y2 y3 y4) (shape_power.l0 (k+1) y0 y1 y2 y3 y4))
 | 0=>⟨fun _ _ _ _ _ _ _ _ _ r h=>by simp [shape_power.j0] at h,fun _ _ _ _ _ _ _ _ _ _ r h=>by simp [shape_power.j1] at h,fun _ _ _ _ _ _ _ _ _ r h=>by simp [shape_power.j2] at h,fun _ _ _ r h=>by simp [shape_power.j3] at h,fun _ _ _ _ _ r h=>by simp [shape_power.l0] at h⟩
 | k+1=>by
  obtain ⟨ih0,ih1,ih2,ih3,ih4⟩:=shape_power.mono_l k
  refine ⟨?_,?_,?_,?_,?_⟩
  ·intro y0 y1 y2 y3 y4 y5 y6 y7 y8
   unfold shape_power.j0
   repeat' first|(with_reducible first|apply ih0|apply ih1|apply ih2|apply ih3|apply ih4|apply sym_Ungrouped.mono|apply LeO.refl|apply LeO.none|refine LeO.ite ?_ ?_|refine LeO.bind ?_ (fun _=>?_))|apply ih0|apply ih1|apply ih2|apply ih3|apply ih4|apply sym_Ungrouped.mono|apply LeO.none
  ·intro y0 y1 y2 y3 y4 y5 y6 y7 y8 y9
   unfold shape_power.j1
   repeat' first|(with_reducible first|apply ih0|apply ih1|apply ih2|apply ih3|apply ih4|apply sym_Ungrouped.mono|apply LeO.refl|apply LeO.none|refine LeO.ite ?_ ?_|refine LeO.bind ?_ (fun _=>?_))|apply ih0|apply ih1|apply ih2|apply ih3|apply ih4|apply sym_Ungrouped.mono|apply LeO.none
  ·intro y0 y1 y2 y3 y4 y5 y6 y7 y8
   unfold shape_power.j2
   repeat' first|(with_reducible first|apply ih0|apply ih1|apply ih2|apply ih3|apply ih4|apply sym_Ungrouped.mono|apply LeO.refl|apply LeO.none|refine LeO.ite ?_ ?_|refine LeO.bind ?_ (fun _=>?_))|apply ih0|apply ih1|apply ih2|apply ih3|apply ih4|apply sym_Ungrouped.mono|apply LeO.none
  ·intro y0 y1 y2
   unfold shape_power.j3
   repeat' first|(with_reducible first|apply ih0|apply ih1|apply ih2|apply ih3|apply ih4|apply sym_Ungrouped.mono|apply LeO.refl|apply LeO.none|refine LeO.ite ?_ ?_|refine LeO.bind ?_ (fun _=>?_))|apply ih0|apply ih1|apply ih2|apply ih3|apply ih4|apply sym_Ungrouped.mono|apply LeO.none
  ·intro y0 y1 y2 y3 y4
   unfold shape_power.l0
   repeat' first|(with_reducible first|apply ih0|apply ih1|apply ih2|apply ih3|apply ih4|apply sym_Ungrouped.mono|apply LeO.refl|apply LeO.none|refine LeO.ite ?_ ?_|refine LeO.bind ?_ (fun _=>?_))|apply ih0|apply ih1|apply ih2|apply ih3|apply ih4|apply sym_Ungrouped.mono|apply LeO.none
theorem shape_power.mono:∀ a0 a1 a2 a3 a4 a5 a6 a7 k,LeO (shape_power.f k a0 a1 a2 a3 a4 a5 a6 a7) (shape_power.f (k+1) a0 a1 a2 a3 a4 a5 a6 a7):=by
 intro a0 a1 a2 a3 a4 a5 a6 a7 k
 obtain ⟨ih0,ih1,ih2,ih3,ih4⟩:=shape_power.mono_l k
 unfold shape_power.f
 repeat' first|(with_reducible first|apply ih0|apply ih1|apply ih2|apply ih3|apply ih4|apply sym_Ungrouped.mono|apply LeO.refl|apply LeO.none|refine LeO.ite ?_ ?_|refine LeO.bind ?_ (fun _=>?_))|apply ih0|apply ih1|apply ih2|apply ih3|apply ih4|apply sym_Ungrouped.mono|apply LeO.none
set_option maxHeartbeats 8000000 in
set_option maxRecDepth 100000 in
theorem shape_power.calls (k:Nat)(ac:Int)(af:Int)(ag:Int)(ad:Int)(ah:Int)(ai:Int)(ae:Int)(P1_:Nat→Prop)(A1:Option Addr)(c1:Nat)(l1:List Int)(r1:Int)(r2:Bool)(w:World)(hs1:Kd.V (Kd.int .i32) 21 w w.heap.size (fun k_=>P1_ k_) (.slice A1 l1.length c1) l1)(h:shape_power.f k ac af ag ad ah ai ae l1=some (r1,r2)) :
  Calls Tryz.prog 56 #[.agg #[.int .i32 ac,.int .i32 af,.int .i32 ag,.int .i32 ad,.int .i32 ah,.int .i32 ai,.int .i32 ae],.slice A1 l1.length c1] w fun e w'=>e = .returned (.tuple #[.int .i64 r1,.bool r2])∧Below w.heap.size w w':=by
 have hu23:=Tryz.underlying23
 have HO1:=zS (show Kd.V (Kd.int .i32) 21 w w.heap.size (fun k_=>(P1_ k_∨w.heap.size≤k_)) (.slice A1 l1.length c1) l1 from Kd.V_mono hs1 (fun k_ hk=>.inl hk))
 have HB:=zS (Below.refl w.heap.size w)
 have H:(if (l1.length:Int)>0 then (if 0<(l1.length:Int) then (shape_power.j0 k l1 ((rd l1 0) == ad) ac af ag ad ah ai ae) else (none)) else (shape_power.j0 k l1 false ac af ag ad ah ai ae))=some (r1,r2):=h
 clear h
 have HC3:=zS H
 clear H
 go_enter Tryz.func56,Tryz.ntmps56
 go_upto_region 1 with (first|((with_reducible refine gate_dst (N:=2) rfl ?_);(try (refine gate_guard (by rfl) ?_;dsimp only));refine box_event ?hg (N:=2) ?hd (cs:=#[.int .i32 ac,.int .i32 af,.int .i32 ag,.int .i32 ad,.int .i32 ah,.int .i32 ai,.int .i32 ae]) (t:=23) ?hr ?_;(case hd=>rfl);(case hg=>rfl);(case hr=>first|(go_simp;done)|(go_simp;rfl));intro ba hg w4 hbox hb;replace HO1:=zS (Kd.V_below (Kd.V_elderB (vo HO1) ba (Nat.le_of_eq hg.symm)) hb);have am:=zS (hbox);have eg:=bg HB hg;replace HB:=bs HB hb;clear hb hbox hg))
 repeat (go_quiet (first|((with_reducible refine gate_dst (N:=2) rfl ?_);(try (refine gate_guard (by rfl) ?_;dsimp only));refine box_event ?hg (N:=2) ?hd (cs:=#[.int .i32 ac,.int .i32 af,.int .i32 ag,.int .i32 ad,.int .i32 ah,.int .i32 ai,.int .i32 ae]) (t:=23) ?hr ?_;(case hd=>rfl);(case hg=>rfl);(case hr=>first|(go_simp;done)|(go_simp;rfl));intro ba hg w4 hbox hb;replace HO1:=zS (Kd.V_below (Kd.V_elderB (vo HO1) ba (Nat.le_of_eq hg.symm)) hb);have am:=zS (hbox);have eg:=bg HB hg;replace HB:=bs HB hb;clear hb hbox hg));go_upto_region 1 with (first|((with_reducible refine gate_dst (N:=2) rfl ?_);(try (refine gate_guard (by rfl) ?_;dsimp only));refine box_event ?hg (N:=2) ?hd (cs:=#[.int .i32 ac,.int .i32 af,.int .i32 ag,.int .i32 ad,.int .i32 ah,.int .i32 ai,.int .i32 ae]) (t:=23) ?hr ?_;(case hd=>rfl);(case hg=>rfl);(case hr=>first|(go_simp;done)|(go_simp;rfl));intro ba hg w4 hbox hb;replace HO1:=zS (Kd.V_below (Kd.V_elderB (vo HO1) ba (Nat.le_of_eq hg.symm)) hb);have am:=zS (hbox);have eg:=bg HB hg;replace HB:=bs HB hb;clear hb hbox hg)))
 (try simp only [Act.put,sA,sB,sC])
 go_cut [6] (fun v6 wc=>∃ (kq:Nat) (cf:Bool),v6 = .bool cf∧Sd (shape_power.j0 kq l1 cf ac af ag ad ah ai ae=some (r1,r2))∧Sd (kq≤k)∧Sd (Kd.V (Kd.int .i32) 21 wc w.heap.size (fun k_=>(P1_ k_∨w.heap.size≤k_)∧k_≠ba) (.slice A1 l1.length c1) l1)∧Sd (wc.heap[ba]?=some (.cells #[.int .i32 ac,.int .i32 af,.int .i32 ag,.int .i32 ad,.int .i32 ah,.int .i32 ai,.int .i32 ae] 23 (0,0)))∧Sd (Below w.heap.size w wc))
 case first=>
  have H:=HC3.out
  clear HC3
  by_cases c5:(l1.length:Int)>0
  rotate_left
  ·rw [if_neg c5] at H
   have bP:decide (0<(l1.length:Int))=false:=zD c5
   have cr:decide (0<l1.length)=false:=zD (by omega)
   clear c5
   (first|rw [bP]|(simp only [i64_w,i32_w];rw [bP])|rw [cr]|skip)
   have H':=zS H
   clear H
   go_wp2
   repeat (go_quiet (fail);try go_wp2)
   go_meet
   case rel=>exact ⟨_,(false),(by first|rfl|(simp;done)|(simp [*];done)),H',⟨by first|omega|exact Nat.le_refl _⟩,⟨vo HO1⟩,⟨ko am⟩,⟨bl HB⟩⟩
  rw [if_pos c5] at H
  have bP:decide (0<(l1.length:Int))=true:=zC c5
  have cr:decide (0<l1.length)=true:=zC (by omega)
  clear c5
  (first|rw [bP]|(simp only [i64_w,i32_w];rw [bP])|rw [cr]|skip)
  by_cases c6:0<(l1.length:Int)
  rotate_left
  ·rw [if_neg c6] at H
   exact absurd H (by simp)
  rw [if_pos c6] at H
  have bQ:=zC c6
  have cK:decide (0<l1.length)=true:=zC (by omega)
  clear c6
  have H':=zS H
  clear H
  have cT:0≤(0:Int):=(by omega)
  have cU:0<(l1.length:Int):=zB (by first|(with_reducible assumption)|assumption)
  obtain ⟨hP,gi,bh⟩:=Kd.at_int (Kd.V_reads' HO1.out).2.2 0 cT cU
  cases gi
  have qi332:(0<l1.length)=True:=eq_true (by omega)
  (try rw [show ((0:Int)).toNat=0 from rfl] at bh)
  (try rw [Addr.add_zero'] at bh)
  replace cT:=eq_true cT
  replace cU:=eq_true cU
  have dI:=blkc7 am.out
  have dJ:=blkf7 am.out
  go_wp2
  repeat (go_quiet (fail);try go_wp2)
  go_meet
  case rel=>exact ⟨_,(((rd l1 0) == ad)),(by first|rfl|(simp;done)|(simp [*];done)),H',⟨by first|omega|exact Nat.le_refl _⟩,⟨vo HO1⟩,⟨ko am⟩,⟨bl HB⟩⟩
 case rest=>
  clear HC3
  try clear c1
  try clear p2
  try clear p3
  try clear q3
  try clear hx3
  try clear qi3
  try clear c5
  try clear bP
  try clear cr
  try clear c6
  try clear bQ
  try clear cK
  try clear dI
  try clear dJ
  try clear bh
  try clear cT
  try clear cU
  obtain ⟨kq,cf,rfl,HA,HJ2,HO_1,am,HB⟩:=hcut
  cases kq with
  | zero=>exact absurd HA.out (by simp [shape_power.j0])
  | succ kj2=>
   have H:=HA.out
   clear HA
   simp only [shape_power.j0] at H
   have HC8:=zS H
   clear H
   go_upto_region 2 with (fail)
   repeat (go_quiet (fail);go_upto_region 2 with (fail))
   go_cut [37] (fun v37 wc=>∃ (kq:Nat) (dh:Bool),v37 = .bool dh∧Sd (shape_power.j1 kq l1 cf dh ac af ag ad ah ai ae=some (r1,r2))∧Sd (kq≤kj2)∧Sd (Kd.V (Kd.int .i32) 21 wc w.heap.size (fun k_=>(P1_ k_∨w.heap.size≤k_)∧k_≠ba) (.slice A1 l1.length c1) l1)∧Sd (wc.heap[ba]?=some (.cells #[.int .i32 ac,.int .i32 af,.int .i32 ag,.int .i32 ad,.int .i32 ah,.int .i32 ai,.int .i32 ae] 23 (0,0)))∧Sd (Below w.heap.size w wc))
   case first=>
    have H:=HC8.out
    clear HC8
    by_cases c9:cf=true
    ·subst c9
     rw [if_pos rfl] at H
     have H':=zS H
     clear H
     go_wp2
     repeat (go_quiet (fail);try go_wp2)
     go_meet
     case rel=>exact ⟨_,(true),(by first|rfl|(simp;done)|(simp [*];done)),H',⟨by have:=HJ2.out;first|omega|exact Nat.le_refl _⟩,⟨vo HO_1⟩,⟨ko am⟩,⟨bl HB⟩⟩
    replace c9:=Bool.eq_false_iff.mpr c9
    subst c9
    rw [if_neg (show ¬ (false=true) by decide)] at H
    by_cases c10:(l1.length:Int)>0
    rotate_left
    ·rw [if_neg c10] at H
     have bL:decide (0<(l1.length:Int))=false:=zD c10
     have cg:decide (0<l1.length)=false:=zD (by omega)
     clear c10
     (first|rw [bL]|(simp only [i64_w,i32_w];rw [bL])|rw [cg]|skip)
     have H':=zS H
     clear H
     go_wp2
     repeat (go_quiet (fail);try go_wp2)
     go_meet
     case rel=>exact ⟨_,(false),(by first|rfl|(simp;done)|(simp [*];done)),H',⟨by have:=HJ2.out;first|omega|exact Nat.le_refl _⟩,⟨vo HO_1⟩,⟨ko am⟩,⟨bl HB⟩⟩
    rw [if_pos c10] at H
    have bL:decide (0<(l1.length:Int))=true:=zC c10
    have cg:decide (0<l1.length)=true:=zC (by omega)
    clear c10
    (first|rw [bL]|(simp only [i64_w,i32_w];rw [bL])|rw [cg]|skip)
    by_cases c11:0<(l1.length:Int)
    rotate_left
    ·rw [if_neg c11] at H
     exact absurd H (by simp)
    rw [if_pos c11] at H
    have di:=zC c11
    have dj:decide (0<l1.length)=true:=zC (by omega)
    clear c11
    have H':=zS H
    clear H
    have de:0≤(0:Int):=(by omega)
    have df:0<(l1.length:Int):=zB (by first|(with_reducible assumption)|assumption)
    obtain ⟨hQ,gj,bw⟩:=Kd.at_int (Kd.V_reads' HO_1.out).2.2 0 de df
    cases gj
    have qi333:(0<l1.length)=True:=eq_true (by omega)
    (try rw [show ((0:Int)).toNat=0 from rfl] at bw)
    (try rw [Addr.add_zero'] at bw)
    replace de:=eq_true de
    replace df:=eq_true df
    have cP:=blkc7 am.out
    have cQ:=blkf7 am.out
    go_wp2
    repeat (go_quiet (fail);try go_wp2)
    go_meet
    case rel=>exact ⟨_,(((rd l1 0) == ah)),(by first|rfl|(simp;done)|(simp [*];done)),H',⟨by have:=HJ2.out;first|omega|exact Nat.le_refl _⟩,⟨vo HO_1⟩,⟨ko am⟩,⟨bl HB⟩⟩
   case rest=>
    clear HC8
    try clear c1
    try clear p2
    try clear p3
    try clear q3
    try clear hx3
    try clear qi3
    try clear c5
    try clear bP
    try clear cr
    try clear c6
    try clear bQ
    try clear cK
    try clear c9
    try clear c10
    try clear bL
    try clear cg
    try clear c11
    try clear di
    try clear dj
    try clear cP
    try clear dI
    try clear cQ
    try clear dJ
    try clear bh
    try clear bw
    try clear p2
    try clear p3
    try clear cT
    try clear de
    try clear q3
    try clear cU
    try clear df
    obtain ⟨kq,dh,rfl,HA,HJ7,HO_1,am,HB⟩:=hcut
    cases kq with
    | zero=>exact absurd HA.out (by simp [shape_power.j1])
    | succ kj7=>
     have H:=HA.out
     clear HA
     simp only [shape_power.j1] at H
     have er:=zS H
     clear H
     go_upto_if 37 with (fail)
     repeat (go_quiet (fail);go_upto_if 37 with (fail))
     go_cut [1] (fun v1 wc=>∃ (kq:Nat) (bb:List Int),Sd (shape_power.j2 kq bb cf ac af ag ad ah ai ae=some (r1,r2))∧Sd (kq≤kj7)∧Sd (Kd.V (Kd.int .i32) 21 wc w.heap.size (fun k_=>(P1_ k_∨w.heap.size≤k_)∧k_≠ba) v1 bb)∧Sd (wc.heap[ba]?=some (.cells #[.int .i32 ac,.int .i32 af,.int .i32 ag,.int .i32 ad,.int .i32 ah,.int .i32 ai,.int .i32 ae] 23 (0,0)))∧Sd (Below w.heap.size w wc))
     case first=>
      have H:=er.out
      clear er
      by_cases c14:dh=true
      rotate_left
      ·replace c14:=Bool.eq_false_iff.mpr c14
       subst c14
       rw [if_neg (show ¬ (false=true) by decide)] at H
       have H':=zS H
       clear H
       go_wp2
       repeat (go_quiet (fail);try go_wp2)
       go_meet
       case rel=>exact ⟨_,(l1),H',⟨by have:=HJ2.out;have:=HJ7.out;first|omega|exact Nat.le_refl _⟩,⟨vo HO_1⟩,⟨ko am⟩,⟨bl HB⟩⟩
      subst c14
      rw [if_pos rfl] at H
      by_cases c15:1≤(l1.length:Int)
      rotate_left
      ·rw [if_neg c15] at H
       exact absurd H (by simp)
      rw [if_pos c15] at H
      have cR:=eq_true c15
      have cS:=zC c15
      clear c15
      obtain ⟨ct,cV⟩:∃ y_:List Int,y_=(l1.drop 1):=⟨_,rfl⟩
      replace H:(shape_power.j2 kj7 ct cf ac af ag ad ah ai ae)=some (r1,r2):=by first|(rw [cV];with_reducible exact H)|(have H2_:=(Option.bind_some _ _).symm.trans H;rw [cV];with_reducible exact H2_)|(have H2_:=(Option.bind_some _ _).symm.trans H;with_reducible exact H2_)|with_reducible exact H|(rw [cV];exact H)|exact H
      have eh:=zS cV
      clear cV
      have H':=zS H
      clear H
      have q16:(1:Int)≤((l1.length:Int):Int):=zB (by first|(with_reducible assumption)|assumption)
      obtain ⟨i016,hi016,_,hsz16,_⟩:=info_parts info21
      have hroom16:l1.length≤c1:=(Kd.V_reads' HO_1.out).2.1
      have hC16:Kd.F (Kd.int .i32) _ _ A1 l1.length l1:=(Kd.V_at (base:=w.heap.size) HO_1.out).2.2
      have hcut16:=cut_from (P:=Tryz.prog) 46 21 .i64 Tryz.underlying46 hi016 1 hsz16 A1 l1.length c1 1 (by omega) q16
      have dK:=Kd.F_cut (m:=(1:Int).toNat) (c:=c1) hC16 (by omega) hroom16
      obtain ⟨A16,hA16⟩:∃ Az_,Az_=(if c1=(1:Int).toNat then A1 else (A1:Option Addr).map (·.add ((1:Int).toNat * 1))):=⟨_,rfl⟩
      obtain ⟨c16,dX⟩:∃ cz_,cz_=c1 - (1:Int).toNat:=⟨_,rfl⟩
      have dL:ct.length=l1.length - (1:Int).toNat:=(by rw [eh.out,List.length_drop] <;> omega)
      rw [show (l1).drop (1:Int).toNat=ct from eh.out.symm] at dK
      replace dK:Kd.F (Kd.int .i32) _ _ A16 ct.length ct:=(by rw [hA16];exact dK)
      rw [← dL,← hA16,← dX] at hcut16
      have fl:=zS (show Kd.V (Kd.int .i32) 21 _ w.heap.size _ (.slice A16 ct.length c16) ct from Kd.V_mk (by rw [dL,dX];exact Nat.sub_le_sub_right hroom16 _) dK)
      have hR:=zS (show ct.length≤c16 from by rw [dL,dX];exact Nat.sub_le_sub_right hroom16 _)
      clear dK hC16 hroom16 hi016 hsz16 dX
      have KY16:=zS dL
      have KA16:=zS hA16
      clear dL hA16
      replace q16:=eq_true q16
      go_wp2
      repeat (go_quiet (fail);try go_wp2)
      go_meet
      case rel=>exact ⟨_,(ct),H',⟨by have:=HJ2.out;have:=HJ7.out;first|omega|exact Nat.le_refl _⟩,⟨vo fl⟩,⟨ko am⟩,⟨bl HB⟩⟩
     case rest=>
      clear er
      try clear c1
      try clear q1
      try clear p2
      try clear p3
      try clear q3
      try clear hx3
      try clear qi3
      try clear c5
      try clear bP
      try clear cr
      try clear c6
      try clear bQ
      try clear cK
      try clear c9
      try clear c10
      try clear bL
      try clear cg
      try clear c11
      try clear di
      try clear dj
      try clear c14
      try clear c15
      try clear cR
      try clear cS
      try clear c16
      try clear q16
      try clear cP
      try clear dI
      try clear cQ
      try clear dJ
      try clear bh
      try clear bw
      try clear p2
      try clear p3
      try clear cT
      try clear de
      try clear q16
      try clear q3
      try clear cU
      try clear df
      obtain ⟨kq,bb,HA,HJ12,HO_1,am,HB⟩:=hcut
      cases kq with
      | zero=>exact absurd HA.out (by simp [shape_power.j2])
      | succ kj12=>
       have H:=HA.out
       clear HA
       simp only [shape_power.j2] at H
       replace H:=Option.bind_eq_some_iff.mp H
       obtain ⟨⟨br,es,cW⟩,fm,H⟩:=H
       try dsimp only at H
       have A17:=zS fm
       clear fm
       have et:=zS H
       clear H
       have dG:=blkc7 am.out
       have dH:=blkf7 am.out
       obtain ⟨id,ie,gl⟩:=Kd.V_slice HO_1.out
       subst gl
       go_upto_region 5 with (first|(go_at_call 57;(with_reducible refine (sym_Ungrouped.calls kj12 ac af ag ad ah ai ae _ _ bb 0 0 br es cW _ (vc HO_1) (vl HO_1) A17.out).mono ?_);rintro e w21 ⟨eu,rfl,ho0,hb⟩;replace HO_1:=zS (Kd.V_elder' (vo HO_1) (Kd.R_base ho0) hb);have cX:=zS (Kd.R_lower (Kd.R_newM (M:=fun k_=>(w.heap.size≤k_)) ho0 (bz HB) (fun k_ h_=>h_)) (bz HB));replace am:=kb am hb;replace HB:=bs HB hb;(try clear hb);(try clear ho0)))
       repeat (go_quiet (first|(go_at_call 57;(with_reducible refine (sym_Ungrouped.calls kj12 ac af ag ad ah ai ae _ _ bb 0 0 br es cW _ (vc HO_1) (vl HO_1) A17.out).mono ?_);rintro e w21 ⟨eu,rfl,ho0,hb⟩;replace HO_1:=zS (Kd.V_elder' (vo HO_1) (Kd.R_base ho0) hb);have cX:=zS (Kd.R_lower (Kd.R_newM (M:=fun k_=>(w.heap.size≤k_)) ho0 (bz HB) (fun k_ h_=>h_)) (bz HB));replace am:=kb am hb;replace HB:=bs HB hb;(try clear hb);(try clear hb2);(try clear hk);(try clear hi);(try clear ho0)));go_upto_region 5 with (first|(go_at_call 57;(with_reducible refine (sym_Ungrouped.calls kj12 ac af ag ad ah ai ae _ _ bb 0 0 br es cW _ (vc HO_1) (vl HO_1) A17.out).mono ?_);rintro e w21 ⟨eu,rfl,ho0,hb⟩;replace HO_1:=zS (Kd.V_elder' (vo HO_1) (Kd.R_base ho0) hb);have cX:=zS (Kd.R_lower (Kd.R_newM (M:=fun k_=>(w.heap.size≤k_)) ho0 (bz HB) (fun k_ h_=>h_)) (bz HB));replace am:=kb am hb;replace HB:=bs HB hb;(try clear hb);(try clear hb2);(try clear hk);(try clear hi);(try clear ho0))))
       (try simp only [Act.put,sA,sB,sC])
       go_cut [58] (fun v58 wc=>∃ (kq:Nat) (cu:Bool),v58 = .bool cu∧Sd (shape_power.j3 kq cf br cu=some (r1,r2))∧Sd (kq≤kj12)∧Sd (Kd.R (Kd.int .u8) 5 wc w.heap.size (fun k_=>(w.heap.size≤k_)) eu br)∧Sd (wc.heap[ba]?=some (.cells #[.int .i32 ac,.int .i32 af,.int .i32 ag,.int .i32 ad,.int .i32 ah,.int .i32 ai,.int .i32 ae] 23 (0,0)))∧Sd (Below w.heap.size w wc))
       case first=>
        have H:=et.out
        clear et
        by_cases c22:cW=0
        rotate_left
        ·rw [if_neg c22] at H
         have aI:(cW == 0)=false:=zF c22
         have bE:(cW != 0)=true:=zI c22
         (first|rw [aI]|(simp only [i64_w,i32_w];rw [aI])|rw [bE]|skip)
         have H':=zS H
         clear H
         go_wp2
         repeat (go_quiet (fail);try go_wp2)
         go_meet
         case rel=>exact ⟨_,(true),(by first|rfl|(simp;done)|(simp [*];done)),H',⟨by have:=HJ2.out;have:=HJ7.out;have:=HJ12.out;first|omega|exact Nat.le_refl _⟩,⟨by (with_reducible repeat (first|apply Kd.R_alloc|apply Kd.R_drewN|apply Kd.R_drew));exact Kd.R_mono cX.out (fun _ hk=>hk.1)⟩,⟨ko am⟩,⟨bl HB⟩⟩
        rw [if_pos c22] at H
        have aI:(cW == 0)=true:=zH c22
        have bE:(cW != 0)=false:=zG c22
        clear c22
        (first|rw [aI]|(simp only [i64_w,i32_w];rw [aI])|rw [bE]|skip)
        by_cases c23:(bb.length:Int)=0
        ·rw [if_pos c23] at H
         have dM:((bb.length:Int) == 0)=true:=zH c23
         have dN:((bb.length:Int) != 0)=false:=zG c23
         clear c23
         have H':=zS H
         clear H
         go_wp2
         repeat (go_quiet (fail);try go_wp2)
         go_meet
         case rel=>exact ⟨_,(true),(by first|rfl|(simp;done)|(simp [*];done)),H',⟨by have:=HJ2.out;have:=HJ7.out;have:=HJ12.out;first|omega|exact Nat.le_refl _⟩,⟨by (with_reducible repeat (first|apply Kd.R_alloc|apply Kd.R_drewN|apply Kd.R_drew));exact Kd.R_mono cX.out (fun _ hk=>hk.1)⟩,⟨ko am⟩,⟨bl HB⟩⟩
        rw [if_neg c23] at H
        have dM:((bb.length:Int) == 0)=false:=zF c23
        have dN:((bb.length:Int) != 0)=true:=zI c23
        have ei:¬ (bb=[]):=fun h_=>c23 (by rw [h_];rfl)
        have H':=zS H
        clear H
        go_wp2
        repeat (go_quiet (fail);try go_wp2)
        go_meet
        case rel=>exact ⟨_,(decide ((bb.length:Int)>40)),(by first|rfl|(simp;done)|(simp [*];done)),H',⟨by have:=HJ2.out;have:=HJ7.out;have:=HJ12.out;first|omega|exact Nat.le_refl _⟩,⟨by (with_reducible repeat (first|apply Kd.R_alloc|apply Kd.R_drewN|apply Kd.R_drew));exact Kd.R_mono cX.out (fun _ hk=>hk.1)⟩,⟨ko am⟩,⟨bl HB⟩⟩
       case rest=>
        clear et
        try clear c1
        try clear q1
        try clear c2
        try clear p2
        try clear p3
        try clear q3
        try clear hx3
        try clear qi3
        try clear c5
        try clear bP
        try clear cr
        try clear c6
        try clear bQ
        try clear cK
        try clear c9
        try clear c10
        try clear bL
        try clear cg
        try clear c11
        try clear di
        try clear dj
        try clear c14
        try clear c15
        try clear cR
        try clear cS
        try clear c16
        try clear q16
        try clear c22
        try clear aI
        try clear bE
        try clear c23
        try clear dM
        try clear dN
        try clear ei
        try clear cP
        try clear dG
        try clear dI
        try clear cQ
        try clear dH
        try clear dJ
        try clear bh
        try clear bw
        try clear p2
        try clear p3
        try clear cT
        try clear de
        try clear q1
        try clear q16
        try clear q3
        try clear cU
        try clear df
        obtain ⟨kq,cu,rfl,HA,HJ17,HO_7,am,HB⟩:=hcut
        cases kq with
        | zero=>exact absurd HA.out (by simp [shape_power.j3])
        | succ kj17=>
         have H:=HA.out
         clear HA
         simp only [shape_power.j3] at H
         by_cases c24:cu=true
         ·subst c24
          rw [if_pos rfl] at H
          simp only [Option.some.injEq,Prod.mk.injEq] at H
          obtain ⟨rfl,rfl⟩:=H
          go_wp2
          repeat (go_quiet (fail);try go_wp2)
          go_ret2
          exact ⟨by first|rfl|(simp <;> rfl)|(simp [*] <;> rfl),bl HB⟩
         replace c24:=Bool.eq_false_iff.mpr c24
         subst c24
         rw [if_neg (show ¬ (false=true) by decide)] at H
         have H':=zS H
         clear H
         obtain ⟨gm,gn,go⟩:=Kd.R_slice HO_7.out
         subst go
         go_wp2
         repeat (go_quiet (fail);try go_wp2)
         go_loopg [10,61] kj17 (fun kq v10 v61 w'=>∃ (cj:Int) (aU:Int),v10 = .int .i64 cj∧v61 = .int .i64 aU∧Sd (shape_power.l0 kq cf cj br (br.length:Int) aU=some (r1,r2))∧Sd (kq≤kj17)∧Sd (Kd.R (Kd.int .u8) 5 w' w.heap.size (fun k_=>(w.heap.size≤k_)) (.slice gm br.length gn) br)∧Sd (w'.heap[ba]?=some (.cells #[.int .i32 ac,.int .i32 af,.int .i32 ag,.int .i32 ad,.int .i32 ah,.int .i32 ai,.int .i32 ae] 23 (0,0)))∧Sd (Below w.heap.size w w'))
         case atStart=>exact ⟨(0),(0),(by first|rfl|(simp;done)|(simp [*];done)),(by first|rfl|(simp;done)|(simp [*];done)),H',⟨Nat.le_refl _⟩,⟨ro HO_7⟩,⟨ko am⟩,⟨bl HB⟩⟩
         case round=>
          clear H'
          try clear c1
          try clear q1
          try clear c2
          try clear p2
          try clear p3
          try clear q3
          try clear hx3
          try clear qi3
          try clear c5
          try clear bP
          try clear cr
          try clear c6
          try clear bQ
          try clear cK
          try clear c9
          try clear c10
          try clear bL
          try clear cg
          try clear c11
          try clear di
          try clear dj
          try clear c14
          try clear c15
          try clear cR
          try clear cS
          try clear c16
          try clear q16
          try clear c22
          try clear aI
          try clear bE
          try clear c23
          try clear dM
          try clear dN
          try clear ei
          try clear c24
          try clear cP
          try clear dG
          try clear dI
          try clear cQ
          try clear dH
          try clear dJ
          try clear bh
          try clear bw
          try clear p2
          try clear p3
          try clear cT
          try clear de
          try clear q1
          try clear q16
          try clear q3
          try clear cU
          try clear df
          obtain ⟨cj,aU,rfl,rfl,HA,HK5,HO_59,am,HB⟩:=hrel
          cases gk with
          | zero=>exact absurd HA.out (by simp [shape_power.l0])
          | succ k5=>
           have H:=HA.out
           clear HA
           simp only [shape_power.l0] at H
           by_cases c26:aU<(br.length:Int)
           ·rw [if_pos c26] at H
            have fn:=zC c26
            clear c26
            by_cases c27:0≤aU
            rotate_left
            ·rw [if_neg c27] at H
             exact absurd H (by simp)
            rw [if_pos c27] at H
            have hS:=zC c27
            clear c27
            by_cases c28:aU<(br.length:Int)
            rotate_left
            ·rw [if_neg c28] at H
             exact absurd H (by simp)
            rw [if_pos c28] at H
            have hT:=zC c28
            clear c28
            obtain ⟨ev,dk⟩:∃ j_:Int,(mn (wrap64 ((wrap64 (cj * 10))+(wrap64 (rd br aU)))) 100001)=j_:=⟨_,rfl⟩
            replace H:(shape_power.l0 k5 cf ev br (br.length:Int) (wrap64 (aU+1)))=some (r1,r2):=by first|(rw [dk] at H;exact H)|(simp only [dk] at H ⊢;exact H)
            have gp:(if 100001<(wrap64 ((wrap64 (cj * 10))+(wrap64 (rd br aU)))) then 100001 else (wrap64 ((wrap64 (cj * 10))+(wrap64 (rd br aU)))))=ev:=dk
            have H':=zS H
            clear H
            have ew:0≤(aU:Int):=zB (by first|(with_reducible assumption)|assumption)
            have ex:aU<(br.length:Int):=zB (by first|(with_reducible assumption)|assumption)
            obtain ⟨hU,gq,fE⟩:=Kd.at_int (Kd.R_reads' HO_59.out).2.2 aU ew ex
            cases gq
            replace ew:=eq_true ew
            replace ex:=eq_true ex
            go_wp2
            repeat (go_quiet (fail);try go_wp2)
            go_roundg k5
            case measure=>have:=HJ2.out;have:=HJ7.out;have:=HJ12.out;have:=HJ17.out;have:=HK5.out;omega
            case rel=>exact ⟨(ev),(wrap64 (aU+1)),(by first|rfl|(simp;done)|(simp only [← dk] <;> (first|rfl|simp))|(simp [*];done)),(by first|rfl|(simp;done)|(simp [*];done)),H',⟨by have:=HJ2.out;have:=HJ7.out;have:=HJ12.out;have:=HJ17.out;have:=HK5.out;omega⟩,⟨ro HO_59⟩,⟨ko am⟩,⟨bl HB⟩⟩
           rw [if_neg c26] at H
           have fn:=zD c26
           clear c26
           by_cases c30:cf=true
           ·subst c30
            rw [if_pos rfl] at H
            simp only [Option.some.injEq,Prod.mk.injEq] at H
            obtain ⟨rfl,rfl⟩:=H
            go_wp2
            repeat (go_quiet (fail);try go_wp2)
            go_ret2
            exact ⟨by first|rfl|(simp <;> rfl)|(simp [*] <;> rfl),bl HB⟩
           replace c30:=Bool.eq_false_iff.mpr c30
           subst c30
           rw [if_neg (show ¬ (false=true) by decide)] at H
           simp only [Option.some.injEq,Prod.mk.injEq] at H
           obtain ⟨rfl,rfl⟩:=H
           go_wp2
           repeat (go_quiet (fail);try go_wp2)
           go_ret2
           exact ⟨by first|rfl|(simp <;> rfl)|(simp [*] <;> rfl),bl HB⟩
end Go.Proofs.YtklebhlanidloaaGreatDoor.PZ
end
end
