/- Texts of this seat, joined. Conditions: none beyond each statement's own. -/
import Derived.Test.YtklebhlanidloaaGreatDoorD29
set_option linter.all false
section
noncomputable section
namespace Go.Proofs.YtklebhlanidloaaGreatDoor.PZ
open Go.RowKit Go.Proofs.YtklebhlanidloaaGreatDoorW.PrintWords Go.Proofs.YtklebhlanidloaaGreatDoorW.PrintLast Go.Proofs.YtklebhlanidloaaGreatDoorW.PrintMore
attribute [local go_sem] max2_int min2_int max_two min_two max_three min_three max_four min_four   -- for this text's walks alone
def exerguelaw17_ShapeValue.j0:Nat→Int→Bool→Bool→List (S114)→List (S114)→List (S114)→List (S114)→Bool→Int→Int→Int→Int→Int→Int→Int→Int→Int→Bool→Int→Int→Bool→List Int→Int→Option (Bool)
 | 0,_,_,_,_,_,_,_,_,_,_,_,_,_,_,_,_,_,_,_,_,_,_,_=>none
 | k+1,x1,x7,x23,b5,b6,b7,b8,b9,ca,cc,cd,ce,cf,cg,ch,ci,bp,cj,ck,cl,bi,bq,br=>if x23=true then (some x7) else ((shape_Figures.f b5 b6 b7 b8 b9 ca cc cd ce cf cg ch ci bp cj ck cl x1 bi bq br).bind fun bd=>((some (([]:List Int):List Int)).bind fun be=>(if be.length+bd.1.length<140737488355328 then ((some (be ++ bd.1:List Int)).bind fun aW=>(if aW.length+bd.2.1.length<140737488355328 then ((some (aW ++ bd.2.1:List Int)).bind fun ak=>((exergueref05_Norm.f k bi ak (wrap64 (bd.2.2 - (bd.2.1.length:Int)))).bind fun ah=>(if x7=true then ((exergueref07_Figures.f k ak).bind fun bf=>(if bf=true then (if ah.2.2.2=0 then ((exergueref05_Same.f k ah.1 ah.2.1 ah.2.2.1 bi bq br).bind fun bh=>(if bh=true then (if bp>0 then (some true) else (some (bd.2.2 == 0))) else (none))) else (none)) else (none))) else (none)))) else (none))) else (none))))
def exerguelaw17_ShapeValue.f (k:Nat)(aC:List (S114))(aD:List (S114))(aE:List (S114))(aG:List (S114))(aK:Bool)(aM:Int)(aN:Int)(aP:Int)(aQ:Int)(aT:Int)(am:Int)(an:Int)(ao:Int)(ag:Int)(ap:Bool)(aq:Int)(ar:Int)(a1:Int)(av:Bool)(aA:List Int)(aH:Int):Option (Bool):=(exerguelaw17_shown.f k).bind fun aX=>((exerguelaw17_of.f aC aD aE aG aK aM aN aP aQ aT am an ao ag ap aq ar a1).bind fun bu=>(if bu=true then ((exergueref06_Near.f k av aA aH).bind fun bn=>(exerguelaw17_ShapeValue.j0 k a1 aX (!bn) aC aD aE aG aK aM aN aP aQ aT am an ao ag ap aq ar av aA aH)) else (exerguelaw17_ShapeValue.j0 k a1 aX true aC aD aE aG aK aM aN aP aQ aT am an ao ag ap aq ar av aA aH)))
theorem exerguelaw17_ShapeValue.mono_l:∀ k,(∀ y0 y1 y2 y3 y4 y5 y6 y7 y8 y9 y10 y11 y12 y13 y14 y15 y16 y17 y18 y19 y20 y21 y22,LeO (exerguelaw17_ShapeValue.j0 k y0 y1 y2 y3 y4 y5 y6 y7 y8 y9 y10 y11 y12 y13 y14 y15 y16 y17 y18 y19 y20 y21 y22) (exerguelaw17_ShapeValue.j0 (k+1) y0 y1 y2 y3 y4 y5 y6 y7 y8 y9 y10 y11 y12 y13 y14 y15 y16 y17 y18 y19 y20 y21 y22))
 | 0=>fun _ _ _ _ _ _ _ _ _ _ _ _ _ _ _ _ _ _ _ _ _ _ _ r h=>by simp [exerguelaw17_ShapeValue.j0] at h
 | k+1=>by
  have ih0:=exerguelaw17_ShapeValue.mono_l k
  ·intro y0 y1 y2 y3 y4 y5 y6 y7 y8 y9 y10 y11 y12 y13 y14 y15 y16 y17 y18 y19 y20 y21 y22
   unfold exerguelaw17_ShapeValue.j0
   repeat' first|(with_reducible first|apply ih0|apply exerguelaw17_shown.mono|apply exergueref05_Norm.mono|apply exergueref05_Same.mono|apply exergueref06_Near.mono|apply exergueref07_Figures.mono|apply LeO.refl|apply LeO.none|refine LeO.ite ?_ ?_|refine LeO.bind ?_ (fun _=>?_))|apply ih0|apply exerguelaw17_shown.mono|apply exergueref05_Norm.mono|apply exergueref05_Same.mono|apply exergueref06_Near.mono|apply exergueref07_Figures.mono|apply LeO.none
theorem exerguelaw17_ShapeValue.mono:∀ a0 a1 a2 a3 a4 a5 a6 a7 a8 a9 a10 a11 a12 a13 a14 a15 a16 a17 a18 a19 a20 k,LeO (exerguelaw17_ShapeValue.f k a0 a1 a2 a3 a4 a5 a6 a7 a8 a9 a10 a11 a12 a13 a14 a15 a16 a17 a18 a19 a20) (exerguelaw17_ShapeValue.f (k+1) a0 a1 a2 a3 a4 a5 a6 a7 a8 a9 a10 a11 a12 a13 a14 a15 a16 a17 a18 a19 a20):=by
 intro a0 a1 a2 a3 a4 a5 a6 a7 a8 a9 a10 a11 a12 a13 a14 a15 a16 a17 a18 a19 a20 k
 have ih0:=exerguelaw17_ShapeValue.mono_l k
 unfold exerguelaw17_ShapeValue.f
 repeat' first|(with_reducible first|apply ih0|apply exerguelaw17_shown.mono|apply exergueref05_Norm.mono|apply exergueref05_Same.mono|apply exergueref06_Near.mono|apply exergueref07_Figures.mono|apply LeO.refl|apply LeO.none|refine LeO.ite ?_ ?_|refine LeO.bind ?_ (fun _=>?_))|apply ih0|apply exerguelaw17_shown.mono|apply exergueref05_Norm.mono|apply exergueref05_Same.mono|apply exergueref06_Near.mono|apply exergueref07_Figures.mono|apply LeO.none
set_option maxHeartbeats 8000000 in
set_option maxRecDepth 100000 in
theorem exerguelaw17_ShapeValue.calls (k:Nat)(bv:Option Addr)(bw:Nat)(aC:List (S114))(bx:Option Addr)(bA:Nat)(aD:List (S114))(bB:Option Addr)(bC:Nat)(aE:List (S114))(bD:Option Addr)(bE:Nat)(aG:List (S114))(aK:Bool)(aM:Int)(aN:Int)(aP:Int)(aQ:Int)(aT:Int)(am:Int)(an:Int)(ao:Int)(ag:Int)(ap:Bool)(aq:Int)(ar:Int)(a1:Int)(av:Bool)(bZ:Option Addr)(b0:Nat)(aA:List Int)(aH:Int)(r:Bool)(w:World)(hG:GL w)(cv:Kd.C k114 w bv aC.length aC)(cw:aC.length≤bw)(cx:Kd.C k114 w bx aD.length aD)(cy:aD.length≤bA)(cz:Kd.C k114 w bB aE.length aE)(cA:aE.length≤bC)(cB:Kd.C k114 w bD aG.length aG)(cC:aG.length≤bE)(cD:Kd.C (Kd.int .u8) w bZ aA.length aA)(cE:aA.length≤b0)(h:exerguelaw17_ShapeValue.f k aC aD aE aG aK aM aN aP aQ aT am an ao ag ap aq ar a1 av aA aH=some r) :
  Calls Tryz.prog 7 #[.agg #[.slice bv aC.length bw,.slice bx aD.length bA,.slice bB aE.length bC,.slice bD aG.length bE,.bool aK,.int .i64 aM,.int .i64 aN,.int .i64 aP,.int .i64 aQ,.int .i64 aT,.int .i64 am,.int .i64 an,.int .i64 ao,.int .i64 ag,.bool ap,.int .i32 aq,.int .i64 ar],.int .i64 a1,.agg #[.bool av,.slice bZ aA.length b0,.int .i64 aH]] w fun e w'=>e = .returned (.bool r)∧Below w.heap.size w w':=by
 have hu26:=Tryz.underlying26
 have hu29:=Tryz.underlying29
 have bQ:=zS cv
 have bR:=zS cw
 clear cv cw
 have bS:=zS cx
 have bT:=zS cy
 clear cx cy
 have bU:=zS cz
 have bV:=zS cA
 clear cz cA
 have bW:=zS cB
 have bX:=zS cC
 clear cB cC
 have bF:=zS cD
 have bG:=zS cE
 clear cD cE
 have HB:=zS (Below.refl w.heap.size w)
 have HG:=zS hG
 clear hG
 have H:((exerguelaw17_shown.f k).bind fun aX=>((exerguelaw17_of.f aC aD aE aG aK aM aN aP aQ aT am an ao ag ap aq ar a1).bind fun bu=>(if bu=true then ((exergueref06_Near.f k av aA aH).bind fun bn=>(exerguelaw17_ShapeValue.j0 k a1 aX (!bn) aC aD aE aG aK aM aN aP aQ aT am an ao ag ap aq ar av aA aH)) else (exerguelaw17_ShapeValue.j0 k a1 aX true aC aD aE aG aK aM aN aP aQ aT am an ao ag ap aq ar av aA aH))))=some r:=h
 clear h
 replace H:=Option.bind_eq_some_iff.mp H
 obtain ⟨aX,A40,H⟩:=H
 try dsimp only at H
 have A4:=zS A40
 clear A40
 have HC5:=zS H
 clear H
 go_enter Tryz.func7,Tryz.ntmps7
 go_upto_region 2 with (first|(refine pat_load rfl rfl rfl az rfl _ _ (pbk aa) ?_)|(refine pat_load_w (wanted_on rfl rfl rfl rfl) rfl rfl az rfl _ _ (pbk aa) ?_)|((with_reducible refine gate_dst (N:=3) rfl ?_);refine box_event ?hg (N:=3) ?hd (cs:=#[.slice bv aC.length bw,.slice bx aD.length bA,.slice bB aE.length bC,.slice bD aG.length bE,.bool aK,.int .i64 aM,.int .i64 aN,.int .i64 aP,.int .i64 aQ,.int .i64 aT,.int .i64 am,.int .i64 an,.int .i64 ao,.int .i64 ag,.bool ap,.int .i32 aq,.int .i64 ar]) (t:=26) ?hr ?_;(case hd=>rfl);(case hg=>rfl);(case hr=>first|(go_simp;done)|(go_simp;rfl));intro az hg w6 hbox hb;have aa:=zS (hbox);have cZ:=bg HB hg;replace HB:=bs HB hb;clear hb hbox hg)|((with_reducible refine gate_dst (N:=5) rfl ?_);refine box_event ?hg (N:=5) ?hd (cs:=#[.bool av,.slice bZ aA.length b0,.int .i64 aH]) (t:=29) ?hr ?_;(case hd=>rfl);(case hg=>rfl);(case hr=>first|(go_simp;done)|(go_simp;rfl));intro bJ hg w7 hbox hb;have ab:=zS (hbox);have c0:=bg HB hg;replace HB:=bs HB hb;have aI:=kn aa hg;have aJ:=km aa hg;replace aa:=kb aa hb;clear hb hbox hg)|((with_reducible refine gate_callee (f:=11) rfl ?_);refine gL (some 14) Tryz.func11 #[] ?_;(with_reducible refine (exerguelaw17_shown.calls k  aX _ ?side1 A4.out).mono ?_);(case side1=>refine GL.below HG.out ?_;exact bl HB);rintro e w8 ⟨rfl,hb⟩;refine ⟨_,rfl,?_⟩;replace aa:=kb aa hb;replace ab:=kb ab hb;replace HB:=bs HB hb;(try clear hb)))
 (try simp only [Act.put,sA,sB,sC])
 go_cut [23] (fun v23 wc=>∃ (kq:Nat) (bY:Bool),v23 = .bool bY∧Sd (exerguelaw17_ShapeValue.j0 kq a1 aX bY aC aD aE aG aK aM aN aP aQ aT am an ao ag ap aq ar av aA aH=some r)∧Sd (kq≤k)∧Sd (wc.heap[az]?=some (.cells #[(.slice bv aC.length bw),(.slice bx aD.length bA),(.slice bB aE.length bC),(.slice bD aG.length bE),.bool aK,.int .i64 aM,.int .i64 aN,.int .i64 aP,.int .i64 aQ,.int .i64 aT,.int .i64 am,.int .i64 an,.int .i64 ao,.int .i64 ag,.bool ap,.int .i32 aq,.int .i64 ar] 26 (0,0)))∧Sd (wc.heap[bJ]?=some (.cells #[.bool av,(.slice bZ aA.length b0),.int .i64 aH] 29 (0,0)))∧Sd (Below w.heap.size w wc))
 case first=>
  have H:=HC5.out
  clear HC5
  replace H:=Option.bind_eq_some_iff.mp H
  obtain ⟨bu,A90,H⟩:=H
  try dsimp only at H
  have A9:=zS A90
  clear A90
  by_cases c10:bu=true
  ·subst c10
   rw [if_pos rfl] at H
   replace H:=Option.bind_eq_some_iff.mp H
   obtain ⟨bn,cI,H⟩:=H
   try dsimp only at H
   have A11:=zS cI
   clear cI
   have H':=zS H
   clear H
   have di:=aI.out
   have dj:=aJ.out
   have cJ:=blkc17 aa.out
   have cK:=blkf17 aa.out
   go_wp2_with (first|(refine pat_load rfl rfl rfl az rfl _ _ (pbk aa) ?_)|(refine pat_load_w (wanted_on rfl rfl rfl rfl) rfl rfl az rfl _ _ (pbk aa) ?_)|((with_reducible refine gate_callee (f:=12) rfl ?_);refine gL (some 17) Tryz.func12 #[.agg #[.slice bv aC.length bw,.slice bx aD.length bA,.slice bB aE.length bC,.slice bD aG.length bE,.bool aK,.int .i64 aM,.int .i64 aN,.int .i64 aP,.int .i64 aQ,.int .i64 aT,.int .i64 am,.int .i64 an,.int .i64 ao,.int .i64 ag,.bool ap,.int .i32 aq,.int .i64 ar],.int .i64 a1] ?_;(with_reducible refine (exerguelaw17_of.calls _ _ aC _ _ aD _ _ aE _ _ aG aK aM aN aP aQ aT am an ao ag ap aq ar a1 true _ (cb bQ HB) bR.out (cb bS HB) bT.out (cb bU HB) bV.out (cb bW HB) bX.out A9.out).mono ?_);rintro e w14 ⟨rfl,hb⟩;refine ⟨_,rfl,?_⟩;replace aa:=kb aa hb;replace ab:=kb ab hb;replace HB:=bs HB hb;(try clear hb);have cL:=blkc3 ab.out;have cM:=blkf3 ab.out)|(go_at_call 14;(with_reducible refine (exergueref06_Near.calls k av _ _ aA aH bn _ (cb bF HB) bG.out A11.out).mono ?_);rintro e w16 ⟨rfl,hb⟩;replace aa:=kb aa hb;replace ab:=kb ab hb;replace HB:=bs HB hb;(try clear hb);(try clear hb2);(try clear hk);(try clear hi)))
   go_meet
   case rel=>exact ⟨_,(!bn),(by first|rfl|(simp;done)|(simp [*];done)),H',⟨by first|omega|exact Nat.le_refl _⟩,⟨ko aa⟩,⟨ko ab⟩,⟨bl HB⟩⟩
  replace c10:=Bool.eq_false_iff.mpr c10
  subst c10
  rw [if_neg (show ¬ (false=true) by decide)] at H
  have H':=zS H
  clear H
  have dk:=aI.out
  have dl:=aJ.out
  have cN:=blkc17 aa.out
  have cO:=blkf17 aa.out
  go_wp2_with (first|(refine pat_load rfl rfl rfl az rfl _ _ (pbk aa) ?_)|(refine pat_load_w (wanted_on rfl rfl rfl rfl) rfl rfl az rfl _ _ (pbk aa) ?_)|((with_reducible refine gate_callee (f:=12) rfl ?_);refine gL (some 17) Tryz.func12 #[.agg #[.slice bv aC.length bw,.slice bx aD.length bA,.slice bB aE.length bC,.slice bD aG.length bE,.bool aK,.int .i64 aM,.int .i64 aN,.int .i64 aP,.int .i64 aQ,.int .i64 aT,.int .i64 am,.int .i64 an,.int .i64 ao,.int .i64 ag,.bool ap,.int .i32 aq,.int .i64 ar],.int .i64 a1] ?_;(with_reducible refine (exerguelaw17_of.calls _ _ aC _ _ aD _ _ aE _ _ aG aK aM aN aP aQ aT am an ao ag ap aq ar a1 false _ (cb bQ HB) bR.out (cb bS HB) bT.out (cb bU HB) bV.out (cb bW HB) bX.out A9.out).mono ?_);rintro e w19 ⟨rfl,hb⟩;refine ⟨_,rfl,?_⟩;replace aa:=kb aa hb;replace ab:=kb ab hb;replace HB:=bs HB hb;(try clear hb)))
  go_meet
  case rel=>exact ⟨_,(true),(by first|rfl|(simp;done)|(simp [*];done)),H',⟨by first|omega|exact Nat.le_refl _⟩,⟨ko aa⟩,⟨ko ab⟩,⟨bl HB⟩⟩
 case rest=>
  clear HC5
  try clear c1
  try clear c2
  try clear p2
  try clear c7
  try clear c10
  try clear c11
  try clear c12
  try clear c17
  try clear cJ
  try clear cL
  try clear cN
  try clear cK
  try clear cM
  try clear cO
  obtain ⟨kq,bY,rfl,HA,HJ4,aa,ab,HB⟩:=hcut
  cases kq with
  | zero=>exact absurd HA.out (by simp [exerguelaw17_ShapeValue.j0])
  | succ kj4=>
   have H:=HA.out
   clear HA
   simp only [exerguelaw17_ShapeValue.j0] at H
   by_cases c20:bY=true
   ·subst c20
    rw [if_pos rfl] at H
    obtain rfl:=zE H
    go_wp2
    go_ret
    exact ⟨by first|rfl|(simp <;> rfl)|(simp [*] <;> rfl),bl HB⟩
   replace c20:=Bool.eq_false_iff.mpr c20
   subst c20
   rw [if_neg (show ¬ (false=true) by decide)] at H
   replace H:=Option.bind_eq_some_iff.mp H
   obtain ⟨⟨au,ai,aY⟩,cP,H⟩:=H
   try dsimp only at H
   have A21:=zS cP
   clear cP
   obtain ⟨be,bj⟩:∃ y_:List Int,y_=(([]:List Int)):=⟨_,rfl⟩
   replace H:(if be.length+au.length<140737488355328 then ((some (be ++ au:List Int)).bind fun aW=>(if aW.length+ai.length<140737488355328 then ((some (aW ++ ai:List Int)).bind fun ak=>((exergueref05_Norm.f kj4 av ak (wrap64 (aY - (ai.length:Int)))).bind fun ah=>(if aX=true then ((exergueref07_Figures.f kj4 ak).bind fun bf=>(if bf=true then (if ah.2.2.2=0 then ((exergueref05_Same.f kj4 ah.1 ah.2.1 ah.2.2.1 av aA aH).bind fun bh=>(if bh=true then (if ag>0 then (some true) else (some (aY == 0))) else (none))) else (none)) else (none))) else (none)))) else (none))) else (none))=some r:=by first|(rw [bj];with_reducible exact H)|(have H2_:=(Option.bind_some _ _).symm.trans H;rw [bj];with_reducible exact H2_)|(have H2_:=(Option.bind_some _ _).symm.trans H;with_reducible exact H2_)|with_reducible exact H|(rw [bj];exact H)|exact H
   have bo:=zS bj
   clear bj
   by_cases c22:be.length+au.length<140737488355328
   rotate_left
   ·rw [if_neg c22] at H
    exact absurd H (by simp)
   rw [if_pos c22] at H
   have LMc22:=zS c22
   clear c22
   obtain ⟨aW,bk⟩:∃ y_:List Int,y_=(be ++ au):=⟨_,rfl⟩
   replace H:(if aW.length+ai.length<140737488355328 then ((some (aW ++ ai:List Int)).bind fun ak=>((exergueref05_Norm.f kj4 av ak (wrap64 (aY - (ai.length:Int)))).bind fun ah=>(if aX=true then ((exergueref07_Figures.f kj4 ak).bind fun bf=>(if bf=true then (if ah.2.2.2=0 then ((exergueref05_Same.f kj4 ah.1 ah.2.1 ah.2.2.1 av aA aH).bind fun bh=>(if bh=true then (if ag>0 then (some true) else (some (aY == 0))) else (none))) else (none)) else (none))) else (none)))) else (none))=some r:=by first|(rw [bk];with_reducible exact H)|(have H2_:=(Option.bind_some _ _).symm.trans H;rw [bk];with_reducible exact H2_)|(have H2_:=(Option.bind_some _ _).symm.trans H;with_reducible exact H2_)|with_reducible exact H|(rw [bk];exact H)|exact H
   have cm:=zS bk
   clear bk
   by_cases c23:aW.length+ai.length<140737488355328
   rotate_left
   ·rw [if_neg c23] at H
    exact absurd H (by simp)
   rw [if_pos c23] at H
   have LMc23:=zS c23
   clear c23
   obtain ⟨ak,bm⟩:∃ y_:List Int,y_=(aW ++ ai):=⟨_,rfl⟩
   replace H:((exergueref05_Norm.f kj4 av ak (wrap64 (aY - (ai.length:Int)))).bind fun ah=>(if aX=true then ((exergueref07_Figures.f kj4 ak).bind fun bf=>(if bf=true then (if ah.2.2.2=0 then ((exergueref05_Same.f kj4 ah.1 ah.2.1 ah.2.2.1 av aA aH).bind fun bh=>(if bh=true then (if ag>0 then (some true) else (some (aY == 0))) else (none))) else (none)) else (none))) else (none)))=some r:=by first|(rw [bm];with_reducible exact H)|(have H2_:=(Option.bind_some _ _).symm.trans H;rw [bm];with_reducible exact H2_)|(have H2_:=(Option.bind_some _ _).symm.trans H;with_reducible exact H2_)|with_reducible exact H|(rw [bm];exact H)|exact H
   have cn:=zS bm
   clear bm
   replace H:=Option.bind_eq_some_iff.mp H
   obtain ⟨⟨aw,ax,ay,bH⟩,cQ,H⟩:=H
   try dsimp only at H
   have A24:=zS cQ
   clear cQ
   by_cases c25:aX=true
   rotate_left
   ·replace c25:=Bool.eq_false_iff.mpr c25
    subst c25
    rw [if_neg (show ¬ (false=true) by decide)] at H
    exact absurd H (by simp)
   subst c25
   rw [if_pos rfl] at H
   replace H:=Option.bind_eq_some_iff.mp H
   obtain ⟨bf,cR,H⟩:=H
   try dsimp only at H
   have A26:=zS cR
   clear cR
   by_cases c27:bf=true
   rotate_left
   ·replace c27:=Bool.eq_false_iff.mpr c27
    subst c27
    rw [if_neg (show ¬ (false=true) by decide)] at H
    exact absurd H (by simp)
   subst c27
   rw [if_pos rfl] at H
   by_cases c28:bH=0
   rotate_left
   ·rw [if_neg c28] at H
    exact absurd H (by simp)
   rw [if_pos c28] at H
   have dm:(bH == 0)=true:=zH c28
   have dn:(bH != 0)=false:=zG c28
   clear c28
   replace H:=Option.bind_eq_some_iff.mp H
   obtain ⟨bh,cS,H⟩:=H
   try dsimp only at H
   have A29:=zS cS
   clear cS
   by_cases c30:bh=true
   rotate_left
   ·replace c30:=Bool.eq_false_iff.mpr c30
    subst c30
    rw [if_neg (show ¬ (false=true) by decide)] at H
    exact absurd H (by simp)
   subst c30
   rw [if_pos rfl] at H
   by_cases c31:ag>0
   ·rw [if_pos c31] at H
    have cT:decide (0<ag)=true:=zC c31
    clear c31
    obtain rfl:=zE H
    have dp:=aI.out
    have dq:=aJ.out
    have dr:=blkc17 aa.out
    have dt:=blkf17 aa.out
    have du:=blkc3 ab.out
    have dv:=blkf3 ab.out
    go_wp2_with (first|(refine pat_load rfl rfl rfl az rfl _ _ (pbk aa) ?_)|(refine pat_load_w (wanted_on rfl rfl rfl rfl) rfl rfl az rfl _ _ (pbk aa) ?_)|((with_reducible refine gate_callee (f:=17) rfl ?_);refine gL (some 29) Tryz.func17 #[.agg #[.slice bv aC.length bw,.slice bx aD.length bA,.slice bB aE.length bC,.slice bD aG.length bE,.bool aK,.int .i64 aM,.int .i64 aN,.int .i64 aP,.int .i64 aQ,.int .i64 aT,.int .i64 am,.int .i64 an,.int .i64 ao,.int .i64 ag,.bool ap,.int .i32 aq,.int .i64 ar],.int .i64 a1,.agg #[.bool av,.slice bZ aA.length b0,.int .i64 aH]] ?_;(with_reducible refine (shape_Figures.calls _ _ aC _ _ aD _ _ aE _ _ aG aK aM aN aP aQ aT am an ao ag ap aq ar a1 av _ _ aA aH au ai aY _ (cb bQ HB) bR.out (cb bS HB) bT.out (cb bU HB) bV.out (cb bW HB) bX.out (cb bF HB) bG.out A21.out).mono ?_);rintro e w35 ⟨cU,bI,rfl,ho0,ho1,hb⟩;refine ⟨_,rfl,?_⟩;have ad:=zS (Kd.R_lower ho0 (bz HB));have ae:=zS (Kd.R_lower ho1 (bz HB));replace aa:=kb aa hb;replace ab:=kb ab hb;replace HB:=bs HB hb;(try clear hb);(try clear ho0);(try clear ho1))|((with_reducible refine gate_dst (N:=33) rfl ?_);refine Kd.R_lit (Kd.int .u8) _ 5 ?hg (N:=33) ?hd (xs:=([]:List Int)) (inner:=[]) (ok:=fun _=>True) (okp:=fun _=>True) ?hr ?hp (fun _ hk=>hk) trivial (Below.refl _ _) (Nat.le_refl _) (by simp) ?_;(case hd=>rfl);(case hg=>rfl);(case hr=>first|(go_simp;done)|(go_simp;rfl));(case hp=>exact (Reps.none _ _));intro co w36 bK hb hg_ hnew_;clear hg_ hnew_;(first|rw [← bo.out] at bK|(simp only [Int.reduceToNat] at bK;rw [← bo.out] at bK));have aU:=zS (Kd.R_lower (Kd.R_new' (Kd.R_new' bK (Kd.R_lt (ro ad))) (Kd.R_lt (ro ae))) (bz HB));replace ad:=zS (Kd.R_elder' (ro ad) (Kd.R_base bK) hb);replace ae:=zS (Kd.R_elder' (ro ae) (Kd.R_base bK) hb);replace aa:=kb aa hb;replace ab:=kb ab hb;replace HB:=bs HB hb;clear hb bK;obtain ⟨b1,b2,da⟩:=Kd.R_slice ad.out;subst da)|((with_reducible refine gate_builtin (b:=.append) (xs:=#[.tmp 33,.tmp 34]) rfl ?_);at_builtin;refine Kd.R_append_rows (Kd.int .u8) (w0:=w) w.heap.size rfl (.tmp 33) (.tmp 34) 27 5 (.int .u8 0) 1 rfl Tryz.underlying27 info5 rfl (by decide) (by omega) co be au _ _ _ (fun k_=>some k_≠(.slice b1 au.length b2:Value).ownBlock∧some k_≠(bI:Value).ownBlock) (fun _=>False) rfl rfl ?aO ?aR (fun _ _ h=>h) (fun _ h=>h.elim) ?aF ?aB ?aS ?aL ?_;(case aR=>exact (Kd.R_reads' ad.out).2.2);(case aB=>exact (bl HB));(case aF=>exact (fun k_ hk=>⟨Kd.fresh' (Kd.R_lt (ro ad)) k_ hk,Kd.fresh' (Kd.R_lt (ro ae)) k_ hk⟩));(case aO=>exact (by (with_reducible repeat (first|apply Kd.R_alloc|apply Kd.R_drewN|apply Kd.R_drew));exact Kd.R_mono aU.out (fun _ hk=>⟨hk.1.2,hk.2⟩)));(case aS=>exact (bz HB));(case aL=>have:=LMc22.out;omega);intro cp w38 ho hb hg hat;rw [← cm.out] at ho;replace aa:=zS (blk_grown (ko aa) hg (Kd.R_ne aU.out aa.out (by decide)));replace ab:=zS (blk_grown (ko ab) hg (Kd.R_ne aU.out ab.out (by decide)));replace ad:=zS (Kd.R_after (ok:=(fun k_=>some k_≠(bI:Value).ownBlock)) (ro ad) hg hat);replace ae:=zS (Kd.R_after (ok:=(fun k_=>some k_≠(.slice b1 au.length b2:Value).ownBlock)) (ro ae) hg hat);replace HB:=zS (hb);have aV:=zS (ho);clear aU;clear ho hb hg hat;obtain ⟨cq,cr,db⟩:=Kd.R_slice ae.out;subst db)|((with_reducible refine gate_builtin (b:=.append) (xs:=#[.tmp 35,.tmp 36]) rfl ?_);at_builtin;refine Kd.R_append_rows (Kd.int .u8) (w0:=w) w.heap.size rfl (.tmp 35) (.tmp 36) 27 5 (.int .u8 0) 1 rfl Tryz.underlying27 info5 rfl (by decide) (by omega) cp aW ai _ _ _ (fun k_=>some k_≠(.slice b1 au.length b2:Value).ownBlock∧some k_≠(.slice cq ai.length cr:Value).ownBlock) (fun _=>False) rfl rfl ?aO ?aR (fun _ _ h=>h) (fun _ h=>h.elim) ?aF ?aB ?aS ?aL ?_;(case aR=>exact (Kd.R_reads' ae.out).2.2);(case aB=>exact (bl HB));(case aF=>exact (fun k_ hk=>⟨Kd.fresh' (Kd.R_lt (ro ad)) k_ hk,Kd.fresh' (Kd.R_lt (ro ae)) k_ hk⟩));(case aO=>exact (ro aV));(case aS=>exact (bz HB));(case aL=>have:=LMc23.out;omega);intro cV w40 ho hb hg hat;rw [← cn.out] at ho;replace aa:=zS (blk_grown (ko aa) hg (Kd.R_ne aV.out aa.out (by decide)));replace ab:=zS (blk_grown (ko ab) hg (Kd.R_ne aV.out ab.out (by decide)));replace ad:=zS (Kd.R_after (ok:=(fun k_=>some k_≠(.slice cq ai.length cr:Value).ownBlock)) (ro ad) hg hat);replace ae:=zS (Kd.R_after (ok:=(fun k_=>some k_≠(.slice b1 au.length b2:Value).ownBlock)) (ro ae) hg hat);replace HB:=zS (hb);have af:=zS (ho);clear aV;clear ho hb hg hat;have dw:=blkc3 ab.out;have dx:=blkf3 ab.out;obtain ⟨cW,cF,dc⟩:=Kd.R_slice af.out;subst dc)|((with_reducible refine gate_callee (f:=29) rfl ?_);refine gL (some 46) Tryz.func29 #[.bool av,.slice cW ak.length cF,.int .i64 (wrap64 (aY - (ai.length:Int)))] ?_;(with_reducible refine (exergueref05_Norm.calls kj4 av (fun k_=>some k_=(.slice cW ak.length cF:Value).ownBlock) _ _ ak (wrap64 (aY - (ai.length:Int))) aw ax ay bH _ ?side1 A24.out).mono ?_);(case side1=>exact Kd.R_V (Kd.R_tight rfl (Kd.R_types (Kd.R_types (af.out) aa.out (by decide)) ab.out (by decide))));rintro e w44 ⟨cX,rfl,ho0,hb⟩;refine ⟨_,rfl,?_⟩;have al:=zS (Kd.V_lower (Kd.V_mono (ok':=fun k_=>some k_≠(.slice b1 au.length b2:Value).ownBlock∧some k_≠(.slice cq ai.length cr:Value).ownBlock∧k_≠az∧k_≠bJ) ho0 (fun k_ hk_=>⟨Or.elim hk_ (fun hs_=>((Kd.R_types (Kd.R_types (af.out) aa.out (by decide)) ab.out (by decide)).1 k_ hs_.symm).1.1.1) (fun hn_=>(Kd.fresh' (Kd.R_lt (ro ad)) k_ hn_)),Or.elim hk_ (fun hs_=>((Kd.R_types (Kd.R_types (af.out) aa.out (by decide)) ab.out (by decide)).1 k_ hs_.symm).1.1.2) (fun hn_=>(Kd.fresh' (Kd.R_lt (ro ae)) k_ hn_)),Or.elim hk_ (fun hs_=>((Kd.R_types (Kd.R_types (af.out) aa.out (by decide)) ab.out (by decide)).1 k_ hs_.symm).1.2) (fun hn_=>(Kd.freshB (ko aa) k_ hn_)),Or.elim hk_ (fun hs_=>((Kd.R_types (Kd.R_types (af.out) aa.out (by decide)) ab.out (by decide)).1 k_ hs_.symm).2) (fun hn_=>(Kd.freshB (ko ab) k_ hn_))⟩)) (bz HB));replace ad:=rb ad hb;replace ae:=rb ae hb;replace af:=rb af hb;replace aa:=kb aa hb;replace ab:=kb ab hb;replace HB:=bs HB hb;(try clear hb);(try clear ho0))|((with_reducible refine gate_dst (N:=12) rfl ?_);refine box_event ?hg (N:=12) ?hd (cs:=#[.bool false,.slice none 0 0,.int .i64 0]) (t:=29) ?hr ?_;(case hd=>rfl);(case hg=>rfl);(case hr=>first|(go_simp;done)|(go_simp;rfl));intro ac hg w45 hbox hb;replace ad:=rb ad hb;replace ae:=rb ae hb;replace af:=rb af hb;replace al:=zS (Kd.V_below (Kd.V_elderB (vo al) ac (Nat.le_of_eq hg.symm)) hb);have aj:=zS (hbox);have cG:=bg HB hg;replace HB:=bs HB hb;have aZ:=kn aa hg;have ba:=km aa hg;replace aa:=kb aa hb;have bb:=kn ab hg;have bc:=km ab hg;replace ab:=kb ab hb;clear hb hbox hg;have dy:=ba.out;have dz:=aZ.out;have dA:=bc.out;have dB:=bb.out;have dC:=blkc3 aj.out;have dD:=blkf3 aj.out;obtain ⟨bL,bM,dd⟩:=Kd.V_slice al.out;subst dd)|(go_at_call 30;(with_reducible refine (exergueref07_Figures.calls kj4 _ _ ak true _ ?side1 (rl af) A26.out).mono ?_);(case side1=>refine (Kd.R_reads' (e:=5) (base:=w.heap.size) (ok:=fun k_=>(some k_≠(.slice b1 au.length b2:Value).ownBlock∧some k_≠(.slice cq ai.length cr:Value).ownBlock)) (n:=ak.length) (c:=cF) ?_).2.2;exact (by (with_reducible repeat (first|apply Kd.R_alloc|apply Kd.R_drewN|apply Kd.R_drew));exact (Kd.R_mono (Kd.R_far (p:=⟨ac,2,none⟩) (Kd.R_far (p:=⟨ac,1,none⟩) (Kd.R_far (p:=⟨ac,0,none⟩) (Kd.R_types af.out aj.out (by decide)) (fun _ hk=>hk.2) (.bool aw)) (fun _ hk=>hk.2) (.slice bL ax.length bM)) (fun _ hk=>hk.2) (.int .i64 ay)) (fun _ h_=>h_.1))));rintro e w' ⟨rfl,⟨nd,rfl⟩⟩;have dE:=blkc3 ab.out;have dF:=blkf3 ab.out)|(go_at_call 19;(with_reducible refine (exergueref05_Same.calls kj4 aw _ _ ax ay av _ _ aA aH true _ ?side1 (vl al) (cb bF HB) bG.out A29.out).mono ?_);(case side1=>exact (Kd.V_reads' (Kd.V_far (p:=⟨ac,2,none⟩) (Kd.V_far (p:=⟨ac,1,none⟩) (Kd.V_far (p:=⟨ac,0,none⟩) (Kd.V_mono al.out (fun k_ hk=>(⟨hk,hk.2⟩:_∧k_≠ac))) (fun _ hk=>hk.2) (.bool aw)) (fun _ hk=>hk.2) (.slice bL ax.length bM)) (fun _ hk=>hk.2) (.int .i64 ay))).2.2);rintro e w51 ⟨rfl,hb⟩;replace ad:=zS (Kd.R_below (by (with_reducible repeat (first|apply Kd.R_alloc|apply Kd.R_drewN|apply Kd.R_drew));exact (Kd.R_mono (Kd.R_far (p:=⟨ac,2,none⟩) (Kd.R_far (p:=⟨ac,1,none⟩) (Kd.R_far (p:=⟨ac,0,none⟩) (Kd.R_types ad.out aj.out (by decide)) (fun _ hk=>hk.2) (.bool aw)) (fun _ hk=>hk.2) (.slice bL ax.length bM)) (fun _ hk=>hk.2) (.int .i64 ay)) (fun _ h_=>h_.1))) hb);replace ae:=zS (Kd.R_below (by (with_reducible repeat (first|apply Kd.R_alloc|apply Kd.R_drewN|apply Kd.R_drew));exact (Kd.R_mono (Kd.R_far (p:=⟨ac,2,none⟩) (Kd.R_far (p:=⟨ac,1,none⟩) (Kd.R_far (p:=⟨ac,0,none⟩) (Kd.R_types ae.out aj.out (by decide)) (fun _ hk=>hk.2) (.bool aw)) (fun _ hk=>hk.2) (.slice bL ax.length bM)) (fun _ hk=>hk.2) (.int .i64 ay)) (fun _ h_=>h_.1))) hb);replace af:=zS (Kd.R_below (by (with_reducible repeat (first|apply Kd.R_alloc|apply Kd.R_drewN|apply Kd.R_drew));exact (Kd.R_mono (Kd.R_far (p:=⟨ac,2,none⟩) (Kd.R_far (p:=⟨ac,1,none⟩) (Kd.R_far (p:=⟨ac,0,none⟩) (Kd.R_types af.out aj.out (by decide)) (fun _ hk=>hk.2) (.bool aw)) (fun _ hk=>hk.2) (.slice bL ax.length bM)) (fun _ hk=>hk.2) (.int .i64 ay)) (fun _ h_=>h_.1))) hb);replace al:=zS (Kd.V_below (by (with_reducible repeat (first|apply Kd.V_alloc|apply Kd.V_drewN|apply Kd.V_drew));exact (Kd.V_mono (Kd.V_far (p:=⟨ac,2,none⟩) (Kd.V_far (p:=⟨ac,1,none⟩) (Kd.V_far (p:=⟨ac,0,none⟩) (Kd.V_mono al.out (fun k_ hk=>(⟨hk,hk.2⟩:_∧k_≠ac))) (fun _ hk=>hk.2) (.bool aw)) (fun _ hk=>hk.2) (.slice bL ax.length bM)) (fun _ hk=>hk.2) (.int .i64 ay)) (fun _ h_=>h_.1))) hb);replace aa:=kb aa hb;replace ab:=kb ab hb;replace aj:=zS (blk_below (g:=ac) (o:=.cells #[.bool aw,.slice bL ax.length bM,.int .i64 ay] 29 (0,0)) (kp aj rfl) hb);replace HB:=bs HB hb;(try clear hb);(try clear hk);have dG:=blkc17 aa.out;have dH:=blkf17 aa.out))
    go_ret
    exact ⟨by first|rfl|(simp <;> rfl)|(simp [*] <;> rfl),bl HB⟩
   rw [if_neg c31] at H
   have cT:decide (0<ag)=false:=zD c31
   clear c31
   obtain rfl:=zE H
   have dI:=aI.out
   have dJ:=aJ.out
   have dK:=blkc17 aa.out
   have dL:=blkf17 aa.out
   have dM:=blkc3 ab.out
   have dN:=blkf3 ab.out
   go_wp2_with (first|(refine pat_load rfl rfl rfl az rfl _ _ (pbk aa) ?_)|(refine pat_load_w (wanted_on rfl rfl rfl rfl) rfl rfl az rfl _ _ (pbk aa) ?_)|((with_reducible refine gate_callee (f:=17) rfl ?_);refine gL (some 29) Tryz.func17 #[.agg #[.slice bv aC.length bw,.slice bx aD.length bA,.slice bB aE.length bC,.slice bD aG.length bE,.bool aK,.int .i64 aM,.int .i64 aN,.int .i64 aP,.int .i64 aQ,.int .i64 aT,.int .i64 am,.int .i64 an,.int .i64 ao,.int .i64 ag,.bool ap,.int .i32 aq,.int .i64 ar],.int .i64 a1,.agg #[.bool av,.slice bZ aA.length b0,.int .i64 aH]] ?_;(with_reducible refine (shape_Figures.calls _ _ aC _ _ aD _ _ aE _ _ aG aK aM aN aP aQ aT am an ao ag ap aq ar a1 av _ _ aA aH au ai aY _ (cb bQ HB) bR.out (cb bS HB) bT.out (cb bU HB) bV.out (cb bW HB) bX.out (cb bF HB) bG.out A21.out).mono ?_);rintro e w56 ⟨cU,bI,rfl,ho0,ho1,hb⟩;refine ⟨_,rfl,?_⟩;have ad:=zS (Kd.R_lower ho0 (bz HB));have ae:=zS (Kd.R_lower ho1 (bz HB));replace aa:=kb aa hb;replace ab:=kb ab hb;replace HB:=bs HB hb;(try clear hb);(try clear ho0);(try clear ho1))|((with_reducible refine gate_dst (N:=33) rfl ?_);refine Kd.R_lit (Kd.int .u8) _ 5 ?hg (N:=33) ?hd (xs:=([]:List Int)) (inner:=[]) (ok:=fun _=>True) (okp:=fun _=>True) ?hr ?hp (fun _ hk=>hk) trivial (Below.refl _ _) (Nat.le_refl _) (by simp) ?_;(case hd=>rfl);(case hg=>rfl);(case hr=>first|(go_simp;done)|(go_simp;rfl));(case hp=>exact (Reps.none _ _));intro co w57 bN hb hg_ hnew_;clear hg_ hnew_;(first|rw [← bo.out] at bN|(simp only [Int.reduceToNat] at bN;rw [← bo.out] at bN));have aU:=zS (Kd.R_lower (Kd.R_new' (Kd.R_new' bN (Kd.R_lt (ro ad))) (Kd.R_lt (ro ae))) (bz HB));replace ad:=zS (Kd.R_elder' (ro ad) (Kd.R_base bN) hb);replace ae:=zS (Kd.R_elder' (ro ae) (Kd.R_base bN) hb);replace aa:=kb aa hb;replace ab:=kb ab hb;replace HB:=bs HB hb;clear hb bN;obtain ⟨b3,b4,de⟩:=Kd.R_slice ad.out;subst de)|((with_reducible refine gate_builtin (b:=.append) (xs:=#[.tmp 33,.tmp 34]) rfl ?_);at_builtin;refine Kd.R_append_rows (Kd.int .u8) (w0:=w) w.heap.size rfl (.tmp 33) (.tmp 34) 27 5 (.int .u8 0) 1 rfl Tryz.underlying27 info5 rfl (by decide) (by omega) co be au _ _ _ (fun k_=>some k_≠(.slice b3 au.length b4:Value).ownBlock∧some k_≠(bI:Value).ownBlock) (fun _=>False) rfl rfl ?aO ?aR (fun _ _ h=>h) (fun _ h=>h.elim) ?aF ?aB ?aS ?aL ?_;(case aR=>exact (Kd.R_reads' ad.out).2.2);(case aB=>exact (bl HB));(case aF=>exact (fun k_ hk=>⟨Kd.fresh' (Kd.R_lt (ro ad)) k_ hk,Kd.fresh' (Kd.R_lt (ro ae)) k_ hk⟩));(case aO=>exact (by (with_reducible repeat (first|apply Kd.R_alloc|apply Kd.R_drewN|apply Kd.R_drew));exact Kd.R_mono aU.out (fun _ hk=>⟨hk.1.2,hk.2⟩)));(case aS=>exact (bz HB));(case aL=>have:=LMc22.out;omega);intro cp w59 ho hb hg hat;rw [← cm.out] at ho;replace aa:=zS (blk_grown (ko aa) hg (Kd.R_ne aU.out aa.out (by decide)));replace ab:=zS (blk_grown (ko ab) hg (Kd.R_ne aU.out ab.out (by decide)));replace ad:=zS (Kd.R_after (ok:=(fun k_=>some k_≠(bI:Value).ownBlock)) (ro ad) hg hat);replace ae:=zS (Kd.R_after (ok:=(fun k_=>some k_≠(.slice b3 au.length b4:Value).ownBlock)) (ro ae) hg hat);replace HB:=zS (hb);have aV:=zS (ho);clear aU;clear ho hb hg hat;obtain ⟨ct,cu,df⟩:=Kd.R_slice ae.out;subst df)|((with_reducible refine gate_builtin (b:=.append) (xs:=#[.tmp 35,.tmp 36]) rfl ?_);at_builtin;refine Kd.R_append_rows (Kd.int .u8) (w0:=w) w.heap.size rfl (.tmp 35) (.tmp 36) 27 5 (.int .u8 0) 1 rfl Tryz.underlying27 info5 rfl (by decide) (by omega) cp aW ai _ _ _ (fun k_=>some k_≠(.slice b3 au.length b4:Value).ownBlock∧some k_≠(.slice ct ai.length cu:Value).ownBlock) (fun _=>False) rfl rfl ?aO ?aR (fun _ _ h=>h) (fun _ h=>h.elim) ?aF ?aB ?aS ?aL ?_;(case aR=>exact (Kd.R_reads' ae.out).2.2);(case aB=>exact (bl HB));(case aF=>exact (fun k_ hk=>⟨Kd.fresh' (Kd.R_lt (ro ad)) k_ hk,Kd.fresh' (Kd.R_lt (ro ae)) k_ hk⟩));(case aO=>exact (ro aV));(case aS=>exact (bz HB));(case aL=>have:=LMc23.out;omega);intro cV w61 ho hb hg hat;rw [← cn.out] at ho;replace aa:=zS (blk_grown (ko aa) hg (Kd.R_ne aV.out aa.out (by decide)));replace ab:=zS (blk_grown (ko ab) hg (Kd.R_ne aV.out ab.out (by decide)));replace ad:=zS (Kd.R_after (ok:=(fun k_=>some k_≠(.slice ct ai.length cu:Value).ownBlock)) (ro ad) hg hat);replace ae:=zS (Kd.R_after (ok:=(fun k_=>some k_≠(.slice b3 au.length b4:Value).ownBlock)) (ro ae) hg hat);replace HB:=zS (hb);have af:=zS (ho);clear aV;clear ho hb hg hat;have dO:=blkc3 ab.out;have dP:=blkf3 ab.out;obtain ⟨cY,cH,dg⟩:=Kd.R_slice af.out;subst dg)|((with_reducible refine gate_callee (f:=29) rfl ?_);refine gL (some 46) Tryz.func29 #[.bool av,.slice cY ak.length cH,.int .i64 (wrap64 (aY - (ai.length:Int)))] ?_;(with_reducible refine (exergueref05_Norm.calls kj4 av (fun k_=>some k_=(.slice cY ak.length cH:Value).ownBlock) _ _ ak (wrap64 (aY - (ai.length:Int))) aw ax ay bH _ ?side1 A24.out).mono ?_);(case side1=>exact Kd.R_V (Kd.R_tight rfl (Kd.R_types (Kd.R_types (af.out) aa.out (by decide)) ab.out (by decide))));rintro e w65 ⟨cX,rfl,ho0,hb⟩;refine ⟨_,rfl,?_⟩;have al:=zS (Kd.V_lower (Kd.V_mono (ok':=fun k_=>some k_≠(.slice b3 au.length b4:Value).ownBlock∧some k_≠(.slice ct ai.length cu:Value).ownBlock∧k_≠az∧k_≠bJ) ho0 (fun k_ hk_=>⟨Or.elim hk_ (fun hs_=>((Kd.R_types (Kd.R_types (af.out) aa.out (by decide)) ab.out (by decide)).1 k_ hs_.symm).1.1.1) (fun hn_=>(Kd.fresh' (Kd.R_lt (ro ad)) k_ hn_)),Or.elim hk_ (fun hs_=>((Kd.R_types (Kd.R_types (af.out) aa.out (by decide)) ab.out (by decide)).1 k_ hs_.symm).1.1.2) (fun hn_=>(Kd.fresh' (Kd.R_lt (ro ae)) k_ hn_)),Or.elim hk_ (fun hs_=>((Kd.R_types (Kd.R_types (af.out) aa.out (by decide)) ab.out (by decide)).1 k_ hs_.symm).1.2) (fun hn_=>(Kd.freshB (ko aa) k_ hn_)),Or.elim hk_ (fun hs_=>((Kd.R_types (Kd.R_types (af.out) aa.out (by decide)) ab.out (by decide)).1 k_ hs_.symm).2) (fun hn_=>(Kd.freshB (ko ab) k_ hn_))⟩)) (bz HB));replace ad:=rb ad hb;replace ae:=rb ae hb;replace af:=rb af hb;replace aa:=kb aa hb;replace ab:=kb ab hb;replace HB:=bs HB hb;(try clear hb);(try clear ho0))|((with_reducible refine gate_dst (N:=12) rfl ?_);refine box_event ?hg (N:=12) ?hd (cs:=#[.bool false,.slice none 0 0,.int .i64 0]) (t:=29) ?hr ?_;(case hd=>rfl);(case hg=>rfl);(case hr=>first|(go_simp;done)|(go_simp;rfl));intro ac hg w66 hbox hb;replace ad:=rb ad hb;replace ae:=rb ae hb;replace af:=rb af hb;replace al:=zS (Kd.V_below (Kd.V_elderB (vo al) ac (Nat.le_of_eq hg.symm)) hb);have aj:=zS (hbox);have cG:=bg HB hg;replace HB:=bs HB hb;have aZ:=kn aa hg;have ba:=km aa hg;replace aa:=kb aa hb;have bb:=kn ab hg;have bc:=km ab hg;replace ab:=kb ab hb;clear hb hbox hg;have dQ:=ba.out;have dR:=aZ.out;have dS:=bc.out;have dT:=bb.out;have dU:=blkc3 aj.out;have dV:=blkf3 aj.out;obtain ⟨bO,bP,dh⟩:=Kd.V_slice al.out;subst dh)|(go_at_call 30;(with_reducible refine (exergueref07_Figures.calls kj4 _ _ ak true _ ?side1 (rl af) A26.out).mono ?_);(case side1=>refine (Kd.R_reads' (e:=5) (base:=w.heap.size) (ok:=fun k_=>(some k_≠(.slice b3 au.length b4:Value).ownBlock∧some k_≠(.slice ct ai.length cu:Value).ownBlock)) (n:=ak.length) (c:=cH) ?_).2.2;exact (by (with_reducible repeat (first|apply Kd.R_alloc|apply Kd.R_drewN|apply Kd.R_drew));exact (Kd.R_mono (Kd.R_far (p:=⟨ac,2,none⟩) (Kd.R_far (p:=⟨ac,1,none⟩) (Kd.R_far (p:=⟨ac,0,none⟩) (Kd.R_types af.out aj.out (by decide)) (fun _ hk=>hk.2) (.bool aw)) (fun _ hk=>hk.2) (.slice bO ax.length bP)) (fun _ hk=>hk.2) (.int .i64 ay)) (fun _ h_=>h_.1))));rintro e w' ⟨rfl,⟨nd,rfl⟩⟩;have dW:=blkc3 ab.out;have dX:=blkf3 ab.out)|(go_at_call 19;(with_reducible refine (exergueref05_Same.calls kj4 aw _ _ ax ay av _ _ aA aH true _ ?side1 (vl al) (cb bF HB) bG.out A29.out).mono ?_);(case side1=>exact (Kd.V_reads' (Kd.V_far (p:=⟨ac,2,none⟩) (Kd.V_far (p:=⟨ac,1,none⟩) (Kd.V_far (p:=⟨ac,0,none⟩) (Kd.V_mono al.out (fun k_ hk=>(⟨hk,hk.2⟩:_∧k_≠ac))) (fun _ hk=>hk.2) (.bool aw)) (fun _ hk=>hk.2) (.slice bO ax.length bP)) (fun _ hk=>hk.2) (.int .i64 ay))).2.2);rintro e w72 ⟨rfl,hb⟩;replace ad:=zS (Kd.R_below (by (with_reducible repeat (first|apply Kd.R_alloc|apply Kd.R_drewN|apply Kd.R_drew));exact (Kd.R_mono (Kd.R_far (p:=⟨ac,2,none⟩) (Kd.R_far (p:=⟨ac,1,none⟩) (Kd.R_far (p:=⟨ac,0,none⟩) (Kd.R_types ad.out aj.out (by decide)) (fun _ hk=>hk.2) (.bool aw)) (fun _ hk=>hk.2) (.slice bO ax.length bP)) (fun _ hk=>hk.2) (.int .i64 ay)) (fun _ h_=>h_.1))) hb);replace ae:=zS (Kd.R_below (by (with_reducible repeat (first|apply Kd.R_alloc|apply Kd.R_drewN|apply Kd.R_drew));exact (Kd.R_mono (Kd.R_far (p:=⟨ac,2,none⟩) (Kd.R_far (p:=⟨ac,1,none⟩) (Kd.R_far (p:=⟨ac,0,none⟩) (Kd.R_types ae.out aj.out (by decide)) (fun _ hk=>hk.2) (.bool aw)) (fun _ hk=>hk.2) (.slice bO ax.length bP)) (fun _ hk=>hk.2) (.int .i64 ay)) (fun _ h_=>h_.1))) hb);replace af:=zS (Kd.R_below (by (with_reducible repeat (first|apply Kd.R_alloc|apply Kd.R_drewN|apply Kd.R_drew));exact (Kd.R_mono (Kd.R_far (p:=⟨ac,2,none⟩) (Kd.R_far (p:=⟨ac,1,none⟩) (Kd.R_far (p:=⟨ac,0,none⟩) (Kd.R_types af.out aj.out (by decide)) (fun _ hk=>hk.2) (.bool aw)) (fun _ hk=>hk.2) (.slice bO ax.length bP)) (fun _ hk=>hk.2) (.int .i64 ay)) (fun _ h_=>h_.1))) hb);replace al:=zS (Kd.V_below (by (with_reducible repeat (first|apply Kd.V_alloc|apply Kd.V_drewN|apply Kd.V_drew));exact (Kd.V_mono (Kd.V_far (p:=⟨ac,2,none⟩) (Kd.V_far (p:=⟨ac,1,none⟩) (Kd.V_far (p:=⟨ac,0,none⟩) (Kd.V_mono al.out (fun k_ hk=>(⟨hk,hk.2⟩:_∧k_≠ac))) (fun _ hk=>hk.2) (.bool aw)) (fun _ hk=>hk.2) (.slice bO ax.length bP)) (fun _ hk=>hk.2) (.int .i64 ay)) (fun _ h_=>h_.1))) hb);replace aa:=kb aa hb;replace ab:=kb ab hb;replace aj:=zS (blk_below (g:=ac) (o:=.cells #[.bool aw,.slice bO ax.length bP,.int .i64 ay] 29 (0,0)) (kp aj rfl) hb);replace HB:=bs HB hb;(try clear hb);(try clear hk);have dY:=blkc17 aa.out;have dZ:=blkf17 aa.out))
   go_ret
   exact ⟨by first|rfl|(simp <;> rfl)|(simp [*] <;> rfl),bl HB⟩
end Go.Proofs.YtklebhlanidloaaGreatDoor.PZ
end
end
section
set_option maxRecDepth 100000
namespace Go.Proofs.YtklebhlanidloaaGreatDoor.PZ
open Go.RowKit Go.Proofs.YtklebhlanidloaaGreatDoorW.PrintWords Go.Proofs.YtklebhlanidloaaGreatDoorW.PrintLast
structure OfOk (s:PS)(dg:Int):Prop where
  n:s.nums
  ok:s.ok
  dg:dg≤40
theorem numsB_ok {s q:PS}(h:numsB s q=true)(hq:q.ok):s.ok:=by
 simp only [numsB,numsB1,numsB2,numsB3,Bool.and_eq_true,beq_iff_eq] at h
 obtain ⟨_,⟨_,_,h1,h2⟩,h3,h4,_⟩:=h
 unfold PS.ok at hq ⊢
 rw [h1,h2,h3,h4]
 exact hq
theorem rightB_ok {s:PS}{l0 l1 l2 l3:PRow}(h:rightB s l0 l1 l2 l3=true):s.nums∧s.ok:=by
 unfold rightB at h
 split at h
 ·rename_i h1
  refine ⟨nums_all h1,?_⟩
  split at h
  ·split at h
   ·split at h
    ·cases hp:parseO (bytesOf (textS s l0 l1 l2 l3)) with
     | none=>rw [hp] at h;cases h
     | some r=>
      obtain ⟨q,m0,m1,m2,m3⟩:=r
      rw [hp] at h
      simp only [backB,Bool.and_eq_true] at h
      exact numsB_ok h.2.2 (parseO_ok hp)
    cases h
   cases h
  cases h
 cases h
theorem of_cases (l0 l1 l2 l3:PRow)(a4:Bool)(a5 a6 a7 a8 a9 a10 a11 a12 a13:Int)(a14:Bool)(a15 a16 dg:Int)(h0:l0.length≤140737488351232)(h1:l1.length≤140737488351232)(h2:l2.length≤140737488351232)(h3:l3.length≤140737488351232) :
    (exerguelaw17_of.f l0 l1 l2 l3 a4 a5 a6 a7 a8 a9 a10 a11 a12 a13 a14 a15 a16 dg=some true∧OfOk ⟨a4,a5,a6,a7,a8,a9,a10,a11,a12,a13,a14,a15,a16⟩ dg)∨exerguelaw17_of.f l0 l1 l2 l3 a4 a5 a6 a7 a8 a9 a10 a11 a12 a13 a14 a15 a16 dg=some false:=by
 unfold exerguelaw17_of.f exergueref10_Few.f
 rw [w64 ((l0.length:Int)+l1.length) (by omega) (by omega),w64 ((l0.length:Int)+l1.length+l2.length) (by omega) (by omega),w64 ((l0.length:Int)+l1.length+l2.length+l3.length) (by omega) (by omega)]
 simp only [Option.bind_some]
 by_cases hf:(l0.length:Int)+l1.length+l2.length+l3.length≤300
 ·rw [zC hf,if_pos rfl]
  unfold exergueref10_Right.f
  rw [if_pos (by omega)]
  simp only [Option.bind_some]
  cases hr:rightB ⟨a4,a5,a6,a7,a8,a9,a10,a11,a12,a13,a14,a15,a16⟩ l0 l1 l2 l3 with
  | true=>
   rw [if_pos rfl]
   by_cases hd:dg≤40
   ·rw [zC hd]
    exact .inl ⟨rfl,(rightB_ok hr).1,(rightB_ok hr).2,hd⟩
   rw [zD hd]
   exact .inr rfl
  | false=>exact .inr rfl
 rw [zD hf]
 exact .inr rfl
theorem OfOk.fig {s:PS}{dg:Int}(h:OfOk s dg){l:List Int}{e:Int}(hl:l.length≤100000)(he : -100000≤e∧e≤100000):FigOk s dg l e:=
  ⟨hl,he,by have:=h.dg;omega,by have:=h.n.minInt;omega,by have:=h.n.minFrac;omega,by have:=h.n.minSig;omega⟩
theorem shown_true:exerguelaw17_shown.f 60=some true:=by kernel_rfl
theorem shown_ev:Ev (fun k=>exerguelaw17_shown.f k) true:=Ev.of (k:=60) exerguelaw17_shown.mono shown_true
end Go.Proofs.YtklebhlanidloaaGreatDoor.PZ
end
