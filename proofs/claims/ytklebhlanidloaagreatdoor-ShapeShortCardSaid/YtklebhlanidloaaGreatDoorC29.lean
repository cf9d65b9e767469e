/- Texts of this seat, joined. Conditions: none beyond each statement's own. -/
import Derived.Test.YtklebhlanidloaaGreatDoorC28
section
noncomputable section
namespace Go.Proofs.YtklebhlanidloaaGreatDoor.PZ
open Go.RowKit Go.Proofs.YtklebhlanidloaaGreatDoorW.PrintWords Go.Proofs.YtklebhlanidloaaGreatDoorW.PrintLast Go.Proofs.YtklebhlanidloaaGreatDoorW.PrintMore
attribute [local go_sem] max2_int min2_int max_two min_two max_three min_three max_four min_four   -- for this text's walks alone
set_option linter.unusedVariables false
set_option linter.unusedSimpArgs false
def exerguelaw17_ShapeShort.j0:Nat→Int→Bool→Bool→List (S114)→List (S114)→List (S114)→List (S114)→Bool→Int→Int→Int→Int→Int→Int→Int→Int→Int→Bool→Int→Int→Bool→List Int→Int→Option (Bool)
 | 0,_,_,_,_,_,_,_,_,_,_,_,_,_,_,_,_,_,_,_,_,_,_,_=>none
 | k+1,x1,x7,x31,b7,b8,b9,ca,cc,cd,av,aI,ce,cf,cg,ch,ci,cj,ck,cl,cm,cn,co,cp=>if x31=true then (some x7) else ((shape_Figures.f b7 b8 b9 ca cc cd av aI ce cf cg ch ci cj ck cl cm x1 cn co cp).bind fun ae=>(if x1≥0 then (if x7=true then (if (ae.2.1.length:Int)=0 then (if (ae.1.length:Int)=0 then (if (ae.2.1.length:Int)≥x1 then (some (decide ((ae.1.length:Int)≥av))) else (none)) else (if 0<(ae.1.length:Int) then (if (rd ae.1 0)>0 then (if (ae.2.1.length:Int)≥x1 then (some (decide ((ae.1.length:Int)≥av))) else (none)) else (if (ae.1.length:Int)≤av then (if (ae.2.1.length:Int)≥x1 then (some (decide ((ae.1.length:Int)≥av))) else (none)) else (none))) else (none))) else (if 0≤(wrap64 ((ae.2.1.length:Int) - 1)) then (if (wrap64 ((ae.2.1.length:Int) - 1))<(ae.2.1.length:Int) then (if (rd ae.2.1 (wrap64 ((ae.2.1.length:Int) - 1)))>0 then (if (ae.1.length:Int)=0 then (if (ae.2.1.length:Int)≥x1 then (some (decide ((ae.1.length:Int)≥av))) else (none)) else (if 0<(ae.1.length:Int) then (if (rd ae.1 0)>0 then (if (ae.2.1.length:Int)≥x1 then (some (decide ((ae.1.length:Int)≥av))) else (none)) else (if (ae.1.length:Int)≤av then (if (ae.2.1.length:Int)≥x1 then (some (decide ((ae.1.length:Int)≥av))) else (none)) else (none))) else (none))) else (if (ae.2.1.length:Int)≤x1 then (if (ae.1.length:Int)=0 then (if (ae.2.1.length:Int)≥x1 then (some (decide ((ae.1.length:Int)≥av))) else (none)) else (if 0<(ae.1.length:Int) then (if (rd ae.1 0)>0 then (if (ae.2.1.length:Int)≥x1 then (some (decide ((ae.1.length:Int)≥av))) else (none)) else (if (ae.1.length:Int)≤av then (if (ae.2.1.length:Int)≥x1 then (some (decide ((ae.1.length:Int)≥av))) else (none)) else (none))) else (none))) else (none))) else (none)) else (none))) else (none)) else (if x7=true then (if (ae.2.1.length:Int)=0 then (if (ae.1.length:Int)=0 then (if (ae.2.1.length:Int)≥aI then (some (decide ((ae.1.length:Int)≥av))) else (none)) else (if 0<(ae.1.length:Int) then (if (rd ae.1 0)>0 then (if (ae.2.1.length:Int)≥aI then (some (decide ((ae.1.length:Int)≥av))) else (none)) else (if (ae.1.length:Int)≤av then (if (ae.2.1.length:Int)≥aI then (some (decide ((ae.1.length:Int)≥av))) else (none)) else (none))) else (none))) else (if 0≤(wrap64 ((ae.2.1.length:Int) - 1)) then (if (wrap64 ((ae.2.1.length:Int) - 1))<(ae.2.1.length:Int) then (if (rd ae.2.1 (wrap64 ((ae.2.1.length:Int) - 1)))>0 then (if (ae.1.length:Int)=0 then (if (ae.2.1.length:Int)≥aI then (some (decide ((ae.1.length:Int)≥av))) else (none)) else (if 0<(ae.1.length:Int) then (if (rd ae.1 0)>0 then (if (ae.2.1.length:Int)≥aI then (some (decide ((ae.1.length:Int)≥av))) else (none)) else (if (ae.1.length:Int)≤av then (if (ae.2.1.length:Int)≥aI then (some (decide ((ae.1.length:Int)≥av))) else (none)) else (none))) else (none))) else (if (ae.2.1.length:Int)≤aI then (if (ae.1.length:Int)=0 then (if (ae.2.1.length:Int)≥aI then (some (decide ((ae.1.length:Int)≥av))) else (none)) else (if 0<(ae.1.length:Int) then (if (rd ae.1 0)>0 then (if (ae.2.1.length:Int)≥aI then (some (decide ((ae.1.length:Int)≥av))) else (none)) else (if (ae.1.length:Int)≤av then (if (ae.2.1.length:Int)≥aI then (some (decide ((ae.1.length:Int)≥av))) else (none)) else (none))) else (none))) else (none))) else (none)) else (none))) else (none))))
def exerguelaw17_ShapeShort.f (k:Nat)(aw:List (S114))(ax:List (S114))(ay:List (S114))(az:List (S114))(aA:Bool)(aB:Int)(au:Int)(ar:Int)(aC:Int)(aD:Int)(am:Int)(an:Int)(ai:Int)(ah:Int)(ao:Bool)(ap:Int)(aq:Int)(a1:Int)(aF:Bool)(aE:List Int)(aG:Int):Option (Bool):=(exerguelaw17_shown.f k).bind fun bn=>((exerguelaw17_of.f aw ax ay az aA aB au ar aC aD am an ai ah ao ap aq a1).bind fun bT=>(if bT=true then ((exergueref06_Near.f k aF aE aG).bind fun bU=>(if bU=true then (if ah>0 then (exerguelaw17_ShapeShort.j0 k a1 bn true aw ax ay az aA aB au ar aC aD am an ai ah ao ap aq aF aE aG) else (exerguelaw17_ShapeShort.j0 k a1 bn (decide (ai>0)) aw ax ay az aA aB au ar aC aD am an ai ah ao ap aq aF aE aG)) else (exerguelaw17_ShapeShort.j0 k a1 bn true aw ax ay az aA aB au ar aC aD am an ai ah ao ap aq aF aE aG))) else (exerguelaw17_ShapeShort.j0 k a1 bn true aw ax ay az aA aB au ar aC aD am an ai ah ao ap aq aF aE aG)))
theorem exerguelaw17_ShapeShort.mono_l:∀ k,(∀ y0 y1 y2 y3 y4 y5 y6 y7 y8 y9 y10 y11 y12 y13 y14 y15 y16 y17 y18 y19 y20 y21 y22,LeO (exerguelaw17_ShapeShort.j0 k y0 y1 y2 y3 y4 y5 y6 y7 y8 y9 y10 y11 y12 y13 y14 y15 y16 y17 y18 y19 y20 y21 y22) (exerguelaw17_ShapeShort.j0 (k+1) y0 y1 y2 y3 y4 y5 y6 y7 y8 y9 y10 y11 y12 y13 y14 y15 y16 y17 y18 y19 y20 y21 y22))
 | 0=>fun _ _ _ _ _ _ _ _ _ _ _ _ _ _ _ _ _ _ _ _ _ _ _ r h=>by simp [exerguelaw17_ShapeShort.j0] at h
 | k+1=>by
  have ih0:=exerguelaw17_ShapeShort.mono_l k
  ·intro y0 y1 y2 y3 y4 y5 y6 y7 y8 y9 y10 y11 y12 y13 y14 y15 y16 y17 y18 y19 y20 y21 y22
   unfold exerguelaw17_ShapeShort.j0
   repeat' first|(with_reducible first|apply ih0|apply exerguelaw17_shown.mono|apply exergueref06_Near.mono|apply LeO.refl|apply LeO.none|refine LeO.ite ?_ ?_|refine LeO.bind ?_ (fun _=>?_))|apply ih0|apply exerguelaw17_shown.mono|apply exergueref06_Near.mono|apply LeO.none
theorem exerguelaw17_ShapeShort.mono:∀ a0 a1 a2 a3 a4 a5 a6 a7 a8 a9 a10 a11 a12 a13 a14 a15 a16 a17 a18 a19 a20 k,LeO (exerguelaw17_ShapeShort.f k a0 a1 a2 a3 a4 a5 a6 a7 a8 a9 a10 a11 a12 a13 a14 a15 a16 a17 a18 a19 a20) (exerguelaw17_ShapeShort.f (k+1) a0 a1 a2 a3 a4 a5 a6 a7 a8 a9 a10 a11 a12 a13 a14 a15 a16 a17 a18 a19 a20):=by
 intro a0 a1 a2 a3 a4 a5 a6 a7 a8 a9 a10 a11 a12 a13 a14 a15 a16 a17 a18 a19 a20 k
 have ih0:=exerguelaw17_ShapeShort.mono_l k
 unfold exerguelaw17_ShapeShort.f
 repeat' first|(with_reducible first|apply ih0|apply exerguelaw17_shown.mono|apply exergueref06_Near.mono|apply LeO.refl|apply LeO.none|refine LeO.ite ?_ ?_|refine LeO.bind ?_ (fun _=>?_))|apply ih0|apply exerguelaw17_shown.mono|apply exergueref06_Near.mono|apply LeO.none
set_option maxHeartbeats 8000000 in
set_option maxRecDepth 100000 in
theorem exerguelaw17_ShapeShort.calls (k:Nat)(aZ:Option Addr)(ba:Nat)(aw:List (S114))(bb:Option Addr)(bc:Nat)(ax:List (S114))(bd:Option Addr)(be:Nat)(ay:List (S114))(bf:Option Addr)(bh:Nat)(az:List (S114))(aA:Bool)(aB:Int)(au:Int)(ar:Int)(aC:Int)(aD:Int)(am:Int)(an:Int)(ai:Int)(ah:Int)(ao:Bool)(ap:Int)(aq:Int)(a1:Int)(aF:Bool)(bk:Option Addr)(bm:Nat)(aE:List Int)(aG:Int)(r:Bool)(w:World)(hG:GL w)(cV:Kd.C k114 w aZ aw.length aw)(cW:aw.length≤ba)(cX:Kd.C k114 w bb ax.length ax)(cY:ax.length≤bc)(cZ:Kd.C k114 w bd ay.length ay)(c0:ay.length≤be)(da:Kd.C k114 w bf az.length az)(db:az.length≤bh)(dc:Kd.C (Kd.int .u8) w bk aE.length aE)(dd:aE.length≤bm)(h:exerguelaw17_ShapeShort.f k aw ax ay az aA aB au ar aC aD am an ai ah ao ap aq a1 aF aE aG=some r) :
  Calls Tryz.prog 9 #[.agg #[.slice aZ aw.length ba,.slice bb ax.length bc,.slice bd ay.length be,.slice bf az.length bh,.bool aA,.int .i64 aB,.int .i64 au,.int .i64 ar,.int .i64 aC,.int .i64 aD,.int .i64 am,.int .i64 an,.int .i64 ai,.int .i64 ah,.bool ao,.int .i32 ap,.int .i64 aq],.int .i64 a1,.agg #[.bool aF,.slice bk aE.length bm,.int .i64 aG]] w fun e w'=>e = .returned (.bool r)∧Below w.heap.size w w':=by
 have hu26:=Tryz.underlying26
 have hu29:=Tryz.underlying29
 have aN:=Sd.mk cV
 have aO:=Sd.mk cW
 clear cV cW
 have aP:=Sd.mk cX
 have aQ:=Sd.mk cY
 clear cX cY
 have aR:=Sd.mk cZ
 have aS:=Sd.mk c0
 clear cZ c0
 have aT:=Sd.mk da
 have aU:=Sd.mk db
 clear da db
 have aV:=Sd.mk dc
 have aW:=Sd.mk dd
 clear dc dd
 have HB:=Sd.mk (Below.refl w.heap.size w)
 have HG:=Sd.mk hG
 clear hG
 have H:((exerguelaw17_shown.f k).bind fun bn=>((exerguelaw17_of.f aw ax ay az aA aB au ar aC aD am an ai ah ao ap aq a1).bind fun bT=>(if bT=true then ((exergueref06_Near.f k aF aE aG).bind fun bU=>(if bU=true then (if ah>0 then (exerguelaw17_ShapeShort.j0 k a1 bn true aw ax ay az aA aB au ar aC aD am an ai ah ao ap aq aF aE aG) else (exerguelaw17_ShapeShort.j0 k a1 bn (decide (ai>0)) aw ax ay az aA aB au ar aC aD am an ai ah ao ap aq aF aE aG)) else (exerguelaw17_ShapeShort.j0 k a1 bn true aw ax ay az aA aB au ar aC aD am an ai ah ao ap aq aF aE aG))) else (exerguelaw17_ShapeShort.j0 k a1 bn true aw ax ay az aA aB au ar aC aD am an ai ah ao ap aq aF aE aG))))=some r:=h
 clear h
 obtain ⟨bn,A4,H⟩:=bX H
 try dsimp only at H
 have HC5:=Sd.mk H
 clear H
 go_enter Tryz.func9,Tryz.ntmps9
 go_upto_region 2 with (first|(refine pat_load rfl rfl rfl aj rfl _ _ (pbk aa) ?_)|(refine pat_load_w (wanted_on rfl rfl rfl rfl) rfl rfl aj rfl _ _ (pbk aa) ?_)|((with_reducible refine gate_dst (N:=3) rfl ?_);(try (refine gate_guard (by rfl) ?_;dsimp only));refine box_event ?hg (N:=3) ?hd (cs:=#[.slice aZ aw.length ba,.slice bb ax.length bc,.slice bd ay.length be,.slice bf az.length bh,.bool aA,.int .i64 aB,.int .i64 au,.int .i64 ar,.int .i64 aC,.int .i64 aD,.int .i64 am,.int .i64 an,.int .i64 ai,.int .i64 ah,.bool ao,.int .i32 ap,.int .i64 aq]) (t:=26) ?hr ?_;(case hd=>rfl);(case hg=>rfl);(case hr=>first|(go_simp;done)|(go_simp;rfl));intro aj hg w6 hbox hb;have aa:=Sd.mk (hbox);have eu:=bg HB hg;replace HB:=bs HB hb;clear hb hbox hg)|((with_reducible refine gate_dst (N:=5) rfl ?_);(try (refine gate_guard (by rfl) ?_;dsimp only));refine box_event ?hg (N:=5) ?hd (cs:=#[.bool aF,.slice bk aE.length bm,.int .i64 aG]) (t:=29) ?hr ?_;(case hd=>rfl);(case hg=>rfl);(case hr=>first|(go_simp;done)|(go_simp;rfl));intro de hg w7 hbox hb;have ac:=Sd.mk (hbox);have ev:=bg HB hg;replace HB:=bs HB hb;have af:=kn aa hg;have ag:=km aa hg;replace aa:=kb aa hb;clear hb hbox hg)|((with_reducible refine gate_callee (f:=11) rfl ?_);refine gL (some 12) Tryz.func11 #[] ?_;(with_reducible refine (exerguelaw17_shown.calls k  bn _ ?side1 A4.out).mono ?_);(case side1=>refine GL.below HG.out ?_;exact bl HB);rintro e w8 ⟨rfl,hb⟩;refine ⟨_,rfl,?_⟩;replace aa:=kb aa hb;replace ac:=kb ac hb;replace HB:=bs HB hb;(try clear hb)))
 (try simp only [Act.put,sA,sB,sC])
 go_cut [31] (fun v31 wc=>∃ (kq:Nat) (b1:Bool),v31 = .bool b1∧Sd (exerguelaw17_ShapeShort.j0 kq a1 bn b1 aw ax ay az aA aB au ar aC aD am an ai ah ao ap aq aF aE aG=some r)∧Sd (kq≤k)∧Sd (wc.heap[aj]?=some (.cells #[(.slice aZ aw.length ba),(.slice bb ax.length bc),(.slice bd ay.length be),(.slice bf az.length bh),.bool aA,.int .i64 aB,.int .i64 au,.int .i64 ar,.int .i64 aC,.int .i64 aD,.int .i64 am,.int .i64 an,.int .i64 ai,.int .i64 ah,.bool ao,.int .i32 ap,.int .i64 aq] 26 (0,0)))∧Sd (wc.heap[de]?=some (.cells #[.bool aF,(.slice bk aE.length bm),.int .i64 aG] 29 (0,0)))∧Sd (Below w.heap.size w wc))
 case first=>
  have H:=HC5.out
  clear HC5
  obtain ⟨bT,A9,H⟩:=bX H
  try dsimp only at H
  by_cases c10:bT=true
  rotate_left
  ·replace c10:=Bool.eq_false_iff.mpr c10
   subst c10
   rw [if_neg (show ¬ (false=true) by decide)] at H
   have H':=Sd.mk H
   clear H
   have gR:=af.out
   have gS:=ag.out
   have dC:=blkc17 aa.out
   have dD:=blkf17 aa.out
   go_wp2_with (first|(refine pat_load rfl rfl rfl aj rfl _ _ (pbk aa) ?_)|(refine pat_load_w (wanted_on rfl rfl rfl rfl) rfl rfl aj rfl _ _ (pbk aa) ?_)|((with_reducible refine gate_callee (f:=12) rfl ?_);refine gL (some 15) Tryz.func12 #[.agg #[.slice aZ aw.length ba,.slice bb ax.length bc,.slice bd ay.length be,.slice bf az.length bh,.bool aA,.int .i64 aB,.int .i64 au,.int .i64 ar,.int .i64 aC,.int .i64 aD,.int .i64 am,.int .i64 an,.int .i64 ai,.int .i64 ah,.bool ao,.int .i32 ap,.int .i64 aq],.int .i64 a1] ?_;(with_reducible refine (exerguelaw17_of.calls _ _ aw _ _ ax _ _ ay _ _ az aA aB au ar aC aD am an ai ah ao ap aq a1 false _ (cb aN HB) aO.out (cb aP HB) aQ.out (cb aR HB) aS.out (cb aT HB) aU.out A9.out).mono ?_);rintro e w33 ⟨rfl,hb⟩;refine ⟨_,rfl,?_⟩;replace aa:=kb aa hb;replace ac:=kb ac hb;replace HB:=bs HB hb;(try clear hb)))
   go_meet
   case rel=>exact ⟨_,(true),(by first|rfl|(simp;done)|(simp [*];done)),H',⟨by first|omega|exact Nat.le_refl _⟩,⟨ko aa⟩,⟨ko ac⟩,⟨bl HB⟩⟩
  subst c10
  rw [if_pos rfl] at H
  obtain ⟨bU,A11,H⟩:=bX H
  try dsimp only at H
  by_cases c12:bU=true
  rotate_left
  ·replace c12:=Bool.eq_false_iff.mpr c12
   subst c12
   rw [if_neg (show ¬ (false=true) by decide)] at H
   have H':=Sd.mk H
   clear H
   have gT:=af.out
   have gU:=ag.out
   have dE:=blkc17 aa.out
   have dF:=blkf17 aa.out
   go_wp2_with (first|(refine pat_load rfl rfl rfl aj rfl _ _ (pbk aa) ?_)|(refine pat_load_w (wanted_on rfl rfl rfl rfl) rfl rfl aj rfl _ _ (pbk aa) ?_)|((with_reducible refine gate_callee (f:=12) rfl ?_);refine gL (some 15) Tryz.func12 #[.agg #[.slice aZ aw.length ba,.slice bb ax.length bc,.slice bd ay.length be,.slice bf az.length bh,.bool aA,.int .i64 aB,.int .i64 au,.int .i64 ar,.int .i64 aC,.int .i64 aD,.int .i64 am,.int .i64 an,.int .i64 ai,.int .i64 ah,.bool ao,.int .i32 ap,.int .i64 aq],.int .i64 a1] ?_;(with_reducible refine (exerguelaw17_of.calls _ _ aw _ _ ax _ _ ay _ _ az aA aB au ar aC aD am an ai ah ao ap aq a1 true _ (cb aN HB) aO.out (cb aP HB) aQ.out (cb aR HB) aS.out (cb aT HB) aU.out A9.out).mono ?_);rintro e w28 ⟨rfl,hb⟩;refine ⟨_,rfl,?_⟩;replace aa:=kb aa hb;replace ac:=kb ac hb;replace HB:=bs HB hb;(try clear hb);have dG:=blkc3 ac.out;have dH:=blkf3 ac.out)|(go_at_call 14;(with_reducible refine (exergueref06_Near.calls k aF _ _ aE aG false _ (cb aV HB) aW.out A11.out).mono ?_);rintro e w30 ⟨rfl,hb⟩;replace aa:=kb aa hb;replace ac:=kb ac hb;replace HB:=bs HB hb;(try clear hb);(try clear hb2);(try clear hk);(try clear hi)))
   go_meet
   case rel=>exact ⟨_,(true),(by first|rfl|(simp;done)|(simp [*];done)),H',⟨by first|omega|exact Nat.le_refl _⟩,⟨ko aa⟩,⟨ko ac⟩,⟨bl HB⟩⟩
  subst c12
  rw [if_pos rfl] at H
  by_cases c13:ah>0
  ·rw [if_pos c13] at H
   have bS:decide (0<ah)=true:=decide_eq_true c13
   clear c13
   (first|rw [bS]|(simp only [i64_w,i32_w];rw [bS])|rw [dI]|skip)
   have H':=Sd.mk H
   clear H
   have gV:=af.out
   have gW:=ag.out
   have dJ:=blkc17 aa.out
   have dK:=blkf17 aa.out
   go_wp2_with (first|(refine pat_load rfl rfl rfl aj rfl _ _ (pbk aa) ?_)|(refine pat_load_w (wanted_on rfl rfl rfl rfl) rfl rfl aj rfl _ _ (pbk aa) ?_)|((with_reducible refine gate_callee (f:=12) rfl ?_);refine gL (some 15) Tryz.func12 #[.agg #[.slice aZ aw.length ba,.slice bb ax.length bc,.slice bd ay.length be,.slice bf az.length bh,.bool aA,.int .i64 aB,.int .i64 au,.int .i64 ar,.int .i64 aC,.int .i64 aD,.int .i64 am,.int .i64 an,.int .i64 ai,.int .i64 ah,.bool ao,.int .i32 ap,.int .i64 aq],.int .i64 a1] ?_;(with_reducible refine (exerguelaw17_of.calls _ _ aw _ _ ax _ _ ay _ _ az aA aB au ar aC aD am an ai ah ao ap aq a1 true _ (cb aN HB) aO.out (cb aP HB) aQ.out (cb aR HB) aS.out (cb aT HB) aU.out A9.out).mono ?_);rintro e w16 ⟨rfl,hb⟩;refine ⟨_,rfl,?_⟩;replace aa:=kb aa hb;replace ac:=kb ac hb;replace HB:=bs HB hb;(try clear hb);have dL:=blkc3 ac.out;have dM:=blkf3 ac.out)|(go_at_call 14;(with_reducible refine (exergueref06_Near.calls k aF _ _ aE aG true _ (cb aV HB) aW.out A11.out).mono ?_);rintro e w18 ⟨rfl,hb⟩;replace aa:=kb aa hb;replace ac:=kb ac hb;replace HB:=bs HB hb;(try clear hb);(try clear hb2);(try clear hk);(try clear hi);have dN:=blkc17 aa.out;have dO:=blkf17 aa.out))
   go_meet
   case rel=>exact ⟨_,(true),(by first|rfl|(simp;done)|(simp [*];done)),H',⟨by first|omega|exact Nat.le_refl _⟩,⟨ko aa⟩,⟨ko ac⟩,⟨bl HB⟩⟩
  rw [if_neg c13] at H
  have bS:decide (0<ah)=false:=decide_eq_false c13
  clear c13
  (first|rw [bS]|(simp only [i64_w,i32_w];rw [bS])|rw [dI]|skip)
  have H':=Sd.mk H
  clear H
  have gX:=af.out
  have gY:=ag.out
  have dP:=blkc17 aa.out
  have dQ:=blkf17 aa.out
  go_wp2_with (first|(refine pat_load rfl rfl rfl aj rfl _ _ (pbk aa) ?_)|(refine pat_load_w (wanted_on rfl rfl rfl rfl) rfl rfl aj rfl _ _ (pbk aa) ?_)|((with_reducible refine gate_callee (f:=12) rfl ?_);refine gL (some 15) Tryz.func12 #[.agg #[.slice aZ aw.length ba,.slice bb ax.length bc,.slice bd ay.length be,.slice bf az.length bh,.bool aA,.int .i64 aB,.int .i64 au,.int .i64 ar,.int .i64 aC,.int .i64 aD,.int .i64 am,.int .i64 an,.int .i64 ai,.int .i64 ah,.bool ao,.int .i32 ap,.int .i64 aq],.int .i64 a1] ?_;(with_reducible refine (exerguelaw17_of.calls _ _ aw _ _ ax _ _ ay _ _ az aA aB au ar aC aD am an ai ah ao ap aq a1 true _ (cb aN HB) aO.out (cb aP HB) aQ.out (cb aR HB) aS.out (cb aT HB) aU.out A9.out).mono ?_);rintro e w22 ⟨rfl,hb⟩;refine ⟨_,rfl,?_⟩;replace aa:=kb aa hb;replace ac:=kb ac hb;replace HB:=bs HB hb;(try clear hb);have dR:=blkc3 ac.out;have dS:=blkf3 ac.out)|(go_at_call 14;(with_reducible refine (exergueref06_Near.calls k aF _ _ aE aG true _ (cb aV HB) aW.out A11.out).mono ?_);rintro e w24 ⟨rfl,hb⟩;replace aa:=kb aa hb;replace ac:=kb ac hb;replace HB:=bs HB hb;(try clear hb);(try clear hb2);(try clear hk);(try clear hi);have dT:=blkc17 aa.out;have dU:=blkf17 aa.out))
  go_meet
  case rel=>exact ⟨_,(decide (ai>0)),(by first|rfl|(simp;done)|(simp [*];done)),H',⟨by first|omega|exact Nat.le_refl _⟩,⟨ko aa⟩,⟨ko ac⟩,⟨bl HB⟩⟩
 case rest=>
  clear HC5
  try clear c1
  try clear c2
  try clear p2
  try clear c3
  try clear c9
  try clear c10
  try clear c11
  try clear c12
  try clear c13
  try clear bS
  try clear c14
  try clear c20
  try clear c26
  try clear c31
  try clear dJ
  try clear dL
  try clear dN
  try clear dP
  try clear dR
  try clear dT
  try clear dE
  try clear dG
  try clear dC
  try clear dK
  try clear dM
  try clear dO
  try clear dQ
  try clear dS
  try clear dU
  try clear dF
  try clear dH
  try clear dD
  obtain ⟨kq,b1,rfl,HA,HJ4,aa,ac,HB⟩:=hcut
  cases kq with
  | zero=>exact absurd HA.out (by simp [exerguelaw17_ShapeShort.j0])
  | succ kj4=>
   have H:=HA.out
   clear HA
   simp only [exerguelaw17_ShapeShort.j0] at H
   by_cases c34:b1=true
   ·subst c34
    rw [if_pos rfl] at H
    obtain rfl:=Option.some.inj H
    go_wp2
    go_ret
    exact ⟨by first|rfl|(simp <;> rfl)|(simp [*] <;> rfl),bl HB⟩
   replace c34:=Bool.eq_false_iff.mpr c34
   subst c34
   rw [if_neg (show ¬ (false=true) by decide)] at H
   obtain ⟨⟨ab,ad,aX⟩,A35,H⟩:=bX H
   try dsimp only at H
   by_cases c36:a1≥0
   ·rw [if_pos c36] at H
    have dV:decide (0≤a1)=true:=decide_eq_true c36
    clear c36
    by_cases c37:bn=true
    rotate_left
    ·replace c37:=Bool.eq_false_iff.mpr c37
     subst c37
     rw [if_neg (show ¬ (false=true) by decide)] at H
     exact absurd H (by simp)
    subst c37
    rw [if_pos rfl] at H
    by_cases c38:(ad.length:Int)=0
    ·rw [if_pos c38] at H
     have dW:((ad.length:Int) == 0)=true:=beq_iff_eq.mpr c38
     have dX:((ad.length:Int) != 0)=false:=bne_eq_false_iff_eq.mpr c38
     clear c38
     by_cases c39:(ab.length:Int)=0
     ·rw [if_pos c39] at H
      have dY:((ab.length:Int) == 0)=true:=beq_iff_eq.mpr c39
      have dZ:((ab.length:Int) != 0)=false:=bne_eq_false_iff_eq.mpr c39
      clear c39
      by_cases c40:(ad.length:Int)≥a1
      ·rw [if_pos c40] at H
       have gZ:decide (a1≤(ad.length:Int))=true:=decide_eq_true c40
       clear c40
       obtain rfl:=Option.some.inj H
       have g0:=af.out
       have g1:=ag.out
       have g2:=blkc17 aa.out
       have g3:=blkf17 aa.out
       have g4:=blkc3 ac.out
       have g5:=blkf3 ac.out
       go_wp2_with (first|(refine pat_load rfl rfl rfl aj rfl _ _ (pbk aa) ?_)|(refine pat_load_w (wanted_on rfl rfl rfl rfl) rfl rfl aj rfl _ _ (pbk aa) ?_)|((with_reducible refine gate_callee (f:=17) rfl ?_);refine gL (some 37) Tryz.func17 #[.agg #[.slice aZ aw.length ba,.slice bb ax.length bc,.slice bd ay.length be,.slice bf az.length bh,.bool aA,.int .i64 aB,.int .i64 au,.int .i64 ar,.int .i64 aC,.int .i64 aD,.int .i64 am,.int .i64 an,.int .i64 ai,.int .i64 ah,.bool ao,.int .i32 ap,.int .i64 aq],.int .i64 a1,.agg #[.bool aF,.slice bk aE.length bm,.int .i64 aG]] ?_;(with_reducible refine (shape_Figures.calls _ _ aw _ _ ax _ _ ay _ _ az aA aB au ar aC aD am an ai ah ao ap aq a1 aF _ _ aE aG ab ad aX _ (cb aN HB) aO.out (cb aP HB) aQ.out (cb aR HB) aS.out (cb aT HB) aU.out (cb aV HB) aW.out A35.out).mono ?_);rintro e w44 ⟨bi,bj,rfl,ho0,ho1,hb⟩;refine ⟨_,rfl,?_⟩;have ak:=Sd.mk (Kd.R_lower ho0 (bz HB));have al:=Sd.mk (Kd.R_lower ho1 (bz HB));replace aa:=kb aa hb;replace ac:=kb ac hb;replace HB:=bs HB hb;(try clear hb);(try clear ho0);(try clear ho1);have g6:=blkc17 aa.out;have g7:=blkf17 aa.out;obtain ⟨i1,i2,ew⟩:=Kd.R_slice al.out;subst ew;obtain ⟨i3,i4,ex⟩:=Kd.R_slice ak.out;subst ex))
       go_ret
       exact ⟨by first|rfl|(simp <;> rfl)|(simp [*] <;> rfl),bl HB⟩
      rw [if_neg c40] at H
      exact absurd H (by simp)
     rw [if_neg c39] at H
     have dY:((ab.length:Int) == 0)=false:=beq_eq_false_iff_ne.mpr c39
     have dZ:((ab.length:Int) != 0)=true:=bne_iff_ne.mpr c39
     have g8:¬ (ab=[]):=fun h_=>c39 (by rw [h_];rfl)
     by_cases c48:0<(ab.length:Int)
     rotate_left
     ·rw [if_neg c48] at H
      exact absurd H (by simp)
     rw [if_pos c48] at H
     have g9:=decide_eq_true c48
     have ha:decide (0<ab.length)=true:=decide_eq_true (by omega)
     clear c48
     by_cases c49:(rd ab 0)>0
     ·rw [if_pos c49] at H
      have d0:decide (0<(rd ab 0))=true:=decide_eq_true c49
      clear c49
      by_cases c50:(ad.length:Int)≥a1
      ·rw [if_pos c50] at H
       have hc:decide (a1≤(ad.length:Int))=true:=decide_eq_true c50
       clear c50
       obtain rfl:=Option.some.inj H
       have hf:=af.out
       have hh:=ag.out
       have hj:=blkc17 aa.out
       have hl:=blkf17 aa.out
       have hm:=blkc3 ac.out
       have hn:=blkf3 ac.out
       go_wp2_with (first|(refine pat_load rfl rfl rfl aj rfl _ _ (pbk aa) ?_)|(refine pat_load_w (wanted_on rfl rfl rfl rfl) rfl rfl aj rfl _ _ (pbk aa) ?_)|((with_reducible refine gate_callee (f:=17) rfl ?_);refine gL (some 37) Tryz.func17 #[.agg #[.slice aZ aw.length ba,.slice bb ax.length bc,.slice bd ay.length be,.slice bf az.length bh,.bool aA,.int .i64 aB,.int .i64 au,.int .i64 ar,.int .i64 aC,.int .i64 aD,.int .i64 am,.int .i64 an,.int .i64 ai,.int .i64 ah,.bool ao,.int .i32 ap,.int .i64 aq],.int .i64 a1,.agg #[.bool aF,.slice bk aE.length bm,.int .i64 aG]] ?_;(with_reducible refine (shape_Figures.calls _ _ aw _ _ ax _ _ ay _ _ az aA aB au ar aC aD am an ai ah ao ap aq a1 aF _ _ aE aG ab ad aX _ (cb aN HB) aO.out (cb aP HB) aQ.out (cb aR HB) aS.out (cb aT HB) aU.out (cb aV HB) aW.out A35.out).mono ?_);rintro e w54 ⟨bi,bj,rfl,ho0,ho1,hb⟩;refine ⟨_,rfl,?_⟩;have ak:=Sd.mk (Kd.R_lower ho0 (bz HB));have al:=Sd.mk (Kd.R_lower ho1 (bz HB));replace aa:=kb aa hb;replace ac:=kb ac hb;replace HB:=bs HB hb;(try clear hb);(try clear ho0);(try clear ho1);have ho:=blkc17 aa.out;have hp:=blkf17 aa.out;obtain ⟨i5,i6,ey⟩:=Kd.R_slice al.out;subst ey;obtain ⟨i7,i8,ez⟩:=Kd.R_slice ak.out;subst ez;have bE:0≤(0:Int):=(by omega);have bF:0<(ab.length:Int):=of_decide_eq_true (by first|(with_reducible assumption)|assumption);obtain ⟨df,cq,bp⟩:=Kd.at_int (Kd.R_reads' ak.out).2.2 0 bE bF;cases cq;have qi1093:(0<ab.length)=True:=eq_true (by omega);(try rw [show ((0:Int)).toNat=0 from rfl] at bp);(try rw [Addr.add_zero'] at bp);replace bE:=eq_true bE;replace bF:=eq_true bF))
       go_ret
       exact ⟨by first|rfl|(simp <;> rfl)|(simp [*] <;> rfl),bl HB⟩
      rw [if_neg c50] at H
      exact absurd H (by simp)
     rw [if_neg c49] at H
     have d0:decide (0<(rd ab 0))=false:=decide_eq_false c49
     clear c49
     by_cases c58:(ab.length:Int)≤au
     rotate_left
     ·rw [if_neg c58] at H
      exact absurd H (by simp)
     rw [if_pos c58] at H
     have hq:=decide_eq_true c58
     clear c58
     by_cases c59:(ad.length:Int)≥a1
     ·rw [if_pos c59] at H
      have hs:decide (a1≤(ad.length:Int))=true:=decide_eq_true c59
      clear c59
      obtain rfl:=Option.some.inj H
      have ht:=af.out
      have hu:=ag.out
      have hv:=blkc17 aa.out
      have hw:=blkf17 aa.out
      have hx:=blkc3 ac.out
      have hy:=blkf3 ac.out
      go_wp2_with (first|(refine pat_load rfl rfl rfl aj rfl _ _ (pbk aa) ?_)|(refine pat_load_w (wanted_on rfl rfl rfl rfl) rfl rfl aj rfl _ _ (pbk aa) ?_)|((with_reducible refine gate_callee (f:=17) rfl ?_);refine gL (some 37) Tryz.func17 #[.agg #[.slice aZ aw.length ba,.slice bb ax.length bc,.slice bd ay.length be,.slice bf az.length bh,.bool aA,.int .i64 aB,.int .i64 au,.int .i64 ar,.int .i64 aC,.int .i64 aD,.int .i64 am,.int .i64 an,.int .i64 ai,.int .i64 ah,.bool ao,.int .i32 ap,.int .i64 aq],.int .i64 a1,.agg #[.bool aF,.slice bk aE.length bm,.int .i64 aG]] ?_;(with_reducible refine (shape_Figures.calls _ _ aw _ _ ax _ _ ay _ _ az aA aB au ar aC aD am an ai ah ao ap aq a1 aF _ _ aE aG ab ad aX _ (cb aN HB) aO.out (cb aP HB) aQ.out (cb aR HB) aS.out (cb aT HB) aU.out (cb aV HB) aW.out A35.out).mono ?_);rintro e w63 ⟨bi,bj,rfl,ho0,ho1,hb⟩;refine ⟨_,rfl,?_⟩;have ak:=Sd.mk (Kd.R_lower ho0 (bz HB));have al:=Sd.mk (Kd.R_lower ho1 (bz HB));replace aa:=kb aa hb;replace ac:=kb ac hb;replace HB:=bs HB hb;(try clear hb);(try clear ho0);(try clear ho1);have hz:=blkc17 aa.out;have hA:=blkf17 aa.out;obtain ⟨i9,ja,eA⟩:=Kd.R_slice al.out;subst eA;obtain ⟨jb,jc,eB⟩:=Kd.R_slice ak.out;subst eB;have bE:0≤(0:Int):=(by omega);have bF:0<(ab.length:Int):=of_decide_eq_true (by first|(with_reducible assumption)|assumption);obtain ⟨df,cq,bp⟩:=Kd.at_int (Kd.R_reads' ak.out).2.2 0 bE bF;cases cq;have qi1093:(0<ab.length)=True:=eq_true (by omega);(try rw [show ((0:Int)).toNat=0 from rfl] at bp);(try rw [Addr.add_zero'] at bp);replace bE:=eq_true bE;replace bF:=eq_true bF))
      go_ret
      exact ⟨by first|rfl|(simp <;> rfl)|(simp [*] <;> rfl),bl HB⟩
     rw [if_neg c59] at H
     exact absurd H (by simp)
    rw [if_neg c38] at H
    have dW:((ad.length:Int) == 0)=false:=beq_eq_false_iff_ne.mpr c38
    have dX:((ad.length:Int) != 0)=true:=bne_iff_ne.mpr c38
    have hB:¬ (ad=[]):=fun h_=>c38 (by rw [h_];rfl)
    obtain ⟨aY,bD⟩:∃ j_:Int,(wrap64 ((ad.length:Int) - 1))=j_:=⟨_,rfl⟩
    replace H:(if 0≤(aY) then (if (aY)<(ad.length:Int) then (if (rd ad (aY))>0 then (if (ab.length:Int)=0 then (if (ad.length:Int)≥a1 then (some (decide ((ab.length:Int)≥au))) else (none)) else (if 0<(ab.length:Int) then (if (rd ab 0)>0 then (if (ad.length:Int)≥a1 then (some (decide ((ab.length:Int)≥au))) else (none)) else (if (ab.length:Int)≤au then (if (ad.length:Int)≥a1 then (some (decide ((ab.length:Int)≥au))) else (none)) else (none))) else (none))) else (if (ad.length:Int)≤a1 then (if (ab.length:Int)=0 then (if (ad.length:Int)≥a1 then (some (decide ((ab.length:Int)≥au))) else (none)) else (if 0<(ab.length:Int) then (if (rd ab 0)>0 then (if (ad.length:Int)≥a1 then (some (decide ((ab.length:Int)≥au))) else (none)) else (if (ab.length:Int)≤au then (if (ad.length:Int)≥a1 then (some (decide ((ab.length:Int)≥au))) else (none)) else (none))) else (none))) else (none))) else (none)) else (none))=some r:=by first|(rw [bD] at H;exact H)|(simp only [bD] at H ⊢;exact H)
    (try rw [bD] at A35)
    have eC:(IntKind.i64.wrap ((ad.length:Int) - 1))=aY:=(i64_w _).trans bD
    by_cases c68:0≤(aY)
    rotate_left
    ·rw [if_neg c68] at H
     exact absurd H (by simp)
    rw [if_pos c68] at H
    have hC:=decide_eq_true c68
    clear c68
    by_cases c69:(aY)<(ad.length:Int)
    rotate_left
    ·rw [if_neg c69] at H
     exact absurd H (by simp)
    rw [if_pos c69] at H
    have hD:=decide_eq_true c69
    clear c69
    by_cases c70:(rd ad (aY))>0
    ·rw [if_pos c70] at H
     have d1:decide (0<(rd ad (aY)))=true:=decide_eq_true c70
     clear c70
     by_cases c71:(ab.length:Int)=0
     ·rw [if_pos c71] at H
      have d2:((ab.length:Int) == 0)=true:=beq_iff_eq.mpr c71
      have d3:((ab.length:Int) != 0)=false:=bne_eq_false_iff_eq.mpr c71
      clear c71
      by_cases c72:(ad.length:Int)≥a1
      ·rw [if_pos c72] at H
       have hE:decide (a1≤(ad.length:Int))=true:=decide_eq_true c72
       clear c72
       obtain rfl:=Option.some.inj H
       have hF:=af.out
       have hH:=ag.out
       have hI:=blkc17 aa.out
       have hJ:=blkf17 aa.out
       have hK:=blkc3 ac.out
       have hL:=blkf3 ac.out
       go_wp2_with (first|(refine pat_load rfl rfl rfl aj rfl _ _ (pbk aa) ?_)|(refine pat_load_w (wanted_on rfl rfl rfl rfl) rfl rfl aj rfl _ _ (pbk aa) ?_)|((with_reducible refine gate_callee (f:=17) rfl ?_);refine gL (some 37) Tryz.func17 #[.agg #[.slice aZ aw.length ba,.slice bb ax.length bc,.slice bd ay.length be,.slice bf az.length bh,.bool aA,.int .i64 aB,.int .i64 au,.int .i64 ar,.int .i64 aC,.int .i64 aD,.int .i64 am,.int .i64 an,.int .i64 ai,.int .i64 ah,.bool ao,.int .i32 ap,.int .i64 aq],.int .i64 a1,.agg #[.bool aF,.slice bk aE.length bm,.int .i64 aG]] ?_;(with_reducible refine (shape_Figures.calls _ _ aw _ _ ax _ _ ay _ _ az aA aB au ar aC aD am an ai ah ao ap aq a1 aF _ _ aE aG ab ad aX _ (cb aN HB) aO.out (cb aP HB) aQ.out (cb aR HB) aS.out (cb aT HB) aU.out (cb aV HB) aW.out A35.out).mono ?_);rintro e w76 ⟨bi,bj,rfl,ho0,ho1,hb⟩;refine ⟨_,rfl,?_⟩;have ak:=Sd.mk (Kd.R_lower ho0 (bz HB));have al:=Sd.mk (Kd.R_lower ho1 (bz HB));replace aa:=kb aa hb;replace ac:=kb ac hb;replace HB:=bs HB hb;(try clear hb);(try clear ho0);(try clear ho1);have hM:=blkc17 aa.out;have hN:=blkf17 aa.out;obtain ⟨jd,je,eD⟩:=Kd.R_slice al.out;subst eD;have aJ:0≤((aY):Int):=of_decide_eq_true (by first|(with_reducible assumption)|assumption);have aK:(aY)<(ad.length:Int):=of_decide_eq_true (by first|(with_reducible assumption)|assumption);obtain ⟨bG,bq,br⟩:=Kd.at_int (Kd.R_reads' al.out).2.2 (aY) aJ aK;cases bq;replace aJ:=eq_true aJ;replace aK:=eq_true aK;obtain ⟨jf,jg,eE⟩:=Kd.R_slice ak.out;subst eE))
       go_ret
       exact ⟨by first|rfl|(simp <;> rfl)|(simp only [← bD];first|rfl|(simp <;> rfl))|(simp [*] <;> rfl),bl HB⟩
      rw [if_neg c72] at H
      exact absurd H (by simp)
     rw [if_neg c71] at H
     have d2:((ab.length:Int) == 0)=false:=beq_eq_false_iff_ne.mpr c71
     have d3:((ab.length:Int) != 0)=true:=bne_iff_ne.mpr c71
     have hO:¬ (ab=[]):=fun h_=>c71 (by rw [h_];rfl)
     by_cases c80:0<(ab.length:Int)
     rotate_left
     ·rw [if_neg c80] at H
      exact absurd H (by simp)
     rw [if_pos c80] at H
     have hP:=decide_eq_true c80
     have hQ:decide (0<ab.length)=true:=decide_eq_true (by omega)
     clear c80
     by_cases c81:(rd ab 0)>0
     ·rw [if_pos c81] at H
      have d4:decide (0<(rd ab 0))=true:=decide_eq_true c81
      clear c81
      by_cases c82:(ad.length:Int)≥a1
      ·rw [if_pos c82] at H
       have hR:decide (a1≤(ad.length:Int))=true:=decide_eq_true c82
       clear c82
       obtain rfl:=Option.some.inj H
       have hS:=af.out
       have hT:=ag.out
       have hU:=blkc17 aa.out
       have hV:=blkf17 aa.out
       have hW:=blkc3 ac.out
       have hX:=blkf3 ac.out
       go_wp2_with (first|(refine pat_load rfl rfl rfl aj rfl _ _ (pbk aa) ?_)|(refine pat_load_w (wanted_on rfl rfl rfl rfl) rfl rfl aj rfl _ _ (pbk aa) ?_)|((with_reducible refine gate_callee (f:=17) rfl ?_);refine gL (some 37) Tryz.func17 #[.agg #[.slice aZ aw.length ba,.slice bb ax.length bc,.slice bd ay.length be,.slice bf az.length bh,.bool aA,.int .i64 aB,.int .i64 au,.int .i64 ar,.int .i64 aC,.int .i64 aD,.int .i64 am,.int .i64 an,.int .i64 ai,.int .i64 ah,.bool ao,.int .i32 ap,.int .i64 aq],.int .i64 a1,.agg #[.bool aF,.slice bk aE.length bm,.int .i64 aG]] ?_;(with_reducible refine (shape_Figures.calls _ _ aw _ _ ax _ _ ay _ _ az aA aB au ar aC aD am an ai ah ao ap aq a1 aF _ _ aE aG ab ad aX _ (cb aN HB) aO.out (cb aP HB) aQ.out (cb aR HB) aS.out (cb aT HB) aU.out (cb aV HB) aW.out A35.out).mono ?_);rintro e w86 ⟨bi,bj,rfl,ho0,ho1,hb⟩;refine ⟨_,rfl,?_⟩;have ak:=Sd.mk (Kd.R_lower ho0 (bz HB));have al:=Sd.mk (Kd.R_lower ho1 (bz HB));replace aa:=kb aa hb;replace ac:=kb ac hb;replace HB:=bs HB hb;(try clear hb);(try clear ho0);(try clear ho1);have hY:=blkc17 aa.out;have hZ:=blkf17 aa.out;obtain ⟨jh,ji,eF⟩:=Kd.R_slice al.out;subst eF;have aJ:0≤((aY):Int):=of_decide_eq_true (by first|(with_reducible assumption)|assumption);have aK:(aY)<(ad.length:Int):=of_decide_eq_true (by first|(with_reducible assumption)|assumption);obtain ⟨bG,bq,br⟩:=Kd.at_int (Kd.R_reads' al.out).2.2 (aY) aJ aK;cases bq;replace aJ:=eq_true aJ;replace aK:=eq_true aK;obtain ⟨jj,jk,eG⟩:=Kd.R_slice ak.out;subst eG;have bH:0≤(0:Int):=(by omega);have bI:0<(ab.length:Int):=of_decide_eq_true (by first|(with_reducible assumption)|assumption);obtain ⟨dg,cr,bu⟩:=Kd.at_int (Kd.R_reads' ak.out).2.2 0 bH bI;cases cr;have qi1095:(0<ab.length)=True:=eq_true (by omega);(try rw [show ((0:Int)).toNat=0 from rfl] at bu);(try rw [Addr.add_zero'] at bu);replace bH:=eq_true bH;replace bI:=eq_true bI))
       go_ret
       exact ⟨by first|rfl|(simp <;> rfl)|(simp only [← bD];first|rfl|(simp <;> rfl))|(simp [*] <;> rfl),bl HB⟩
      rw [if_neg c82] at H
      exact absurd H (by simp)
     rw [if_neg c81] at H
     have d4:decide (0<(rd ab 0))=false:=decide_eq_false c81
     clear c81
     by_cases c90:(ab.length:Int)≤au
     rotate_left
     ·rw [if_neg c90] at H
      exact absurd H (by simp)
     rw [if_pos c90] at H
     have h0:=decide_eq_true c90
     clear c90
     by_cases c91:(ad.length:Int)≥a1
     ·rw [if_pos c91] at H
      have h2:decide (a1≤(ad.length:Int))=true:=decide_eq_true c91
      clear c91
      obtain rfl:=Option.some.inj H
      have h3:=af.out
      have h4:=ag.out
      have h5:=blkc17 aa.out
      have h6:=blkf17 aa.out
      have h7:=blkc3 ac.out
      have h8:=blkf3 ac.out
      go_wp2_with (first|(refine pat_load rfl rfl rfl aj rfl _ _ (pbk aa) ?_)|(refine pat_load_w (wanted_on rfl rfl rfl rfl) rfl rfl aj rfl _ _ (pbk aa) ?_)|((with_reducible refine gate_callee (f:=17) rfl ?_);refine gL (some 37) Tryz.func17 #[.agg #[.slice aZ aw.length ba,.slice bb ax.length bc,.slice bd ay.length be,.slice bf az.length bh,.bool aA,.int .i64 aB,.int .i64 au,.int .i64 ar,.int .i64 aC,.int .i64 aD,.int .i64 am,.int .i64 an,.int .i64 ai,.int .i64 ah,.bool ao,.int .i32 ap,.int .i64 aq],.int .i64 a1,.agg #[.bool aF,.slice bk aE.length bm,.int .i64 aG]] ?_;(with_reducible refine (shape_Figures.calls _ _ aw _ _ ax _ _ ay _ _ az aA aB au ar aC aD am an ai ah ao ap aq a1 aF _ _ aE aG ab ad aX _ (cb aN HB) aO.out (cb aP HB) aQ.out (cb aR HB) aS.out (cb aT HB) aU.out (cb aV HB) aW.out A35.out).mono ?_);rintro e w95 ⟨bi,bj,rfl,ho0,ho1,hb⟩;refine ⟨_,rfl,?_⟩;have ak:=Sd.mk (Kd.R_lower ho0 (bz HB));have al:=Sd.mk (Kd.R_lower ho1 (bz HB));replace aa:=kb aa hb;replace ac:=kb ac hb;replace HB:=bs HB hb;(try clear hb);(try clear ho0);(try clear ho1);have h9:=blkc17 aa.out;have ia:=blkf17 aa.out;obtain ⟨jl,jm,eH⟩:=Kd.R_slice al.out;subst eH;have aJ:0≤((aY):Int):=of_decide_eq_true (by first|(with_reducible assumption)|assumption);have aK:(aY)<(ad.length:Int):=of_decide_eq_true (by first|(with_reducible assumption)|assumption);obtain ⟨bG,bq,br⟩:=Kd.at_int (Kd.R_reads' al.out).2.2 (aY) aJ aK;cases bq;replace aJ:=eq_true aJ;replace aK:=eq_true aK;obtain ⟨jn,jo,eI⟩:=Kd.R_slice ak.out;subst eI;have bH:0≤(0:Int):=(by omega);have bI:0<(ab.length:Int):=of_decide_eq_true (by first|(with_reducible assumption)|assumption);obtain ⟨dg,cr,bu⟩:=Kd.at_int (Kd.R_reads' ak.out).2.2 0 bH bI;cases cr;have qi1095:(0<ab.length)=True:=eq_true (by omega);(try rw [show ((0:Int)).toNat=0 from rfl] at bu);(try rw [Addr.add_zero'] at bu);replace bH:=eq_true bH;replace bI:=eq_true bI))
      go_ret
      exact ⟨by first|rfl|(simp <;> rfl)|(simp only [← bD];first|rfl|(simp <;> rfl))|(simp [*] <;> rfl),bl HB⟩
     rw [if_neg c91] at H
     exact absurd H (by simp)
    rw [if_neg c70] at H
    have d1:decide (0<(rd ad (aY)))=false:=decide_eq_false c70
    clear c70
    by_cases c99:(ad.length:Int)≤a1
    rotate_left
    ·rw [if_neg c99] at H
     exact absurd H (by simp)
    rw [if_pos c99] at H
    have ib:=decide_eq_true c99
    clear c99
    by_cases bV:(ab.length:Int)=0
    ·rw [if_pos bV] at H
     have dh:((ab.length:Int) == 0)=true:=beq_iff_eq.mpr bV
     have di:((ab.length:Int) != 0)=false:=bne_eq_false_iff_eq.mpr bV
     clear bV
     by_cases cx:(ad.length:Int)≥a1
     ·rw [if_pos cx] at H
      have eJ:decide (a1≤(ad.length:Int))=true:=decide_eq_true cx
      clear cx
      obtain rfl:=Option.some.inj H
      have eK:=af.out
      have eL:=ag.out
      have eM:=blkc17 aa.out
      have eN:=blkf17 aa.out
      have eO:=blkc3 ac.out
      have eP:=blkf3 ac.out
      go_wp2_with (first|(refine pat_load rfl rfl rfl aj rfl _ _ (pbk aa) ?_)|(refine pat_load_w (wanted_on rfl rfl rfl rfl) rfl rfl aj rfl _ _ (pbk aa) ?_)|((with_reducible refine gate_callee (f:=17) rfl ?_);refine gL (some 37) Tryz.func17 #[.agg #[.slice aZ aw.length ba,.slice bb ax.length bc,.slice bd ay.length be,.slice bf az.length bh,.bool aA,.int .i64 aB,.int .i64 au,.int .i64 ar,.int .i64 aC,.int .i64 aD,.int .i64 am,.int .i64 an,.int .i64 ai,.int .i64 ah,.bool ao,.int .i32 ap,.int .i64 aq],.int .i64 a1,.agg #[.bool aF,.slice bk aE.length bm,.int .i64 aG]] ?_;(with_reducible refine (shape_Figures.calls _ _ aw _ _ ax _ _ ay _ _ az aA aB au ar aC aD am an ai ah ao ap aq a1 aF _ _ aE aG ab ad aX _ (cb aN HB) aO.out (cb aP HB) aQ.out (cb aR HB) aS.out (cb aT HB) aU.out (cb aV HB) aW.out A35.out).mono ?_);rintro e jp ⟨bi,bj,rfl,ho0,ho1,hb⟩;refine ⟨_,rfl,?_⟩;have ak:=Sd.mk (Kd.R_lower ho0 (bz HB));have al:=Sd.mk (Kd.R_lower ho1 (bz HB));replace aa:=kb aa hb;replace ac:=kb ac hb;replace HB:=bs HB hb;(try clear hb);(try clear ho0);(try clear ho1);have eQ:=blkc17 aa.out;have eR:=blkf17 aa.out;obtain ⟨ic,id,d5⟩:=Kd.R_slice al.out;subst d5;have aJ:0≤((aY):Int):=of_decide_eq_true (by first|(with_reducible assumption)|assumption);have aK:(aY)<(ad.length:Int):=of_decide_eq_true (by first|(with_reducible assumption)|assumption);obtain ⟨bG,bq,br⟩:=Kd.at_int (Kd.R_reads' al.out).2.2 (aY) aJ aK;cases bq;replace aJ:=eq_true aJ;replace aK:=eq_true aK;obtain ⟨ie,ig,d6⟩:=Kd.R_slice ak.out;subst d6))
      go_ret
      exact ⟨by first|rfl|(simp <;> rfl)|(simp only [← bD];first|rfl|(simp <;> rfl))|(simp [*] <;> rfl),bl HB⟩
     rw [if_neg cx] at H
     exact absurd H (by simp)
    rw [if_neg bV] at H
    have dh:((ab.length:Int) == 0)=false:=beq_eq_false_iff_ne.mpr bV
    have di:((ab.length:Int) != 0)=true:=bne_iff_ne.mpr bV
    have eS:¬ (ab=[]):=fun h_=>bV (by rw [h_];rfl)
    by_cases cy:0<(ab.length:Int)
    rotate_left
    ·rw [if_neg cy] at H
     exact absurd H (by simp)
    rw [if_pos cy] at H
    have eT:=decide_eq_true cy
    have eU:decide (0<ab.length)=true:=decide_eq_true (by omega)
    clear cy
    by_cases b2:(rd ab 0)>0
    ·rw [if_pos b2] at H
     have dj:decide (0<(rd ab 0))=true:=decide_eq_true b2
     clear b2
     by_cases cz:(ad.length:Int)≥a1
     ·rw [if_pos cz] at H
      have eV:decide (a1≤(ad.length:Int))=true:=decide_eq_true cz
      clear cz
      obtain rfl:=Option.some.inj H
      have eW:=af.out
      have eX:=ag.out
      have eY:=blkc17 aa.out
      have eZ:=blkf17 aa.out
      have e0:=blkc3 ac.out
      have e1:=blkf3 ac.out
      go_wp2_with (first|(refine pat_load rfl rfl rfl aj rfl _ _ (pbk aa) ?_)|(refine pat_load_w (wanted_on rfl rfl rfl rfl) rfl rfl aj rfl _ _ (pbk aa) ?_)|((with_reducible refine gate_callee (f:=17) rfl ?_);refine gL (some 37) Tryz.func17 #[.agg #[.slice aZ aw.length ba,.slice bb ax.length bc,.slice bd ay.length be,.slice bf az.length bh,.bool aA,.int .i64 aB,.int .i64 au,.int .i64 ar,.int .i64 aC,.int .i64 aD,.int .i64 am,.int .i64 an,.int .i64 ai,.int .i64 ah,.bool ao,.int .i32 ap,.int .i64 aq],.int .i64 a1,.agg #[.bool aF,.slice bk aE.length bm,.int .i64 aG]] ?_;(with_reducible refine (shape_Figures.calls _ _ aw _ _ ax _ _ ay _ _ az aA aB au ar aC aD am an ai ah ao ap aq a1 aF _ _ aE aG ab ad aX _ (cb aN HB) aO.out (cb aP HB) aQ.out (cb aR HB) aS.out (cb aT HB) aU.out (cb aV HB) aW.out A35.out).mono ?_);rintro e jq ⟨bi,bj,rfl,ho0,ho1,hb⟩;refine ⟨_,rfl,?_⟩;have ak:=Sd.mk (Kd.R_lower ho0 (bz HB));have al:=Sd.mk (Kd.R_lower ho1 (bz HB));replace aa:=kb aa hb;replace ac:=kb ac hb;replace HB:=bs HB hb;(try clear hb);(try clear ho0);(try clear ho1);have e2:=blkc17 aa.out;have e3:=blkf17 aa.out;obtain ⟨ih,ii,d7⟩:=Kd.R_slice al.out;subst d7;have aJ:0≤((aY):Int):=of_decide_eq_true (by first|(with_reducible assumption)|assumption);have aK:(aY)<(ad.length:Int):=of_decide_eq_true (by first|(with_reducible assumption)|assumption);obtain ⟨bG,bq,br⟩:=Kd.at_int (Kd.R_reads' al.out).2.2 (aY) aJ aK;cases bq;replace aJ:=eq_true aJ;replace aK:=eq_true aK;obtain ⟨ij,ik,d8⟩:=Kd.R_slice ak.out;subst d8;have bJ:0≤(0:Int):=(by omega);have bK:0<(ab.length:Int):=of_decide_eq_true (by first|(with_reducible assumption)|assumption);obtain ⟨dk,ct,bv⟩:=Kd.at_int (Kd.R_reads' ak.out).2.2 0 bJ bK;cases ct;have qi1096:(0<ab.length)=True:=eq_true (by omega);(try rw [show ((0:Int)).toNat=0 from rfl] at bv);(try rw [Addr.add_zero'] at bv);replace bJ:=eq_true bJ;replace bK:=eq_true bK))
      go_ret
      exact ⟨by first|rfl|(simp <;> rfl)|(simp only [← bD];first|rfl|(simp <;> rfl))|(simp [*] <;> rfl),bl HB⟩
     rw [if_neg cz] at H
     exact absurd H (by simp)
    rw [if_neg b2] at H
    have dj:decide (0<(rd ab 0))=false:=decide_eq_false b2
    clear b2
    by_cases cA:(ab.length:Int)≤au
    rotate_left
    ·rw [if_neg cA] at H
     exact absurd H (by simp)
    rw [if_pos cA] at H
    have e4:=decide_eq_true cA
    clear cA
    by_cases cB:(ad.length:Int)≥a1
    ·rw [if_pos cB] at H
     have e5:decide (a1≤(ad.length:Int))=true:=decide_eq_true cB
     clear cB
     obtain rfl:=Option.some.inj H
     have e6:=af.out
     have e7:=ag.out
     have e8:=blkc17 aa.out
     have e9:=blkf17 aa.out
     have fa:=blkc3 ac.out
     have fb:=blkf3 ac.out
     go_wp2_with (first|(refine pat_load rfl rfl rfl aj rfl _ _ (pbk aa) ?_)|(refine pat_load_w (wanted_on rfl rfl rfl rfl) rfl rfl aj rfl _ _ (pbk aa) ?_)|((with_reducible refine gate_callee (f:=17) rfl ?_);refine gL (some 37) Tryz.func17 #[.agg #[.slice aZ aw.length ba,.slice bb ax.length bc,.slice bd ay.length be,.slice bf az.length bh,.bool aA,.int .i64 aB,.int .i64 au,.int .i64 ar,.int .i64 aC,.int .i64 aD,.int .i64 am,.int .i64 an,.int .i64 ai,.int .i64 ah,.bool ao,.int .i32 ap,.int .i64 aq],.int .i64 a1,.agg #[.bool aF,.slice bk aE.length bm,.int .i64 aG]] ?_;(with_reducible refine (shape_Figures.calls _ _ aw _ _ ax _ _ ay _ _ az aA aB au ar aC aD am an ai ah ao ap aq a1 aF _ _ aE aG ab ad aX _ (cb aN HB) aO.out (cb aP HB) aQ.out (cb aR HB) aS.out (cb aT HB) aU.out (cb aV HB) aW.out A35.out).mono ?_);rintro e jr ⟨bi,bj,rfl,ho0,ho1,hb⟩;refine ⟨_,rfl,?_⟩;have ak:=Sd.mk (Kd.R_lower ho0 (bz HB));have al:=Sd.mk (Kd.R_lower ho1 (bz HB));replace aa:=kb aa hb;replace ac:=kb ac hb;replace HB:=bs HB hb;(try clear hb);(try clear ho0);(try clear ho1);have fc:=blkc17 aa.out;have fd:=blkf17 aa.out;obtain ⟨il,im,d9⟩:=Kd.R_slice al.out;subst d9;have aJ:0≤((aY):Int):=of_decide_eq_true (by first|(with_reducible assumption)|assumption);have aK:(aY)<(ad.length:Int):=of_decide_eq_true (by first|(with_reducible assumption)|assumption);obtain ⟨bG,bq,br⟩:=Kd.at_int (Kd.R_reads' al.out).2.2 (aY) aJ aK;cases bq;replace aJ:=eq_true aJ;replace aK:=eq_true aK;obtain ⟨io,ip,ea⟩:=Kd.R_slice ak.out;subst ea;have bJ:0≤(0:Int):=(by omega);have bK:0<(ab.length:Int):=of_decide_eq_true (by first|(with_reducible assumption)|assumption);obtain ⟨dk,ct,bv⟩:=Kd.at_int (Kd.R_reads' ak.out).2.2 0 bJ bK;cases ct;have qi1096:(0<ab.length)=True:=eq_true (by omega);(try rw [show ((0:Int)).toNat=0 from rfl] at bv);(try rw [Addr.add_zero'] at bv);replace bJ:=eq_true bJ;replace bK:=eq_true bK))
     go_ret
     exact ⟨by first|rfl|(simp <;> rfl)|(simp only [← bD];first|rfl|(simp <;> rfl))|(simp [*] <;> rfl),bl HB⟩
    rw [if_neg cB] at H
    exact absurd H (by simp)
   rw [if_neg c36] at H
   have dV:decide (0≤a1)=false:=decide_eq_false c36
   clear c36
   by_cases cC:bn=true
   rotate_left
   ·replace cC:=Bool.eq_false_iff.mpr cC
    subst cC
    rw [if_neg (show ¬ (false=true) by decide)] at H
    exact absurd H (by simp)
   subst cC
   rw [if_pos rfl] at H
   by_cases bW:(ad.length:Int)=0
   ·rw [if_pos bW] at H
    have dl:((ad.length:Int) == 0)=true:=beq_iff_eq.mpr bW
    have dm:((ad.length:Int) != 0)=false:=bne_eq_false_iff_eq.mpr bW
    clear bW
    by_cases bY:(ab.length:Int)=0
    ·rw [if_pos bY] at H
     have dn:((ab.length:Int) == 0)=true:=beq_iff_eq.mpr bY
     have dp:((ab.length:Int) != 0)=false:=bne_eq_false_iff_eq.mpr bY
     clear bY
     by_cases cD:(ad.length:Int)≥ar
     ·rw [if_pos cD] at H
      have fe:decide (ar≤(ad.length:Int))=true:=decide_eq_true cD
      clear cD
      obtain rfl:=Option.some.inj H
      have ff:=af.out
      have fg:=ag.out
      have fh:=blkc17 aa.out
      have fi:=blkf17 aa.out
      have fj:=blkc3 ac.out
      have fk:=blkf3 ac.out
      go_wp2_with (first|(refine pat_load rfl rfl rfl aj rfl _ _ (pbk aa) ?_)|(refine pat_load_w (wanted_on rfl rfl rfl rfl) rfl rfl aj rfl _ _ (pbk aa) ?_)|((with_reducible refine gate_callee (f:=17) rfl ?_);refine gL (some 37) Tryz.func17 #[.agg #[.slice aZ aw.length ba,.slice bb ax.length bc,.slice bd ay.length be,.slice bf az.length bh,.bool aA,.int .i64 aB,.int .i64 au,.int .i64 ar,.int .i64 aC,.int .i64 aD,.int .i64 am,.int .i64 an,.int .i64 ai,.int .i64 ah,.bool ao,.int .i32 ap,.int .i64 aq],.int .i64 a1,.agg #[.bool aF,.slice bk aE.length bm,.int .i64 aG]] ?_;(with_reducible refine (shape_Figures.calls _ _ aw _ _ ax _ _ ay _ _ az aA aB au ar aC aD am an ai ah ao ap aq a1 aF _ _ aE aG ab ad aX _ (cb aN HB) aO.out (cb aP HB) aQ.out (cb aR HB) aS.out (cb aT HB) aU.out (cb aV HB) aW.out A35.out).mono ?_);rintro e js ⟨bi,bj,rfl,ho0,ho1,hb⟩;refine ⟨_,rfl,?_⟩;have ak:=Sd.mk (Kd.R_lower ho0 (bz HB));have al:=Sd.mk (Kd.R_lower ho1 (bz HB));replace aa:=kb aa hb;replace ac:=kb ac hb;replace HB:=bs HB hb;(try clear hb);(try clear ho0);(try clear ho1);have fl:=blkc17 aa.out;have fm:=blkf17 aa.out;obtain ⟨iq,ir,eb⟩:=Kd.R_slice al.out;subst eb;obtain ⟨it,iu,ec⟩:=Kd.R_slice ak.out;subst ec))
      go_ret
      exact ⟨by first|rfl|(simp <;> rfl)|(simp [*] <;> rfl),bl HB⟩
     rw [if_neg cD] at H
     exact absurd H (by simp)
    rw [if_neg bY] at H
    have dn:((ab.length:Int) == 0)=false:=beq_eq_false_iff_ne.mpr bY
    have dp:((ab.length:Int) != 0)=true:=bne_iff_ne.mpr bY
    have fn:¬ (ab=[]):=fun h_=>bY (by rw [h_];rfl)
    by_cases cE:0<(ab.length:Int)
    rotate_left
    ·rw [if_neg cE] at H
     exact absurd H (by simp)
    rw [if_pos cE] at H
    have fo:=decide_eq_true cE
    have fp:decide (0<ab.length)=true:=decide_eq_true (by omega)
    clear cE
    by_cases b3:(rd ab 0)>0
    ·rw [if_pos b3] at H
     have dq:decide (0<(rd ab 0))=true:=decide_eq_true b3
     clear b3
     by_cases cF:(ad.length:Int)≥ar
     ·rw [if_pos cF] at H
      have fq:decide (ar≤(ad.length:Int))=true:=decide_eq_true cF
      clear cF
      obtain rfl:=Option.some.inj H
      have fs:=af.out
      have ft:=ag.out
      have fu:=blkc17 aa.out
      have fv:=blkf17 aa.out
      have fw:=blkc3 ac.out
      have fx:=blkf3 ac.out
      go_wp2_with (first|(refine pat_load rfl rfl rfl aj rfl _ _ (pbk aa) ?_)|(refine pat_load_w (wanted_on rfl rfl rfl rfl) rfl rfl aj rfl _ _ (pbk aa) ?_)|((with_reducible refine gate_callee (f:=17) rfl ?_);refine gL (some 37) Tryz.func17 #[.agg #[.slice aZ aw.length ba,.slice bb ax.length bc,.slice bd ay.length be,.slice bf az.length bh,.bool aA,.int .i64 aB,.int .i64 au,.int .i64 ar,.int .i64 aC,.int .i64 aD,.int .i64 am,.int .i64 an,.int .i64 ai,.int .i64 ah,.bool ao,.int .i32 ap,.int .i64 aq],.int .i64 a1,.agg #[.bool aF,.slice bk aE.length bm,.int .i64 aG]] ?_;(with_reducible refine (shape_Figures.calls _ _ aw _ _ ax _ _ ay _ _ az aA aB au ar aC aD am an ai ah ao ap aq a1 aF _ _ aE aG ab ad aX _ (cb aN HB) aO.out (cb aP HB) aQ.out (cb aR HB) aS.out (cb aT HB) aU.out (cb aV HB) aW.out A35.out).mono ?_);rintro e jt ⟨bi,bj,rfl,ho0,ho1,hb⟩;refine ⟨_,rfl,?_⟩;have ak:=Sd.mk (Kd.R_lower ho0 (bz HB));have al:=Sd.mk (Kd.R_lower ho1 (bz HB));replace aa:=kb aa hb;replace ac:=kb ac hb;replace HB:=bs HB hb;(try clear hb);(try clear ho0);(try clear ho1);have fy:=blkc17 aa.out;have fz:=blkf17 aa.out;obtain ⟨iv,iw,ed⟩:=Kd.R_slice al.out;subst ed;obtain ⟨ix,iy,ee⟩:=Kd.R_slice ak.out;subst ee;have bL:0≤(0:Int):=(by omega);have bM:0<(ab.length:Int):=of_decide_eq_true (by first|(with_reducible assumption)|assumption);obtain ⟨dr,cu,bw⟩:=Kd.at_int (Kd.R_reads' ak.out).2.2 0 bL bM;cases cu;have qi1097:(0<ab.length)=True:=eq_true (by omega);(try rw [show ((0:Int)).toNat=0 from rfl] at bw);(try rw [Addr.add_zero'] at bw);replace bL:=eq_true bL;replace bM:=eq_true bM))
      go_ret
      exact ⟨by first|rfl|(simp <;> rfl)|(simp [*] <;> rfl),bl HB⟩
     rw [if_neg cF] at H
     exact absurd H (by simp)
    rw [if_neg b3] at H
    have dq:decide (0<(rd ab 0))=false:=decide_eq_false b3
    clear b3
    by_cases cG:(ab.length:Int)≤au
    rotate_left
    ·rw [if_neg cG] at H
     exact absurd H (by simp)
    rw [if_pos cG] at H
    have fA:=decide_eq_true cG
    clear cG
    by_cases cH:(ad.length:Int)≥ar
    ·rw [if_pos cH] at H
     have fB:decide (ar≤(ad.length:Int))=true:=decide_eq_true cH
     clear cH
     obtain rfl:=Option.some.inj H
     have fC:=af.out
     have fD:=ag.out
     have fE:=blkc17 aa.out
     have fF:=blkf17 aa.out
     have fG:=blkc3 ac.out
     have fH:=blkf3 ac.out
     go_wp2_with (first|(refine pat_load rfl rfl rfl aj rfl _ _ (pbk aa) ?_)|(refine pat_load_w (wanted_on rfl rfl rfl rfl) rfl rfl aj rfl _ _ (pbk aa) ?_)|((with_reducible refine gate_callee (f:=17) rfl ?_);refine gL (some 37) Tryz.func17 #[.agg #[.slice aZ aw.length ba,.slice bb ax.length bc,.slice bd ay.length be,.slice bf az.length bh,.bool aA,.int .i64 aB,.int .i64 au,.int .i64 ar,.int .i64 aC,.int .i64 aD,.int .i64 am,.int .i64 an,.int .i64 ai,.int .i64 ah,.bool ao,.int .i32 ap,.int .i64 aq],.int .i64 a1,.agg #[.bool aF,.slice bk aE.length bm,.int .i64 aG]] ?_;(with_reducible refine (shape_Figures.calls _ _ aw _ _ ax _ _ ay _ _ az aA aB au ar aC aD am an ai ah ao ap aq a1 aF _ _ aE aG ab ad aX _ (cb aN HB) aO.out (cb aP HB) aQ.out (cb aR HB) aS.out (cb aT HB) aU.out (cb aV HB) aW.out A35.out).mono ?_);rintro e ju ⟨bi,bj,rfl,ho0,ho1,hb⟩;refine ⟨_,rfl,?_⟩;have ak:=Sd.mk (Kd.R_lower ho0 (bz HB));have al:=Sd.mk (Kd.R_lower ho1 (bz HB));replace aa:=kb aa hb;replace ac:=kb ac hb;replace HB:=bs HB hb;(try clear hb);(try clear ho0);(try clear ho1);have fI:=blkc17 aa.out;have fJ:=blkf17 aa.out;obtain ⟨iz,iA,ef⟩:=Kd.R_slice al.out;subst ef;obtain ⟨iB,iC,eg⟩:=Kd.R_slice ak.out;subst eg;have bL:0≤(0:Int):=(by omega);have bM:0<(ab.length:Int):=of_decide_eq_true (by first|(with_reducible assumption)|assumption);obtain ⟨dr,cu,bw⟩:=Kd.at_int (Kd.R_reads' ak.out).2.2 0 bL bM;cases cu;have qi1097:(0<ab.length)=True:=eq_true (by omega);(try rw [show ((0:Int)).toNat=0 from rfl] at bw);(try rw [Addr.add_zero'] at bw);replace bL:=eq_true bL;replace bM:=eq_true bM))
     go_ret
     exact ⟨by first|rfl|(simp <;> rfl)|(simp [*] <;> rfl),bl HB⟩
    rw [if_neg cH] at H
    exact absurd H (by simp)
   rw [if_neg bW] at H
   have dl:((ad.length:Int) == 0)=false:=beq_eq_false_iff_ne.mpr bW
   have dm:((ad.length:Int) != 0)=true:=bne_iff_ne.mpr bW
   have fK:¬ (ad=[]):=fun h_=>bW (by rw [h_];rfl)
   obtain ⟨aH,bo⟩:∃ j_:Int,(wrap64 ((ad.length:Int) - 1))=j_:=⟨_,rfl⟩
   replace H:(if 0≤(aH) then (if (aH)<(ad.length:Int) then (if (rd ad (aH))>0 then (if (ab.length:Int)=0 then (if (ad.length:Int)≥ar then (some (decide ((ab.length:Int)≥au))) else (none)) else (if 0<(ab.length:Int) then (if (rd ab 0)>0 then (if (ad.length:Int)≥ar then (some (decide ((ab.length:Int)≥au))) else (none)) else (if (ab.length:Int)≤au then (if (ad.length:Int)≥ar then (some (decide ((ab.length:Int)≥au))) else (none)) else (none))) else (none))) else (if (ad.length:Int)≤ar then (if (ab.length:Int)=0 then (if (ad.length:Int)≥ar then (some (decide ((ab.length:Int)≥au))) else (none)) else (if 0<(ab.length:Int) then (if (rd ab 0)>0 then (if (ad.length:Int)≥ar then (some (decide ((ab.length:Int)≥au))) else (none)) else (if (ab.length:Int)≤au then (if (ad.length:Int)≥ar then (some (decide ((ab.length:Int)≥au))) else (none)) else (none))) else (none))) else (none))) else (none)) else (none))=some r:=by first|(rw [bo] at H;exact H)|(simp only [bo] at H ⊢;exact H)
   (try rw [bo] at A35)
   have et:(IntKind.i64.wrap ((ad.length:Int) - 1))=aH:=(i64_w _).trans bo
   by_cases cI:0≤(aH)
   rotate_left
   ·rw [if_neg cI] at H
    exact absurd H (by simp)
   rw [if_pos cI] at H
   have fL:=decide_eq_true cI
   clear cI
   by_cases cJ:(aH)<(ad.length:Int)
   rotate_left
   ·rw [if_neg cJ] at H
    exact absurd H (by simp)
   rw [if_pos cJ] at H
   have fM:=decide_eq_true cJ
   clear cJ
   by_cases b4:(rd ad (aH))>0
   ·rw [if_pos b4] at H
    have dt:decide (0<(rd ad (aH)))=true:=decide_eq_true b4
    clear b4
    by_cases bZ:(ab.length:Int)=0
    ·rw [if_pos bZ] at H
     have du:((ab.length:Int) == 0)=true:=beq_iff_eq.mpr bZ
     have dv:((ab.length:Int) != 0)=false:=bne_eq_false_iff_eq.mpr bZ
     clear bZ
     by_cases cK:(ad.length:Int)≥ar
     ·rw [if_pos cK] at H
      have fN:decide (ar≤(ad.length:Int))=true:=decide_eq_true cK
      clear cK
      obtain rfl:=Option.some.inj H
      have fO:=af.out
      have fP:=ag.out
      have fQ:=blkc17 aa.out
      have fR:=blkf17 aa.out
      have fS:=blkc3 ac.out
      have fT:=blkf3 ac.out
      go_wp2_with (first|(refine pat_load rfl rfl rfl aj rfl _ _ (pbk aa) ?_)|(refine pat_load_w (wanted_on rfl rfl rfl rfl) rfl rfl aj rfl _ _ (pbk aa) ?_)|((with_reducible refine gate_callee (f:=17) rfl ?_);refine gL (some 37) Tryz.func17 #[.agg #[.slice aZ aw.length ba,.slice bb ax.length bc,.slice bd ay.length be,.slice bf az.length bh,.bool aA,.int .i64 aB,.int .i64 au,.int .i64 ar,.int .i64 aC,.int .i64 aD,.int .i64 am,.int .i64 an,.int .i64 ai,.int .i64 ah,.bool ao,.int .i32 ap,.int .i64 aq],.int .i64 a1,.agg #[.bool aF,.slice bk aE.length bm,.int .i64 aG]] ?_;(with_reducible refine (shape_Figures.calls _ _ aw _ _ ax _ _ ay _ _ az aA aB au ar aC aD am an ai ah ao ap aq a1 aF _ _ aE aG ab ad aX _ (cb aN HB) aO.out (cb aP HB) aQ.out (cb aR HB) aS.out (cb aT HB) aU.out (cb aV HB) aW.out A35.out).mono ?_);rintro e jv ⟨bi,bj,rfl,ho0,ho1,hb⟩;refine ⟨_,rfl,?_⟩;have ak:=Sd.mk (Kd.R_lower ho0 (bz HB));have al:=Sd.mk (Kd.R_lower ho1 (bz HB));replace aa:=kb aa hb;replace ac:=kb ac hb;replace HB:=bs HB hb;(try clear hb);(try clear ho0);(try clear ho1);have fU:=blkc17 aa.out;have fV:=blkf17 aa.out;obtain ⟨iD,iE,eh⟩:=Kd.R_slice al.out;subst eh;have aL:0≤((aH):Int):=of_decide_eq_true (by first|(with_reducible assumption)|assumption);have aM:(aH)<(ad.length:Int):=of_decide_eq_true (by first|(with_reducible assumption)|assumption);obtain ⟨bN,bx,bA⟩:=Kd.at_int (Kd.R_reads' al.out).2.2 (aH) aL aM;cases bx;replace aL:=eq_true aL;replace aM:=eq_true aM;obtain ⟨iF,iG,ei⟩:=Kd.R_slice ak.out;subst ei))
      go_ret
      exact ⟨by first|rfl|(simp <;> rfl)|(simp only [← bo];first|rfl|(simp <;> rfl))|(simp [*] <;> rfl),bl HB⟩
     rw [if_neg cK] at H
     exact absurd H (by simp)
    rw [if_neg bZ] at H
    have du:((ab.length:Int) == 0)=false:=beq_eq_false_iff_ne.mpr bZ
    have dv:((ab.length:Int) != 0)=true:=bne_iff_ne.mpr bZ
    have fW:¬ (ab=[]):=fun h_=>bZ (by rw [h_];rfl)
    by_cases cL:0<(ab.length:Int)
    rotate_left
    ·rw [if_neg cL] at H
     exact absurd H (by simp)
    rw [if_pos cL] at H
    have fX:=decide_eq_true cL
    have fY:decide (0<ab.length)=true:=decide_eq_true (by omega)
    clear cL
    by_cases b5:(rd ab 0)>0
    ·rw [if_pos b5] at H
     have dw:decide (0<(rd ab 0))=true:=decide_eq_true b5
     clear b5
     by_cases cM:(ad.length:Int)≥ar
     ·rw [if_pos cM] at H
      have fZ:decide (ar≤(ad.length:Int))=true:=decide_eq_true cM
      clear cM
      obtain rfl:=Option.some.inj H
      have f0:=af.out
      have f1:=ag.out
      have f2:=blkc17 aa.out
      have f3:=blkf17 aa.out
      have f4:=blkc3 ac.out
      have f5:=blkf3 ac.out
      go_wp2_with (first|(refine pat_load rfl rfl rfl aj rfl _ _ (pbk aa) ?_)|(refine pat_load_w (wanted_on rfl rfl rfl rfl) rfl rfl aj rfl _ _ (pbk aa) ?_)|((with_reducible refine gate_callee (f:=17) rfl ?_);refine gL (some 37) Tryz.func17 #[.agg #[.slice aZ aw.length ba,.slice bb ax.length bc,.slice bd ay.length be,.slice bf az.length bh,.bool aA,.int .i64 aB,.int .i64 au,.int .i64 ar,.int .i64 aC,.int .i64 aD,.int .i64 am,.int .i64 an,.int .i64 ai,.int .i64 ah,.bool ao,.int .i32 ap,.int .i64 aq],.int .i64 a1,.agg #[.bool aF,.slice bk aE.length bm,.int .i64 aG]] ?_;(with_reducible refine (shape_Figures.calls _ _ aw _ _ ax _ _ ay _ _ az aA aB au ar aC aD am an ai ah ao ap aq a1 aF _ _ aE aG ab ad aX _ (cb aN HB) aO.out (cb aP HB) aQ.out (cb aR HB) aS.out (cb aT HB) aU.out (cb aV HB) aW.out A35.out).mono ?_);rintro e jw ⟨bi,bj,rfl,ho0,ho1,hb⟩;refine ⟨_,rfl,?_⟩;have ak:=Sd.mk (Kd.R_lower ho0 (bz HB));have al:=Sd.mk (Kd.R_lower ho1 (bz HB));replace aa:=kb aa hb;replace ac:=kb ac hb;replace HB:=bs HB hb;(try clear hb);(try clear ho0);(try clear ho1);have f6:=blkc17 aa.out;have f7:=blkf17 aa.out;obtain ⟨iH,iI,ej⟩:=Kd.R_slice al.out;subst ej;have aL:0≤((aH):Int):=of_decide_eq_true (by first|(with_reducible assumption)|assumption);have aM:(aH)<(ad.length:Int):=of_decide_eq_true (by first|(with_reducible assumption)|assumption);obtain ⟨bN,bx,bA⟩:=Kd.at_int (Kd.R_reads' al.out).2.2 (aH) aL aM;cases bx;replace aL:=eq_true aL;replace aM:=eq_true aM;obtain ⟨iJ,iK,ek⟩:=Kd.R_slice ak.out;subst ek;have bO:0≤(0:Int):=(by omega);have bP:0<(ab.length:Int):=of_decide_eq_true (by first|(with_reducible assumption)|assumption);obtain ⟨dx,cv,bB⟩:=Kd.at_int (Kd.R_reads' ak.out).2.2 0 bO bP;cases cv;have qi1099:(0<ab.length)=True:=eq_true (by omega);(try rw [show ((0:Int)).toNat=0 from rfl] at bB);(try rw [Addr.add_zero'] at bB);replace bO:=eq_true bO;replace bP:=eq_true bP))
      go_ret
      exact ⟨by first|rfl|(simp <;> rfl)|(simp only [← bo];first|rfl|(simp <;> rfl))|(simp [*] <;> rfl),bl HB⟩
     rw [if_neg cM] at H
     exact absurd H (by simp)
    rw [if_neg b5] at H
    have dw:decide (0<(rd ab 0))=false:=decide_eq_false b5
    clear b5
    by_cases cN:(ab.length:Int)≤au
    rotate_left
    ·rw [if_neg cN] at H
     exact absurd H (by simp)
    rw [if_pos cN] at H
    have f8:=decide_eq_true cN
    clear cN
    by_cases cO:(ad.length:Int)≥ar
    ·rw [if_pos cO] at H
     have f9:decide (ar≤(ad.length:Int))=true:=decide_eq_true cO
     clear cO
     obtain rfl:=Option.some.inj H
     have ga:=af.out
     have gb:=ag.out
     have gc:=blkc17 aa.out
     have ge:=blkf17 aa.out
     have gg:=blkc3 ac.out
     have gh:=blkf3 ac.out
     go_wp2_with (first|(refine pat_load rfl rfl rfl aj rfl _ _ (pbk aa) ?_)|(refine pat_load_w (wanted_on rfl rfl rfl rfl) rfl rfl aj rfl _ _ (pbk aa) ?_)|((with_reducible refine gate_callee (f:=17) rfl ?_);refine gL (some 37) Tryz.func17 #[.agg #[.slice aZ aw.length ba,.slice bb ax.length bc,.slice bd ay.length be,.slice bf az.length bh,.bool aA,.int .i64 aB,.int .i64 au,.int .i64 ar,.int .i64 aC,.int .i64 aD,.int .i64 am,.int .i64 an,.int .i64 ai,.int .i64 ah,.bool ao,.int .i32 ap,.int .i64 aq],.int .i64 a1,.agg #[.bool aF,.slice bk aE.length bm,.int .i64 aG]] ?_;(with_reducible refine (shape_Figures.calls _ _ aw _ _ ax _ _ ay _ _ az aA aB au ar aC aD am an ai ah ao ap aq a1 aF _ _ aE aG ab ad aX _ (cb aN HB) aO.out (cb aP HB) aQ.out (cb aR HB) aS.out (cb aT HB) aU.out (cb aV HB) aW.out A35.out).mono ?_);rintro e jx ⟨bi,bj,rfl,ho0,ho1,hb⟩;refine ⟨_,rfl,?_⟩;have ak:=Sd.mk (Kd.R_lower ho0 (bz HB));have al:=Sd.mk (Kd.R_lower ho1 (bz HB));replace aa:=kb aa hb;replace ac:=kb ac hb;replace HB:=bs HB hb;(try clear hb);(try clear ho0);(try clear ho1);have gi:=blkc17 aa.out;have gj:=blkf17 aa.out;obtain ⟨iL,iM,el⟩:=Kd.R_slice al.out;subst el;have aL:0≤((aH):Int):=of_decide_eq_true (by first|(with_reducible assumption)|assumption);have aM:(aH)<(ad.length:Int):=of_decide_eq_true (by first|(with_reducible assumption)|assumption);obtain ⟨bN,bx,bA⟩:=Kd.at_int (Kd.R_reads' al.out).2.2 (aH) aL aM;cases bx;replace aL:=eq_true aL;replace aM:=eq_true aM;obtain ⟨iN,iO,em⟩:=Kd.R_slice ak.out;subst em;have bO:0≤(0:Int):=(by omega);have bP:0<(ab.length:Int):=of_decide_eq_true (by first|(with_reducible assumption)|assumption);obtain ⟨dx,cv,bB⟩:=Kd.at_int (Kd.R_reads' ak.out).2.2 0 bO bP;cases cv;have qi1099:(0<ab.length)=True:=eq_true (by omega);(try rw [show ((0:Int)).toNat=0 from rfl] at bB);(try rw [Addr.add_zero'] at bB);replace bO:=eq_true bO;replace bP:=eq_true bP))
     go_ret
     exact ⟨by first|rfl|(simp <;> rfl)|(simp only [← bo];first|rfl|(simp <;> rfl))|(simp [*] <;> rfl),bl HB⟩
    rw [if_neg cO] at H
    exact absurd H (by simp)
   rw [if_neg b4] at H
   have dt:decide (0<(rd ad (aH)))=false:=decide_eq_false b4
   clear b4
   by_cases cP:(ad.length:Int)≤ar
   rotate_left
   ·rw [if_neg cP] at H
    exact absurd H (by simp)
   rw [if_pos cP] at H
   have gk:=decide_eq_true cP
   clear cP
   by_cases b0:(ab.length:Int)=0
   ·rw [if_pos b0] at H
    have dy:((ab.length:Int) == 0)=true:=beq_iff_eq.mpr b0
    have dz:((ab.length:Int) != 0)=false:=bne_eq_false_iff_eq.mpr b0
    clear b0
    by_cases cQ:(ad.length:Int)≥ar
    ·rw [if_pos cQ] at H
     have gl:decide (ar≤(ad.length:Int))=true:=decide_eq_true cQ
     clear cQ
     obtain rfl:=Option.some.inj H
     have gm:=af.out
     have gn:=ag.out
     have go:=blkc17 aa.out
     have gp:=blkf17 aa.out
     have gq:=blkc3 ac.out
     have gr:=blkf3 ac.out
     go_wp2_with (first|(refine pat_load rfl rfl rfl aj rfl _ _ (pbk aa) ?_)|(refine pat_load_w (wanted_on rfl rfl rfl rfl) rfl rfl aj rfl _ _ (pbk aa) ?_)|((with_reducible refine gate_callee (f:=17) rfl ?_);refine gL (some 37) Tryz.func17 #[.agg #[.slice aZ aw.length ba,.slice bb ax.length bc,.slice bd ay.length be,.slice bf az.length bh,.bool aA,.int .i64 aB,.int .i64 au,.int .i64 ar,.int .i64 aC,.int .i64 aD,.int .i64 am,.int .i64 an,.int .i64 ai,.int .i64 ah,.bool ao,.int .i32 ap,.int .i64 aq],.int .i64 a1,.agg #[.bool aF,.slice bk aE.length bm,.int .i64 aG]] ?_;(with_reducible refine (shape_Figures.calls _ _ aw _ _ ax _ _ ay _ _ az aA aB au ar aC aD am an ai ah ao ap aq a1 aF _ _ aE aG ab ad aX _ (cb aN HB) aO.out (cb aP HB) aQ.out (cb aR HB) aS.out (cb aT HB) aU.out (cb aV HB) aW.out A35.out).mono ?_);rintro e jy ⟨bi,bj,rfl,ho0,ho1,hb⟩;refine ⟨_,rfl,?_⟩;have ak:=Sd.mk (Kd.R_lower ho0 (bz HB));have al:=Sd.mk (Kd.R_lower ho1 (bz HB));replace aa:=kb aa hb;replace ac:=kb ac hb;replace HB:=bs HB hb;(try clear hb);(try clear ho0);(try clear ho1);have gs:=blkc17 aa.out;have gt:=blkf17 aa.out;obtain ⟨iP,iQ,en⟩:=Kd.R_slice al.out;subst en;have aL:0≤((aH):Int):=of_decide_eq_true (by first|(with_reducible assumption)|assumption);have aM:(aH)<(ad.length:Int):=of_decide_eq_true (by first|(with_reducible assumption)|assumption);obtain ⟨bN,bx,bA⟩:=Kd.at_int (Kd.R_reads' al.out).2.2 (aH) aL aM;cases bx;replace aL:=eq_true aL;replace aM:=eq_true aM;obtain ⟨iR,iS,eo⟩:=Kd.R_slice ak.out;subst eo))
     go_ret
     exact ⟨by first|rfl|(simp <;> rfl)|(simp only [← bo];first|rfl|(simp <;> rfl))|(simp [*] <;> rfl),bl HB⟩
    rw [if_neg cQ] at H
    exact absurd H (by simp)
   rw [if_neg b0] at H
   have dy:((ab.length:Int) == 0)=false:=beq_eq_false_iff_ne.mpr b0
   have dz:((ab.length:Int) != 0)=true:=bne_iff_ne.mpr b0
   have gu:¬ (ab=[]):=fun h_=>b0 (by rw [h_];rfl)
   by_cases cR:0<(ab.length:Int)
   rotate_left
   ·rw [if_neg cR] at H
    exact absurd H (by simp)
   rw [if_pos cR] at H
   have gv:=decide_eq_true cR
   have gw:decide (0<ab.length)=true:=decide_eq_true (by omega)
   clear cR
   by_cases b6:(rd ab 0)>0
   ·rw [if_pos b6] at H
    have dA:decide (0<(rd ab 0))=true:=decide_eq_true b6
    clear b6
    by_cases cS:(ad.length:Int)≥ar
    ·rw [if_pos cS] at H
     have gx:decide (ar≤(ad.length:Int))=true:=decide_eq_true cS
     clear cS
     obtain rfl:=Option.some.inj H
     have gy:=af.out
     have gz:=ag.out
     have gA:=blkc17 aa.out
     have gB:=blkf17 aa.out
     have gC:=blkc3 ac.out
     have gD:=blkf3 ac.out
     go_wp2_with (first|(refine pat_load rfl rfl rfl aj rfl _ _ (pbk aa) ?_)|(refine pat_load_w (wanted_on rfl rfl rfl rfl) rfl rfl aj rfl _ _ (pbk aa) ?_)|((with_reducible refine gate_callee (f:=17) rfl ?_);refine gL (some 37) Tryz.func17 #[.agg #[.slice aZ aw.length ba,.slice bb ax.length bc,.slice bd ay.length be,.slice bf az.length bh,.bool aA,.int .i64 aB,.int .i64 au,.int .i64 ar,.int .i64 aC,.int .i64 aD,.int .i64 am,.int .i64 an,.int .i64 ai,.int .i64 ah,.bool ao,.int .i32 ap,.int .i64 aq],.int .i64 a1,.agg #[.bool aF,.slice bk aE.length bm,.int .i64 aG]] ?_;(with_reducible refine (shape_Figures.calls _ _ aw _ _ ax _ _ ay _ _ az aA aB au ar aC aD am an ai ah ao ap aq a1 aF _ _ aE aG ab ad aX _ (cb aN HB) aO.out (cb aP HB) aQ.out (cb aR HB) aS.out (cb aT HB) aU.out (cb aV HB) aW.out A35.out).mono ?_);rintro e jz ⟨bi,bj,rfl,ho0,ho1,hb⟩;refine ⟨_,rfl,?_⟩;have ak:=Sd.mk (Kd.R_lower ho0 (bz HB));have al:=Sd.mk (Kd.R_lower ho1 (bz HB));replace aa:=kb aa hb;replace ac:=kb ac hb;replace HB:=bs HB hb;(try clear hb);(try clear ho0);(try clear ho1);have gE:=blkc17 aa.out;have gF:=blkf17 aa.out;obtain ⟨iT,iU,ep⟩:=Kd.R_slice al.out;subst ep;have aL:0≤((aH):Int):=of_decide_eq_true (by first|(with_reducible assumption)|assumption);have aM:(aH)<(ad.length:Int):=of_decide_eq_true (by first|(with_reducible assumption)|assumption);obtain ⟨bN,bx,bA⟩:=Kd.at_int (Kd.R_reads' al.out).2.2 (aH) aL aM;cases bx;replace aL:=eq_true aL;replace aM:=eq_true aM;obtain ⟨iV,iW,eq⟩:=Kd.R_slice ak.out;subst eq;have bQ:0≤(0:Int):=(by omega);have bR:0<(ab.length:Int):=of_decide_eq_true (by first|(with_reducible assumption)|assumption);obtain ⟨dB,cw,bC⟩:=Kd.at_int (Kd.R_reads' ak.out).2.2 0 bQ bR;cases cw;have qi1100:(0<ab.length)=True:=eq_true (by omega);(try rw [show ((0:Int)).toNat=0 from rfl] at bC);(try rw [Addr.add_zero'] at bC);replace bQ:=eq_true bQ;replace bR:=eq_true bR))
     go_ret
     exact ⟨by first|rfl|(simp <;> rfl)|(simp only [← bo];first|rfl|(simp <;> rfl))|(simp [*] <;> rfl),bl HB⟩
    rw [if_neg cS] at H
    exact absurd H (by simp)
   rw [if_neg b6] at H
   have dA:decide (0<(rd ab 0))=false:=decide_eq_false b6
   clear b6
   by_cases cT:(ab.length:Int)≤au
   rotate_left
   ·rw [if_neg cT] at H
    exact absurd H (by simp)
   rw [if_pos cT] at H
   have gG:=decide_eq_true cT
   clear cT
   by_cases cU:(ad.length:Int)≥ar
   ·rw [if_pos cU] at H
    have gH:decide (ar≤(ad.length:Int))=true:=decide_eq_true cU
    clear cU
    obtain rfl:=Option.some.inj H
    have gI:=af.out
    have gJ:=ag.out
    have gK:=blkc17 aa.out
    have gM:=blkf17 aa.out
    have gN:=blkc3 ac.out
    have gO:=blkf3 ac.out
    go_wp2_with (first|(refine pat_load rfl rfl rfl aj rfl _ _ (pbk aa) ?_)|(refine pat_load_w (wanted_on rfl rfl rfl rfl) rfl rfl aj rfl _ _ (pbk aa) ?_)|((with_reducible refine gate_callee (f:=17) rfl ?_);refine gL (some 37) Tryz.func17 #[.agg #[.slice aZ aw.length ba,.slice bb ax.length bc,.slice bd ay.length be,.slice bf az.length bh,.bool aA,.int .i64 aB,.int .i64 au,.int .i64 ar,.int .i64 aC,.int .i64 aD,.int .i64 am,.int .i64 an,.int .i64 ai,.int .i64 ah,.bool ao,.int .i32 ap,.int .i64 aq],.int .i64 a1,.agg #[.bool aF,.slice bk aE.length bm,.int .i64 aG]] ?_;(with_reducible refine (shape_Figures.calls _ _ aw _ _ ax _ _ ay _ _ az aA aB au ar aC aD am an ai ah ao ap aq a1 aF _ _ aE aG ab ad aX _ (cb aN HB) aO.out (cb aP HB) aQ.out (cb aR HB) aS.out (cb aT HB) aU.out (cb aV HB) aW.out A35.out).mono ?_);rintro e jA ⟨bi,bj,rfl,ho0,ho1,hb⟩;refine ⟨_,rfl,?_⟩;have ak:=Sd.mk (Kd.R_lower ho0 (bz HB));have al:=Sd.mk (Kd.R_lower ho1 (bz HB));replace aa:=kb aa hb;replace ac:=kb ac hb;replace HB:=bs HB hb;(try clear hb);(try clear ho0);(try clear ho1);have gP:=blkc17 aa.out;have gQ:=blkf17 aa.out;obtain ⟨iX,iY,er⟩:=Kd.R_slice al.out;subst er;have aL:0≤((aH):Int):=of_decide_eq_true (by first|(with_reducible assumption)|assumption);have aM:(aH)<(ad.length:Int):=of_decide_eq_true (by first|(with_reducible assumption)|assumption);obtain ⟨bN,bx,bA⟩:=Kd.at_int (Kd.R_reads' al.out).2.2 (aH) aL aM;cases bx;replace aL:=eq_true aL;replace aM:=eq_true aM;obtain ⟨iZ,i0,es⟩:=Kd.R_slice ak.out;subst es;have bQ:0≤(0:Int):=(by omega);have bR:0<(ab.length:Int):=of_decide_eq_true (by first|(with_reducible assumption)|assumption);obtain ⟨dB,cw,bC⟩:=Kd.at_int (Kd.R_reads' ak.out).2.2 0 bQ bR;cases cw;have qi1100:(0<ab.length)=True:=eq_true (by omega);(try rw [show ((0:Int)).toNat=0 from rfl] at bC);(try rw [Addr.add_zero'] at bC);replace bQ:=eq_true bQ;replace bR:=eq_true bR))
    go_ret
    exact ⟨by first|rfl|(simp <;> rfl)|(simp only [← bo];first|rfl|(simp <;> rfl))|(simp [*] <;> rfl),bl HB⟩
   rw [if_neg cU] at H
   exact absurd H (by simp)
end Go.Proofs.YtklebhlanidloaaGreatDoor.PZ
end
end
