/- Texts of this seat, joined. Conditions: none beyond each statement's own. -/
import Derived.Test.YtgfajgkjbckkgaaGreatDoorPb29
set_option linter.all false
section
noncomputable section
namespace Go.Proofs.YtgfajgkjbckkgaaGreatDoor.PZ
open Go.RowKit Go.Proofs.YtgfajgkjbckkgaaGreatDoorW.PrintWords Go.Proofs.YtgfajgkjbckkgaaGreatDoorW.PrintLast Go.Proofs.YtgfajgkjbckkgaaGreatDoorW.PrintMore
attribute [local go_sem] max2_int min2_int max_two min_two max_three min_three max_four min_four   -- for this text's walks alone
mutual
def exerguelaw12_PlurRead.j0:Nat→List (S68)→Bool→Bool→List Int→List Int→Int→Int→Option (Bool)
 | 0,_,_,_,_,_,_,_=>none
 | k+1,x0,x5,x30,aV,aW,aX,aY=>if x30=true then (some x5) else ((plur_Read.f k x0).bind fun ay=>(if ay.2.2=0 then (if (ay.1.length:Int)=(x0.length:Int) then ((plur_Of.f ay.1 aV aW aX aY).bind fun aq=>(exerguelaw12_PlurRead.l0 k x0 x5 ay.1 aq (aq == 0) 0)) else (none)) else (if x5=true then (some ((ay.1.length:Int) == 0)) else (none))))
def exerguelaw12_PlurRead.l0:Nat→List (S68)→Bool→List (S65)→Int→Bool→Int→Option (Bool)
 | 0,_,_,_,_,_,_=>none
 | k+1,x0,x5,x6,x9,x10,x11=>if x11<(x0.length:Int) then (if 0≤x11 then (if x11<(x6.length:Int) then (if ((rd_T65 x6 x11).f0)=((rd_T68 x0 x11).f0) then (if x10=true then (exerguelaw12_PlurRead.l0 k x0 x5 x6 x9 true (wrap64 (x11+1))) else (exerguelaw12_PlurRead.l0 k x0 x5 x6 x9 (((rd_T68 x0 x11).f0) == x9) (wrap64 (x11+1)))) else (none)) else (none)) else (none)) else (if x5=true then (some x10) else (none))
end
def exerguelaw12_PlurRead.f (k:Nat)(l0:List (S68))(ad:List Int)(ae:List Int)(ag:Int)(ah:Int):Option (Bool):=(exerguelaw12_shown.f k).bind fun ak=>((exerguelaw12_short.f k l0).bind fun aP=>(if aP=true then (if (wrap64 ((ad.length:Int)+(ae.length:Int)))>1000 then (exerguelaw12_PlurRead.j0 k l0 ak true ad ae ag ah) else ((exergueref07_Right.f k ad ae ag ah).bind fun az=>(exerguelaw12_PlurRead.j0 k l0 ak (!az) ad ae ag ah))) else (exerguelaw12_PlurRead.j0 k l0 ak true ad ae ag ah)))
theorem exerguelaw12_PlurRead.mono_l:∀ k,(∀ y0 y1 y2 y3 y4 y5 y6,LeO (exerguelaw12_PlurRead.j0 k y0 y1 y2 y3 y4 y5 y6) (exerguelaw12_PlurRead.j0 (k+1) y0 y1 y2 y3 y4 y5 y6))∧(∀ y0 y1 y2 y3 y4 y5,LeO (exerguelaw12_PlurRead.l0 k y0 y1 y2 y3 y4 y5) (exerguelaw12_PlurRead.l0 (k+1) y0 y1 y2 y3 y4 y5))
 | 0=>⟨fun _ _ _ _ _ _ _ r h=>by simp [exerguelaw12_PlurRead.j0] at h,fun _ _ _ _ _ _ r h=>by simp [exerguelaw12_PlurRead.l0] at h⟩
 | k+1=>by
  obtain ⟨ih0,ih1⟩:=exerguelaw12_PlurRead.mono_l k
  refine ⟨?_,?_⟩
  ·intro y0 y1 y2 y3 y4 y5 y6
   unfold exerguelaw12_PlurRead.j0
   repeat' first|(with_reducible first|apply ih0|apply ih1|apply exerguelaw12_short.mono|apply exerguelaw12_shown.mono|apply exergueref07_Right.mono|apply plur_Read.mono|apply LeO.refl|apply LeO.none|refine LeO.ite ?_ ?_|refine LeO.bind ?_ (fun _=>?_))|apply ih0|apply ih1|apply exerguelaw12_short.mono|apply exerguelaw12_shown.mono|apply exergueref07_Right.mono|apply plur_Read.mono|apply LeO.none
  ·intro y0 y1 y2 y3 y4 y5
   unfold exerguelaw12_PlurRead.l0
   repeat' first|(with_reducible first|apply ih0|apply ih1|apply exerguelaw12_short.mono|apply exerguelaw12_shown.mono|apply exergueref07_Right.mono|apply plur_Read.mono|apply LeO.refl|apply LeO.none|refine LeO.ite ?_ ?_|refine LeO.bind ?_ (fun _=>?_))|apply ih0|apply ih1|apply exerguelaw12_short.mono|apply exerguelaw12_shown.mono|apply exergueref07_Right.mono|apply plur_Read.mono|apply LeO.none
theorem exerguelaw12_PlurRead.mono:∀ a0 a1 a2 a3 a4 k,LeO (exerguelaw12_PlurRead.f k a0 a1 a2 a3 a4) (exerguelaw12_PlurRead.f (k+1) a0 a1 a2 a3 a4):=by
 intro a0 a1 a2 a3 a4 k
 obtain ⟨ih0,ih1⟩:=exerguelaw12_PlurRead.mono_l k
 unfold exerguelaw12_PlurRead.f
 repeat' first|(with_reducible first|apply ih0|apply ih1|apply exerguelaw12_short.mono|apply exerguelaw12_shown.mono|apply exergueref07_Right.mono|apply plur_Read.mono|apply LeO.refl|apply LeO.none|refine LeO.ite ?_ ?_|refine LeO.bind ?_ (fun _=>?_))|apply ih0|apply ih1|apply exerguelaw12_short.mono|apply exerguelaw12_shown.mono|apply exergueref07_Right.mono|apply plur_Read.mono|apply LeO.none
set_option maxHeartbeats 8000000 in
set_option maxRecDepth 100000 in
theorem exerguelaw12_PlurRead.calls (k:Nat)(A0:Option Addr)(c0:Nat)(l0:List (S68))(aA:Option Addr)(aB:Nat)(ad:List Int)(aC:Option Addr)(aD:Nat)(ae:List Int)(ag:Int)(ah:Int)(r:Bool)(w:World)(hG:GL w)(hr0:Kd.C k68 w A0 l0.length l0)(hc0:l0.length≤c0)(a7:Kd.C (Kd.int .u8) w aA ad.length ad)(a8:ad.length≤aB)(a9:Kd.C (Kd.int .u8) w aC ae.length ae)(ba:ae.length≤aD)(h:exerguelaw12_PlurRead.f k l0 ad ae ag ah=some r) :
  Calls Tryz.prog 11 #[.slice A0 l0.length c0,.agg #[.slice aA ad.length aB,.slice aC ae.length aD,.int .i64 ag,.int .i64 ah]] w fun e w'=>e = .returned (.bool r)∧Below w.heap.size w w':=by
 have hu36:=Tryz.underlying36
 have HR0:=zS hr0
 have HC0:=zS hc0
 clear hr0 hc0
 have am:=zS a7
 have an:=zS a8
 clear a7 a8
 have ao:=zS a9
 have ap:=zS ba
 clear a9 ba
 have HB:=zS (Below.refl w.heap.size w)
 have HG:=zS hG
 clear hG
 have H:((exerguelaw12_shown.f k).bind fun ak=>((exerguelaw12_short.f k l0).bind fun aP=>(if aP=true then (if (wrap64 ((ad.length:Int)+(ae.length:Int)))>1000 then (exerguelaw12_PlurRead.j0 k l0 ak true ad ae ag ah) else ((exergueref07_Right.f k ad ae ag ah).bind fun az=>(exerguelaw12_PlurRead.j0 k l0 ak (!az) ad ae ag ah))) else (exerguelaw12_PlurRead.j0 k l0 ak true ad ae ag ah))))=some r:=h
 clear h
 replace H:=Option.bind_eq_some_iff.mp H
 obtain ⟨ak,A30,H⟩:=H
 try dsimp only at H
 have A3:=zS A30
 clear A30
 have HC4:=zS H
 clear H
 go_enter Tryz.func11,Tryz.ntmps11
 go_upto_region 2 with (first|((with_reducible refine gate_dst (N:=3) rfl ?_);(try (refine gate_guard (by rfl) ?_;dsimp only));refine box_event ?hg (N:=3) ?hd (cs:=#[.slice aA ad.length aB,.slice aC ae.length aD,.int .i64 ag,.int .i64 ah]) (t:=36) ?hr ?_;(case hd=>rfl);(case hg=>rfl);(case hr=>first|(go_simp;done)|(go_simp;rfl));intro aH hg w5 hbox hb;have aa:=zS (hbox);have bb:=bg HB hg;replace HB:=bs HB hb;clear hb hbox hg)|(go_at_call 14;(with_reducible refine (exerguelaw12_shown.calls k  ak _ ?side1 A3.out).mono ?_);(case side1=>refine GL.below HG.out ?_;exact bQ HB);rintro e w6 ⟨rfl,hb⟩;replace aa:=kb aa hb;replace HB:=bs HB hb;(try clear hb)))
 repeat (go_quiet (first|((with_reducible refine gate_dst (N:=3) rfl ?_);(try (refine gate_guard (by rfl) ?_;dsimp only));refine box_event ?hg (N:=3) ?hd (cs:=#[.slice aA ad.length aB,.slice aC ae.length aD,.int .i64 ag,.int .i64 ah]) (t:=36) ?hr ?_;(case hd=>rfl);(case hg=>rfl);(case hr=>first|(go_simp;done)|(go_simp;rfl));intro aH hg w5 hbox hb;have aa:=zS (hbox);have bb:=bg HB hg;replace HB:=bs HB hb;clear hb hbox hg)|(go_at_call 14;(with_reducible refine (exerguelaw12_shown.calls k  ak _ ?side1 A3.out).mono ?_);(case side1=>refine GL.below HG.out ?_;exact bQ HB);rintro e w6 ⟨rfl,hb⟩;replace aa:=kb aa hb;replace HB:=bs HB hb;(try clear hb);(try clear hb2);(try clear hk);(try clear hi)));go_upto_region 2 with (first|((with_reducible refine gate_dst (N:=3) rfl ?_);(try (refine gate_guard (by rfl) ?_;dsimp only));refine box_event ?hg (N:=3) ?hd (cs:=#[.slice aA ad.length aB,.slice aC ae.length aD,.int .i64 ag,.int .i64 ah]) (t:=36) ?hr ?_;(case hd=>rfl);(case hg=>rfl);(case hr=>first|(go_simp;done)|(go_simp;rfl));intro aH hg w5 hbox hb;have aa:=zS (hbox);have bb:=bg HB hg;replace HB:=bs HB hb;clear hb hbox hg)|(go_at_call 14;(with_reducible refine (exerguelaw12_shown.calls k  ak _ ?side1 A3.out).mono ?_);(case side1=>refine GL.below HG.out ?_;exact bQ HB);rintro e w6 ⟨rfl,hb⟩;replace aa:=kb aa hb;replace HB:=bs HB hb;(try clear hb);(try clear hb2);(try clear hk);(try clear hi))))
 (try simp only [Act.put,sA,sB,sC])
 go_cut [30] (fun v30 wc=>∃ (kq:Nat) (aI:Bool),v30 = .bool aI∧Sd (exerguelaw12_PlurRead.j0 kq l0 ak aI ad ae ag ah=some r)∧Sd (kq≤k)∧Sd (wc.heap[aH]?=some (.cells #[(.slice aA ad.length aB),(.slice aC ae.length aD),.int .i64 ag,.int .i64 ah] 36 (0,0)))∧Sd (Below w.heap.size w wc))
 case first=>
  have H:=HC4.out
  clear HC4
  replace H:=Option.bind_eq_some_iff.mp H
  obtain ⟨aP,A70,H⟩:=H
  try dsimp only at H
  have A7:=zS A70
  clear A70
  by_cases c8:aP=true
  rotate_left
  ·replace c8:=Bool.eq_false_iff.mpr c8
   subst c8
   rw [if_neg (show ¬ (false=true) by decide)] at H
   have H':=zS H
   clear H
   go_wp2_with (first|(go_at_call 15;(with_reducible refine (exerguelaw12_short.calls k _ _ l0 false _ (cb HR0 HB) HC0.out A7.out).mono ?_);rintro e w' ⟨rfl,⟨nd,rfl⟩⟩;(try first|exact ⟨rfl,_,World.drewN_drewN _ _ _⟩|exact ⟨rfl,_,Eq.trans (World.drewN_drewN _ _ _) (congrArg (World.drewN _) (Nat.add_assoc _ _ _))⟩)))
   repeat (go_quiet (first|(go_at_call 15;(with_reducible refine (exerguelaw12_short.calls k _ _ l0 false _ (cb HR0 HB) HC0.out A7.out).mono ?_);rintro e w' ⟨rfl,⟨nd,rfl⟩⟩;(try first|exact ⟨rfl,_,World.drewN_drewN _ _ _⟩|exact ⟨rfl,_,Eq.trans (World.drewN_drewN _ _ _) (congrArg (World.drewN _) (Nat.add_assoc _ _ _))⟩)));try go_wp2_with (first|(go_at_call 15;(with_reducible refine (exerguelaw12_short.calls k _ _ l0 false _ (cb HR0 HB) HC0.out A7.out).mono ?_);rintro e w' ⟨rfl,⟨nd,rfl⟩⟩;(try first|exact ⟨rfl,_,World.drewN_drewN _ _ _⟩|exact ⟨rfl,_,Eq.trans (World.drewN_drewN _ _ _) (congrArg (World.drewN _) (Nat.add_assoc _ _ _))⟩))))
   go_meet
   case rel=>exact ⟨_,(true),(by first|rfl|(simp;done)|(simp [*];done)),H',⟨by first|omega|exact Nat.le_refl _⟩,⟨ko aa⟩,⟨bQ HB⟩⟩
  subst c8
  rw [if_pos rfl] at H
  by_cases c9:(wrap64 ((ad.length:Int)+(ae.length:Int)))>1000
  ·rw [if_pos c9] at H
   have aE:decide (1000<(wrap64 ((ad.length:Int)+(ae.length:Int))))=true:=zC c9
   clear c9
   (first|rw [aE]|(simp only [i64_w,i32_w];rw [aE])|rw [bE]|skip)
   have H':=zS H
   clear H
   go_wp2_with (first|(go_at_call 15;(with_reducible refine (exerguelaw12_short.calls k _ _ l0 true _ (cb HR0 HB) HC0.out A7.out).mono ?_);rintro e w' ⟨rfl,⟨nd,rfl⟩⟩;(try first|exact ⟨rfl,_,World.drewN_drewN _ _ _⟩|exact ⟨rfl,_,Eq.trans (World.drewN_drewN _ _ _) (congrArg (World.drewN _) (Nat.add_assoc _ _ _))⟩);have aJ:=blkc4 aa.out;have aK:=blkf4 aa.out))
   repeat (go_quiet (first|(go_at_call 15;(with_reducible refine (exerguelaw12_short.calls k _ _ l0 true _ (cb HR0 HB) HC0.out A7.out).mono ?_);rintro e w' ⟨rfl,⟨nd,rfl⟩⟩;(try first|exact ⟨rfl,_,World.drewN_drewN _ _ _⟩|exact ⟨rfl,_,Eq.trans (World.drewN_drewN _ _ _) (congrArg (World.drewN _) (Nat.add_assoc _ _ _))⟩);have aJ:=blkc4 aa.out;have aK:=blkf4 aa.out));try go_wp2_with (first|(go_at_call 15;(with_reducible refine (exerguelaw12_short.calls k _ _ l0 true _ (cb HR0 HB) HC0.out A7.out).mono ?_);rintro e w' ⟨rfl,⟨nd,rfl⟩⟩;(try first|exact ⟨rfl,_,World.drewN_drewN _ _ _⟩|exact ⟨rfl,_,Eq.trans (World.drewN_drewN _ _ _) (congrArg (World.drewN _) (Nat.add_assoc _ _ _))⟩);have aJ:=blkc4 aa.out;have aK:=blkf4 aa.out)))
   go_meet
   case rel=>exact ⟨_,(true),(by first|rfl|(simp;done)|(simp [*];done)),H',⟨by first|omega|exact Nat.le_refl _⟩,⟨ko aa⟩,⟨bQ HB⟩⟩
  rw [if_neg c9] at H
  have aE:decide (1000<(wrap64 ((ad.length:Int)+(ae.length:Int))))=false:=zD c9
  clear c9
  (first|rw [aE]|(simp only [i64_w,i32_w];rw [aE])|rw [bE]|skip)
  replace H:=Option.bind_eq_some_iff.mp H
  obtain ⟨az,bp,H⟩:=H
  try dsimp only at H
  have A11:=zS bp
  clear bp
  have H':=zS H
  clear H
  go_wp2_with (first|(go_at_call 15;(with_reducible refine (exerguelaw12_short.calls k _ _ l0 true _ (cb HR0 HB) HC0.out A7.out).mono ?_);rintro e w' ⟨rfl,⟨nd,rfl⟩⟩;(try first|exact ⟨rfl,_,World.drewN_drewN _ _ _⟩|exact ⟨rfl,_,Eq.trans (World.drewN_drewN _ _ _) (congrArg (World.drewN _) (Nat.add_assoc _ _ _))⟩);have aL:=blkc4 aa.out;have aM:=blkf4 aa.out)|(go_at_call 26;(with_reducible refine (exergueref07_Right.calls k _ _ ad _ _ ae ag ah az _ ?side1 an.out ?side3 ap.out A11.out).mono ?_);(case side1=>repeat (first|exact (Kd.C_below am.out (bQ HB))|(with_reducible refine Kd.C_alloc ?_ _)|(with_reducible refine Kd.C_drewN ?_ _)|(with_reducible refine Kd.C_drew ?_)));(case side3=>repeat (first|exact (Kd.C_below ao.out (bQ HB))|(with_reducible refine Kd.C_alloc ?_ _)|(with_reducible refine Kd.C_drewN ?_ _)|(with_reducible refine Kd.C_drew ?_)));rintro e w13 ⟨rfl,hb⟩;replace aa:=kb aa hb;replace HB:=bs HB hb;(try clear hb)))
  repeat (go_quiet (first|(go_at_call 15;(with_reducible refine (exerguelaw12_short.calls k _ _ l0 true _ (cb HR0 HB) HC0.out A7.out).mono ?_);rintro e w' ⟨rfl,⟨nd,rfl⟩⟩;(try first|exact ⟨rfl,_,World.drewN_drewN _ _ _⟩|exact ⟨rfl,_,Eq.trans (World.drewN_drewN _ _ _) (congrArg (World.drewN _) (Nat.add_assoc _ _ _))⟩);have aL:=blkc4 aa.out;have aM:=blkf4 aa.out)|(go_at_call 26;(with_reducible refine (exergueref07_Right.calls k _ _ ad _ _ ae ag ah az _ ?side1 an.out ?side3 ap.out A11.out).mono ?_);(case side1=>repeat (first|exact (Kd.C_below am.out (bQ HB))|(with_reducible refine Kd.C_alloc ?_ _)|(with_reducible refine Kd.C_drewN ?_ _)|(with_reducible refine Kd.C_drew ?_)));(case side3=>repeat (first|exact (Kd.C_below ao.out (bQ HB))|(with_reducible refine Kd.C_alloc ?_ _)|(with_reducible refine Kd.C_drewN ?_ _)|(with_reducible refine Kd.C_drew ?_)));rintro e w13 ⟨rfl,hb⟩;replace aa:=kb aa hb;replace HB:=bs HB hb;(try clear hb);(try clear hb2);(try clear hk);(try clear hi)));try go_wp2_with (first|(go_at_call 15;(with_reducible refine (exerguelaw12_short.calls k _ _ l0 true _ (cb HR0 HB) HC0.out A7.out).mono ?_);rintro e w' ⟨rfl,⟨nd,rfl⟩⟩;(try first|exact ⟨rfl,_,World.drewN_drewN _ _ _⟩|exact ⟨rfl,_,Eq.trans (World.drewN_drewN _ _ _) (congrArg (World.drewN _) (Nat.add_assoc _ _ _))⟩);have aL:=blkc4 aa.out;have aM:=blkf4 aa.out)|(go_at_call 26;(with_reducible refine (exergueref07_Right.calls k _ _ ad _ _ ae ag ah az _ ?side1 an.out ?side3 ap.out A11.out).mono ?_);(case side1=>repeat (first|exact (Kd.C_below am.out (bQ HB))|(with_reducible refine Kd.C_alloc ?_ _)|(with_reducible refine Kd.C_drewN ?_ _)|(with_reducible refine Kd.C_drew ?_)));(case side3=>repeat (first|exact (Kd.C_below ao.out (bQ HB))|(with_reducible refine Kd.C_alloc ?_ _)|(with_reducible refine Kd.C_drewN ?_ _)|(with_reducible refine Kd.C_drew ?_)));rintro e w13 ⟨rfl,hb⟩;replace aa:=kb aa hb;replace HB:=bs HB hb;(try clear hb);(try clear hb2);(try clear hk);(try clear hi))))
  go_meet
  case rel=>exact ⟨_,(!az),(by first|rfl|(simp;done)|(simp [*];done)),H',⟨by first|omega|exact Nat.le_refl _⟩,⟨ko aa⟩,⟨bQ HB⟩⟩
 case rest=>
  clear HC4
  try clear c1
  try clear p2
  try clear p6
  try clear c8
  try clear c9
  try clear aE
  try clear c11
  try clear aJ
  try clear aL
  try clear aK
  try clear aM
  obtain ⟨kq,aI,rfl,HA,HJ3,aa,HB⟩:=hcut
  cases kq with
  | zero=>exact absurd HA.out (by simp [exerguelaw12_PlurRead.j0])
  | succ kj3=>
   have H:=HA.out
   clear HA
   simp only [exerguelaw12_PlurRead.j0] at H
   by_cases c14:aI=true
   ·subst c14
    rw [if_pos rfl] at H
    obtain rfl:=zE H
    go_wp2
    repeat (go_quiet (fail);try go_wp2)
    go_ret
    exact ⟨by first|rfl|(simp <;> rfl)|(simp [*] <;> rfl),bQ HB⟩
   replace c14:=Bool.eq_false_iff.mpr c14
   subst c14
   rw [if_neg (show ¬ (false=true) by decide)] at H
   replace H:=Option.bind_eq_some_iff.mp H
   obtain ⟨⟨af,aO,al⟩,bq,H⟩:=H
   try dsimp only at H
   have A15:=zS bq
   clear bq
   by_cases c16:al=0
   rotate_left
   ·rw [if_neg c16] at H
    have bc:(al == 0)=false:=zF c16
    have bd:(al != 0)=true:=zI c16
    by_cases c29:ak=true
    ·subst c29
     rw [if_pos rfl] at H
     obtain rfl:=zE H
     go_wp2_with (first|(go_at_call 18;(with_reducible refine (plur_Read.calls kj3 _ _ l0 af aO al _ ?side3 (cb HR0 HB) HC0.out A15.out).mono ?_);(case side3=>refine GL.below HG.out ?_;exact bQ HB);rintro e w30 ⟨aQ,rfl,ho0,hb⟩;have ac:=zS (Kd.R_lower ho0 (bz HB));replace aa:=kb aa hb;replace HB:=bs HB hb;(try clear hb);(try clear ho0);obtain ⟨br,bu,aR⟩:=Kd.R_slice ac.out;subst aR))
     repeat (go_quiet (first|(go_at_call 18;(with_reducible refine (plur_Read.calls kj3 _ _ l0 af aO al _ ?side3 (cb HR0 HB) HC0.out A15.out).mono ?_);(case side3=>refine GL.below HG.out ?_;exact bQ HB);rintro e w30 ⟨aQ,rfl,ho0,hb⟩;have ac:=zS (Kd.R_lower ho0 (bz HB));replace aa:=kb aa hb;replace HB:=bs HB hb;(try clear hb);(try clear hb2);(try clear hk);(try clear hi);(try clear ho0);obtain ⟨br,bu,aR⟩:=Kd.R_slice ac.out;subst aR));try go_wp2_with (first|(go_at_call 18;(with_reducible refine (plur_Read.calls kj3 _ _ l0 af aO al _ ?side3 (cb HR0 HB) HC0.out A15.out).mono ?_);(case side3=>refine GL.below HG.out ?_;exact bQ HB);rintro e w30 ⟨aQ,rfl,ho0,hb⟩;have ac:=zS (Kd.R_lower ho0 (bz HB));replace aa:=kb aa hb;replace HB:=bs HB hb;(try clear hb);(try clear hb2);(try clear hk);(try clear hi);(try clear ho0);obtain ⟨br,bu,aR⟩:=Kd.R_slice ac.out;subst aR)))
     go_ret
     exact ⟨by first|rfl|(simp <;> rfl)|(simp [*] <;> rfl),bQ HB⟩
    replace c29:=Bool.eq_false_iff.mpr c29
    subst c29
    rw [if_neg (show ¬ (false=true) by decide)] at H
    exact absurd H (by simp)
   rw [if_pos c16] at H
   have bc:(al == 0)=true:=zH c16
   have bd:(al != 0)=false:=zG c16
   clear c16
   by_cases c17:(af.length:Int)=(l0.length:Int)
   rotate_left
   ·rw [if_neg c17] at H
    exact absurd H (by simp)
   rw [if_pos c17] at H
   have bv:((af.length:Int) == (l0.length:Int))=true:=zH c17
   have bw:((af.length:Int) != (l0.length:Int))=false:=zG c17
   have bx:(af.length == l0.length)=true:=by first|simpa using c17|(simp at c17 ⊢;omega)
   clear c17
   replace H:=Option.bind_eq_some_iff.mp H
   obtain ⟨aq,bA,H⟩:=H
   try dsimp only at H
   have A18:=zS bA
   clear bA
   have H':=zS H
   clear H
   go_wp2_with (first|(go_at_call 18;(with_reducible refine (plur_Read.calls kj3 _ _ l0 af aO al _ ?side3 (cb HR0 HB) HC0.out A15.out).mono ?_);(case side3=>refine GL.below HG.out ?_;exact bQ HB);rintro e w19 ⟨aQ,rfl,ho0,hb⟩;have ac:=zS (Kd.R_lower ho0 (bz HB));replace aa:=kb aa hb;replace HB:=bs HB hb;(try clear hb);(try clear ho0);obtain ⟨bf,bh,aS⟩:=Kd.R_slice ac.out;subst aS;have aT:=blkc4 aa.out;have aU:=blkf4 aa.out)|(go_at_call 27;(with_reducible refine (plur_Of.calls _ _ af _ _ ad _ _ ae ag ah aq _ ?side7 (rc ac) (rl ac) (cb am HB) an.out (cb ao HB) ap.out A18.out).mono ?_);(case side7=>refine GL.below HG.out ?_;exact bQ HB);rintro e w22 ⟨rfl,hb⟩;replace ac:=rb ac hb;replace aa:=kb aa hb;replace HB:=bs HB hb;(try clear hb);(try clear hb2);(try clear hk);(try clear hi)))
   repeat (go_quiet (first|(go_at_call 18;(with_reducible refine (plur_Read.calls kj3 _ _ l0 af aO al _ ?side3 (cb HR0 HB) HC0.out A15.out).mono ?_);(case side3=>refine GL.below HG.out ?_;exact bQ HB);rintro e w19 ⟨aQ,rfl,ho0,hb⟩;have ac:=zS (Kd.R_lower ho0 (bz HB));replace aa:=kb aa hb;replace HB:=bs HB hb;(try clear hb);(try clear hb2);(try clear hk);(try clear hi);(try clear ho0);obtain ⟨bf,bh,aS⟩:=Kd.R_slice ac.out;subst aS;have aT:=blkc4 aa.out;have aU:=blkf4 aa.out)|(go_at_call 27;(with_reducible refine (plur_Of.calls _ _ af _ _ ad _ _ ae ag ah aq _ ?side7 (rc ac) (rl ac) (cb am HB) an.out (cb ao HB) ap.out A18.out).mono ?_);(case side7=>refine GL.below HG.out ?_;exact bQ HB);rintro e w22 ⟨rfl,hb⟩;replace ac:=rb ac hb;replace aa:=kb aa hb;replace HB:=bs HB hb;(try clear hb);(try clear hb2);(try clear hk);(try clear hi)));try go_wp2_with (first|(go_at_call 18;(with_reducible refine (plur_Read.calls kj3 _ _ l0 af aO al _ ?side3 (cb HR0 HB) HC0.out A15.out).mono ?_);(case side3=>refine GL.below HG.out ?_;exact bQ HB);rintro e w19 ⟨aQ,rfl,ho0,hb⟩;have ac:=zS (Kd.R_lower ho0 (bz HB));replace aa:=kb aa hb;replace HB:=bs HB hb;(try clear hb);(try clear hb2);(try clear hk);(try clear hi);(try clear ho0);obtain ⟨bf,bh,aS⟩:=Kd.R_slice ac.out;subst aS;have aT:=blkc4 aa.out;have aU:=blkf4 aa.out)|(go_at_call 27;(with_reducible refine (plur_Of.calls _ _ af _ _ ad _ _ ae ag ah aq _ ?side7 (rc ac) (rl ac) (cb am HB) an.out (cb ao HB) ap.out A18.out).mono ?_);(case side7=>refine GL.below HG.out ?_;exact bQ HB);rintro e w22 ⟨rfl,hb⟩;replace ac:=rb ac hb;replace aa:=kb aa hb;replace HB:=bs HB hb;(try clear hb);(try clear hb2);(try clear hk);(try clear hi))))
   go_loopg [10,11] kj3 (fun kq v10 v11 w'=>∃ (aN:Bool) (ab:Int),v10 = .bool aN∧v11 = .int .i64 ab∧Sd (exerguelaw12_PlurRead.l0 kq l0 ak af aq aN ab=some r)∧Sd (kq≤kj3)∧Sd (Kd.R k65 65 w' w.heap.size (fun _=>True) (.slice bf af.length bh) af)∧Sd (w'.heap[aH]?=some (.cells #[(.slice aA ad.length aB),(.slice aC ae.length aD),.int .i64 ag,.int .i64 ah] 36 (0,0)))∧Sd (Below w.heap.size w w'))
   case atStart=>exact ⟨((aq == 0)),(0),(by first|rfl|(simp;done)|(simp [*];done)),(by first|rfl|(simp;done)|(simp [*];done)),H',⟨Nat.le_refl _⟩,⟨ro ac⟩,⟨ko aa⟩,⟨bQ HB⟩⟩
   case round=>
    clear H'
    try clear c1
    try clear p2
    try clear p6
    try clear c8
    try clear c9
    try clear aE
    try clear c11
    try clear c14
    try clear c16
    try clear bc
    try clear bd
    try clear c17
    try clear bv
    try clear bw
    try clear bx
    try clear aJ
    try clear aL
    try clear aT
    try clear aK
    try clear aM
    try clear aU
    try clear p2
    try clear p6
    obtain ⟨aN,ab,rfl,rfl,HA,HK2,HO_6,aa,HB⟩:=hrel
    cases gk with
    | zero=>exact absurd HA.out (by simp [exerguelaw12_PlurRead.l0])
    | succ k2=>
     have H:=HA.out
     clear HA
     simp only [exerguelaw12_PlurRead.l0] at H
     by_cases c23:ab<(l0.length:Int)
     rotate_left
     ·rw [if_neg c23] at H
      have bB:=zD c23
      clear c23
      by_cases c28:ak=true
      ·subst c28
       rw [if_pos rfl] at H
       obtain rfl:=zE H
       go_wp2
       repeat (go_quiet (fail);try go_wp2)
       go_ret
       exact ⟨by first|rfl|(simp <;> rfl)|(simp [*] <;> rfl),bQ HB⟩
      replace c28:=Bool.eq_false_iff.mpr c28
      subst c28
      rw [if_neg (show ¬ (false=true) by decide)] at H
      exact absurd H (by simp)
     rw [if_pos c23] at H
     have bB:=zC c23
     clear c23
     by_cases c24:0≤ab
     rotate_left
     ·rw [if_neg c24] at H
      exact absurd H (by simp)
     rw [if_pos c24] at H
     have bG:=zC c24
     clear c24
     by_cases c25:ab<(af.length:Int)
     rotate_left
     ·rw [if_neg c25] at H
      exact absurd H (by simp)
     rw [if_pos c25] at H
     have bH:=zC c25
     clear c25
     by_cases c26:((rd_T65 af ab).f0)=((rd_T68 l0 ab).f0)
     rotate_left
     ·rw [if_neg c26] at H
      exact absurd H (by simp)
     rw [if_pos c26] at H
     have bI:(((rd_T65 af ab).f0) == ((rd_T68 l0 ab).f0))=true:=zH c26
     have bJ:(((rd_T65 af ab).f0) != ((rd_T68 l0 ab).f0))=false:=zG c26
     clear c26
     by_cases c27:aN=true
     ·subst c27
      rw [if_pos rfl] at H
      have H':=zS H
      clear H
      have ar:0≤(ab:Int):=zB (by first|(with_reducible assumption)|assumption)
      have au:ab<(af.length:Int):=zB (by first|(with_reducible assumption)|assumption)
      obtain ⟨bC,bi,bj,bk,aZ,av,hl566_1,hi566_1⟩:=at_T65 (Kd.R_reads' HO_6.out).2.2 ab ar au
      cases bk
      obtain ⟨ce566,hce566,hMe566,hcc566⟩:=Kd.R_get HO_6.out z65 ab ar (by first|exact au|exact zB (by first|(with_reducible assumption)|assumption)|(have e_:=(Kd.R_reads' HO_6.out).1;omega))
      obtain ⟨ve566_1,rfl,ge566_1⟩:=k65_openM hMe566
      have hv566_1:=hcc566 1 _ rfl
      rw [add_field _ _ 1 (by omega)] at hv566_1
      replace hv566_1:=zE (hv566_1.symm.trans av)
      rw [hv566_1] at ge566_1
      have HL566_1:=zS (show Kd.R (Kd.slice 60 k60) 61 _ _ _ _ ((rd_T65 af ab).f1) from ge566_1)
      clear hv566_1 ge566_1
      clear hcc566 hce566
      have a5:=zS hi566_1
      have a6:=zS hl566_1
      clear hi566_1 hl566_1
      replace ar:=eq_true ar
      replace au:=eq_true au
      have aF:0≤(ab:Int):=zB (by first|(with_reducible assumption)|assumption)
      have aG:ab<(l0.length:Int):=zB (by first|(with_reducible assumption)|assumption)
      obtain ⟨be,bm,ai,aj⟩:=at_T68 HR0.out ab aF aG
      cases bm
      replace ai:=(HB.out.cell (World.block_lt_of_cell? w _ ai)).trans ai
      replace aj:=(HB.out.cell (World.block_lt_of_cell? w _ aj)).trans aj
      replace aF:=eq_true aF
      replace aG:=eq_true aG
      go_wp2
      repeat (go_quiet (fail);try go_wp2)
      go_roundg k2
      case measure=>have:=HJ3.out;have:=HK2.out;omega
      case rel=>exact ⟨(true),(wrap64 (ab+1)),(by first|rfl|(simp;done)|(simp [*];done)),(by first|rfl|(simp;done)|(simp [*];done)),H',⟨by have:=HJ3.out;have:=HK2.out;omega⟩,⟨ro HO_6⟩,⟨ko aa⟩,⟨bQ HB⟩⟩
     replace c27:=Bool.eq_false_iff.mpr c27
     subst c27
     rw [if_neg (show ¬ (false=true) by decide)] at H
     have H':=zS H
     clear H
     have ar:0≤(ab:Int):=zB (by first|(with_reducible assumption)|assumption)
     have au:ab<(af.length:Int):=zB (by first|(with_reducible assumption)|assumption)
     obtain ⟨bC,bi,bj,bk,aZ,av,hl566_1,hi566_1⟩:=at_T65 (Kd.R_reads' HO_6.out).2.2 ab ar au
     cases bk
     obtain ⟨ce566,hce566,hMe566,hcc566⟩:=Kd.R_get HO_6.out z65 ab ar (by first|exact au|exact zB (by first|(with_reducible assumption)|assumption)|(have e_:=(Kd.R_reads' HO_6.out).1;omega))
     obtain ⟨ve566_1,rfl,ge566_1⟩:=k65_openM hMe566
     have hv566_1:=hcc566 1 _ rfl
     rw [add_field _ _ 1 (by omega)] at hv566_1
     replace hv566_1:=zE (hv566_1.symm.trans av)
     rw [hv566_1] at ge566_1
     have HL566_1:=zS (show Kd.R (Kd.slice 60 k60) 61 _ _ _ _ ((rd_T65 af ab).f1) from ge566_1)
     clear hv566_1 ge566_1
     clear hcc566 hce566
     have a5:=zS hi566_1
     have a6:=zS hl566_1
     clear hi566_1 hl566_1
     replace ar:=eq_true ar
     replace au:=eq_true au
     have aF:0≤(ab:Int):=zB (by first|(with_reducible assumption)|assumption)
     have aG:ab<(l0.length:Int):=zB (by first|(with_reducible assumption)|assumption)
     obtain ⟨be,bm,ai,aj⟩:=at_T68 HR0.out ab aF aG
     cases bm
     replace ai:=(HB.out.cell (World.block_lt_of_cell? w _ ai)).trans ai
     replace aj:=(HB.out.cell (World.block_lt_of_cell? w _ aj)).trans aj
     replace aF:=eq_true aF
     replace aG:=eq_true aG
     have bn:0≤(ab:Int):=zB (by first|(with_reducible assumption)|assumption)
     have bo:ab<(l0.length:Int):=zB (by first|(with_reducible assumption)|assumption)
     obtain ⟨bD,bF,aw,ax⟩:=at_T68 HR0.out ab bn bo
     obtain rfl:be=bD:=(by injection bF)
     replace aw:=(HB.out.cell (World.block_lt_of_cell? w _ aw)).trans aw
     replace ax:=(HB.out.cell (World.block_lt_of_cell? w _ ax)).trans ax
     replace bn:=eq_true bn
     replace bo:=eq_true bo
     go_wp2
     repeat (go_quiet (fail);try go_wp2)
     go_roundg k2
     case measure=>have:=HJ3.out;have:=HK2.out;omega
     case rel=>exact ⟨((((rd_T68 l0 ab).f0) == aq)),(wrap64 (ab+1)),(by first|rfl|(simp;done)|(simp [*];done)),(by first|rfl|(simp;done)|(simp [*];done)),H',⟨by have:=HJ3.out;have:=HK2.out;omega⟩,⟨ro HO_6⟩,⟨ko aa⟩,⟨bQ HB⟩⟩
end Go.Proofs.YtgfajgkjbckkgaaGreatDoor.PZ
end
end
section
set_option maxRecDepth 100000
namespace Go.Proofs.YtgfajgkjbckkgaaGreatDoor.PZ
open Go.RowKit Go.Proofs.YtgfajgkjbckkgaaGreatDoorW.PrintWords Go.Proofs.YtgfajgkjbckkgaaGreatDoorW.PrintLast
theorem pread_off (L:List Tx)(i f:List Int)(w c:Int):Ev (fun k=>exerguelaw12_PlurRead.j0 k L true true i f w c) true:=by
 refine Ev_shift ?_
 simp only [exerguelaw12_PlurRead.j0,if_true]
 exact Ev.now _
theorem pread_l0 {l:List Tx}{m:List Ru}(hn:l.length≤1000000)(hm:m.length=l.length)(hf:∀ (j:Nat)(h:j<l.length),(m[j]'(by omega)).f0=(l[j]).f0)(C:Int)(n:Nat):∀ (j:Nat) (b:Bool),j+n=l.length→(b=true∨∃ (q:Nat) (h:q<l.length),j≤q∧(l[q]).f0=C)→Ev (fun k=>exerguelaw12_PlurRead.l0 k l true m C b (j:Int)) true:=by
 induction n with
 | zero=>
  intro j b hj hb
  have q1:¬ ((j:Nat):Int)<(l.length:Int):=by omega
  have hb2:b=true:=by
   rcases hb with h|⟨q,h,h2,_⟩
   · exact h
   omega
  refine Ev_shift ?_
  simp only [exerguelaw12_PlurRead.l0,if_neg q1,if_true,hb2]
  exact Ev.now _
 | succ n ih=>
  intro j b hj hb
  have hlt:j<l.length:=by omega
  have hlt2:j<m.length:=by omega
  have q1:((j:Nat):Int)<(l.length:Int):=by omega
  have q2:(0:Int)≤(j:Int):=by omega
  have q3:((j:Nat):Int)<(m.length:Int):=by omega
  have wi:wrap64 ((j:Int)+1)=((j+1:Nat):Int):=by rw [w64 _ (by omega) (by omega)];omega
  refine Ev_shift ?_
  simp only [exerguelaw12_PlurRead.l0,if_pos q1,if_pos q2,if_pos q3,rd65 hlt2,rd68 hlt,if_pos (hf j hlt),wi]
  cases b with
  | true=>
   simp only [if_true]
   exact ih (j+1) true (by omega) (.inl rfl)
  | false=>
   simp only [Bool.false_eq_true,if_false]
   refine ih (j+1) _ (by omega) ?_
   rcases hb with h|⟨q,h,h2,h3⟩
   · cases h
   by_cases e:q=j
   · subst e;exact .inl (by rw [h3];simp)
   exact .inr ⟨q,h,by omega,h3⟩
theorem Pure.PlurRead:∀ (x0:List S68) (x1_0:List Int) (x1_1:List Int) (x1_2:Int) (x1_3:Int),OkTxs x0→x1_0.length * 1≤140737488351232→(∀ b_ ∈ x1_0,(Lit.int .u8 b_).wf=true)→x1_1.length * 1≤140737488351232→(∀ b_ ∈ x1_1,(Lit.int .u8 b_).wf=true)→(Lit.int .i64 x1_2).wf=true→(Lit.int .i64 x1_3).wf=true→∃ k,exerguelaw12_PlurRead.f k x0 x1_0 x1_1 x1_2 x1_3=some true:=by
 intro l i f w c hl hi bi hf bf hw hc
 refine Ev.rounds ?_
 unfold exerguelaw12_PlurRead.f
 refine Ev.bind shown12_ev ?_
 have off:=pread_off l i f w c
 have hsz:∀ x ∈ l,x.f1.size≤140737488351232:=fun x hx=>(hl.2 x hx).2
 have hll:l.length≤140737488355328:=by have:=hl.1;omega
 obtain ⟨s1,S1,P1⟩:=short12_ev hsz hll
 refine Ev.bind S1 ?_
 cases s1 with
 | false=>simp only [Bool.false_eq_true,if_false];exact off
 | true=>
  obtain ⟨h8,_⟩:=P1 rfl
  simp only [if_true]
  have wl:wrap64 ((i.length:Int)+(f.length:Int))=(i.length:Int)+(f.length:Int):=w64 _ (by omega) (by omega)
  rw [wl]
  by_cases hq:(i.length:Int)+(f.length:Int)>1000
  · simp only [if_pos hq];exact off
  simp only [if_neg hq]
  refine Ev.bind (refRight_ev i f w c (by omega) (by omega)) ?_
  by_cases ho:RightO i f w c
  rotate_left
  ·simp only [zD ho,Bool.not_false]
   exact off
  have hok:OpOk i f w c:=⟨ho,bi,bf,by omega,by omega⟩
  simp only [zC ho,Bool.not_true]
  refine Ev_shift ?_
  simp only [exerguelaw12_PlurRead.j0,Bool.false_eq_true,if_false]
  refine Ev.bind (plurRead_ev hsz (by omega)) ?_
  by_cases he:(readR 0 0 [] l).2.2=0
  ·obtain ⟨_,m,g2,g3,g4,g5⟩:=readR_ok l 0 0 [] he
   rw [List.nil_append] at g2
   have hml:m.length=l.length:=by have:=congrArg List.length g3;simpa using this
   have q1:(m.length:Int)=(l.length:Int):=by omega
   simp only [if_pos he,g2,if_pos q1,plurOf_f hok g5,Option.bind_some]
   have hfl:∀ (j:Nat) (h:j<l.length),(m[j]'(by omega)).f0=(l[j]).f0:=by
    intro j h
    have h2:(m.map (·.f0))[j]?=(l.map (·.f0))[j]?:=by rw [g3]
    rw [List.getElem?_map,List.getElem?_map,List.getElem?_eq_getElem h,List.getElem?_eq_getElem (by omega)] at h2
    exact zE h2
   refine pread_l0 (by omega) hml hfl _ l.length 0 _ (by omega) ?_
   rcases catX_mem i f w c m with h|⟨x,hx,e⟩
   · exact .inl (by rw [h];rfl)
   obtain ⟨q,hq2,rfl⟩:=List.getElem_of_mem hx
   exact .inr ⟨q,by omega,by omega,by rw [← hfl q (by omega),e]⟩
  obtain ⟨g1,_⟩:=readR_bad l 0 0 [] he
  simp only [if_neg he,if_true,g1]
  exact Ev.now _
end Go.Proofs.YtgfajgkjbckkgaaGreatDoor.PZ
end
