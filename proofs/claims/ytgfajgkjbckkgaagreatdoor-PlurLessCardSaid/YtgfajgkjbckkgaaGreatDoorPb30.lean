/- Texts of this seat, joined. Conditions: none beyond each statement's own. -/
import Derived.Test.YtgfajgkjbckkgaaGreatDoorPb29
set_option linter.all false
section
noncomputable section
namespace Go.Proofs.YtgfajgkjbckkgaaGreatDoor.PZ
open Go.RowKit Go.Proofs.YtgfajgkjbckkgaaGreatDoorW.PrintWords Go.Proofs.YtgfajgkjbckkgaaGreatDoorW.PrintLast Go.Proofs.YtgfajgkjbckkgaaGreatDoorW.PrintMore
attribute [local go_sem] max2_int min2_int max_two min_two max_three min_three max_four min_four   -- for this text's walks alone
def exerguelaw12_PlurLess.j0:Nat→List (S65)→Bool→Bool→List Int→List Int→Int→Int→Option (Bool)
 | 0,_,_,_,_,_,_,_=>none
 | k+1,x0,x5,x37,am,an,ao,ap=>if x37=true then (some x5) else ((plur_Of.f x0 am an ao ap).bind fun aj=>(if 0≤(wrap64 ((x0.length:Int) - 1)) then (if (wrap64 ((x0.length:Int) - 1))≤(x0.length:Int) then ((plur_Of.f (x0.take ((wrap64 ((x0.length:Int) - 1)):Int).toNat) am an ao ap).bind fun ah=>(if x5=true then (if (wrap64 ((x0.length:Int) - 1))<(x0.length:Int) then (if aj=((rd_T65 x0 (wrap64 ((x0.length:Int) - 1))).f0) then (if ah=0 then ((plur_Of.f ([]:List (S65)) am an ao ap).bind fun aH=>(some (aH == 0))) else (none)) else (if ah=aj then ((plur_Of.f ([]:List (S65)) am an ao ap).bind fun aI=>(some (aI == 0))) else (none))) else (none)) else (none))) else (none)) else (none)))
def exerguelaw12_PlurLess.f (k:Nat)(l0:List (S65))(ab:List Int)(ac:List Int)(ad:Int)(ae:Int):Option (Bool):=(exerguelaw12_shown.f k).bind fun ak=>((exergueref12_Short.f k l0).bind fun aP=>(if aP=true then ((exergueref12_Right.f k l0).bind fun aQ=>(if aQ=true then (if (l0.length:Int)=0 then (exerguelaw12_PlurLess.j0 k l0 ak true ab ac ad ae) else (if (wrap64 ((ab.length:Int)+(ac.length:Int)))>1000 then (exerguelaw12_PlurLess.j0 k l0 ak true ab ac ad ae) else ((exergueref07_Right.f k ab ac ad ae).bind fun aO=>(exerguelaw12_PlurLess.j0 k l0 ak (!aO) ab ac ad ae)))) else (exerguelaw12_PlurLess.j0 k l0 ak true ab ac ad ae))) else (exerguelaw12_PlurLess.j0 k l0 ak true ab ac ad ae)))
theorem exerguelaw12_PlurLess.mono_l:∀ k,(∀ y0 y1 y2 y3 y4 y5 y6,LeO (exerguelaw12_PlurLess.j0 k y0 y1 y2 y3 y4 y5 y6) (exerguelaw12_PlurLess.j0 (k+1) y0 y1 y2 y3 y4 y5 y6))
 | 0=>fun _ _ _ _ _ _ _ r h=>by simp [exerguelaw12_PlurLess.j0] at h
 | k+1=>by
  have ih0:=exerguelaw12_PlurLess.mono_l k
  ·intro y0 y1 y2 y3 y4 y5 y6
   unfold exerguelaw12_PlurLess.j0
   repeat' first|(with_reducible first|apply ih0|apply exerguelaw12_shown.mono|apply exergueref07_Right.mono|apply exergueref12_Right.mono|apply exergueref12_Short.mono|apply LeO.refl|apply LeO.none|refine LeO.ite ?_ ?_|refine LeO.bind ?_ (fun _=>?_))|apply ih0|apply exerguelaw12_shown.mono|apply exergueref07_Right.mono|apply exergueref12_Right.mono|apply exergueref12_Short.mono|apply LeO.none
theorem exerguelaw12_PlurLess.mono:∀ a0 a1 a2 a3 a4 k,LeO (exerguelaw12_PlurLess.f k a0 a1 a2 a3 a4) (exerguelaw12_PlurLess.f (k+1) a0 a1 a2 a3 a4):=by
 intro a0 a1 a2 a3 a4 k
 have ih0:=exerguelaw12_PlurLess.mono_l k
 unfold exerguelaw12_PlurLess.f
 repeat' first|(with_reducible first|apply ih0|apply exerguelaw12_shown.mono|apply exergueref07_Right.mono|apply exergueref12_Right.mono|apply exergueref12_Short.mono|apply LeO.refl|apply LeO.none|refine LeO.ite ?_ ?_|refine LeO.bind ?_ (fun _=>?_))|apply ih0|apply exerguelaw12_shown.mono|apply exergueref07_Right.mono|apply exergueref12_Right.mono|apply exergueref12_Short.mono|apply LeO.none
set_option maxHeartbeats 8000000 in
set_option maxRecDepth 100000 in
theorem exerguelaw12_PlurLess.calls (k:Nat)(A0:Option Addr)(c0:Nat)(l0:List (S65))(ax:Option Addr)(ay:Nat)(ab:List Int)(az:Option Addr)(aA:Nat)(ac:List Int)(ad:Int)(ae:Int)(r:Bool)(w:World)(hG:GL w)(hr0:Kd.C k65 w A0 l0.length l0)(hc0:l0.length≤c0)(aU:Kd.C (Kd.int .u8) w ax ab.length ab)(aV:ab.length≤ay)(aW:Kd.C (Kd.int .u8) w az ac.length ac)(aX:ac.length≤aA)(h:exerguelaw12_PlurLess.f k l0 ab ac ad ae=some r) :
  Calls Tryz.prog 10 #[.slice A0 l0.length c0,.agg #[.slice ax ab.length ay,.slice az ac.length aA,.int .i64 ad,.int .i64 ae]] w fun e w'=>e = .returned (.bool r)∧Below w.heap.size w w':=by
 have hu36:=Tryz.underlying36
 have HR0:=zS hr0
 have HC0:=zS hc0
 clear hr0 hc0
 have ar:=zS aU
 have au:=zS aV
 clear aU aV
 have av:=zS aW
 have aw:=zS aX
 clear aW aX
 have HB:=zS (Below.refl w.heap.size w)
 have HG:=zS hG
 clear hG
 have H:((exerguelaw12_shown.f k).bind fun ak=>((exergueref12_Short.f k l0).bind fun aP=>(if aP=true then ((exergueref12_Right.f k l0).bind fun aQ=>(if aQ=true then (if (l0.length:Int)=0 then (exerguelaw12_PlurLess.j0 k l0 ak true ab ac ad ae) else (if (wrap64 ((ab.length:Int)+(ac.length:Int)))>1000 then (exerguelaw12_PlurLess.j0 k l0 ak true ab ac ad ae) else ((exergueref07_Right.f k ab ac ad ae).bind fun aO=>(exerguelaw12_PlurLess.j0 k l0 ak (!aO) ab ac ad ae)))) else (exerguelaw12_PlurLess.j0 k l0 ak true ab ac ad ae))) else (exerguelaw12_PlurLess.j0 k l0 ak true ab ac ad ae))))=some r:=h
 clear h
 replace H:=Option.bind_eq_some_iff.mp H
 obtain ⟨ak,A30,H⟩:=H
 try dsimp only at H
 have A3:=zS A30
 clear A30
 have HC4:=zS H
 clear H
 go_enter Tryz.func10,Tryz.ntmps10
 have tok_0:=zA (show Aside0 (0=0) from ⟨rfl⟩)
 have tok_1:=zA (show Aside0 (1=1) from ⟨rfl⟩)
 go_upto_region 2 with (first|((with_reducible refine gate_dst (N:=3) rfl ?_);(try (refine gate_guard (by rfl) ?_;dsimp only));refine box_event ?hg (N:=3) ?hd (cs:=#[.slice ax ab.length ay,.slice az ac.length aA,.int .i64 ad,.int .i64 ae]) (t:=36) ?hr ?_;(case hd=>rfl);(case hg=>rfl);(case hr=>first|(go_simp;done)|(go_simp;rfl));intro al hg w5 hbox hb;have aa:=zS (hbox);have bF:=bg HB hg;replace HB:=bs HB hb;clear hb hbox hg)|((with_reducible refine gate_callee (f:=14) rfl ?_);refine gL (some 9) Tryz.func14 #[] ?_;(with_reducible refine (exerguelaw12_shown.calls k  ak _ ?side1 A3.out).mono ?_);(case side1=>refine GL.below HG.out ?_;exact bQ HB);rintro e w6 ⟨rfl,hb⟩;refine ⟨_,rfl,?_⟩;replace aa:=kb aa hb;replace HB:=bs HB hb;(try clear hb)))
 (try simp only [Act.put,sA,sB,sC])
 go_cut [37] (fun v37 wc=>∃ (kq:Nat) (aL:Bool),v37 = .bool aL∧Sd (exerguelaw12_PlurLess.j0 kq l0 ak aL ab ac ad ae=some r)∧Sd (kq≤k)∧Sd (wc.heap[al]?=some (.cells #[(.slice ax ab.length ay),(.slice az ac.length aA),.int .i64 ad,.int .i64 ae] 36 (0,0)))∧Sd (Below w.heap.size w wc))
 case first=>
  have H:=HC4.out
  clear HC4
  replace H:=Option.bind_eq_some_iff.mp H
  obtain ⟨aP,A70,H⟩:=H
  try dsimp only at H
  have A7:=zS A70
  clear A70
  by_cases c8:aP=true
  rotate_left
  ·replace c8:=Bool.eq_false_iff.mpr c8
   subst c8
   rw [if_neg (show ¬ (false=true) by decide)] at H
   have H':=zS H
   clear H
   go_wp2_with (first|((with_reducible refine gate_callee (f:=20) rfl ?_);refine gL (some 11) Tryz.func20 #[.slice A0 l0.length c0] ?_;(with_reducible refine (exergueref12_Short.calls k _ _ l0 false _ (cb HR0 HB) HC0.out A7.out).mono ?_);rintro e w' ⟨rfl,⟨nd,rfl⟩⟩;refine ⟨_,rfl,?_⟩))
   go_meet
   case rel=>exact ⟨_,(true),(by first|rfl|(simp;done)|(simp [*];done)),H',⟨by first|omega|exact Nat.le_refl _⟩,⟨ko aa⟩,⟨bQ HB⟩⟩
  subst c8
  rw [if_pos rfl] at H
  replace H:=Option.bind_eq_some_iff.mp H
  obtain ⟨aQ,A90,H⟩:=H
  try dsimp only at H
  have A9:=zS A90
  clear A90
  by_cases c10:aQ=true
  rotate_left
  ·replace c10:=Bool.eq_false_iff.mpr c10
   subst c10
   rw [if_neg (show ¬ (false=true) by decide)] at H
   have H':=zS H
   clear H
   go_wp2_with (first|((with_reducible refine gate_callee (f:=20) rfl ?_);refine gL (some 11) Tryz.func20 #[.slice A0 l0.length c0] ?_;(with_reducible refine (exergueref12_Short.calls k _ _ l0 true _ (cb HR0 HB) HC0.out A7.out).mono ?_);rintro e w' ⟨rfl,⟨nd,rfl⟩⟩;refine ⟨_,rfl,?_⟩)|(go_at_call 19;(with_reducible refine (exergueref12_Right.calls k _ _ l0 false _ ?side1 HC0.out A9.out).mono ?_);(case side1=>repeat (first|exact (Kd.C_below HR0.out (bQ HB))|(with_reducible refine Kd.C_alloc ?_ _)|(with_reducible refine Kd.C_drewN ?_ _)|(with_reducible refine Kd.C_drew ?_)));rintro e w20 ⟨rfl,hb⟩;replace aa:=kb aa hb;replace HB:=bs HB hb;(try clear hb)))
   go_meet
   case rel=>exact ⟨_,(true),(by first|rfl|(simp;done)|(simp [*];done)),H',⟨by first|omega|exact Nat.le_refl _⟩,⟨ko aa⟩,⟨bQ HB⟩⟩
  subst c10
  rw [if_pos rfl] at H
  by_cases c11:(l0.length:Int)=0
  ·rw [if_pos c11] at H
   have aB:((l0.length:Int) == 0)=true:=zH c11
   have aM:((l0.length:Int) != 0)=false:=zG c11
   clear c11
   (first|rw [aB]|(simp only [i64_w,i32_w];rw [aB])|rw [aM]|skip)
   have H':=zS H
   clear H
   go_wp2_with (first|((with_reducible refine gate_callee (f:=20) rfl ?_);refine gL (some 11) Tryz.func20 #[.slice A0 l0.length c0] ?_;(with_reducible refine (exergueref12_Short.calls k _ _ l0 true _ (cb HR0 HB) HC0.out A7.out).mono ?_);rintro e w' ⟨rfl,⟨nd,rfl⟩⟩;refine ⟨_,rfl,?_⟩)|(go_at_call 19;(with_reducible refine (exergueref12_Right.calls k _ _ l0 true _ ?side1 HC0.out A9.out).mono ?_);(case side1=>repeat (first|exact (Kd.C_below HR0.out (bQ HB))|(with_reducible refine Kd.C_alloc ?_ _)|(with_reducible refine Kd.C_drewN ?_ _)|(with_reducible refine Kd.C_drew ?_)));rintro e w12 ⟨rfl,hb⟩;replace aa:=kb aa hb;replace HB:=bs HB hb;(try clear hb)))
   go_meet
   case rel=>exact ⟨_,(true),(by first|rfl|(simp;done)|(simp [*];done)),H',⟨by first|omega|exact Nat.le_refl _⟩,⟨ko aa⟩,⟨bQ HB⟩⟩
  rw [if_neg c11] at H
  have aB:((l0.length:Int) == 0)=false:=zF c11
  have aM:((l0.length:Int) != 0)=true:=zI c11
  have be:¬ (l0=[]):=fun h_=>c11 (by rw [h_];rfl)
  (first|rw [aB]|(simp only [i64_w,i32_w];rw [aB])|rw [aM]|skip)
  by_cases c13:(wrap64 ((ab.length:Int)+(ac.length:Int)))>1000
  ·rw [if_pos c13] at H
   have aY:decide (1000<(wrap64 ((ab.length:Int)+(ac.length:Int))))=true:=zC c13
   clear c13
   have H':=zS H
   clear H
   go_wp2_with (first|((with_reducible refine gate_callee (f:=20) rfl ?_);refine gL (some 11) Tryz.func20 #[.slice A0 l0.length c0] ?_;(with_reducible refine (exergueref12_Short.calls k _ _ l0 true _ (cb HR0 HB) HC0.out A7.out).mono ?_);rintro e w' ⟨rfl,⟨nd,rfl⟩⟩;refine ⟨_,rfl,?_⟩)|(go_at_call 19;(with_reducible refine (exergueref12_Right.calls k _ _ l0 true _ ?side1 HC0.out A9.out).mono ?_);(case side1=>repeat (first|exact (Kd.C_below HR0.out (bQ HB))|(with_reducible refine Kd.C_alloc ?_ _)|(with_reducible refine Kd.C_drewN ?_ _)|(with_reducible refine Kd.C_drew ?_)));rintro e w14 ⟨rfl,hb⟩;replace aa:=kb aa hb;replace HB:=bs HB hb;(try clear hb);have bf:=blkc4 aa.out;have bh:=blkf4 aa.out))
   go_meet
   case rel=>exact ⟨_,(true),(by first|rfl|(simp;done)|(simp [*];done)),H',⟨by first|omega|exact Nat.le_refl _⟩,⟨ko aa⟩,⟨bQ HB⟩⟩
  rw [if_neg c13] at H
  have aY:decide (1000<(wrap64 ((ab.length:Int)+(ac.length:Int))))=false:=zD c13
  clear c13
  replace H:=Option.bind_eq_some_iff.mp H
  obtain ⟨aO,bi,H⟩:=H
  try dsimp only at H
  have A16:=zS bi
  clear bi
  have H':=zS H
  clear H
  go_wp2_with (first|((with_reducible refine gate_callee (f:=20) rfl ?_);refine gL (some 11) Tryz.func20 #[.slice A0 l0.length c0] ?_;(with_reducible refine (exergueref12_Short.calls k _ _ l0 true _ (cb HR0 HB) HC0.out A7.out).mono ?_);rintro e w' ⟨rfl,⟨nd,rfl⟩⟩;refine ⟨_,rfl,?_⟩)|(go_at_call 19;(with_reducible refine (exergueref12_Right.calls k _ _ l0 true _ ?side1 HC0.out A9.out).mono ?_);(case side1=>repeat (first|exact (Kd.C_below HR0.out (bQ HB))|(with_reducible refine Kd.C_alloc ?_ _)|(with_reducible refine Kd.C_drewN ?_ _)|(with_reducible refine Kd.C_drew ?_)));rintro e w17 ⟨rfl,hb⟩;replace aa:=kb aa hb;replace HB:=bs HB hb;(try clear hb);have bj:=blkc4 aa.out;have bk:=blkf4 aa.out)|(go_at_call 26;(with_reducible refine (exergueref07_Right.calls k _ _ ab _ _ ac ad ae aO _ (cb ar HB) au.out (cb av HB) aw.out A16.out).mono ?_);rintro e w19 ⟨rfl,hb⟩;replace aa:=kb aa hb;replace HB:=bs HB hb;(try clear hb);(try clear hb2);(try clear hk);(try clear hi)))
  go_meet
  case rel=>exact ⟨_,(!aO),(by first|rfl|(simp;done)|(simp [*];done)),H',⟨by first|omega|exact Nat.le_refl _⟩,⟨ko aa⟩,⟨bQ HB⟩⟩
 case rest=>
  clear HC4
  try clear c1
  try clear c2
  try clear p2
  try clear p6
  try clear c8
  try clear c10
  try clear c11
  try clear aB
  try clear aM
  try clear be
  try clear c13
  try clear aY
  try clear c14
  try clear c20
  try clear bf
  try clear bj
  try clear bh
  try clear bk
  obtain ⟨kq,aL,rfl,HA,HJ3,aa,HB⟩:=hcut
  cases kq with
  | zero=>exact absurd HA.out (by simp [exerguelaw12_PlurLess.j0])
  | succ kj3=>
   have H:=HA.out
   clear HA
   simp only [exerguelaw12_PlurLess.j0] at H
   by_cases c21:aL=true
   ·subst c21
    rw [if_pos rfl] at H
    obtain rfl:=zE H
    go_wp2
    go_ret
    exact ⟨by first|rfl|(simp <;> rfl)|(simp [*] <;> rfl),bQ HB⟩
   replace c21:=Bool.eq_false_iff.mpr c21
   subst c21
   rw [if_neg (show ¬ (false=true) by decide)] at H
   replace H:=Option.bind_eq_some_iff.mp H
   obtain ⟨aj,bm,H⟩:=H
   try dsimp only at H
   have A22:=zS bm
   clear bm
   obtain ⟨af,aC⟩:∃ j_:Int,(wrap64 ((l0.length:Int) - 1))=j_:=⟨_,rfl⟩
   replace H:(if 0≤(af) then (if (af)≤(l0.length:Int) then ((plur_Of.f (l0.take ((af):Int).toNat) ab ac ad ae).bind fun ah=>(if ak=true then (if (af)<(l0.length:Int) then (if aj=((rd_T65 l0 (af)).f0) then (if ah=0 then ((plur_Of.f ([]:List (S65)) ab ac ad ae).bind fun aH=>(some (aH == 0))) else (none)) else (if ah=aj then ((plur_Of.f ([]:List (S65)) ab ac ad ae).bind fun aI=>(some (aI == 0))) else (none))) else (none)) else (none))) else (none)) else (none))=some r:=by first|(rw [aC] at H;exact H)|(simp only [aC] at H ⊢;exact H)
   (try rw [aC] at A22)
   have bB:(IntKind.i64.wrap ((l0.length:Int) - 1))=af:=(i64_w _).trans aC
   by_cases c24:0≤(af)
   rotate_left
   ·rw [if_neg c24] at H
    exact absurd H (by simp)
   rw [if_pos c24] at H
   have bG:=eq_true c24
   have bH:=zC c24
   clear c24
   by_cases c25:(af)≤(l0.length:Int)
   rotate_left
   ·rw [if_neg c25] at H
    exact absurd H (by simp)
   rw [if_pos c25] at H
   have bI:=eq_true c25
   have bJ:=zC c25
   clear c25
   obtain ⟨aD,aF⟩:∃ y_:List (S65),y_=(l0.take ((af):Int).toNat):=⟨_,rfl⟩
   replace H:((plur_Of.f aD ab ac ad ae).bind fun ah=>(if ak=true then (if (af)<(l0.length:Int) then (if aj=((rd_T65 l0 (af)).f0) then (if ah=0 then ((plur_Of.f ([]:List (S65)) ab ac ad ae).bind fun aH=>(some (aH == 0))) else (none)) else (if ah=aj then ((plur_Of.f ([]:List (S65)) ab ac ad ae).bind fun aI=>(some (aI == 0))) else (none))) else (none)) else (none)))=some r:=by first|(rw [aF];with_reducible exact H)|(have H2_:=(Option.bind_some _ _).symm.trans H;rw [aF];with_reducible exact H2_)|(have H2_:=(Option.bind_some _ _).symm.trans H;with_reducible exact H2_)|with_reducible exact H|(rw [aF];exact H)|exact H
   have aN:=zS aF
   clear aF
   replace H:=Option.bind_eq_some_iff.mp H
   obtain ⟨ah,bn,H⟩:=H
   try dsimp only at H
   have A26:=zS bn
   clear bn
   by_cases c27:ak=true
   rotate_left
   ·replace c27:=Bool.eq_false_iff.mpr c27
    subst c27
    rw [if_neg (show ¬ (false=true) by decide)] at H
    exact absurd H (by simp)
   subst c27
   rw [if_pos rfl] at H
   by_cases c28:(af)<(l0.length:Int)
   rotate_left
   ·rw [if_neg c28] at H
    exact absurd H (by simp)
   rw [if_pos c28] at H
   have bK:=zC c28
   clear c28
   by_cases c29:aj=((rd_T65 l0 (af)).f0)
   ·rw [if_pos c29] at H
    have bo:(aj == ((rd_T65 l0 (af)).f0))=true:=zH c29
    have bp:(aj != ((rd_T65 l0 (af)).f0))=false:=zG c29
    clear c29
    by_cases c30:ah=0
    rotate_left
    ·rw [if_neg c30] at H
     have bq:(ah == 0)=false:=zF c30
     have br:(ah != 0)=true:=zI c30
     exact absurd H (by simp)
    rw [if_pos c30] at H
    have bq:(ah == 0)=true:=zH c30
    have br:(ah != 0)=false:=zG c30
    clear c30
    replace H:=Option.bind_eq_some_iff.mp H
    obtain ⟨aH,bu,H⟩:=H
    try dsimp only at H
    have A31:=zS bu
    clear bu
    obtain rfl:=zE H
    have bL:=blkc4 aa.out
    have bM:=blkf4 aa.out
    try go_wp2_with (first|((with_reducible refine gate_callee (f:=27) rfl ?_);refine gL (some 44) Tryz.func27 #[.slice A0 l0.length c0,.agg #[.slice ax ab.length ay,.slice az ac.length aA,.int .i64 ad,.int .i64 ae]] ?_;(with_reducible refine (plur_Of.calls _ _ l0 _ _ ab _ _ ac ad ae aj _ ?side7 (cb HR0 HB) HC0.out (cb ar HB) au.out (cb av HB) aw.out A22.out).mono ?_);(case side7=>refine GL.below HG.out ?_;exact bQ HB);rintro e w33 ⟨rfl,hb⟩;refine ⟨_,rfl,?_⟩;replace aa:=kb aa hb;replace HB:=bs HB hb;(try clear hb)))
    replace aa:=zS (blk_drew aa.out)
    replace HB:=zS (below_drew1 HB.out)
    have q35:((af):Int)≤((l0.length:Int):Int):=zB (by first|(with_reducible assumption)|assumption)
    obtain ⟨i035,hi035,_,hsz35,_⟩:=info_parts info65
    have hroom35:l0.length≤c0:=HC0.out
    have hC35:Kd.C k65 _ A0 l0.length l0:=HR0.out
    have hcut35:=cut_to (P:=Tryz.prog) 28 65 .i64 Tryz.underlying28 hi035 A0 l0.length c0 (af) (zB (by first|(with_reducible assumption)|assumption)) q35 hroom35
    have a5:=Kd.C_take (m:=((af):Int).toNat) hC35 (by omega)
    have a6:aD.length=((af):Int).toNat:=(by rw [aN.out,List.length_take];omega)
    rw [← aN.out] at a5
    rw [← a6] at hcut35
    have aG:=zS a5
    have aR:=zS (show aD.length≤c0 from by omega)
    clear a5 hC35 hroom35 hi035 hsz35
    have KY35:=zS a6
    clear a6
    replace q35:=eq_true q35
    refine start_ (n:=6) (S:=fun w'=>w'.cell? ⟨al,0,none⟩=some (.slice ax ab.length ay)∧w'.cell? ⟨al,1,none⟩=some (.slice az ac.length aA)∧w'.cell? ⟨al,2,none⟩=some (.int .i64 ad)∧w'.cell? ⟨al,3,none⟩=some (.int .i64 ae)) (ds:=[]) (bZ 6 0) (by kernel_rfl) rfl (by kernel_rfl) ⟨(blk_cell aa.out 0).trans rfl,(blk_cell aa.out 1).trans rfl,(blk_cell aa.out 2).trans rfl,(blk_cell aa.out 3).trans rfl⟩ (fun hHeld=>?_)
    generalize w33.drew=w34 at aa HB aG hHeld ⊢
    refine pure_ (i:=0) (N:=some 45) (v:=?_) (a':=?_) (bZ 6 1) rfl rfl (by kernel_rfl) (fun _ _ _ h=>h) (Or.inl ⟨by rfl,?_⟩) ?_ ?_
    rotate_left
    ·intro w'
     go_simp
     with_reducible rfl
    rotate_left
    ·simp only [Act.put,sA,sB,sC,i64_w,i32_w]
     rfl
    refine pure_ (i:=1) (N:=some 46) (v:=?_) (a':=?_) (bZ 6 3) rfl rfl (by kernel_rfl) (fun _ _ _ h=>h) (Or.inl ⟨by rfl,?_⟩) ?_ ?_
    rotate_left
    ·intro w'
     go_simp
     with_reducible rfl
    rotate_left
    ·simp only [Act.put,sA,sB,sC,i64_w,i32_w]
     rfl
    refine pure_ (i:=2) (N:=some 47) (v:=?_) (a':=?_) (bZ 6 7) rfl rfl (by kernel_rfl) (fun _ _ _ h=>h) (Or.inl ⟨by rfl,?_⟩) ?_ ?_
    rotate_left
    ·intro w'
     go_simp
     with_reducible rfl
    rotate_left
    ·simp only [Act.put,sA,sB,sC,i64_w,i32_w]
     rfl
    refine take_ (i:=3) (N:=some 48) (v:=?_) (a':=?_) (bZ 6 15) rfl rfl (by kernel_rfl) (fun _ _ _ h=>h) (Or.inl ⟨by rfl,?_⟩) hHeld ?_ ?_
    rotate_left
    ·rintro w' ⟨s0,s1,s2,s3⟩
     go_simp
     with_reducible rfl
    rotate_left
    ·simp only [Act.put,sA,sB,sC,i64_w,i32_w]
     rfl
    refine one_ (i:=4) (N:=some 49) (bZ 6 31) rfl rfl (by kernel_rfl) (by decide) (fun K hK=>?_)
    refine goes_ Tryz.func27 (by kernel_rfl) rfl #[.slice A0 aD.length c0,.agg #[.slice ax ab.length ay,.slice az ac.length aA,.int .i64 ad,.int .i64 ae]] (by rfl) rfl rfl (by (try simp only [mA,mB,mC]);first|done|rfl|(simp only [lD,lT];rfl)) ?_
    with_reducible refine (plur_Of.calls _ _ aD _ _ ab _ _ ac ad ae ah _ ?side7 ?side1 ?side2 ?side3 ?side4 ?side5 ?side6 A26.out).mono ?_
    (case side1=>exact Kd.C_below aG.out (bQ HB))
    (case side2=>exact aR.out)
    (case side3=>exact Kd.C_below ar.out (bQ HB))
    (case side4=>exact au.out)
    (case side5=>exact Kd.C_below av.out (bQ HB))
    (case side6=>exact aw.out)
    (case side7=>refine GL.below HG.out ?_;exact bQ HB)
    rintro e w36 ⟨rfl,hb⟩
    refine ⟨_,rfl,?_⟩
    replace aa:=kb aa hb
    replace HB:=bs HB hb
    (try clear hb)
    (try clear hb2)
    (try clear hk)
    (try clear hi)
    refine hK.out _ _ ⟨(blk_cell aa.out 0).trans rfl,(blk_cell aa.out 1).trans rfl,(blk_cell aa.out 2).trans rfl,(blk_cell aa.out 3).trans rfl⟩ (fun hHeld=>?_)
    clear hK K
    refine norm_ (a':=?_) ?_ ?_
    rotate_left
    ·show Act.put _ (some 49) _=_
     simp only [Act.put,sA,sB,sC,i64_w,i32_w]
     rfl
    refine pure_ (i:=5) (N:=some 8) (v:=?_) (a':=?_) (bZ 6 63) rfl rfl (by kernel_rfl) (fun _ _ _ h=>h) (Or.inl ⟨by rfl,?_⟩) ?_ ?_
    rotate_left
    ·intro w'
     go_simp
     with_reducible rfl
    rotate_left
    ·simp only [Act.put,sA,sB,sC,i64_w,i32_w]
     rfl
    refine done_ (by kernel_rfl) ?_
    have aJ:0≤((af):Int):=zB (by first|(with_reducible assumption)|assumption)
    have aK:(af)<(l0.length:Int):=zB (by first|(with_reducible assumption)|assumption)
    obtain ⟨aZ,a7,a8,a9,ai,ag,hl551_1,hi551_1⟩:=at_T65 HR0.out (af) aJ aK
    cases a9
    replace ai:=(HB.out.cell (World.block_lt_of_cell? w _ ai)).trans ai
    replace ag:=(HB.out.cell (World.block_lt_of_cell? w _ ag)).trans ag
    have aS:=zS hi551_1
    have aT:=zS hl551_1
    clear hi551_1 hl551_1
    replace aJ:=eq_true aJ
    replace aK:=eq_true aK
    have bN:=blkc4 aa.out
    have bO:=blkf4 aa.out
    try go_wp2_with (first|(go_at_call 27;clear tok_0;(refine (plur_Of.calls _ _ ([]:List (S65)) _ _ ab _ _ ac ad ae aH _ ?side7 ?side1 ?side2 (cb ar HB) au.out (cb av HB) aw.out A31.out).mono ?_);(case side1=>exact Kd.C_nil _ _);(case side2=>exact Nat.le_refl _);(case side7=>refine GL.below HG.out ?_;exact bQ HB);rintro e w38 ⟨rfl,hb⟩;replace aa:=kb aa hb;replace HB:=bs HB hb;(try clear hb)))
    go_ret
    exact ⟨by first|rfl|(simp <;> rfl)|(simp only [← aC];first|rfl|(simp <;> rfl))|(simp [*] <;> rfl),bQ HB⟩
   rw [if_neg c29] at H
   have bo:(aj == ((rd_T65 l0 (af)).f0))=false:=zF c29
   have bp:(aj != ((rd_T65 l0 (af)).f0))=true:=zI c29
   by_cases c39:ah=aj
   rotate_left
   ·rw [if_neg c39] at H
    exact absurd H (by simp)
   rw [if_pos c39] at H
   have bP:(ah == aj)=true:=zH c39
   have bR:(ah != aj)=false:=zG c39
   clear c39
   replace H:=Option.bind_eq_some_iff.mp H
   obtain ⟨aI,bv,H⟩:=H
   try dsimp only at H
   have A40:=zS bv
   clear bv
   obtain rfl:=zE H
   have bS:=blkc4 aa.out
   have bT:=blkf4 aa.out
   try go_wp2_with (first|((with_reducible refine gate_callee (f:=27) rfl ?_);refine gL (some 44) Tryz.func27 #[.slice A0 l0.length c0,.agg #[.slice ax ab.length ay,.slice az ac.length aA,.int .i64 ad,.int .i64 ae]] ?_;(with_reducible refine (plur_Of.calls _ _ l0 _ _ ab _ _ ac ad ae aj _ ?side7 (cb HR0 HB) HC0.out (cb ar HB) au.out (cb av HB) aw.out A22.out).mono ?_);(case side7=>refine GL.below HG.out ?_;exact bQ HB);rintro e w42 ⟨rfl,hb⟩;refine ⟨_,rfl,?_⟩;replace aa:=kb aa hb;replace HB:=bs HB hb;(try clear hb)))
   replace aa:=zS (blk_drew aa.out)
   replace HB:=zS (below_drew1 HB.out)
   have q44:((af):Int)≤((l0.length:Int):Int):=zB (by first|(with_reducible assumption)|assumption)
   obtain ⟨i044,hi044,_,hsz44,_⟩:=info_parts info65
   have hroom44:l0.length≤c0:=HC0.out
   have hC44:Kd.C k65 _ A0 l0.length l0:=HR0.out
   have hcut44:=cut_to (P:=Tryz.prog) 28 65 .i64 Tryz.underlying28 hi044 A0 l0.length c0 (af) (zB (by first|(with_reducible assumption)|assumption)) q44 hroom44
   have ba:=Kd.C_take (m:=((af):Int).toNat) hC44 (by omega)
   have bb:aD.length=((af):Int).toNat:=(by rw [aN.out,List.length_take];omega)
   rw [← aN.out] at ba
   rw [← bb] at hcut44
   have aG:=zS ba
   have aR:=zS (show aD.length≤c0 from by omega)
   clear ba hC44 hroom44 hi044 hsz44
   have KY44:=zS bb
   clear bb
   replace q44:=eq_true q44
   refine start_ (n:=6) (S:=fun w'=>w'.cell? ⟨al,0,none⟩=some (.slice ax ab.length ay)∧w'.cell? ⟨al,1,none⟩=some (.slice az ac.length aA)∧w'.cell? ⟨al,2,none⟩=some (.int .i64 ad)∧w'.cell? ⟨al,3,none⟩=some (.int .i64 ae)) (ds:=[]) (bZ 6 0) (by kernel_rfl) rfl (by kernel_rfl) ⟨(blk_cell aa.out 0).trans rfl,(blk_cell aa.out 1).trans rfl,(blk_cell aa.out 2).trans rfl,(blk_cell aa.out 3).trans rfl⟩ (fun hHeld=>?_)
   generalize w42.drew=w43 at aa HB aG hHeld ⊢
   refine pure_ (i:=0) (N:=some 45) (v:=?_) (a':=?_) (bZ 6 1) rfl rfl (by kernel_rfl) (fun _ _ _ h=>h) (Or.inl ⟨by rfl,?_⟩) ?_ ?_
   rotate_left
   ·intro w'
    go_simp
    with_reducible rfl
   rotate_left
   ·simp only [Act.put,sA,sB,sC,i64_w,i32_w]
    rfl
   refine pure_ (i:=1) (N:=some 46) (v:=?_) (a':=?_) (bZ 6 3) rfl rfl (by kernel_rfl) (fun _ _ _ h=>h) (Or.inl ⟨by rfl,?_⟩) ?_ ?_
   rotate_left
   ·intro w'
    go_simp
    with_reducible rfl
   rotate_left
   ·simp only [Act.put,sA,sB,sC,i64_w,i32_w]
    rfl
   refine pure_ (i:=2) (N:=some 47) (v:=?_) (a':=?_) (bZ 6 7) rfl rfl (by kernel_rfl) (fun _ _ _ h=>h) (Or.inl ⟨by rfl,?_⟩) ?_ ?_
   rotate_left
   ·intro w'
    go_simp
    with_reducible rfl
   rotate_left
   ·simp only [Act.put,sA,sB,sC,i64_w,i32_w]
    rfl
   refine take_ (i:=3) (N:=some 48) (v:=?_) (a':=?_) (bZ 6 15) rfl rfl (by kernel_rfl) (fun _ _ _ h=>h) (Or.inl ⟨by rfl,?_⟩) hHeld ?_ ?_
   rotate_left
   ·rintro w' ⟨s0,s1,s2,s3⟩
    go_simp
    with_reducible rfl
   rotate_left
   ·simp only [Act.put,sA,sB,sC,i64_w,i32_w]
    rfl
   refine one_ (i:=4) (N:=some 49) (bZ 6 31) rfl rfl (by kernel_rfl) (by decide) (fun K hK=>?_)
   refine goes_ Tryz.func27 (by kernel_rfl) rfl #[.slice A0 aD.length c0,.agg #[.slice ax ab.length ay,.slice az ac.length aA,.int .i64 ad,.int .i64 ae]] (by rfl) rfl rfl (by (try simp only [mA,mB,mC]);first|done|rfl|(simp only [lD,lT];rfl)) ?_
   with_reducible refine (plur_Of.calls _ _ aD _ _ ab _ _ ac ad ae ah _ ?side7 ?side1 ?side2 ?side3 ?side4 ?side5 ?side6 A26.out).mono ?_
   (case side1=>exact Kd.C_below aG.out (bQ HB))
   (case side2=>exact aR.out)
   (case side3=>exact Kd.C_below ar.out (bQ HB))
   (case side4=>exact au.out)
   (case side5=>exact Kd.C_below av.out (bQ HB))
   (case side6=>exact aw.out)
   (case side7=>refine GL.below HG.out ?_;exact bQ HB)
   rintro e w45 ⟨rfl,hb⟩
   refine ⟨_,rfl,?_⟩
   replace aa:=kb aa hb
   replace HB:=bs HB hb
   (try clear hb)
   (try clear hb2)
   (try clear hk)
   (try clear hi)
   refine hK.out _ _ ⟨(blk_cell aa.out 0).trans rfl,(blk_cell aa.out 1).trans rfl,(blk_cell aa.out 2).trans rfl,(blk_cell aa.out 3).trans rfl⟩ (fun hHeld=>?_)
   clear hK K
   refine norm_ (a':=?_) ?_ ?_
   rotate_left
   ·show Act.put _ (some 49) _=_
    simp only [Act.put,sA,sB,sC,i64_w,i32_w]
    rfl
   refine pure_ (i:=5) (N:=some 8) (v:=?_) (a':=?_) (bZ 6 63) rfl rfl (by kernel_rfl) (fun _ _ _ h=>h) (Or.inl ⟨by rfl,?_⟩) ?_ ?_
   rotate_left
   ·intro w'
    go_simp
    with_reducible rfl
   rotate_left
   ·simp only [Act.put,sA,sB,sC,i64_w,i32_w]
    rfl
   refine done_ (by kernel_rfl) ?_
   have aJ:0≤((af):Int):=zB (by first|(with_reducible assumption)|assumption)
   have aK:(af)<(l0.length:Int):=zB (by first|(with_reducible assumption)|assumption)
   obtain ⟨aZ,a7,a8,a9,ai,ag,hl551_1,hi551_1⟩:=at_T65 HR0.out (af) aJ aK
   cases a9
   replace ai:=(HB.out.cell (World.block_lt_of_cell? w _ ai)).trans ai
   replace ag:=(HB.out.cell (World.block_lt_of_cell? w _ ag)).trans ag
   have aS:=zS hi551_1
   have aT:=zS hl551_1
   clear hi551_1 hl551_1
   replace aJ:=eq_true aJ
   replace aK:=eq_true aK
   have bc:0≤((af):Int):=zB (by first|(with_reducible assumption)|assumption)
   have bd:(af)<(l0.length:Int):=zB (by first|(with_reducible assumption)|assumption)
   obtain ⟨bw,bC,bD,bE,aE,aq,hl554_1,hi554_1⟩:=at_T65 HR0.out (af) bc bd
   obtain rfl:aZ=bw:=(by injection bE)
   replace aE:=(HB.out.cell (World.block_lt_of_cell? w _ aE)).trans aE
   replace aq:=(HB.out.cell (World.block_lt_of_cell? w _ aq)).trans aq
   have bx:=zS hi554_1
   have bA:=zS hl554_1
   clear hi554_1 hl554_1
   replace bc:=eq_true bc
   replace bd:=eq_true bd
   try (have ea_:=zE (ag.symm.trans aq);injection ea_ with ea_ en_ ec_;subst ea_;subst ec_;clear en_)
   have bU:=blkc4 aa.out
   have bV:=blkf4 aa.out
   try go_wp2_with (first|(go_at_call 27;clear tok_1;(refine (plur_Of.calls _ _ ([]:List (S65)) _ _ ab _ _ ac ad ae aI _ ?side7 ?side1 ?side2 (cb ar HB) au.out (cb av HB) aw.out A40.out).mono ?_);(case side1=>exact Kd.C_nil _ _);(case side2=>exact Nat.le_refl _);(case side7=>refine GL.below HG.out ?_;exact bQ HB);rintro e w47 ⟨rfl,hb⟩;replace aa:=kb aa hb;replace HB:=bs HB hb;(try clear hb)))
   go_ret
   exact ⟨by first|rfl|(simp <;> rfl)|(simp only [← aC];first|rfl|(simp <;> rfl))|(simp [*] <;> rfl),bQ HB⟩
end Go.Proofs.YtgfajgkjbckkgaaGreatDoor.PZ
end
end
section
set_option maxRecDepth 100000
namespace Go.Proofs.YtgfajgkjbckkgaaGreatDoor.PZ
open Go.RowKit Go.Proofs.YtgfajgkjbckkgaaGreatDoorW.PrintWords Go.Proofs.YtgfajgkjbckkgaaGreatDoorW.PrintLast
theorem pless_off (L:List Ru)(i f:List Int)(w c:Int):Ev (fun k=>exerguelaw12_PlurLess.j0 k L true true i f w c) true:=by
 refine Ev_shift ?_
 simp only [exerguelaw12_PlurLess.j0,if_true]
 exact Ev.now _
theorem pless_on {i f:List Int}{w c:Int}(hok:OpOk i f w c)(m:List Ru)(x:Ru)(hn:m.length≤140737488355328)(hr:rightR 0 (m ++ [x])=true):Ev (fun k=>exerguelaw12_PlurLess.j0 k (m ++ [x]) true false i f w c) true:=by
 have hg:=rightR_good hr
 have hgm:∀ y ∈ m,GoodC y.f1:=fun y hy=>hg y (by simp [hy])
 have e1:wrap64 (((m ++ [x]).length:Int) - 1)=(m.length:Int):=by
  have h:(((m ++ [x]).length:Nat):Int)=(m.length:Int)+1:=by simp
  rw [h,w64 _ (by omega) (by omega)];omega
 have e2:(m ++ [x]).take (m.length:Int).toNat=m:=by simp
 have e3:rd_T65 (m ++ [x]) (m.length:Int)=x:=by rw [rd65 (by simp)];simp
 have q1:(0:Int)≤(m.length:Int):=by omega
 have q2:(m.length:Int)≤((m ++ [x]).length:Int):=by simp;omega
 have q3:(m.length:Int)<((m ++ [x]).length:Int):=by simp;omega
 have h0:=plurOf_f hok (l:=[]) (by simp)
 obtain ⟨b1,b2⟩:=catX_snoc i f w c m x 0 hr (by decide)
 refine Ev_shift ?_
 simp only [exerguelaw12_PlurLess.j0,Bool.false_eq_true,if_false,plurOf_f hok hg,Option.bind_some,e1,if_pos q1,if_pos q2,e2,plurOf_f hok hgm,if_true,if_pos q3,e3,h0,catX_nil,beq_self_eq_true]
 by_cases ht:catX i f w c (m ++ [x])=x.f0
 ·have hz:catX i f w c m=0:=by
   by_cases h:catX i f w c m=0
   · exact h
   have:=b1 h;omega
  simp only [if_pos ht,if_pos hz]
  exact Ev.now _
 have hz:catX i f w c m=catX i f w c (m ++ [x]):=by
  by_cases h:catX i f w c m=0
  ·have h2:=b2 h
   by_cases hc:condX i f w c x.f1=true
   · rw [if_pos hc] at h2;exact absurd h2 ht
   rw [if_neg hc] at h2;rw [h,h2]
  exact (b1 h).1.symm
 simp only [if_neg ht,if_pos hz]
 exact Ev.now _
theorem Pure.PlurLess:∀ (x0:List S65) (x1_0:List Int) (x1_1:List Int) (x1_2:Int) (x1_3:Int),OkRus x0→x1_0.length * 1≤140737488351232→(∀ b_ ∈ x1_0,(Lit.int .u8 b_).wf=true)→x1_1.length * 1≤140737488351232→(∀ b_ ∈ x1_1,(Lit.int .u8 b_).wf=true)→(Lit.int .i64 x1_2).wf=true→(Lit.int .i64 x1_3).wf=true→∃ k,exerguelaw12_PlurLess.f k x0 x1_0 x1_1 x1_2 x1_3=some true:=by
 intro L i f w c hL hi bi hf bf hw hc
 refine Ev.rounds ?_
 unfold exerguelaw12_PlurLess.f
 refine Ev.bind shown12_ev ?_
 have off:=pless_off L i f w c
 obtain ⟨s1,S1,P1⟩:=shortR_ev hL.len.1 hL.len.2
 refine Ev.bind S1 ?_
 cases s1 with
 | false=>simp only [Bool.false_eq_true,if_false];exact off
 | true=>
  have hT:∀ x ∈ L,TxtOk x.f1:=fun x hx=>((P1 rfl).2 x hx).txt (hL.2 x hx).2
  simp only [if_true]
  refine Ev.bind (refRight12_ev hT hL.len.1 hL.len.2) ?_
  cases hr:rightR 0 L with
  | false=>simp only [Bool.false_eq_true,if_false];exact off
  | true=>
   simp only [if_true]
   by_cases h0:(L.length:Int)=0
   · simp only [if_pos h0];exact off
   simp only [if_neg h0]
   have wl:wrap64 ((i.length:Int)+(f.length:Int))=(i.length:Int)+(f.length:Int):=w64 _ (by omega) (by omega)
   rw [wl]
   by_cases hl:(i.length:Int)+(f.length:Int)>1000
   · simp only [if_pos hl];exact off
   simp only [if_neg hl]
   refine Ev.bind (refRight_ev i f w c (by omega) (by omega)) ?_
   by_cases ho:RightO i f w c
   ·have hok:OpOk i f w c:=⟨ho,bi,bf,by omega,by omega⟩
    simp only [zC ho,Bool.not_true]
    have hne:L≠[]:=by intro h;subst h;exact h0 rfl
    have hn:=hL.len.2
    rw [← List.dropLast_concat_getLast hne] at hr ⊢
    exact pless_on hok _ _ (by rw [List.length_dropLast];omega) hr
   simp only [zD ho,Bool.not_false]
   exact off
end Go.Proofs.YtgfajgkjbckkgaaGreatDoor.PZ
end
