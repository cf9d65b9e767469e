/- Texts of this seat, joined. Conditions: none beyond each statement's own. -/
import Derived.Test.YtgfajgkjbckkgaaGreatDoorPa25
set_option linter.all false
section
noncomputable section
namespace Go.Proofs.YtgfajgkjbckkgaaGreatDoor.PZ
open Go.RowKit Go.Proofs.YtgfajgkjbckkgaaGreatDoorW.PrintWords Go.Proofs.YtgfajgkjbckkgaaGreatDoorW.PrintLast Go.Proofs.YtgfajgkjbckkgaaGreatDoorW.PrintMore
attribute [local go_sem] max2_int min2_int max_two min_two max_three min_three max_four min_four   -- for this text's walks alone
set_option linter.unusedVariables false
set_option linter.unusedSimpArgs false
mutual
def exerguelaw11_RuleTells.j0:Nat→List (List (S60))→List (List (S60))→Bool→Bool→List Int→List Int→Int→Int→Option (Bool)
 | 0,_,_,_,_,_,_,_,_=>none
 | k+1,x0,x1,x7,x27,af,ag,ah,ai=>if x27=true then (some x7) else ((exergueref11_Right.f k x0).bind fun ak=>((rule_Right.f k x0).bind fun al=>(if (al != ak)=true then (exerguelaw11_RuleTells.j1 k x0 x7 ak true af ag ah ai) else ((rule_Same.f x0 x1).bind fun aD=>((exergueref11_Same.f k x0 x1).bind fun aG=>(exerguelaw11_RuleTells.j1 k x0 x7 ak (aD != aG) af ag ah ai))))))
def exerguelaw11_RuleTells.j1:Nat→List (List (S60))→Bool→Bool→Bool→List Int→List Int→Int→Int→Option (Bool)
 | 0,_,_,_,_,_,_,_,_=>none
 | k+1,x0,x7,x8,x43,af,ag,ah,ai=>if x43=true then (none) else (if x8=true then (if x7=true then ((rule_Text.f k x0).bind fun au=>((exergueref11_Text.f k x0).bind fun av=>(if au.toList=av.toList then ((exergueref07_Right.f k af ag ah ai).bind fun aO=>(if aO=true then ((rule_Holds.f x0 af ag ah ai).bind fun aP=>((exergueref11_Holds.f k x0 af ag ah ai).bind fun aQ=>(some (aP == aQ)))) else (some true))) else (none)))) else (none)) else (some x7))
end
def exerguelaw11_RuleTells.f (k:Nat)(l0:List (List (S60)))(l1:List (List (S60)))(ab:List Int)(ac:List Int)(ad:Int)(ae:Int):Option (Bool):=(exerguelaw11_shown.f k).bind fun am=>((exergueref11_Short.f k l0).bind fun aE=>(if aE=true then ((exergueref11_Short.f k l1).bind fun aF=>(if aF=true then (exerguelaw11_RuleTells.j0 k l0 l1 am (decide ((wrap64 ((ab.length:Int)+(ac.length:Int)))>1000)) ab ac ad ae) else (exerguelaw11_RuleTells.j0 k l0 l1 am true ab ac ad ae))) else (exerguelaw11_RuleTells.j0 k l0 l1 am true ab ac ad ae)))
theorem exerguelaw11_RuleTells.mono_l:∀ k,(∀ y0 y1 y2 y3 y4 y5 y6 y7,LeO (exerguelaw11_RuleTells.j0 k y0 y1 y2 y3 y4 y5 y6 y7) (exerguelaw11_RuleTells.j0 (k+1) y0 y1 y2 y3 y4 y5 y6 y7))∧(∀ y0 y1 y2 y3 y4 y5 y6 y7,LeO (exerguelaw11_RuleTells.j1 k y0 y1 y2 y3 y4 y5 y6 y7) (exerguelaw11_RuleTells.j1 (k+1) y0 y1 y2 y3 y4 y5 y6 y7))
 | 0=>⟨fun _ _ _ _ _ _ _ _ r h=>by simp [exerguelaw11_RuleTells.j0] at h,fun _ _ _ _ _ _ _ _ r h=>by simp [exerguelaw11_RuleTells.j1] at h⟩
 | k+1=>by
  obtain ⟨ih0,ih1⟩:=exerguelaw11_RuleTells.mono_l k
  refine ⟨?_,?_⟩
  ·intro y0 y1 y2 y3 y4 y5 y6 y7
   unfold exerguelaw11_RuleTells.j0
   repeat' first|(with_reducible first|apply ih0|apply ih1|apply exerguelaw11_shown.mono|apply exergueref07_Right.mono|apply exergueref11_Holds.mono|apply exergueref11_Right.mono|apply exergueref11_Same.mono|apply exergueref11_Short.mono|apply exergueref11_Text.mono|apply rule_Right.mono|apply rule_Text.mono|apply LeO.refl|apply LeO.none|refine LeO.ite ?_ ?_|refine LeO.bind ?_ (fun _=>?_))|apply ih0|apply ih1|apply exerguelaw11_shown.mono|apply exergueref07_Right.mono|apply exergueref11_Holds.mono|apply exergueref11_Right.mono|apply exergueref11_Same.mono|apply exergueref11_Short.mono|apply exergueref11_Text.mono|apply rule_Right.mono|apply rule_Text.mono|apply LeO.none
  ·intro y0 y1 y2 y3 y4 y5 y6 y7
   unfold exerguelaw11_RuleTells.j1
   repeat' first|(with_reducible first|apply ih0|apply ih1|apply exerguelaw11_shown.mono|apply exergueref07_Right.mono|apply exergueref11_Holds.mono|apply exergueref11_Right.mono|apply exergueref11_Same.mono|apply exergueref11_Short.mono|apply exergueref11_Text.mono|apply rule_Right.mono|apply rule_Text.mono|apply LeO.refl|apply LeO.none|refine LeO.ite ?_ ?_|refine LeO.bind ?_ (fun _=>?_))|apply ih0|apply ih1|apply exerguelaw11_shown.mono|apply exergueref07_Right.mono|apply exergueref11_Holds.mono|apply exergueref11_Right.mono|apply exergueref11_Same.mono|apply exergueref11_Short.mono|apply exergueref11_Text.mono|apply rule_Right.mono|apply rule_Text.mono|apply LeO.none
theorem exerguelaw11_RuleTells.mono:∀ a0 a1 a2 a3 a4 a5 k,LeO (exerguelaw11_RuleTells.f k a0 a1 a2 a3 a4 a5) (exerguelaw11_RuleTells.f (k+1) a0 a1 a2 a3 a4 a5):=by
 intro a0 a1 a2 a3 a4 a5 k
 obtain ⟨ih0,ih1⟩:=exerguelaw11_RuleTells.mono_l k
 unfold exerguelaw11_RuleTells.f
 repeat' first|(with_reducible first|apply ih0|apply ih1|apply exerguelaw11_shown.mono|apply exergueref07_Right.mono|apply exergueref11_Holds.mono|apply exergueref11_Right.mono|apply exergueref11_Same.mono|apply exergueref11_Short.mono|apply exergueref11_Text.mono|apply rule_Right.mono|apply rule_Text.mono|apply LeO.refl|apply LeO.none|refine LeO.ite ?_ ?_|refine LeO.bind ?_ (fun _=>?_))|apply ih0|apply ih1|apply exerguelaw11_shown.mono|apply exergueref07_Right.mono|apply exergueref11_Holds.mono|apply exergueref11_Right.mono|apply exergueref11_Same.mono|apply exergueref11_Short.mono|apply exergueref11_Text.mono|apply rule_Right.mono|apply rule_Text.mono|apply LeO.none
def exerguelaw11_RuleTells.T9:Bool×List (List Nat×List Nat):=(true,[([],[]),([0],[0]),([1],[1]),([2,1,1],[1,2]),([1],[1]),([4,3,1],[1,4]),([3,5,1],[1,3,5]),([1,6],[1,6]),([7,5],[7]),([8],[8]),([9,8,8],[8,9]),([10,8],[8,10]),([11,10,8],[8,11]),([12],[12]),([12],[12]),([13,14,12,12],[12,13,14]),([12],[12]),([12],[12]),([16,17,15,12],[12,16,17]),([15,18,12],[12,15,18]),([12,19,8],[8,12,19]),([8,20],[8,20]),([21,18,0,1,2,3,4,5,6,7,8,9,10,11,12,13,14,15,16,17,18,19,20,21],[21])])
def exerguelaw11_RuleTells.B9:List Nat:=[0,1,3,7,3,31,63,127,255,511,1023,2047,4095,8191,8191,32767,8191,8191,262143,524287,1048575,2097151,4194303]
theorem exerguelaw11_RuleTells.tab9:rtab .any (opsOf Tryz.f5 9)=exerguelaw11_RuleTells.T9:=by kernel_rfl
theorem exerguelaw11_RuleTells.bits9:waitsOk exerguelaw11_RuleTells.T9.2 exerguelaw11_RuleTells.B9=true:=by kernel_rfl
set_option maxHeartbeats 8000000 in
set_option maxRecDepth 100000 in
theorem exerguelaw11_RuleTells.calls (k:Nat)(A0:Option Addr)(c0:Nat)(l0:List (List (S60)))(A1:Option Addr)(c1:Nat)(l1:List (List (S60)))(an:Option Addr)(ao:Nat)(ab:List Int)(ap:Option Addr)(aq:Nat)(ac:List Int)(ad:Int)(ae:Int)(r:Bool)(w:World)(hG:GL w)(hr0:Kd.C (Kd.slice 60 k60) w A0 l0.length l0)(hc0:l0.length≤c0)(hr1:Kd.C (Kd.slice 60 k60) w A1 l1.length l1)(hc1:l1.length≤c1)(aH:Kd.C (Kd.int .u8) w an ab.length ab)(aI:ab.length≤ao)(aJ:Kd.C (Kd.int .u8) w ap ac.length ac)(aK:ac.length≤aq)(h:exerguelaw11_RuleTells.f k l0 l1 ab ac ad ae=some r) :
  Calls Tryz.prog 5 #[.slice A0 l0.length c0,.slice A1 l1.length c1,.agg #[.slice an ab.length ao,.slice ap ac.length aq,.int .i64 ad,.int .i64 ae]] w fun e w'=>e = .returned (.bool r)∧Below w.heap.size w w':=by
 have hu36:=Tryz.underlying36
 have HR0:=Sd.mk hr0
 have HC0:=Sd.mk hc0
 clear hr0 hc0
 have HR1:=Sd.mk hr1
 have HC1:=Sd.mk hc1
 clear hr1 hc1
 have ax:=Sd.mk aH
 have ay:=Sd.mk aI
 clear aH aI
 have az:=Sd.mk aJ
 have aA:=Sd.mk aK
 clear aJ aK
 have HB:=Sd.mk (Below.refl w.heap.size w)
 have HG:=Sd.mk hG
 clear hG
 have H:((exerguelaw11_shown.f k).bind fun am=>((exergueref11_Short.f k l0).bind fun aE=>(if aE=true then ((exergueref11_Short.f k l1).bind fun aF=>(if aF=true then (exerguelaw11_RuleTells.j0 k l0 l1 am (decide ((wrap64 ((ab.length:Int)+(ac.length:Int)))>1000)) ab ac ad ae) else (exerguelaw11_RuleTells.j0 k l0 l1 am true ab ac ad ae))) else (exerguelaw11_RuleTells.j0 k l0 l1 am true ab ac ad ae))))=some r:=h
 clear h
 obtain ⟨am,A4,H⟩:=bX H
 try dsimp only at H
 have HC5:=Sd.mk H
 clear H
 go_enter Tryz.func5,Tryz.ntmps5
 go_upto_region 2 with (first|((with_reducible refine gate_dst (N:=5) rfl ?_);(try (refine gate_guard (by rfl) ?_;dsimp only));refine box_event ?hg (N:=5) ?hd (cs:=#[.slice an ab.length ao,.slice ap ac.length aq,.int .i64 ad,.int .i64 ae]) (t:=36) ?hr ?_;(case hd=>rfl);(case hg=>rfl);(case hr=>first|(go_simp;done)|(go_simp;rfl));intro aj hg w6 hbox hb;have aa:=Sd.mk (hbox);have aU:=bg HB hg;replace HB:=bs HB hb;clear hb hbox hg)|((with_reducible refine gate_callee (f:=29) rfl ?_);refine gL (some 9) Tryz.func29 #[] ?_;(with_reducible refine (exerguelaw11_shown.calls k  am _ ?side1 A4.out).mono ?_);(case side1=>refine GL.below HG.out ?_;exact bQ HB);rintro e w7 ⟨rfl,hb⟩;refine ⟨_,rfl,?_⟩;replace aa:=kb aa hb;replace HB:=bs HB hb;(try clear hb)))
 (try simp only [Act.put,sA,sB,sC])
 go_cut [27] (fun v27 wc=>∃ (kq:Nat) (aB:Bool),v27 = .bool aB∧Sd (exerguelaw11_RuleTells.j0 kq l0 l1 am aB ab ac ad ae=some r)∧Sd (kq≤k)∧Sd (wc.heap[aj]?=some (.cells #[(.slice an ab.length ao),(.slice ap ac.length aq),.int .i64 ad,.int .i64 ae] 36 (0,0)))∧Sd (Below w.heap.size w wc))
 case first=>
  have H:=HC5.out
  clear HC5
  obtain ⟨aE,A8,H⟩:=bX H
  try dsimp only at H
  by_cases c9:aE=true
  ·subst c9
   rw [if_pos rfl] at H
   obtain ⟨aF,A10,H⟩:=bX H
   try dsimp only at H
   by_cases c11:aF=true
   ·subst c11
    rw [if_pos rfl] at H
    have H':=Sd.mk H
    clear H
    go_wp2_with (first|((with_reducible refine gate_callee (f:=30) rfl ?_);refine gL (some 11) Tryz.func30 #[.slice A0 l0.length c0] ?_;(with_reducible refine (exergueref11_Short.calls k _ _ l0 true _ (cb HR0 HB) HC0.out A8.out).mono ?_);rintro e w' ⟨rfl,⟨nd,rfl⟩⟩;refine ⟨_,rfl,?_⟩)|(go_at_call 30;(with_reducible refine (exergueref11_Short.calls k _ _ l1 true _ ?side1 HC1.out A10.out).mono ?_);(case side1=>repeat (first|exact (Kd.C_below HR1.out (bQ HB))|(with_reducible refine Kd.C_alloc ?_ _)|(with_reducible refine Kd.C_drewN ?_ _)|(with_reducible refine Kd.C_drew ?_)));rintro e w' ⟨rfl,⟨nd,rfl⟩⟩;have aL:=blkc4 aa.out;have aM:=blkf4 aa.out))
    go_meet
    case rel=>exact ⟨_,(decide ((wrap64 ((ab.length:Int)+(ac.length:Int)))>1000)),(by first|rfl|(simp;done)|(simp [*];done)),H',⟨by first|omega|exact Nat.le_refl _⟩,⟨ko aa⟩,⟨bQ HB⟩⟩
   replace c11:=Bool.eq_false_iff.mpr c11
   subst c11
   rw [if_neg (show ¬ (false=true) by decide)] at H
   have H':=Sd.mk H
   clear H
   go_wp2_with (first|((with_reducible refine gate_callee (f:=30) rfl ?_);refine gL (some 11) Tryz.func30 #[.slice A0 l0.length c0] ?_;(with_reducible refine (exergueref11_Short.calls k _ _ l0 true _ (cb HR0 HB) HC0.out A8.out).mono ?_);rintro e w' ⟨rfl,⟨nd,rfl⟩⟩;refine ⟨_,rfl,?_⟩)|(go_at_call 30;(with_reducible refine (exergueref11_Short.calls k _ _ l1 false _ ?side1 HC1.out A10.out).mono ?_);(case side1=>repeat (first|exact (Kd.C_below HR1.out (bQ HB))|(with_reducible refine Kd.C_alloc ?_ _)|(with_reducible refine Kd.C_drewN ?_ _)|(with_reducible refine Kd.C_drew ?_)));rintro e w' ⟨rfl,⟨nd,rfl⟩⟩))
   go_meet
   case rel=>exact ⟨_,(true),(by first|rfl|(simp;done)|(simp [*];done)),H',⟨by first|omega|exact Nat.le_refl _⟩,⟨ko aa⟩,⟨bQ HB⟩⟩
  replace c9:=Bool.eq_false_iff.mpr c9
  subst c9
  rw [if_neg (show ¬ (false=true) by decide)] at H
  have H':=Sd.mk H
  clear H
  go_wp2_with (first|((with_reducible refine gate_callee (f:=30) rfl ?_);refine gL (some 11) Tryz.func30 #[.slice A0 l0.length c0] ?_;(with_reducible refine (exergueref11_Short.calls k _ _ l0 false _ (cb HR0 HB) HC0.out A8.out).mono ?_);rintro e w' ⟨rfl,⟨nd,rfl⟩⟩;refine ⟨_,rfl,?_⟩))
  go_meet
  case rel=>exact ⟨_,(true),(by first|rfl|(simp;done)|(simp [*];done)),H',⟨by first|omega|exact Nat.le_refl _⟩,⟨ko aa⟩,⟨bQ HB⟩⟩
 case rest=>
  clear HC5
  try clear c1
  try clear c2
  try clear p2
  try clear c3
  try clear c5
  try clear p6
  try clear c9
  try clear c11
  try clear aL
  try clear aM
  obtain ⟨kq,aB,rfl,HA,HJ4,aa,HB⟩:=hcut
  cases kq with
  | zero=>exact absurd HA.out (by simp [exerguelaw11_RuleTells.j0])
  | succ kj4=>
   have H:=HA.out
   clear HA
   simp only [exerguelaw11_RuleTells.j0] at H
   by_cases c13:aB=true
   ·subst c13
    rw [if_pos rfl] at H
    obtain rfl:=Option.some.inj H
    go_wp2
    go_ret
    exact ⟨by first|rfl|(simp <;> rfl)|(simp [*] <;> rfl),bQ HB⟩
   replace c13:=Bool.eq_false_iff.mpr c13
   subst c13
   rw [if_neg (show ¬ (false=true) by decide)] at H
   obtain ⟨ak,A14,H⟩:=bX H
   try dsimp only at H
   have aR:=Sd.mk H
   clear H
   go_upto_region 5 with (first|((with_reducible refine gate_callee (f:=31) rfl ?_);refine gL (some 30) Tryz.func31 #[.slice A0 l0.length c0] ?_;(with_reducible refine (exergueref11_Right.calls kj4 _ _ l0 ak _ (cb HR0 HB) HC0.out A14.out).mono ?_);rintro e w16 ⟨rfl,hb⟩;refine ⟨_,rfl,?_⟩;replace aa:=kb aa hb;replace HB:=bs HB hb;(try clear hb)))
   (try simp only [Act.put,sA,sB,sC])
   go_cut [43] (fun v43 wc=>∃ (kq:Nat) (aw:Bool),v43 = .bool aw∧Sd (exerguelaw11_RuleTells.j1 kq l0 am ak aw ab ac ad ae=some r)∧Sd (kq≤kj4)∧Sd (wc.heap[aj]?=some (.cells #[(.slice an ab.length ao),(.slice ap ac.length aq),.int .i64 ad,.int .i64 ae] 36 (0,0)))∧Sd (Below w.heap.size w wc))
   case first=>
    have H:=aR.out
    clear aR
    obtain ⟨al,A17,H⟩:=bX H
    try dsimp only at H
    by_cases c18:(al != ak)=true
    ·rw [if_pos c18] at H
     have ar:(al != ak)=true:=c18
     (try (have aC:decide (al=ak)=false:=by simpa using c18))
     (try (have aN:(al == ak)=false:=by simpa using c18))
     (try (have aV:¬ (al=ak):=by simpa using c18))
     clear c18
     (first|rw [ar]|(simp only [i64_w,i32_w];rw [ar])|rw [aC]|skip)
     have H':=Sd.mk H
     clear H
     go_wp2_with (first|((with_reducible refine gate_callee (f:=32) rfl ?_);refine gL (some 32) Tryz.func32 #[.slice A0 l0.length c0] ?_;(with_reducible refine (rule_Right.calls kj4 _ _ l0 al _ ?side3 (cb HR0 HB) HC0.out A17.out).mono ?_);(case side3=>refine GL.below HG.out ?_;exact bQ HB);rintro e w19 ⟨rfl,hb⟩;refine ⟨_,rfl,?_⟩;replace aa:=kb aa hb;replace HB:=bs HB hb;(try clear hb)))
     go_meet
     case rel=>exact ⟨_,(true),(by first|rfl|(simp;done)|(simp [*];done)),H',⟨by have:=HJ4.out;first|omega|exact Nat.le_refl _⟩,⟨ko aa⟩,⟨bQ HB⟩⟩
    rw [if_neg c18] at H
    have ar:(al != ak)=false:=by simpa using c18
    (try (have aC:decide (al=ak)=true:=by simpa using c18))
    (try (have aN:(al == ak)=true:=by simpa using c18))
    clear c18
    (first|rw [ar]|(simp only [i64_w,i32_w];rw [ar])|rw [aC]|skip)
    obtain ⟨aD,A20,H⟩:=bX H
    try dsimp only at H
    obtain ⟨aG,A21,H⟩:=bX H
    try dsimp only at H
    have H':=Sd.mk H
    clear H
    go_wp2_with (first|((with_reducible refine gate_callee (f:=32) rfl ?_);refine gL (some 32) Tryz.func32 #[.slice A0 l0.length c0] ?_;(with_reducible refine (rule_Right.calls kj4 _ _ l0 al _ ?side3 (cb HR0 HB) HC0.out A17.out).mono ?_);(case side3=>refine GL.below HG.out ?_;exact bQ HB);rintro e w22 ⟨rfl,hb⟩;refine ⟨_,rfl,?_⟩;replace aa:=kb aa hb;replace HB:=bs HB hb;(try clear hb))|(go_at_call 33;(with_reducible refine (rule_Same.calls _ _ l0 _ _ l1 aD _ (cb HR0 HB) HC0.out (cb HR1 HB) HC1.out A20.out).mono ?_);rintro e w23 ⟨rfl,hb⟩;replace aa:=kb aa hb;replace HB:=bs HB hb;(try clear hb);(try clear hb2);(try clear hk);(try clear hi))|(go_at_call 34;(with_reducible refine (exergueref11_Same.calls kj4 _ _ l0 _ _ l1 aG _ (cb HR0 HB) HC0.out (cb HR1 HB) HC1.out A21.out).mono ?_);rintro e w24 ⟨rfl,hb⟩;replace aa:=kb aa hb;replace HB:=bs HB hb;(try clear hb);(try clear hb2);(try clear hk);(try clear hi)))
    go_meet
    case rel=>exact ⟨_,((aD != aG)),(by first|rfl|(simp;done)|(simp [*];done)|(cases aD <;> simp;done)|(cases aD <;> simp [*];done)),H',⟨by have:=HJ4.out;first|omega|exact Nat.le_refl _⟩,⟨ko aa⟩,⟨bQ HB⟩⟩
   case rest=>
    clear aR
    try clear c1
    try clear c2
    try clear p2
    try clear c3
    try clear c5
    try clear p6
    try clear c9
    try clear c11
    try clear c13
    try clear c18
    try clear ar
    try clear aC
    try clear aN
    try clear aL
    try clear aM
    try clear p2
    try clear p6
    obtain ⟨kq,aw,rfl,HA,HJ14,aa,HB⟩:=hcut
    cases kq with
    | zero=>exact absurd HA.out (by simp [exerguelaw11_RuleTells.j1])
    | succ kj14=>
     have H:=HA.out
     clear HA
     simp only [exerguelaw11_RuleTells.j1] at H
     by_cases c25:aw=true
     ·subst c25
      rw [if_pos rfl] at H
      exact absurd H (by simp)
     replace c25:=Bool.eq_false_iff.mpr c25
     subst c25
     rw [if_neg (show ¬ (false=true) by decide)] at H
     by_cases c26:ak=true
     rotate_left
     ·replace c26:=Bool.eq_false_iff.mpr c26
      subst c26
      rw [if_neg (show ¬ (false=true) by decide)] at H
      obtain rfl:=Option.some.inj H
      go_wp2
      go_ret
      exact ⟨by first|rfl|(simp <;> rfl)|(simp [*] <;> rfl),bQ HB⟩
     subst c26
     rw [if_pos rfl] at H
     by_cases c27:am=true
     rotate_left
     ·replace c27:=Bool.eq_false_iff.mpr c27
      subst c27
      rw [if_neg (show ¬ (false=true) by decide)] at H
      exact absurd H (by simp)
     subst c27
     rw [if_pos rfl] at H
     obtain ⟨au,A28,H⟩:=bX H
     try dsimp only at H
     obtain ⟨av,A29,H⟩:=bX H
     try dsimp only at H
     by_cases c30:au.toList=av.toList
     rotate_left
     ·rw [if_neg c30] at H
      have aS:(au.toList == av.toList)=false:=beq_eq_false_iff_ne.mpr c30
      have aT:(au.toList != av.toList)=true:=bne_iff_ne.mpr c30
      exact absurd H (by simp)
     rw [if_pos c30] at H
     have aS:(au.toList == av.toList)=true:=beq_iff_eq.mpr c30
     have aT:(au.toList != av.toList)=false:=bne_eq_false_iff_eq.mpr c30
     clear c30
     obtain ⟨aO,A31,H⟩:=bX H
     try dsimp only at H
     by_cases c32:aO=true
     rotate_left
     ·replace c32:=Bool.eq_false_iff.mpr c32
      subst c32
      rw [if_neg (show ¬ (false=true) by decide)] at H
      obtain rfl:=Option.some.inj H
      try go_wp2
      replace aa:=Sd.mk (blk_drew aa.out)
      replace HB:=Sd.mk (below_drew1 HB.out)
      refine start_ (n:=23) (S:=fun w'=>w'.cell? ⟨aj,0,none⟩=some (.slice an ab.length ao)∧w'.cell? ⟨aj,1,none⟩=some (.slice ap ac.length aq)∧w'.cell? ⟨aj,2,none⟩=some (.int .i64 ad)∧w'.cell? ⟨aj,3,none⟩=some (.int .i64 ae)) (ds:=[]) (bZ 23 0) (by kernel_rfl) rfl (by kernel_rfl) ⟨(blk_cell aa.out 0).trans rfl,(blk_cell aa.out 1).trans rfl,(blk_cell aa.out 2).trans rfl,(blk_cell aa.out 3).trans rfl⟩ (fun hHeld=>?_);refine with_tabW exerguelaw11_RuleTells.tab9 exerguelaw11_RuleTells.bits9 (fun HT_ HW_=>?_)
      generalize wc.drew=w41 at aa HB hHeld ⊢
      refine p1 0 47 1 HT_ (v:=?_) ?_ (a':=?_) ?_ ?_
      rotate_left
      ·intro w';go_simp;with_reducible rfl
      rotate_left
      ·simp only [Act.put,sA,sB,sC,i64_w,i32_w];rfl
      refine p1 1 48 3 HT_ (v:=?_) ?_ (a':=?_) ?_ ?_
      rotate_left
      ·intro w';go_simp;with_reducible rfl
      rotate_left
      ·simp only [Act.put,sA,sB,sC,i64_w,i32_w];rfl
      refine p1 2 49 7 HT_ (v:=?_) ?_ (a':=?_) ?_ ?_
      rotate_left
      ·intro w';go_simp;with_reducible rfl
      rotate_left
      ·simp only [Act.put,sA,sB,sC,i64_w,i32_w];rfl
      refine p1 4 51 23 HT_ (v:=?_) ?_ (a':=?_) ?_ ?_
      rotate_left
      ·intro w';go_simp;with_reducible rfl
      rotate_left
      ·simp only [Act.put,sA,sB,sC,i64_w,i32_w];rfl
      refine one_ (i:=3) (N:=some 50) (bZ 23 31) rfl rfl (one_of HT_.out (by kernel_rfl)) (by decide) (fun K hK=>?_)
      refine goes_ Tryz.func35 (by kernel_rfl) rfl #[.slice A0 l0.length c0] (by rfl) rfl rfl (by (try simp only [mA,mB,mC]);first|done|rfl|(simp only [lD,lT];rfl)) ?_
      with_reducible refine (rule_Text.calls kj14 _ _ l0 au _ ?side3 ?side1 ?side2 A28.out).mono ?_
      (case side1=>exact Kd.C_below HR0.out (bQ HB))
      (case side2=>exact HC0.out)
      (case side3=>refine GL.below HG.out ?_;exact bQ HB)
      rintro e w42 ⟨rfl,hb⟩
      refine ⟨_,rfl,?_⟩
      replace aa:=kb aa hb
      replace HB:=bs HB hb
      (try clear hb)
      (try clear hb2)
      (try clear hk)
      (try clear hi)
      refine hK.out _ _ ⟨(blk_cell aa.out 0).trans rfl,(blk_cell aa.out 1).trans rfl,(blk_cell aa.out 2).trans rfl,(blk_cell aa.out 3).trans rfl⟩ (fun hHeld=>?_)
      clear hK K
      refine norm_ (a':=?_) ?_ ?_
      rotate_left
      ·show Act.put _ (some 50) _=_
       simp only [Act.put,sA,sB,sC,i64_w,i32_w]
       rfl
      refine one_ (i:=5) (N:=some 52) (bZ 23 63) rfl rfl (one_of HT_.out (by kernel_rfl)) (by decide) (fun K hK=>?_)
      refine goes_ Tryz.func36 (by kernel_rfl) rfl #[.slice A0 l0.length c0] (by rfl) rfl rfl (by (try simp only [mA,mB,mC]);first|done|rfl|(simp only [lD,lT];rfl)) ?_
      with_reducible refine (exergueref11_Text.calls kj14 _ _ l0 av _ ?side1 ?side2 A29.out).mono ?_
      (case side1=>exact Kd.C_below HR0.out (bQ HB))
      (case side2=>exact HC0.out)
      rintro e w43 ⟨rfl,hb⟩
      refine ⟨_,rfl,?_⟩
      replace aa:=kb aa hb
      replace HB:=bs HB hb
      (try clear hb)
      (try clear hb2)
      (try clear hk)
      (try clear hi)
      refine hK.out _ _ ⟨(blk_cell aa.out 0).trans rfl,(blk_cell aa.out 1).trans rfl,(blk_cell aa.out 2).trans rfl,(blk_cell aa.out 3).trans rfl⟩ (fun hHeld=>?_)
      clear hK K
      refine norm_ (a':=?_) ?_ ?_
      rotate_left
      ·show Act.put _ (some 52) _=_
       simp only [Act.put,sA,sB,sC,i64_w,i32_w]
       rfl
      refine p1 6 53 127 HT_ (v:=?_) ?_ (a':=?_) ?_ ?_
      rotate_left
      ·intro w';go_simp;with_reducible rfl
      rotate_left
      ·simp only [Act.put,sA,sB,sC,i64_w,i32_w];rfl
      refine p1 7 54 255 HT_ (v:=?_) ?_ (a':=?_) ?_ ?_
      rotate_left
      ·intro w';go_simp;with_reducible rfl
      rotate_left
      ·simp only [Act.put,sA,sB,sC,i64_w,i32_w];rfl
      refine p1 8 55 511 HT_ (v:=?_) ?_ (a':=?_) ?_ ?_
      rotate_left
      ·intro w';go_simp;with_reducible rfl
      rotate_left
      ·simp only [Act.put,sA,sB,sC,i64_w,i32_w];rfl
      refine p2 9 56 1023 HT_ HW_ (v:=?_) ?_ hHeld (a':=?_) ?_ ?_
      rotate_left
      ·rintro w' ⟨s0,s1,s2,s3⟩;go_simp;with_reducible rfl
      rotate_left
      ·simp only [Act.put,sA,sB,sC,i64_w,i32_w];rfl
      refine one_ (i:=10) (N:=some 57) (bZ 23 2047) rfl rfl (one_of HT_.out (by kernel_rfl)) (by decide) (fun K hK=>?_)
      refine goes_ Tryz.func26 (by kernel_rfl) rfl #[.agg #[.slice an ab.length ao,.slice ap ac.length aq,.int .i64 ad,.int .i64 ae]] (by rfl) rfl rfl (by (try simp only [mA,mB,mC]);first|done|rfl|(simp only [lD,lT];rfl)) ?_
      with_reducible refine (exergueref07_Right.calls kj14 _ _ ab _ _ ac ad ae false _ ?side1 ?side2 ?side3 ?side4 A31.out).mono ?_
      (case side1=>exact Kd.C_below ax.out (bQ HB))
      (case side2=>exact ay.out)
      (case side3=>exact Kd.C_below az.out (bQ HB))
      (case side4=>exact aA.out)
      rintro e w44 ⟨rfl,hb⟩
      refine ⟨_,rfl,?_⟩
      replace aa:=kb aa hb
      replace HB:=bs HB hb
      (try clear hb)
      (try clear hb2)
      (try clear hk)
      (try clear hi)
      refine hK.out _ _ ⟨(blk_cell aa.out 0).trans rfl,(blk_cell aa.out 1).trans rfl,(blk_cell aa.out 2).trans rfl,(blk_cell aa.out 3).trans rfl⟩ (fun hHeld=>?_)
      clear hK K
      refine norm_ (a':=?_) ?_ ?_
      rotate_left
      ·show Act.put _ (some 57) _=_
       simp only [Act.put,sA,sB,sC,i64_w,i32_w]
       rfl
      refine p1 11 58 4095 HT_ (v:=?_) ?_ (a':=?_) ?_ ?_
      rotate_left
      ·intro w';go_simp;with_reducible rfl
      rotate_left
      ·simp only [Act.put,sA,sB,sC,i64_w,i32_w];rfl
      refine p1 12 59 8191 HT_ (v:=?_) ?_ (a':=?_) ?_ ?_
      rotate_left
      ·intro w';go_simp;with_reducible rfl
      rotate_left
      ·simp only [Act.put,sA,sB,sC,i64_w,i32_w];rfl
      refine pure_ (i:=13) (N:=some 60) (v:=undef) (a':=?_) (bZ 23 16383) rfl rfl (any_of HT_.out (by kernel_rfl)) (fun _ _ _ h=>h) (Or.inr ⟨by rfl,rfl⟩) ?_ ?_
      rotate_left
      ·simp only [Act.put,sA,sB,sC,i64_w,i32_w]
       rfl
      refine pure_ (i:=14) (N:=some 61) (v:=undef) (a':=?_) (bZ 23 32767) rfl rfl (any_of HT_.out (by kernel_rfl)) (fun _ _ _ h=>h) (Or.inr ⟨by rfl,rfl⟩) ?_ ?_
      rotate_left
      ·simp only [Act.put,sA,sB,sC,i64_w,i32_w]
       rfl
      refine pure_ (i:=15) (N:=some 62) (v:=undef) (a':=?_) (bZ 23 65535) rfl rfl (any_of HT_.out (by kernel_rfl)) (fun _ _ _ h=>h) (Or.inr ⟨by rfl,rfl⟩) ?_ ?_
      rotate_left
      ·simp only [Act.put,sA,sB,sC,i64_w,i32_w]
       rfl
      refine pure_ (i:=16) (N:=some 63) (v:=undef) (a':=?_) (bZ 23 131071) rfl rfl (any_of HT_.out (by kernel_rfl)) (fun _ _ _ h=>h) (Or.inr ⟨by rfl,rfl⟩) ?_ ?_
      rotate_left
      ·simp only [Act.put,sA,sB,sC,i64_w,i32_w]
       rfl
      refine pure_ (i:=17) (N:=some 64) (v:=undef) (a':=?_) (bZ 23 262143) rfl rfl (any_of HT_.out (by kernel_rfl)) (fun _ _ _ h=>h) (Or.inr ⟨by rfl,rfl⟩) ?_ ?_
      rotate_left
      ·simp only [Act.put,sA,sB,sC,i64_w,i32_w]
       rfl
      refine pure_ (i:=18) (N:=some 65) (v:=undef) (a':=?_) (bZ 23 524287) rfl rfl (any_of HT_.out (by kernel_rfl)) (fun _ _ _ h=>h) (Or.inr ⟨by rfl,rfl⟩) ?_ ?_
      rotate_left
      ·simp only [Act.put,sA,sB,sC,i64_w,i32_w]
       rfl
      refine pure_ (i:=19) (N:=some 66) (v:=undef) (a':=?_) (bZ 23 1048575) rfl rfl (any_of HT_.out (by kernel_rfl)) (fun _ _ _ h=>h) (Or.inr ⟨by rfl,rfl⟩) ?_ ?_
      rotate_left
      ·simp only [Act.put,sA,sB,sC,i64_w,i32_w]
       rfl
      refine p1 20 67 2097151 HT_ (v:=?_) ?_ (a':=?_) ?_ ?_
      rotate_left
      ·intro w';go_simp;with_reducible rfl
      rotate_left
      ·simp only [Act.put,sA,sB,sC,i64_w,i32_w];rfl
      refine p1 21 68 4194303 HT_ (v:=?_) ?_ (a':=?_) ?_ ?_
      rotate_left
      ·intro w';go_simp;with_reducible rfl
      rotate_left
      ·simp only [Act.put,sA,sB,sC,i64_w,i32_w];rfl
      refine p1 22 6 8388607 HT_ (v:=?_) ?_ (a':=?_) ?_ ?_
      rotate_left
      ·intro w';go_simp;with_reducible rfl
      rotate_left
      ·simp only [Act.put,sA,sB,sC,i64_w,i32_w];rfl
      refine done_ (done_of HT_.out (by kernel_rfl)) ?_
      try go_wp2
      go_ret
      exact ⟨by first|rfl|(simp <;> rfl)|(simp [*] <;> rfl),bQ HB⟩
     subst c32
     rw [if_pos rfl] at H
     obtain ⟨aP,A33,H⟩:=bX H
     try dsimp only at H
     obtain ⟨aQ,A34,H⟩:=bX H
     try dsimp only at H
     obtain rfl:=Option.some.inj H
     try go_wp2
     replace aa:=Sd.mk (blk_drew aa.out)
     replace HB:=Sd.mk (below_drew1 HB.out)
     refine start_ (n:=23) (S:=fun w'=>w'.cell? ⟨aj,0,none⟩=some (.slice an ab.length ao)∧w'.cell? ⟨aj,1,none⟩=some (.slice ap ac.length aq)∧w'.cell? ⟨aj,2,none⟩=some (.int .i64 ad)∧w'.cell? ⟨aj,3,none⟩=some (.int .i64 ae)) (ds:=[]) (bZ 23 0) (by kernel_rfl) rfl (by kernel_rfl) ⟨(blk_cell aa.out 0).trans rfl,(blk_cell aa.out 1).trans rfl,(blk_cell aa.out 2).trans rfl,(blk_cell aa.out 3).trans rfl⟩ (fun hHeld=>?_);refine with_tabW exerguelaw11_RuleTells.tab9 exerguelaw11_RuleTells.bits9 (fun HT_ HW_=>?_)
     generalize wc.drew=w35 at aa HB hHeld ⊢
     refine p1 0 47 1 HT_ (v:=?_) ?_ (a':=?_) ?_ ?_
     rotate_left
     ·intro w';go_simp;with_reducible rfl
     rotate_left
     ·simp only [Act.put,sA,sB,sC,i64_w,i32_w];rfl
     refine p1 1 48 3 HT_ (v:=?_) ?_ (a':=?_) ?_ ?_
     rotate_left
     ·intro w';go_simp;with_reducible rfl
     rotate_left
     ·simp only [Act.put,sA,sB,sC,i64_w,i32_w];rfl
     refine p1 2 49 7 HT_ (v:=?_) ?_ (a':=?_) ?_ ?_
     rotate_left
     ·intro w';go_simp;with_reducible rfl
     rotate_left
     ·simp only [Act.put,sA,sB,sC,i64_w,i32_w];rfl
     refine p1 4 51 23 HT_ (v:=?_) ?_ (a':=?_) ?_ ?_
     rotate_left
     ·intro w';go_simp;with_reducible rfl
     rotate_left
     ·simp only [Act.put,sA,sB,sC,i64_w,i32_w];rfl
     refine one_ (i:=3) (N:=some 50) (bZ 23 31) rfl rfl (one_of HT_.out (by kernel_rfl)) (by decide) (fun K hK=>?_)
     refine goes_ Tryz.func35 (by kernel_rfl) rfl #[.slice A0 l0.length c0] (by rfl) rfl rfl (by (try simp only [mA,mB,mC]);first|done|rfl|(simp only [lD,lT];rfl)) ?_
     with_reducible refine (rule_Text.calls kj14 _ _ l0 au _ ?side3 ?side1 ?side2 A28.out).mono ?_
     (case side1=>exact Kd.C_below HR0.out (bQ HB))
     (case side2=>exact HC0.out)
     (case side3=>refine GL.below HG.out ?_;exact bQ HB)
     rintro e w36 ⟨rfl,hb⟩
     refine ⟨_,rfl,?_⟩
     replace aa:=kb aa hb
     replace HB:=bs HB hb
     (try clear hb)
     (try clear hb2)
     (try clear hk)
     (try clear hi)
     refine hK.out _ _ ⟨(blk_cell aa.out 0).trans rfl,(blk_cell aa.out 1).trans rfl,(blk_cell aa.out 2).trans rfl,(blk_cell aa.out 3).trans rfl⟩ (fun hHeld=>?_)
     clear hK K
     refine norm_ (a':=?_) ?_ ?_
     rotate_left
     ·show Act.put _ (some 50) _=_
      simp only [Act.put,sA,sB,sC,i64_w,i32_w]
      rfl
     refine one_ (i:=5) (N:=some 52) (bZ 23 63) rfl rfl (one_of HT_.out (by kernel_rfl)) (by decide) (fun K hK=>?_)
     refine goes_ Tryz.func36 (by kernel_rfl) rfl #[.slice A0 l0.length c0] (by rfl) rfl rfl (by (try simp only [mA,mB,mC]);first|done|rfl|(simp only [lD,lT];rfl)) ?_
     with_reducible refine (exergueref11_Text.calls kj14 _ _ l0 av _ ?side1 ?side2 A29.out).mono ?_
     (case side1=>exact Kd.C_below HR0.out (bQ HB))
     (case side2=>exact HC0.out)
     rintro e w37 ⟨rfl,hb⟩
     refine ⟨_,rfl,?_⟩
     replace aa:=kb aa hb
     replace HB:=bs HB hb
     (try clear hb)
     (try clear hb2)
     (try clear hk)
     (try clear hi)
     refine hK.out _ _ ⟨(blk_cell aa.out 0).trans rfl,(blk_cell aa.out 1).trans rfl,(blk_cell aa.out 2).trans rfl,(blk_cell aa.out 3).trans rfl⟩ (fun hHeld=>?_)
     clear hK K
     refine norm_ (a':=?_) ?_ ?_
     rotate_left
     ·show Act.put _ (some 52) _=_
      simp only [Act.put,sA,sB,sC,i64_w,i32_w]
      rfl
     refine p1 6 53 127 HT_ (v:=?_) ?_ (a':=?_) ?_ ?_
     rotate_left
     ·intro w';go_simp;with_reducible rfl
     rotate_left
     ·simp only [Act.put,sA,sB,sC,i64_w,i32_w];rfl
     refine p1 7 54 255 HT_ (v:=?_) ?_ (a':=?_) ?_ ?_
     rotate_left
     ·intro w';go_simp;with_reducible rfl
     rotate_left
     ·simp only [Act.put,sA,sB,sC,i64_w,i32_w];rfl
     refine p1 8 55 511 HT_ (v:=?_) ?_ (a':=?_) ?_ ?_
     rotate_left
     ·intro w';go_simp;with_reducible rfl
     rotate_left
     ·simp only [Act.put,sA,sB,sC,i64_w,i32_w];rfl
     refine p2 9 56 1023 HT_ HW_ (v:=?_) ?_ hHeld (a':=?_) ?_ ?_
     rotate_left
     ·rintro w' ⟨s0,s1,s2,s3⟩;go_simp;with_reducible rfl
     rotate_left
     ·simp only [Act.put,sA,sB,sC,i64_w,i32_w];rfl
     refine one_ (i:=10) (N:=some 57) (bZ 23 2047) rfl rfl (one_of HT_.out (by kernel_rfl)) (by decide) (fun K hK=>?_)
     refine goes_ Tryz.func26 (by kernel_rfl) rfl #[.agg #[.slice an ab.length ao,.slice ap ac.length aq,.int .i64 ad,.int .i64 ae]] (by rfl) rfl rfl (by (try simp only [mA,mB,mC]);first|done|rfl|(simp only [lD,lT];rfl)) ?_
     with_reducible refine (exergueref07_Right.calls kj14 _ _ ab _ _ ac ad ae true _ ?side1 ?side2 ?side3 ?side4 A31.out).mono ?_
     (case side1=>exact Kd.C_below ax.out (bQ HB))
     (case side2=>exact ay.out)
     (case side3=>exact Kd.C_below az.out (bQ HB))
     (case side4=>exact aA.out)
     rintro e w38 ⟨rfl,hb⟩
     refine ⟨_,rfl,?_⟩
     replace aa:=kb aa hb
     replace HB:=bs HB hb
     (try clear hb)
     (try clear hb2)
     (try clear hk)
     (try clear hi)
     refine hK.out _ _ ⟨(blk_cell aa.out 0).trans rfl,(blk_cell aa.out 1).trans rfl,(blk_cell aa.out 2).trans rfl,(blk_cell aa.out 3).trans rfl⟩ (fun hHeld=>?_)
     clear hK K
     refine norm_ (a':=?_) ?_ ?_
     rotate_left
     ·show Act.put _ (some 57) _=_
      simp only [Act.put,sA,sB,sC,i64_w,i32_w]
      rfl
     refine p1 11 58 4095 HT_ (v:=?_) ?_ (a':=?_) ?_ ?_
     rotate_left
     ·intro w';go_simp;with_reducible rfl
     rotate_left
     ·simp only [Act.put,sA,sB,sC,i64_w,i32_w];rfl
     refine p1 12 59 8191 HT_ (v:=?_) ?_ (a':=?_) ?_ ?_
     rotate_left
     ·intro w';go_simp;with_reducible rfl
     rotate_left
     ·simp only [Act.put,sA,sB,sC,i64_w,i32_w];rfl
     refine p1 13 60 16383 HT_ (v:=?_) ?_ (a':=?_) ?_ ?_
     rotate_left
     ·intro w';go_simp;with_reducible rfl
     rotate_left
     ·simp only [Act.put,sA,sB,sC,i64_w,i32_w];rfl
     refine p1 16 63 81919 HT_ (v:=?_) ?_ (a':=?_) ?_ ?_
     rotate_left
     ·intro w';go_simp;with_reducible rfl
     rotate_left
     ·simp only [Act.put,sA,sB,sC,i64_w,i32_w];rfl
     refine p2 14 61 98303 HT_ HW_ (v:=?_) ?_ hHeld (a':=?_) ?_ ?_
     rotate_left
     ·rintro w' ⟨s0,s1,s2,s3⟩;go_simp;with_reducible rfl
     rotate_left
     ·simp only [Act.put,sA,sB,sC,i64_w,i32_w];rfl
     refine p2 17 64 229375 HT_ HW_ (v:=?_) ?_ hHeld (a':=?_) ?_ ?_
     rotate_left
     ·rintro w' ⟨s0,s1,s2,s3⟩;go_simp;with_reducible rfl
     rotate_left
     ·simp only [Act.put,sA,sB,sC,i64_w,i32_w];rfl
     refine one_ (i:=15) (N:=some 62) (bZ 23 262143) rfl rfl (one_of HT_.out (by kernel_rfl)) (by decide) (fun K hK=>?_)
     refine goes_ Tryz.func37 (by kernel_rfl) rfl #[.slice A0 l0.length c0,.agg #[.slice an ab.length ao,.slice ap ac.length aq,.int .i64 ad,.int .i64 ae]] (by rfl) rfl rfl (by (try simp only [mA,mB,mC]);first|done|rfl|(simp only [lD,lT];rfl)) ?_
     with_reducible refine (rule_Holds.calls _ _ l0 _ _ ab _ _ ac ad ae aP _ ?side7 ?side1 ?side2 ?side3 ?side4 ?side5 ?side6 A33.out).mono ?_
     (case side1=>exact Kd.C_below HR0.out (bQ HB))
     (case side2=>exact HC0.out)
     (case side3=>exact Kd.C_below ax.out (bQ HB))
     (case side4=>exact ay.out)
     (case side5=>exact Kd.C_below az.out (bQ HB))
     (case side6=>exact aA.out)
     (case side7=>refine GL.below HG.out ?_;exact bQ HB)
     rintro e w39 ⟨rfl,hb⟩
     refine ⟨_,rfl,?_⟩
     replace aa:=kb aa hb
     replace HB:=bs HB hb
     (try clear hb)
     (try clear hb2)
     (try clear hk)
     (try clear hi)
     refine hK.out _ _ ⟨(blk_cell aa.out 0).trans rfl,(blk_cell aa.out 1).trans rfl,(blk_cell aa.out 2).trans rfl,(blk_cell aa.out 3).trans rfl⟩ (fun hHeld=>?_)
     clear hK K
     refine norm_ (a':=?_) ?_ ?_
     rotate_left
     ·show Act.put _ (some 62) _=_
      simp only [Act.put,sA,sB,sC,i64_w,i32_w]
      rfl
     refine one_ (i:=18) (N:=some 65) (bZ 23 524287) rfl rfl (one_of HT_.out (by kernel_rfl)) (by decide) (fun K hK=>?_)
     refine goes_ Tryz.func38 (by kernel_rfl) rfl #[.slice A0 l0.length c0,.agg #[.slice an ab.length ao,.slice ap ac.length aq,.int .i64 ad,.int .i64 ae]] (by rfl) rfl rfl (by (try simp only [mA,mB,mC]);first|done|rfl|(simp only [lD,lT];rfl)) ?_
     with_reducible refine (exergueref11_Holds.calls kj14 _ _ l0 _ _ ab _ _ ac ad ae aQ _ ?side1 ?side2 ?side3 ?side4 ?side5 ?side6 A34.out).mono ?_
     (case side1=>exact Kd.C_below HR0.out (bQ HB))
     (case side2=>exact HC0.out)
     (case side3=>exact Kd.C_below ax.out (bQ HB))
     (case side4=>exact ay.out)
     (case side5=>exact Kd.C_below az.out (bQ HB))
     (case side6=>exact aA.out)
     rintro e w40 ⟨rfl,hb⟩
     refine ⟨_,rfl,?_⟩
     replace aa:=kb aa hb
     replace HB:=bs HB hb
     (try clear hb)
     (try clear hb2)
     (try clear hk)
     (try clear hi)
     refine hK.out _ _ ⟨(blk_cell aa.out 0).trans rfl,(blk_cell aa.out 1).trans rfl,(blk_cell aa.out 2).trans rfl,(blk_cell aa.out 3).trans rfl⟩ (fun hHeld=>?_)
     clear hK K
     refine norm_ (a':=?_) ?_ ?_
     rotate_left
     ·show Act.put _ (some 65) _=_
      simp only [Act.put,sA,sB,sC,i64_w,i32_w]
      rfl
     refine p1 19 66 1048575 HT_ (v:=?_) ?_ (a':=?_) ?_ ?_
     rotate_left
     ·intro w';go_simp;with_reducible rfl
     rotate_left
     ·simp only [Act.put,sA,sB,sC,i64_w,i32_w];rfl
     refine p1 20 67 2097151 HT_ (v:=?_) ?_ (a':=?_) ?_ ?_
     rotate_left
     ·intro w';go_simp;with_reducible rfl
     rotate_left
     ·simp only [Act.put,sA,sB,sC,i64_w,i32_w];rfl
     refine p1 21 68 4194303 HT_ (v:=?_) ?_ (a':=?_) ?_ ?_
     rotate_left
     ·intro w';go_simp;with_reducible rfl
     rotate_left
     ·simp only [Act.put,sA,sB,sC,i64_w,i32_w];rfl
     refine p1 22 6 8388607 HT_ (v:=?_) ?_ (a':=?_) ?_ ?_
     rotate_left
     ·intro w';go_simp;with_reducible rfl
     rotate_left
     ·simp only [Act.put,sA,sB,sC,i64_w,i32_w];rfl
     refine done_ (done_of HT_.out (by kernel_rfl)) ?_
     try go_wp2
     go_ret
     exact ⟨by first|rfl|(simp <;> rfl)|(simp [*] <;> rfl),bQ HB⟩
end Go.Proofs.YtgfajgkjbckkgaaGreatDoor.PZ
end
end
section
set_option maxRecDepth 100000
set_option linter.unusedSimpArgs false
set_option linter.unusedVariables false
namespace Go.Proofs.YtgfajgkjbckkgaaGreatDoor.PZ
open Go.RowKit Go.Proofs.YtgfajgkjbckkgaaGreatDoorW.PrintWords Go.Proofs.YtgfajgkjbckkgaaGreatDoorW.PrintLast
theorem pw_dig {n:Int}(h0:0≤n)(h1:n<10):pw n=[48+n]:=by
 rw [pw_nat h0,digsN_small (by omega)]
 simp only [List.map_cons,List.map_nil,chr]
 congr 1;omega
theorem pw_two {n:Int}(h0:10≤n)(h1:n<100):pw n=[48+n / 10,48+n % 10]:=by
 rw [pw_nat (by omega),digsN_big (by omega),digsN_small (by omega)]
 simp only [List.map_append,List.map_cons,List.map_nil,chr,List.cons_append,List.nil_append]
 congr 2 <;> (try congr 1) <;> omega
theorem pw_100:pw 100=[49,48,48]:=by
 rw [pw_nat (by omega),digsN_big (by decide),digsN_big (by decide),digsN_small (by decide)]
 rfl
def shC:List (List Rl):=[[⟨110,10,false,[⟨1,1⟩]⟩,⟨110,100,true,[⟨11,11⟩]⟩]]
def shT:List Int:=[110,32,37,32,49,48,32,61,32,49,32,97,110,100,32,110,32,37,32,49,48,48,32,33,61,32,49,49]
theorem sh_parse:parseP shT=(shC,0,0):=by decide +kernel
theorem sh_text:condT [32] shC=shT:=by
 unfold condT shC rowT relT rgT joinT wordAnd
 simp only [List.map_cons,List.map_nil,pw_100,pw_dig (show (0:Int)≤1 by decide) (by decide),pw_two (show (10:Int)≤10 by decide) (by decide),pw_two (show (10:Int)≤11 by decide) (by decide)]
 decide
theorem sh_right:rightP shC=true:=by
 unfold rightP
 rw [sh_text,sh_parse]
 decide
theorem op_ok (l:List Int)(hl:l=[2,1]∨l=[1,1]∨l=[1]∨l=[2]):OpOk l [] 0 0:=by
 rcases hl with rfl|rfl|rfl|rfl <;> exact ⟨by unfold RightO;decide,by decide,by decide,by decide,by decide⟩
theorem sh_yes:condX [2,1] [] 0 0 shC=true:=by decide
theorem sh_no:condX [1,1] [] 0 0 shC=false:=by decide
theorem shown_ev:Ev (fun k=>exerguelaw11_shown.f k) true:=by
 have hg:=right_good sh_right
 have p:=parse_f (s:=(⟨#[110,32,37,32,49,48,32,61,32,49,32,97,110,100,32,110,32,37,32,49,48,48,32,33,61,32,49,49]⟩:ByteArray)) (by decide)
 have e:bytesOf (⟨#[110,32,37,32,49,48,32,61,32,49,32,97,110,100,32,110,32,37,32,49,48,48,32,33,61,32,49,49]⟩:ByteArray)=shT:=by decide
 rw [e,sh_parse] at p
 have h1:=holds_f (op_ok [2,1] (by simp)) hg.num
 have h2:=holds_f (op_ok [1,1] (by simp)) hg.num
 rw [sh_yes] at h1
 rw [sh_no] at h2
 have q1:(shC.length:Int)=1:=by decide
 have q2:(0:Int)<(shC.length:Int):=by decide
 have q3:((rd_L7 shC 0).length:Int)=2:=by decide
 unfold exerguelaw11_shown.f
 simp only [p,Option.bind_some,if_true,if_pos q1,if_pos q2,if_pos q3,h1,h2,Bool.false_eq_true,if_false]
 refine Ev.bind (text_ev hg.txt) ?_
 rw [sh_text]
 have e2:(strOfNums shT).toList=([110,32,37,32,49,48,32,61,32,49,32,97,110,100,32,110,32,37,32,49,48,48,32,33,61,32,49,49]:List UInt8):=by rw [ByteArray.toList_eq];decide
 simp only [if_pos e2]
 have:=ruleRight11 hg.txt
 rw [sh_right] at this
 exact Ev.bind this (Ev.now _)
end Go.Proofs.YtgfajgkjbckkgaaGreatDoor.PZ
end
