/- Texts of this seat, joined. Conditions: none beyond each statement's own. -/
import Derived.Test.YtgfajgkjbckkgaaGreatDoorPb29
set_option linter.all false
section
noncomputable section
namespace Go.Proofs.YtgfajgkjbckkgaaGreatDoor.PZ
open Go.RowKit Go.Proofs.YtgfajgkjbckkgaaGreatDoorW.PrintWords Go.Proofs.YtgfajgkjbckkgaaGreatDoorW.PrintLast Go.Proofs.YtgfajgkjbckkgaaGreatDoorW.PrintMore
attribute [local go_sem] max2_int min2_int max_two min_two max_three min_three max_four min_four   -- for this text's walks alone
mutual
def exerguelaw12_PlurTotal.j0:Nat→List (S65)→Bool→Bool→List Int→List Int→Int→Int→Option (Bool)
 | 0,_,_,_,_,_,_,_=>none
 | k+1,x0,x5,x32,ai,aj,ak,al=>if x32=true then (some x5) else ((plur_Of.f x0 ai aj ak al).bind fun am=>(exerguelaw12_PlurTotal.l0 k x0 x5 am 0 ai aj ak al))
def exerguelaw12_PlurTotal.l0:Nat→List (S65)→Bool→Int→Int→List Int→List Int→Int→Int→Option (Bool)
 | 0,_,_,_,_,_,_,_,_=>none
 | k+1,x0,x5,x6,x7,ai,aj,ak,al=>if x7<(x0.length:Int) then (if 0≤x7 then (if x7≤(wrap64 (x7+1)) then (if (wrap64 (x7+1))≤(x0.length:Int) then ((plur_Of.f ((x0.take ((wrap64 (x7+1)):Int).toNat).drop (x7:Int).toNat) ai aj ak al).bind fun ad=>(if ad=0 then (if ((rd_T65 x0 x7).f0)=x6 then (exerguelaw12_PlurTotal.j2 k x0 x5 x6 x7 ad (ad != x6) ai aj ak al) else (exerguelaw12_PlurTotal.j2 k x0 x5 x6 x7 ad false ai aj ak al)) else (if ad=((rd_T65 x0 x7).f0) then (if ((rd_T65 x0 x7).f0)<x6 then (exerguelaw12_PlurTotal.j2 k x0 x5 x6 x7 ad true ai aj ak al) else (if ((rd_T65 x0 x7).f0)=x6 then (exerguelaw12_PlurTotal.j2 k x0 x5 x6 x7 ad (ad != x6) ai aj ak al) else (exerguelaw12_PlurTotal.j2 k x0 x5 x6 x7 ad false ai aj ak al))) else (exerguelaw12_PlurTotal.j2 k x0 x5 x6 x7 ad true ai aj ak al)))) else (none)) else (none)) else (none)) else (if x5=true then (if x6≥0 then (some (decide (x6≤5))) else (none)) else (none))
def exerguelaw12_PlurTotal.j2:Nat→List (S65)→Bool→Int→Int→Int→Bool→List Int→List Int→Int→Int→Option (Bool)
 | 0,_,_,_,_,_,_,_,_,_,_=>none
 | k+1,x0,x5,x6,x7,x8,x87,ai,aj,ak,al=>if x87=true then (none) else (if x8=0 then (exerguelaw12_PlurTotal.l0 k x0 x5 x6 (wrap64 (x7+1)) ai aj ak al) else (if x6=0 then (none) else (exerguelaw12_PlurTotal.l0 k x0 x5 x6 (wrap64 (x7+1)) ai aj ak al)))
end
def exerguelaw12_PlurTotal.f (k:Nat)(l0:List (S65))(ag:List Int)(ah:List Int)(an:Int)(ao:Int):Option (Bool):=(exerguelaw12_shown.f k).bind fun aw=>((exergueref12_Short.f k l0).bind fun a6=>(if a6=true then ((exergueref12_Right.f k l0).bind fun a7=>(if a7=true then (if (wrap64 ((ag.length:Int)+(ah.length:Int)))>1000 then (exerguelaw12_PlurTotal.j0 k l0 aw true ag ah an ao) else ((exergueref07_Right.f k ag ah an ao).bind fun a5=>(exerguelaw12_PlurTotal.j0 k l0 aw (!a5) ag ah an ao))) else (exerguelaw12_PlurTotal.j0 k l0 aw true ag ah an ao))) else (exerguelaw12_PlurTotal.j0 k l0 aw true ag ah an ao)))
theorem exerguelaw12_PlurTotal.mono_l:∀ k,(∀ y0 y1 y2 y3 y4 y5 y6,LeO (exerguelaw12_PlurTotal.j0 k y0 y1 y2 y3 y4 y5 y6) (exerguelaw12_PlurTotal.j0 (k+1) y0 y1 y2 y3 y4 y5 y6))∧(∀ y0 y1 y2 y3 y4 y5 y6 y7,LeO (exerguelaw12_PlurTotal.l0 k y0 y1 y2 y3 y4 y5 y6 y7) (exerguelaw12_PlurTotal.l0 (k+1) y0 y1 y2 y3 y4 y5 y6 y7))∧(∀ y0 y1 y2 y3 y4 y5 y6 y7 y8 y9,LeO (exerguelaw12_PlurTotal.j2 k y0 y1 y2 y3 y4 y5 y6 y7 y8 y9) (exerguelaw12_PlurTotal.j2 (k+1) y0 y1 y2 y3 y4 y5 y6 y7 y8 y9))
 | 0=>⟨fun _ _ _ _ _ _ _ r h=>by simp [exerguelaw12_PlurTotal.j0] at h,fun _ _ _ _ _ _ _ _ r h=>by simp [exerguelaw12_PlurTotal.l0] at h,fun _ _ _ _ _ _ _ _ _ _ r h=>by simp [exerguelaw12_PlurTotal.j2] at h⟩
 | k+1=>by
  obtain ⟨ih0,ih1,ih2⟩:=exerguelaw12_PlurTotal.mono_l k
  refine ⟨?_,?_,?_⟩
  ·intro y0 y1 y2 y3 y4 y5 y6
   unfold exerguelaw12_PlurTotal.j0
   repeat' first|(with_reducible first|apply ih0|apply ih1|apply ih2|apply exerguelaw12_shown.mono|apply exergueref07_Right.mono|apply exergueref12_Right.mono|apply exergueref12_Short.mono|apply LeO.refl|apply LeO.none|refine LeO.ite ?_ ?_|refine LeO.bind ?_ (fun _=>?_))|apply ih0|apply ih1|apply ih2|apply exerguelaw12_shown.mono|apply exergueref07_Right.mono|apply exergueref12_Right.mono|apply exergueref12_Short.mono|apply LeO.none
  ·intro y0 y1 y2 y3 y4 y5 y6 y7
   unfold exerguelaw12_PlurTotal.l0
   repeat' first|(with_reducible first|apply ih0|apply ih1|apply ih2|apply exerguelaw12_shown.mono|apply exergueref07_Right.mono|apply exergueref12_Right.mono|apply exergueref12_Short.mono|apply LeO.refl|apply LeO.none|refine LeO.ite ?_ ?_|refine LeO.bind ?_ (fun _=>?_))|apply ih0|apply ih1|apply ih2|apply exerguelaw12_shown.mono|apply exergueref07_Right.mono|apply exergueref12_Right.mono|apply exergueref12_Short.mono|apply LeO.none
  ·intro y0 y1 y2 y3 y4 y5 y6 y7 y8 y9
   unfold exerguelaw12_PlurTotal.j2
   repeat' first|(with_reducible first|apply ih0|apply ih1|apply ih2|apply exerguelaw12_shown.mono|apply exergueref07_Right.mono|apply exergueref12_Right.mono|apply exergueref12_Short.mono|apply LeO.refl|apply LeO.none|refine LeO.ite ?_ ?_|refine LeO.bind ?_ (fun _=>?_))|apply ih0|apply ih1|apply ih2|apply exerguelaw12_shown.mono|apply exergueref07_Right.mono|apply exergueref12_Right.mono|apply exergueref12_Short.mono|apply LeO.none
theorem exerguelaw12_PlurTotal.mono:∀ a0 a1 a2 a3 a4 k,LeO (exerguelaw12_PlurTotal.f k a0 a1 a2 a3 a4) (exerguelaw12_PlurTotal.f (k+1) a0 a1 a2 a3 a4):=by
 intro a0 a1 a2 a3 a4 k
 obtain ⟨ih0,ih1,ih2⟩:=exerguelaw12_PlurTotal.mono_l k
 unfold exerguelaw12_PlurTotal.f
 repeat' first|(with_reducible first|apply ih0|apply ih1|apply ih2|apply exerguelaw12_shown.mono|apply exergueref07_Right.mono|apply exergueref12_Right.mono|apply exergueref12_Short.mono|apply LeO.refl|apply LeO.none|refine LeO.ite ?_ ?_|refine LeO.bind ?_ (fun _=>?_))|apply ih0|apply ih1|apply ih2|apply exerguelaw12_shown.mono|apply exergueref07_Right.mono|apply exergueref12_Right.mono|apply exergueref12_Short.mono|apply LeO.none
def exerguelaw12_PlurTotal.T8:Bool×List (List Nat×List Nat):=(true,[([],[]),([],[]),([],[]),([2],[2]),([0,1,3],[0,1,3]),([],[]),([4,5],[4,5]),([6,6,0,1,2,3,4,5,6],[6])])
def exerguelaw12_PlurTotal.B8:List Nat:=[0,0,0,4,15,0,63,127]
theorem exerguelaw12_PlurTotal.tab8:rtab .any (opsOf Tryz.f9 8)=exerguelaw12_PlurTotal.T8:=by kernel_rfl
theorem exerguelaw12_PlurTotal.bits8:waitsOk exerguelaw12_PlurTotal.T8.2 exerguelaw12_PlurTotal.B8=true:=by kernel_rfl
set_option maxHeartbeats 8000000 in
set_option maxRecDepth 100000 in
theorem exerguelaw12_PlurTotal.calls (k:Nat)(A0:Option Addr)(c0:Nat)(l0:List (S65))(aF:Option Addr)(aG:Nat)(ag:List Int)(aH:Option Addr)(aI:Nat)(ah:List Int)(an:Int)(ao:Int)(r:Bool)(w:World)(hG:GL w)(hr0:Kd.C k65 w A0 l0.length l0)(hc0:l0.length≤c0)(bu:Kd.C (Kd.int .u8) w aF ag.length ag)(bv:ag.length≤aG)(bw:Kd.C (Kd.int .u8) w aH ah.length ah)(bx:ah.length≤aI)(h:exerguelaw12_PlurTotal.f k l0 ag ah an ao=some r) :
  Calls Tryz.prog 9 #[.slice A0 l0.length c0,.agg #[.slice aF ag.length aG,.slice aH ah.length aI,.int .i64 an,.int .i64 ao]] w fun e w'=>e = .returned (.bool r)∧Below w.heap.size w w':=by
 have hu36:=Tryz.underlying36
 have HR0:=zS hr0
 have HC0:=zS hc0
 clear hr0 hc0
 have a8:=zS bu
 have a9:=zS bv
 clear bu bv
 have ba:=zS bw
 have bb:=zS bx
 clear bw bx
 have HB:=zS (Below.refl w.heap.size w)
 have HG:=zS hG
 clear hG
 have H:((exerguelaw12_shown.f k).bind fun aw=>((exergueref12_Short.f k l0).bind fun a6=>(if a6=true then ((exergueref12_Right.f k l0).bind fun a7=>(if a7=true then (if (wrap64 ((ag.length:Int)+(ah.length:Int)))>1000 then (exerguelaw12_PlurTotal.j0 k l0 aw true ag ah an ao) else ((exergueref07_Right.f k ag ah an ao).bind fun a5=>(exerguelaw12_PlurTotal.j0 k l0 aw (!a5) ag ah an ao))) else (exerguelaw12_PlurTotal.j0 k l0 aw true ag ah an ao))) else (exerguelaw12_PlurTotal.j0 k l0 aw true ag ah an ao))))=some r:=h
 clear h
 replace H:=Option.bind_eq_some_iff.mp H
 obtain ⟨aw,A30,H⟩:=H
 try dsimp only at H
 have A3:=zS A30
 clear A30
 have HC4:=zS H
 clear H
 go_enter Tryz.func9,Tryz.ntmps9
 go_upto_region 2 with (first|((with_reducible refine gate_dst (N:=3) rfl ?_);(try (refine gate_guard (by rfl) ?_;dsimp only));refine box_event ?hg (N:=3) ?hd (cs:=#[.slice aF ag.length aG,.slice aH ah.length aI,.int .i64 an,.int .i64 ao]) (t:=36) ?hr ?_;(case hd=>rfl);(case hg=>rfl);(case hr=>first|(go_simp;done)|(go_simp;rfl));intro aD hg w5 hbox hb;have ab:=zS (hbox);have cc:=bg HB hg;replace HB:=bs HB hb;clear hb hbox hg)|((with_reducible refine gate_callee (f:=14) rfl ?_);refine gL (some 9) Tryz.func14 #[] ?_;(with_reducible refine (exerguelaw12_shown.calls k  aw _ ?side1 A3.out).mono ?_);(case side1=>refine GL.below HG.out ?_;exact bQ HB);rintro e w6 ⟨rfl,hb⟩;refine ⟨_,rfl,?_⟩;replace ab:=kb ab hb;replace HB:=bs HB hb;(try clear hb)))
 (try simp only [Act.put,sA,sB,sC])
 go_cut [32] (fun v32 wc=>∃ (kq:Nat) (aW:Bool),v32 = .bool aW∧Sd (exerguelaw12_PlurTotal.j0 kq l0 aw aW ag ah an ao=some r)∧Sd (kq≤k)∧Sd (wc.heap[aD]?=some (.cells #[(.slice aF ag.length aG),(.slice aH ah.length aI),.int .i64 an,.int .i64 ao] 36 (0,0)))∧Sd (Below w.heap.size w wc))
 case first=>
  have H:=HC4.out
  clear HC4
  replace H:=Option.bind_eq_some_iff.mp H
  obtain ⟨a6,A70,H⟩:=H
  try dsimp only at H
  have A7:=zS A70
  clear A70
  by_cases c8:a6=true
  rotate_left
  ·replace c8:=Bool.eq_false_iff.mpr c8
   subst c8
   rw [if_neg (show ¬ (false=true) by decide)] at H
   have H':=zS H
   clear H
   go_wp2_with (first|((with_reducible refine gate_callee (f:=20) rfl ?_);refine gL (some 11) Tryz.func20 #[.slice A0 l0.length c0] ?_;(with_reducible refine (exergueref12_Short.calls k _ _ l0 false _ (cb HR0 HB) HC0.out A7.out).mono ?_);rintro e w' ⟨rfl,⟨nd,rfl⟩⟩;refine ⟨_,rfl,?_⟩))
   go_meet
   case rel=>exact ⟨_,(true),(by first|rfl|(simp;done)|(simp [*];done)),H',⟨by first|omega|exact Nat.le_refl _⟩,⟨ko ab⟩,⟨bQ HB⟩⟩
  subst c8
  rw [if_pos rfl] at H
  replace H:=Option.bind_eq_some_iff.mp H
  obtain ⟨a7,A90,H⟩:=H
  try dsimp only at H
  have A9:=zS A90
  clear A90
  by_cases c10:a7=true
  rotate_left
  ·replace c10:=Bool.eq_false_iff.mpr c10
   subst c10
   rw [if_neg (show ¬ (false=true) by decide)] at H
   have H':=zS H
   clear H
   go_wp2_with (first|((with_reducible refine gate_callee (f:=20) rfl ?_);refine gL (some 11) Tryz.func20 #[.slice A0 l0.length c0] ?_;(with_reducible refine (exergueref12_Short.calls k _ _ l0 true _ (cb HR0 HB) HC0.out A7.out).mono ?_);rintro e w' ⟨rfl,⟨nd,rfl⟩⟩;refine ⟨_,rfl,?_⟩)|(go_at_call 19;(with_reducible refine (exergueref12_Right.calls k _ _ l0 false _ ?side1 HC0.out A9.out).mono ?_);(case side1=>repeat (first|exact (Kd.C_below HR0.out (bQ HB))|(with_reducible refine Kd.C_alloc ?_ _)|(with_reducible refine Kd.C_drewN ?_ _)|(with_reducible refine Kd.C_drew ?_)));rintro e w18 ⟨rfl,hb⟩;replace ab:=kb ab hb;replace HB:=bs HB hb;(try clear hb)))
   go_meet
   case rel=>exact ⟨_,(true),(by first|rfl|(simp;done)|(simp [*];done)),H',⟨by first|omega|exact Nat.le_refl _⟩,⟨ko ab⟩,⟨bQ HB⟩⟩
  subst c10
  rw [if_pos rfl] at H
  by_cases c11:(wrap64 ((ag.length:Int)+(ah.length:Int)))>1000
  ·rw [if_pos c11] at H
   have az:decide (1000<(wrap64 ((ag.length:Int)+(ah.length:Int))))=true:=zC c11
   clear c11
   (first|rw [az]|(simp only [i64_w,i32_w];rw [az])|rw [bV]|skip)
   have H':=zS H
   clear H
   go_wp2_with (first|((with_reducible refine gate_callee (f:=20) rfl ?_);refine gL (some 11) Tryz.func20 #[.slice A0 l0.length c0] ?_;(with_reducible refine (exergueref12_Short.calls k _ _ l0 true _ (cb HR0 HB) HC0.out A7.out).mono ?_);rintro e w' ⟨rfl,⟨nd,rfl⟩⟩;refine ⟨_,rfl,?_⟩)|(go_at_call 19;(with_reducible refine (exergueref12_Right.calls k _ _ l0 true _ ?side1 HC0.out A9.out).mono ?_);(case side1=>repeat (first|exact (Kd.C_below HR0.out (bQ HB))|(with_reducible refine Kd.C_alloc ?_ _)|(with_reducible refine Kd.C_drewN ?_ _)|(with_reducible refine Kd.C_drew ?_)));rintro e w12 ⟨rfl,hb⟩;replace ab:=kb ab hb;replace HB:=bs HB hb;(try clear hb);have bc:=blkc4 ab.out;have bd:=blkf4 ab.out))
   go_meet
   case rel=>exact ⟨_,(true),(by first|rfl|(simp;done)|(simp [*];done)),H',⟨by first|omega|exact Nat.le_refl _⟩,⟨ko ab⟩,⟨bQ HB⟩⟩
  rw [if_neg c11] at H
  have az:decide (1000<(wrap64 ((ag.length:Int)+(ah.length:Int))))=false:=zD c11
  clear c11
  (first|rw [az]|(simp only [i64_w,i32_w];rw [az])|rw [bV]|skip)
  replace H:=Option.bind_eq_some_iff.mp H
  obtain ⟨a5,bW,H⟩:=H
  try dsimp only at H
  have A14:=zS bW
  clear bW
  have H':=zS H
  clear H
  go_wp2_with (first|((with_reducible refine gate_callee (f:=20) rfl ?_);refine gL (some 11) Tryz.func20 #[.slice A0 l0.length c0] ?_;(with_reducible refine (exergueref12_Short.calls k _ _ l0 true _ (cb HR0 HB) HC0.out A7.out).mono ?_);rintro e w' ⟨rfl,⟨nd,rfl⟩⟩;refine ⟨_,rfl,?_⟩)|(go_at_call 19;(with_reducible refine (exergueref12_Right.calls k _ _ l0 true _ ?side1 HC0.out A9.out).mono ?_);(case side1=>repeat (first|exact (Kd.C_below HR0.out (bQ HB))|(with_reducible refine Kd.C_alloc ?_ _)|(with_reducible refine Kd.C_drewN ?_ _)|(with_reducible refine Kd.C_drew ?_)));rintro e w15 ⟨rfl,hb⟩;replace ab:=kb ab hb;replace HB:=bs HB hb;(try clear hb);have be:=blkc4 ab.out;have bf:=blkf4 ab.out)|(go_at_call 26;(with_reducible refine (exergueref07_Right.calls k _ _ ag _ _ ah an ao a5 _ (cb a8 HB) a9.out (cb ba HB) bb.out A14.out).mono ?_);rintro e w17 ⟨rfl,hb⟩;replace ab:=kb ab hb;replace HB:=bs HB hb;(try clear hb);(try clear hb2);(try clear hk);(try clear hi)))
  go_meet
  case rel=>exact ⟨_,(!a5),(by first|rfl|(simp;done)|(simp [*];done)),H',⟨by first|omega|exact Nat.le_refl _⟩,⟨ko ab⟩,⟨bQ HB⟩⟩
 case rest=>
  clear HC4
  try clear c1
  try clear c2
  try clear p2
  try clear p6
  try clear c8
  try clear c9
  try clear c10
  try clear c11
  try clear az
  try clear c14
  try clear bc
  try clear be
  try clear bd
  try clear bf
  obtain ⟨kq,aW,rfl,HA,HJ3,ab,HB⟩:=hcut
  cases kq with
  | zero=>exact absurd HA.out (by simp [exerguelaw12_PlurTotal.j0])
  | succ kj3=>
   have H:=HA.out
   clear HA
   simp only [exerguelaw12_PlurTotal.j0] at H
   by_cases c19:aW=true
   ·subst c19
    rw [if_pos rfl] at H
    obtain rfl:=zE H
    go_wp2
    go_ret
    exact ⟨by first|rfl|(simp <;> rfl)|(simp [*] <;> rfl),bQ HB⟩
   replace c19:=Bool.eq_false_iff.mpr c19
   subst c19
   rw [if_neg (show ¬ (false=true) by decide)] at H
   replace H:=Option.bind_eq_some_iff.mp H
   obtain ⟨am,bX,H⟩:=H
   try dsimp only at H
   have A20:=zS bX
   clear bX
   have H':=zS H
   clear H
   have bA:=blkc4 ab.out
   have bB:=blkf4 ab.out
   go_wp2_with (first|((with_reducible refine gate_callee (f:=27) rfl ?_);refine gL (some 36) Tryz.func27 #[.slice A0 l0.length c0,.agg #[.slice aF ag.length aG,.slice aH ah.length aI,.int .i64 an,.int .i64 ao]] ?_;(with_reducible refine (plur_Of.calls _ _ l0 _ _ ag _ _ ah an ao am _ ?side7 (cb HR0 HB) HC0.out (cb a8 HB) a9.out (cb ba HB) bb.out A20.out).mono ?_);(case side7=>refine GL.below HG.out ?_;exact bQ HB);rintro e w22 ⟨rfl,hb⟩;refine ⟨_,rfl,?_⟩;replace ab:=kb ab hb;replace HB:=bs HB hb;(try clear hb)))
   go_loopg [7] kj3 (fun kq v7 w'=>∃ (aa:Int),v7 = .int .i64 aa∧Sd (exerguelaw12_PlurTotal.l0 kq l0 aw am aa ag ah an ao=some r)∧Sd (kq≤kj3)∧Sd (w'.heap[aD]?=some (.cells #[(.slice aF ag.length aG),(.slice aH ah.length aI),.int .i64 an,.int .i64 ao] 36 (0,0)))∧Sd (Below w.heap.size w w'))
   case atStart=>exact ⟨(0),(by first|rfl|(simp;done)|(simp [*];done)),H',⟨Nat.le_refl _⟩,⟨ko ab⟩,⟨bQ HB⟩⟩
   case round=>
    clear H'
    try clear c1
    try clear c2
    try clear p2
    try clear p6
    try clear c8
    try clear c9
    try clear c10
    try clear c11
    try clear az
    try clear c14
    try clear c19
    try clear c20
    try clear bc
    try clear be
    try clear bA
    try clear bd
    try clear bf
    try clear bB
    try clear p2
    try clear p6
    obtain ⟨aa,rfl,HA,HK2,ab,HB⟩:=hrel
    cases gk with
    | zero=>exact absurd HA.out (by simp [exerguelaw12_PlurTotal.l0])
    | succ k2=>
     have H:=HA.out
     clear HA
     simp only [exerguelaw12_PlurTotal.l0] at H
     by_cases c23:aa<(l0.length:Int)
     rotate_left
     ·rw [if_neg c23] at H
      have bC:=zD c23
      clear c23
      by_cases c40:aw=true
      ·subst c40
       rw [if_pos rfl] at H
       by_cases c41:am≥0
       ·rw [if_pos c41] at H
        have cd:decide (0≤am)=true:=zC c41
        clear c41
        obtain rfl:=zE H
        go_wp2
        go_ret
        exact ⟨by first|rfl|(simp <;> rfl)|(simp [*] <;> rfl),bQ HB⟩
       rw [if_neg c41] at H
       exact absurd H (by simp)
      replace c40:=Bool.eq_false_iff.mpr c40
      subst c40
      rw [if_neg (show ¬ (false=true) by decide)] at H
      exact absurd H (by simp)
     rw [if_pos c23] at H
     have bC:=zC c23
     clear c23
     by_cases c24:0≤aa
     rotate_left
     ·rw [if_neg c24] at H
      exact absurd H (by simp)
     rw [if_pos c24] at H
     have bY:=eq_true c24
     have b0:=zC c24
     clear c24
     by_cases c25:aa≤(wrap64 (aa+1))
     rotate_left
     ·rw [if_neg c25] at H
      exact absurd H (by simp)
     rw [if_pos c25] at H
     have b1:=eq_true c25
     have b2:=zC c25
     by_cases c26:(wrap64 (aa+1))≤(l0.length:Int)
     rotate_left
     ·rw [if_neg c26] at H
      exact absurd H (by simp)
     rw [if_pos c26] at H
     have b3:=eq_true c26
     have b4:=zC c26
     obtain ⟨aM,aN⟩:∃ y_:List (S65),y_=((l0.take ((wrap64 (aa+1)):Int).toNat).drop (aa:Int).toNat):=⟨_,rfl⟩
     replace H:((plur_Of.f aM ag ah an ao).bind fun ad=>(if ad=0 then (if ((rd_T65 l0 aa).f0)=am then (exerguelaw12_PlurTotal.j2 k2 l0 aw am aa ad (ad != am) ag ah an ao) else (exerguelaw12_PlurTotal.j2 k2 l0 aw am aa ad false ag ah an ao)) else (if ad=((rd_T65 l0 aa).f0) then (if ((rd_T65 l0 aa).f0)<am then (exerguelaw12_PlurTotal.j2 k2 l0 aw am aa ad true ag ah an ao) else (if ((rd_T65 l0 aa).f0)=am then (exerguelaw12_PlurTotal.j2 k2 l0 aw am aa ad (ad != am) ag ah an ao) else (exerguelaw12_PlurTotal.j2 k2 l0 aw am aa ad false ag ah an ao))) else (exerguelaw12_PlurTotal.j2 k2 l0 aw am aa ad true ag ah an ao))))=some r:=by first|(rw [aN];with_reducible exact H)|(have H2_:=(Option.bind_some _ _).symm.trans H;rw [aN];with_reducible exact H2_)|(have H2_:=(Option.bind_some _ _).symm.trans H;with_reducible exact H2_)|with_reducible exact H|(rw [aN];exact H)|exact H
     have bD:=zS aN
     clear aN
     replace H:=Option.bind_eq_some_iff.mp H
     obtain ⟨ad,b5,H⟩:=H
     try dsimp only at H
     have A27:=zS b5
     clear b5
     have bM:=zS H
     clear H
     try go_wp2
     replace ab:=zS (blk_drew ab.out)
     replace HB:=zS (below_drew1 HB.out)
     have q30:((wrap64 (aa+1)):Int)≤((l0.length:Int):Int):=zB (by first|(with_reducible assumption)|assumption)
     obtain ⟨i030,hi030,_,hsz30,_⟩:=info_parts info65
     have hroom30:l0.length≤c0:=HC0.out
     have hC30:Kd.C k65 _ A0 l0.length l0:=HR0.out
     have ql30:(aa:Int)≤((wrap64 (aa+1)):Int):=zB (by first|(with_reducible assumption)|assumption)
     have b6:(0:Int)≤(aa:Int):=zB (by first|(with_reducible assumption)|assumption)
     have hcut30:=cut_mid (P:=Tryz.prog) 28 65 .i64 .i64 Tryz.underlying28 hi030 2 hsz30 A0 l0.length c0 aa (wrap64 (aa+1)) b6 ql30 q30 hroom30
     have bh:=Kd.C_mid (lo:=(aa:Int).toNat) (hi:=((wrap64 (aa+1)):Int).toNat) (c:=c0) hC30 (by omega) (by omega) hroom30
     obtain ⟨A30,hA30⟩:∃ Az_,Az_=(if c0=(aa:Int).toNat then A0 else (A0:Option Addr).map (·.add ((aa:Int).toNat * 2))):=⟨_,rfl⟩
     obtain ⟨c30,bN⟩:∃ cz_,cz_=c0 - (aa:Int).toNat:=⟨_,rfl⟩
     have bn:aM.length=((wrap64 (aa+1)):Int).toNat - (aa:Int).toNat:=(by rw [bD.out,List.length_drop,List.length_take] <;> omega)
     rw [show ((l0).take ((wrap64 (aa+1)):Int).toNat).drop (aa:Int).toNat=aM from bD.out.symm] at bh
     replace bh:Kd.C k65 _ A30 aM.length aM:=(by rw [hA30];exact bh)
     rw [← bn,← hA30,← bN] at hcut30
     have bE:=zS bh
     have b7:=zS (show aM.length≤c30 from by rw [bn,bN];exact Nat.sub_le_sub_right (Nat.le_trans (by omega) hroom30) _)
     clear bh hC30 hroom30 hi030 hsz30 bN
     have KY30:=zS bn
     have KA30:=zS hA30
     clear bn hA30
     replace q30:=eq_true q30
     refine start_ (n:=8) (S:=fun w'=>w'.cell? ⟨aD,0,none⟩=some (.slice aF ag.length aG)∧w'.cell? ⟨aD,1,none⟩=some (.slice aH ah.length aI)∧w'.cell? ⟨aD,2,none⟩=some (.int .i64 an)∧w'.cell? ⟨aD,3,none⟩=some (.int .i64 ao)) (ds:=[]) (bZ 8 0) (by kernel_rfl) rfl (by kernel_rfl) ⟨(blk_cell ab.out 0).trans rfl,(blk_cell ab.out 1).trans rfl,(blk_cell ab.out 2).trans rfl,(blk_cell ab.out 3).trans rfl⟩ (fun hHeld=>?_);refine with_tabW exerguelaw12_PlurTotal.tab8 exerguelaw12_PlurTotal.bits8 (fun HT_ HW_=>?_)
     generalize wr.drew=w29 at ab HB bE hHeld ⊢
     refine q1 0 43 1 HT_ ?_
     refine q1 1 44 3 HT_ ?_
     refine q1 2 45 7 HT_ ?_
     refine q1 3 46 15 HT_ ?_
     refine q1 4 47 31 HT_ ?_
     refine q2 5 48 63 HT_ HW_ hHeld ?_ (hy:=by rintro w' ⟨s0,s1,s2,s3⟩;go_simp;with_reducible rfl)
     refine one_ (i:=6) (N:=some 49) (bZ 8 127) rfl rfl (one_of HT_.out (by kernel_rfl)) (by decide) (fun K hK=>?_)
     refine goes_ Tryz.func27 (by kernel_rfl) rfl #[.slice A30 aM.length c30,.agg #[.slice aF ag.length aG,.slice aH ah.length aI,.int .i64 an,.int .i64 ao]] (by rfl) rfl rfl (by (try simp only [mA,mB,mC]);first|done|rfl|(simp only [lD,lT];rfl)) ?_
     with_reducible refine (plur_Of.calls _ _ aM _ _ ag _ _ ah an ao ad _ ?side7 ?side1 ?side2 ?side3 ?side4 ?side5 ?side6 A27.out).mono ?_
     (case side1=>exact Kd.C_below bE.out (bQ HB))
     (case side2=>exact b7.out)
     (case side3=>exact Kd.C_below a8.out (bQ HB))
     (case side4=>exact a9.out)
     (case side5=>exact Kd.C_below ba.out (bQ HB))
     (case side6=>exact bb.out)
     (case side7=>refine GL.below HG.out ?_;exact bQ HB)
     rintro e w31 ⟨rfl,hb⟩
     refine ⟨_,rfl,?_⟩
     replace ab:=kb ab hb
     replace HB:=bs HB hb
     (try clear hb)
     (try clear hb2)
     (try clear hk)
     (try clear hi)
     refine hK.out _ _ ⟨(blk_cell ab.out 0).trans rfl,(blk_cell ab.out 1).trans rfl,(blk_cell ab.out 2).trans rfl,(blk_cell ab.out 3).trans rfl⟩ (fun hHeld=>?_)
     clear hK K
     refine norm_ (a':=?_) ?_ ?_
     rotate_left
     ·show Act.put _ (some 49) _=_
      simp only [Act.put,sA,sB,sC,i64_w,i32_w]
      rfl
     refine q1 7 8 255 HT_ ?_
     refine done_ (done_of HT_.out (by kernel_rfl)) ?_
     go_upto_region 9 with (fail)
     go_cut [87] (fun v87 wc=>∃ (kq:Nat) (aJ:Bool),v87 = .bool aJ∧Sd (exerguelaw12_PlurTotal.j2 kq l0 aw am aa ad aJ ag ah an ao=some r)∧Sd (kq≤k2)∧Sd (wc.heap[aD]?=some (.cells #[(.slice aF ag.length aG),(.slice aH ah.length aI),.int .i64 an,.int .i64 ao] 36 (0,0)))∧Sd (Below w.heap.size w wc))
     case first=>
      have H:=bM.out
      clear bM
      by_cases c32:ad=0
      ·rw [if_pos c32] at H
       have aE:(ad == 0)=true:=zH c32
       have aX:(ad != 0)=false:=zG c32
       clear c32
       (first|rw [aE]|(simp only [i64_w,i32_w];rw [aE])|rw [aX]|skip)
       by_cases c33:((rd_T65 l0 aa).f0)=am
       ·rw [if_pos c33] at H
        have bF:(((rd_T65 l0 aa).f0) == am)=true:=zH c33
        have bG:(((rd_T65 l0 aa).f0) != am)=false:=zG c33
        clear c33
        have H':=zS H
        clear H
        have aO:0≤(aa:Int):=zB (by first|(with_reducible assumption)|assumption)
        have aP:aa<(l0.length:Int):=zB (by first|(with_reducible assumption)|assumption)
        obtain ⟨b8,bO,bP,bR,ar,au,hl536_1,hi536_1⟩:=at_T65 HR0.out aa aO aP
        cases bR
        replace ar:=(HB.out.cell (World.block_lt_of_cell? w _ ar)).trans ar
        replace au:=(HB.out.cell (World.block_lt_of_cell? w _ au)).trans au
        have bo:=zS hi536_1
        have bp:=zS hl536_1
        clear hi536_1 hl536_1
        replace aO:=eq_true aO
        replace aP:=eq_true aP
        go_wp2
        go_meet
        case rel=>exact ⟨_,((ad != am)),(by first|rfl|(simp;done)|(simp [*];done)|(cases ad <;> simp;done)|(cases ad <;> simp [*];done)),H',⟨by have:=HJ3.out;have:=HK2.out;first|omega|exact Nat.le_refl _⟩,⟨ko ab⟩,⟨bQ HB⟩⟩
       rw [if_neg c33] at H
       have bF:(((rd_T65 l0 aa).f0) == am)=false:=zF c33
       have bG:(((rd_T65 l0 aa).f0) != am)=true:=zI c33
       have H':=zS H
       clear H
       have aO:0≤(aa:Int):=zB (by first|(with_reducible assumption)|assumption)
       have aP:aa<(l0.length:Int):=zB (by first|(with_reducible assumption)|assumption)
       obtain ⟨b8,bO,bP,bR,ar,au,hl536_1,hi536_1⟩:=at_T65 HR0.out aa aO aP
       cases bR
       replace ar:=(HB.out.cell (World.block_lt_of_cell? w _ ar)).trans ar
       replace au:=(HB.out.cell (World.block_lt_of_cell? w _ au)).trans au
       have bo:=zS hi536_1
       have bp:=zS hl536_1
       clear hi536_1 hl536_1
       replace aO:=eq_true aO
       replace aP:=eq_true aP
       go_wp2
       go_meet
       case rel=>exact ⟨_,(false),(by first|rfl|(simp;done)|(simp [*];done)),H',⟨by have:=HJ3.out;have:=HK2.out;first|omega|exact Nat.le_refl _⟩,⟨ko ab⟩,⟨bQ HB⟩⟩
      rw [if_neg c32] at H
      have aE:(ad == 0)=false:=zF c32
      have aX:(ad != 0)=true:=zI c32
      (first|rw [aE]|(simp only [i64_w,i32_w];rw [aE])|rw [aX]|skip)
      by_cases c34:ad=((rd_T65 l0 aa).f0)
      rotate_left
      ·rw [if_neg c34] at H
       have bH:(ad == ((rd_T65 l0 aa).f0))=false:=zF c34
       have bI:(ad != ((rd_T65 l0 aa).f0))=true:=zI c34
       have H':=zS H
       clear H
       have ax:0≤(aa:Int):=zB (by first|(with_reducible assumption)|assumption)
       have ay:aa<(l0.length:Int):=zB (by first|(with_reducible assumption)|assumption)
       obtain ⟨aA,aT,aU,aV,af,ac,hl537_1,hi537_1⟩:=at_T65 HR0.out aa ax ay
       cases aV
       replace af:=(HB.out.cell (World.block_lt_of_cell? w _ af)).trans af
       replace ac:=(HB.out.cell (World.block_lt_of_cell? w _ ac)).trans ac
       have aK:=zS hi537_1
       have aL:=zS hl537_1
       clear hi537_1 hl537_1
       replace ax:=eq_true ax
       replace ay:=eq_true ay
       go_wp2
       go_meet
       case rel=>exact ⟨_,(true),(by first|rfl|(simp;done)|(simp [*];done)),H',⟨by have:=HJ3.out;have:=HK2.out;first|omega|exact Nat.le_refl _⟩,⟨ko ab⟩,⟨bQ HB⟩⟩
      rw [if_pos c34] at H
      have bH:(ad == ((rd_T65 l0 aa).f0))=true:=zH c34
      have bI:(ad != ((rd_T65 l0 aa).f0))=false:=zG c34
      clear c34
      by_cases c35:((rd_T65 l0 aa).f0)<am
      ·rw [if_pos c35] at H
       have bJ:=zC c35
       clear c35
       have H':=zS H
       clear H
       have ax:0≤(aa:Int):=zB (by first|(with_reducible assumption)|assumption)
       have ay:aa<(l0.length:Int):=zB (by first|(with_reducible assumption)|assumption)
       obtain ⟨aA,aT,aU,aV,af,ac,hl537_1,hi537_1⟩:=at_T65 HR0.out aa ax ay
       cases aV
       replace af:=(HB.out.cell (World.block_lt_of_cell? w _ af)).trans af
       replace ac:=(HB.out.cell (World.block_lt_of_cell? w _ ac)).trans ac
       have aK:=zS hi537_1
       have aL:=zS hl537_1
       clear hi537_1 hl537_1
       replace ax:=eq_true ax
       replace ay:=eq_true ay
       have aB:0≤(aa:Int):=zB (by first|(with_reducible assumption)|assumption)
       have aC:aa<(l0.length:Int):=zB (by first|(with_reducible assumption)|assumption)
       obtain ⟨aQ,bi,bj,bk,ap,ae,hl538_1,hi538_1⟩:=at_T65 HR0.out aa aB aC
       obtain rfl:aA=aQ:=(by injection bk)
       replace ap:=(HB.out.cell (World.block_lt_of_cell? w _ ap)).trans ap
       replace ae:=(HB.out.cell (World.block_lt_of_cell? w _ ae)).trans ae
       have aY:=zS hi538_1
       have aZ:=zS hl538_1
       clear hi538_1 hl538_1
       replace aB:=eq_true aB
       replace aC:=eq_true aC
       try (have ea_:=zE (ac.symm.trans ae);injection ea_ with ea_ en_ ec_;subst ea_;subst ec_;clear en_)
       go_wp2
       go_meet
       case rel=>exact ⟨_,(true),(by first|rfl|(simp;done)|(simp [*];done)),H',⟨by have:=HJ3.out;have:=HK2.out;first|omega|exact Nat.le_refl _⟩,⟨ko ab⟩,⟨bQ HB⟩⟩
      rw [if_neg c35] at H
      have bJ:=zD c35
      clear c35
      by_cases c36:((rd_T65 l0 aa).f0)=am
      ·rw [if_pos c36] at H
       have bK:(((rd_T65 l0 aa).f0) == am)=true:=zH c36
       have bL:(((rd_T65 l0 aa).f0) != am)=false:=zG c36
       clear c36
       have H':=zS H
       clear H
       have ax:0≤(aa:Int):=zB (by first|(with_reducible assumption)|assumption)
       have ay:aa<(l0.length:Int):=zB (by first|(with_reducible assumption)|assumption)
       obtain ⟨aA,aT,aU,aV,af,ac,hl537_1,hi537_1⟩:=at_T65 HR0.out aa ax ay
       cases aV
       replace af:=(HB.out.cell (World.block_lt_of_cell? w _ af)).trans af
       replace ac:=(HB.out.cell (World.block_lt_of_cell? w _ ac)).trans ac
       have aK:=zS hi537_1
       have aL:=zS hl537_1
       clear hi537_1 hl537_1
       replace ax:=eq_true ax
       replace ay:=eq_true ay
       have aB:0≤(aa:Int):=zB (by first|(with_reducible assumption)|assumption)
       have aC:aa<(l0.length:Int):=zB (by first|(with_reducible assumption)|assumption)
       obtain ⟨aQ,bi,bj,bk,ap,ae,hl538_1,hi538_1⟩:=at_T65 HR0.out aa aB aC
       obtain rfl:aA=aQ:=(by injection bk)
       replace ap:=(HB.out.cell (World.block_lt_of_cell? w _ ap)).trans ap
       replace ae:=(HB.out.cell (World.block_lt_of_cell? w _ ae)).trans ae
       have aY:=zS hi538_1
       have aZ:=zS hl538_1
       clear hi538_1 hl538_1
       replace aB:=eq_true aB
       replace aC:=eq_true aC
       try (have ea_:=zE (ac.symm.trans ae);injection ea_ with ea_ en_ ec_;subst ea_;subst ec_;clear en_)
       have aR:0≤(aa:Int):=zB (by first|(with_reducible assumption)|assumption)
       have aS:aa<(l0.length:Int):=zB (by first|(with_reducible assumption)|assumption)
       obtain ⟨bm,bS,bT,bU,av,aq,hl539_1,hi539_1⟩:=at_T65 HR0.out aa aR aS
       obtain rfl:aA=bm:=(by injection bU)
       try (have ea_:=zE (ae.symm.trans aq);injection ea_ with ea_ en_ ec_;subst ea_;subst ec_;clear en_)
       replace av:=(HB.out.cell (World.block_lt_of_cell? w _ av)).trans av
       replace aq:=(HB.out.cell (World.block_lt_of_cell? w _ aq)).trans aq
       have bq:=zS hi539_1
       have br:=zS hl539_1
       clear hi539_1 hl539_1
       replace aR:=eq_true aR
       replace aS:=eq_true aS
       try (have ea_:=zE (ac.symm.trans aq);injection ea_ with ea_ en_ ec_;subst ea_;subst ec_;clear en_)
       go_wp2
       go_meet
       case rel=>exact ⟨_,((ad != am)),(by first|rfl|(simp;done)|(simp [*];done)|(cases ad <;> simp;done)|(cases ad <;> simp [*];done)),H',⟨by have:=HJ3.out;have:=HK2.out;first|omega|exact Nat.le_refl _⟩,⟨ko ab⟩,⟨bQ HB⟩⟩
      rw [if_neg c36] at H
      have bK:(((rd_T65 l0 aa).f0) == am)=false:=zF c36
      have bL:(((rd_T65 l0 aa).f0) != am)=true:=zI c36
      have H':=zS H
      clear H
      have ax:0≤(aa:Int):=zB (by first|(with_reducible assumption)|assumption)
      have ay:aa<(l0.length:Int):=zB (by first|(with_reducible assumption)|assumption)
      obtain ⟨aA,aT,aU,aV,af,ac,hl537_1,hi537_1⟩:=at_T65 HR0.out aa ax ay
      cases aV
      replace af:=(HB.out.cell (World.block_lt_of_cell? w _ af)).trans af
      replace ac:=(HB.out.cell (World.block_lt_of_cell? w _ ac)).trans ac
      have aK:=zS hi537_1
      have aL:=zS hl537_1
      clear hi537_1 hl537_1
      replace ax:=eq_true ax
      replace ay:=eq_true ay
      have aB:0≤(aa:Int):=zB (by first|(with_reducible assumption)|assumption)
      have aC:aa<(l0.length:Int):=zB (by first|(with_reducible assumption)|assumption)
      obtain ⟨aQ,bi,bj,bk,ap,ae,hl538_1,hi538_1⟩:=at_T65 HR0.out aa aB aC
      obtain rfl:aA=aQ:=(by injection bk)
      replace ap:=(HB.out.cell (World.block_lt_of_cell? w _ ap)).trans ap
      replace ae:=(HB.out.cell (World.block_lt_of_cell? w _ ae)).trans ae
      have aY:=zS hi538_1
      have aZ:=zS hl538_1
      clear hi538_1 hl538_1
      replace aB:=eq_true aB
      replace aC:=eq_true aC
      try (have ea_:=zE (ac.symm.trans ae);injection ea_ with ea_ en_ ec_;subst ea_;subst ec_;clear en_)
      have aR:0≤(aa:Int):=zB (by first|(with_reducible assumption)|assumption)
      have aS:aa<(l0.length:Int):=zB (by first|(with_reducible assumption)|assumption)
      obtain ⟨bm,bS,bT,bU,av,aq,hl539_1,hi539_1⟩:=at_T65 HR0.out aa aR aS
      obtain rfl:aA=bm:=(by injection bU)
      try (have ea_:=zE (ae.symm.trans aq);injection ea_ with ea_ en_ ec_;subst ea_;subst ec_;clear en_)
      replace av:=(HB.out.cell (World.block_lt_of_cell? w _ av)).trans av
      replace aq:=(HB.out.cell (World.block_lt_of_cell? w _ aq)).trans aq
      have bq:=zS hi539_1
      have br:=zS hl539_1
      clear hi539_1 hl539_1
      replace aR:=eq_true aR
      replace aS:=eq_true aS
      try (have ea_:=zE (ac.symm.trans aq);injection ea_ with ea_ en_ ec_;subst ea_;subst ec_;clear en_)
      go_wp2
      go_meet
      case rel=>exact ⟨_,(false),(by first|rfl|(simp;done)|(simp [*];done)),H',⟨by have:=HJ3.out;have:=HK2.out;first|omega|exact Nat.le_refl _⟩,⟨ko ab⟩,⟨bQ HB⟩⟩
     case rest=>
      clear bM
      try clear c1
      try clear c2
      try clear p2
      try clear c3
      try clear q3
      try clear c5
      try clear p5
      try clear q5
      try clear hx5
      try clear p6
      try clear c8
      try clear c9
      try clear c10
      try clear c11
      try clear az
      try clear c14
      try clear c19
      try clear c20
      try clear c23
      try clear bC
      try clear c24
      try clear bY
      try clear b0
      try clear c25
      try clear b1
      try clear b2
      try clear c26
      try clear b3
      try clear b4
      try clear c27
      try clear c30
      try clear q30
      try clear c32
      try clear aE
      try clear aX
      try clear c33
      try clear bF
      try clear bG
      try clear c34
      try clear bH
      try clear bI
      try clear c35
      try clear bJ
      try clear c36
      try clear bK
      try clear bL
      try clear bc
      try clear be
      try clear bA
      try clear bd
      try clear bf
      try clear bB
      try clear ar
      try clear au
      try clear af
      try clear ac
      try clear ap
      try clear ae
      try clear av
      try clear aq
      try clear p2
      try clear aO
      try clear ax
      try clear aB
      try clear aR
      try clear p6
      try clear b6
      try clear q30
      try clear aP
      try clear ay
      try clear aC
      try clear aS
      obtain ⟨kq,aJ,rfl,HA,HJ27,ab,HB⟩:=hcut
      cases kq with
      | zero=>exact absurd HA.out (by simp [exerguelaw12_PlurTotal.j2])
      | succ kj27=>
       have H:=HA.out
       clear HA
       simp only [exerguelaw12_PlurTotal.j2] at H
       by_cases c37:aJ=true
       ·subst c37
        rw [if_pos rfl] at H
        exact absurd H (by simp)
       replace c37:=Bool.eq_false_iff.mpr c37
       subst c37
       rw [if_neg (show ¬ (false=true) by decide)] at H
       by_cases c38:ad=0
       ·rw [if_pos c38] at H
        have b9:(ad == 0)=true:=zH c38
        have ca:(ad != 0)=false:=zG c38
        clear c38
        have H':=zS H
        clear H
        go_wp2
        go_roundg kj27
        case measure=>have:=HJ3.out;have:=HK2.out;have:=HJ27.out;omega
        case rel=>exact ⟨(wrap64 (aa+1)),(by first|rfl|(simp;done)|(simp [*];done)),H',⟨by have:=HJ3.out;have:=HK2.out;have:=HJ27.out;omega⟩,⟨ko ab⟩,⟨bQ HB⟩⟩
       rw [if_neg c38] at H
       have b9:(ad == 0)=false:=zF c38
       have ca:(ad != 0)=true:=zI c38
       by_cases c39:am=0
       ·rw [if_pos c39] at H
        exact absurd H (by simp)
       rw [if_neg c39] at H
       have ce:(am == 0)=false:=zF c39
       have cf:(am != 0)=true:=zI c39
       have H':=zS H
       clear H
       go_wp2
       go_roundg kj27
       case measure=>have:=HJ3.out;have:=HK2.out;have:=HJ27.out;omega
       case rel=>exact ⟨(wrap64 (aa+1)),(by first|rfl|(simp;done)|(simp [*];done)),H',⟨by have:=HJ3.out;have:=HK2.out;have:=HJ27.out;omega⟩,⟨ko ab⟩,⟨bQ HB⟩⟩
end Go.Proofs.YtgfajgkjbckkgaaGreatDoor.PZ
end
end
section
set_option maxRecDepth 100000
namespace Go.Proofs.YtgfajgkjbckkgaaGreatDoor.PZ
open Go.RowKit Go.Proofs.YtgfajgkjbckkgaaGreatDoorW.PrintWords Go.Proofs.YtgfajgkjbckkgaaGreatDoorW.PrintLast
theorem ptotal_off (L:List Ru)(i f:List Int)(w c:Int):Ev (fun k=>exerguelaw12_PlurTotal.j0 k L true true i f w c) true:=by
 refine Ev_shift ?_
 simp only [exerguelaw12_PlurTotal.j0,if_true]
 exact Ev.now _
theorem ptotal_l0 {i f:List Int}{w c:Int}(hok:OpOk i f w c){L:List Ru}(hn:L.length≤140737488355328)(hr:rightR 0 L=true)(n:Nat):∀ j:Nat,j+n=L.length→Ev (fun k=>exerguelaw12_PlurTotal.l0 k L true (catX i f w c L) (j:Int) i f w c) true:=by
 obtain ⟨a1,a2,a3,a4⟩:=cat_facts i f w c L 0 hr (by decide)
 have hg:=rightR_good hr
 induction n with
 | zero=>
  intro j hj
  have q1:¬ ((j:Nat):Int)<(L.length:Int):=by omega
  have q2:catX i f w c L≥0:=by omega
  have q3:catX i f w c L≤5:=by omega
  refine Ev_shift ?_
  simp only [exerguelaw12_PlurTotal.l0,if_neg q1,if_true,if_pos q2,zC q3]
  exact Ev.now _
 | succ n ih=>
  intro j hj
  have hlt:j<L.length:=by omega
  have q1:((j:Nat):Int)<(L.length:Int):=by omega
  have q2:(0:Int)≤(j:Int):=by omega
  have wi:wrap64 ((j:Int)+1)=((j+1:Nat):Int):=by rw [w64 _ (by omega) (by omega)];omega
  have q3:(j:Int)≤((j+1:Nat):Int):=by omega
  have q4:((j+1:Nat):Int)≤(L.length:Int):=by omega
  have e1:(L.take (((j+1:Nat):Int)).toNat).drop ((j:Int)).toNat=[L[j]]:=by
   rw [Int.toNat_natCast,Int.toNat_natCast,List.take_succ_eq_append_getElem hlt,List.drop_append_of_le_length (by simp;omega)]
   simp
  have hm:L[j] ∈ L:=List.getElem_mem hlt
  have e2:plur_Of.f [L[j]] i f w c=some (if condX i f w c (L[j]).f1=true then (L[j]).f0 else 0):=by
   rw [plurOf_f hok (fun x hx=>by rw [List.mem_singleton.1 hx];exact hg _ hm),catX_cons,catX_nil]
  have next:=ih (j+1) (by omega)
  have hb:=a2 _ hm
  refine Ev_shift ?_
  simp only [exerguelaw12_PlurTotal.l0,if_pos q1,if_pos q2,wi,if_pos q3,if_pos q4,e1,e2,Option.bind_some,rd65 hlt]
  by_cases hc:condX i f w c (L[j]).f1=true
  ·have h3:=a3 _ hm hc
   have r1:¬ (L[j]).f0=0:=by omega
   have r2:¬ (L[j]).f0<catX i f w c L:=by omega
   simp only [if_pos hc,if_neg r1,if_true,if_neg r2]
   have go:Ev (fun k=>exerguelaw12_PlurTotal.j2 k L true (catX i f w c L) (j:Int) (L[j]).f0 false i f w c) true:=by
    refine Ev_shift ?_
    simp only [exerguelaw12_PlurTotal.j2,Bool.false_eq_true,if_false,if_neg r1,if_neg h3.1,wi]
    exact next
   by_cases r3:(L[j]).f0=catX i f w c L
   ·have r4:((L[j]).f0 != catX i f w c L)=false:=by rw [r3];simp
    simp only [if_pos r3,r4]
    exact go
   simp only [if_neg r3]
   exact go
  have r1:¬ (L[j]).f0=catX i f w c L:=fun h=>hc (a4 _ hm h)
  simp only [if_neg hc,if_true,if_neg r1]
  refine Ev_shift ?_
  simp only [exerguelaw12_PlurTotal.j2,Bool.false_eq_true,if_false,if_true,wi]
  exact next
theorem Pure.PlurTotal:∀ (x0:List S65) (x1_0:List Int) (x1_1:List Int) (x1_2:Int) (x1_3:Int),OkRus x0→x1_0.length * 1≤140737488351232→(∀ b_ ∈ x1_0,(Lit.int .u8 b_).wf=true)→x1_1.length * 1≤140737488351232→(∀ b_ ∈ x1_1,(Lit.int .u8 b_).wf=true)→(Lit.int .i64 x1_2).wf=true→(Lit.int .i64 x1_3).wf=true→∃ k,exerguelaw12_PlurTotal.f k x0 x1_0 x1_1 x1_2 x1_3=some true:=by
 intro L i f w c hL hi bi hf bf hw hc
 refine Ev.rounds ?_
 unfold exerguelaw12_PlurTotal.f
 refine Ev.bind shown12_ev ?_
 have off:=ptotal_off L i f w c
 obtain ⟨s1,S1,P1⟩:=shortR_ev hL.len.1 hL.len.2
 refine Ev.bind S1 ?_
 cases s1 with
 | false=>simp only [Bool.false_eq_true,if_false];exact off
 | true=>
  have hT:∀ x ∈ L,TxtOk x.f1:=fun x hx=>((P1 rfl).2 x hx).txt (hL.2 x hx).2
  simp only [if_true]
  refine Ev.bind (refRight12_ev hT hL.len.1 hL.len.2) ?_
  cases hr:rightR 0 L with
  | false=>simp only [Bool.false_eq_true,if_false];exact off
  | true=>
   simp only [if_true]
   have wl:wrap64 ((i.length:Int)+(f.length:Int))=(i.length:Int)+(f.length:Int):=w64 _ (by omega) (by omega)
   rw [wl]
   by_cases hl:(i.length:Int)+(f.length:Int)>1000
   · simp only [if_pos hl];exact off
   simp only [if_neg hl]
   refine Ev.bind (refRight_ev i f w c (by omega) (by omega)) ?_
   by_cases ho:RightO i f w c
   ·have hok:OpOk i f w c:=⟨ho,bi,bf,by omega,by omega⟩
    simp only [zC ho,Bool.not_true]
    refine Ev_shift ?_
    simp only [exerguelaw12_PlurTotal.j0,Bool.false_eq_true,if_false,plurOf_f hok (rightR_good hr),Option.bind_some]
    exact ptotal_l0 hok hL.len.2 hr L.length 0 (by omega)
   simp only [zD ho,Bool.not_false]
   exact off
end Go.Proofs.YtgfajgkjbckkgaaGreatDoor.PZ
end
