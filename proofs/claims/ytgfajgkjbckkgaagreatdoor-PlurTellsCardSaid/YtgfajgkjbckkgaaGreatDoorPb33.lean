/- Texts of this seat, joined. Conditions: none beyond each statement's own. -/
import Derived.Test.YtgfajgkjbckkgaaGreatDoorPb29
set_option linter.all false
section
noncomputable section
namespace Go.Proofs.YtgfajgkjbckkgaaGreatDoor.PZ
open Go.RowKit Go.Proofs.YtgfajgkjbckkgaaGreatDoorW.PrintWords Go.Proofs.YtgfajgkjbckkgaaGreatDoorW.PrintLast Go.Proofs.YtgfajgkjbckkgaaGreatDoorW.PrintMore
attribute [local go_sem] max2_int min2_int max_two min_two max_three min_three max_four min_four   -- for this text's walks alone
mutual
def exerguelaw12_PlurTells.j0:Nat→List (S65)→List (S65)→Int→ByteArray→Bool→Bool→List Int→List Int→Int→Int→Option (Bool)
 | 0,_,_,_,_,_,_,_,_,_,_=>none
 | k+1,x3,x4,x6,x7,x8,x47,ak,al,am,an=>if x47=true then (some x8) else ((plur_Cat.f x7).bind fun a8=>((exergueref12_Cat.f k x7).bind fun a9=>((exergueref12_Right.f k x3).bind fun aq=>((plur_Right.f k x3).bind fun ay=>(if (ay != aq)=true then (exerguelaw12_PlurTells.j1 k x3 x8 aq true ak al am an) else ((plur_Same.f x3 x4).bind fun az=>((exergueref12_Same.f k x3 x4).bind fun aA=>(if (az != aA)=true then (exerguelaw12_PlurTells.j1 k x3 x8 aq true ak al am an) else ((plur_Name.f x6).bind fun aJ=>((exergueref12_Name.f x6).bind fun aK=>(if aJ.toList=aK.toList then (if a8.1=a9.1 then (exerguelaw12_PlurTells.j1 k x3 x8 aq (a8.2 != a9.2) ak al am an) else (exerguelaw12_PlurTells.j1 k x3 x8 aq true ak al am an)) else (exerguelaw12_PlurTells.j1 k x3 x8 aq true ak al am an))))))))))))
def exerguelaw12_PlurTells.j1:Nat→List (S65)→Bool→Bool→Bool→List Int→List Int→Int→Int→Option (Bool)
 | 0,_,_,_,_,_,_,_,_=>none
 | k+1,x3,x8,x13,x90,ak,al,am,an=>if x90=true then (none) else (if x8=true then (if x13=true then ((exergueref07_Right.f k ak al am an).bind fun bB=>(if bB=true then ((plur_Of.f x3 ak al am an).bind fun bC=>((exergueref12_Of.f k x3 ak al am an).bind fun bD=>(some (bC == bD)))) else (some true))) else (some true)) else (none))
end
def exerguelaw12_PlurTells.f (k:Nat)(ac:List (S65))(af:List (S65))(ad:List Int)(ae:List Int)(ai:Int)(aj:Int)(ap:Int)(ao:ByteArray):Option (Bool):=(exerguelaw12_shown.f k).bind fun aB=>((exergueref12_Short.f k ac).bind fun aV=>(if aV=true then ((exergueref12_Short.f k af).bind fun aW=>(if aW=true then (if (wrap64 ((ad.length:Int)+(ae.length:Int)))>1000 then (exerguelaw12_PlurTells.j0 k ac af ap ao aB true ad ae ai aj) else (exerguelaw12_PlurTells.j0 k ac af ap ao aB (decide ((ao.size:Int)>50)) ad ae ai aj)) else (exerguelaw12_PlurTells.j0 k ac af ap ao aB true ad ae ai aj))) else (exerguelaw12_PlurTells.j0 k ac af ap ao aB true ad ae ai aj)))
theorem exerguelaw12_PlurTells.mono_l:∀ k,(∀ y0 y1 y2 y3 y4 y5 y6 y7 y8 y9,LeO (exerguelaw12_PlurTells.j0 k y0 y1 y2 y3 y4 y5 y6 y7 y8 y9) (exerguelaw12_PlurTells.j0 (k+1) y0 y1 y2 y3 y4 y5 y6 y7 y8 y9))∧(∀ y0 y1 y2 y3 y4 y5 y6 y7,LeO (exerguelaw12_PlurTells.j1 k y0 y1 y2 y3 y4 y5 y6 y7) (exerguelaw12_PlurTells.j1 (k+1) y0 y1 y2 y3 y4 y5 y6 y7))
 | 0=>⟨fun _ _ _ _ _ _ _ _ _ _ r h=>by simp [exerguelaw12_PlurTells.j0] at h,fun _ _ _ _ _ _ _ _ r h=>by simp [exerguelaw12_PlurTells.j1] at h⟩
 | k+1=>by
  obtain ⟨ih0,ih1⟩:=exerguelaw12_PlurTells.mono_l k
  refine ⟨?_,?_⟩
  ·intro y0 y1 y2 y3 y4 y5 y6 y7 y8 y9
   unfold exerguelaw12_PlurTells.j0
   repeat' first|(with_reducible first|apply ih0|apply ih1|apply exerguelaw12_shown.mono|apply exergueref07_Right.mono|apply exergueref12_Cat.mono|apply exergueref12_Of.mono|apply exergueref12_Right.mono|apply exergueref12_Same.mono|apply exergueref12_Short.mono|apply plur_Right.mono|apply LeO.refl|apply LeO.none|refine LeO.ite ?_ ?_|refine LeO.bind ?_ (fun _=>?_))|apply ih0|apply ih1|apply exerguelaw12_shown.mono|apply exergueref07_Right.mono|apply exergueref12_Cat.mono|apply exergueref12_Of.mono|apply exergueref12_Right.mono|apply exergueref12_Same.mono|apply exergueref12_Short.mono|apply plur_Right.mono|apply LeO.none
  ·intro y0 y1 y2 y3 y4 y5 y6 y7
   unfold exerguelaw12_PlurTells.j1
   repeat' first|(with_reducible first|apply ih0|apply ih1|apply exerguelaw12_shown.mono|apply exergueref07_Right.mono|apply exergueref12_Cat.mono|apply exergueref12_Of.mono|apply exergueref12_Right.mono|apply exergueref12_Same.mono|apply exergueref12_Short.mono|apply plur_Right.mono|apply LeO.refl|apply LeO.none|refine LeO.ite ?_ ?_|refine LeO.bind ?_ (fun _=>?_))|apply ih0|apply ih1|apply exerguelaw12_shown.mono|apply exergueref07_Right.mono|apply exergueref12_Cat.mono|apply exergueref12_Of.mono|apply exergueref12_Right.mono|apply exergueref12_Same.mono|apply exergueref12_Short.mono|apply plur_Right.mono|apply LeO.none
theorem exerguelaw12_PlurTells.mono:∀ a0 a1 a2 a3 a4 a5 a6 a7 k,LeO (exerguelaw12_PlurTells.f k a0 a1 a2 a3 a4 a5 a6 a7) (exerguelaw12_PlurTells.f (k+1) a0 a1 a2 a3 a4 a5 a6 a7):=by
 intro a0 a1 a2 a3 a4 a5 a6 a7 k
 obtain ⟨ih0,ih1⟩:=exerguelaw12_PlurTells.mono_l k
 unfold exerguelaw12_PlurTells.f
 repeat' first|(with_reducible first|apply ih0|apply ih1|apply exerguelaw12_shown.mono|apply exergueref07_Right.mono|apply exergueref12_Cat.mono|apply exergueref12_Of.mono|apply exergueref12_Right.mono|apply exergueref12_Same.mono|apply exergueref12_Short.mono|apply plur_Right.mono|apply LeO.refl|apply LeO.none|refine LeO.ite ?_ ?_|refine LeO.bind ?_ (fun _=>?_))|apply ih0|apply ih1|apply exerguelaw12_shown.mono|apply exergueref07_Right.mono|apply exergueref12_Cat.mono|apply exergueref12_Of.mono|apply exergueref12_Right.mono|apply exergueref12_Same.mono|apply exergueref12_Short.mono|apply plur_Right.mono|apply LeO.none
def exerguelaw12_PlurTells.T14:Bool×List (List Nat×List Nat):=(true,[([],[]),([0],[0]),([1],[1]),([2,1],[1,2]),([3,1,1],[1,3]),([4],[4]),([5,4,4],[4,5]),([6,4],[4,6]),([4,7,1],[1,4,7]),([8,6,1],[1,8]),([9],[9]),([9],[9]),([10,11,9,9],[9,10,11]),([9],[9]),([9],[9]),([13,14,12,9],[9,13,14]),([12,15,9],[9,12,15]),([9,16,1],[1,9,16]),([1,17],[1,17]),([18,15,0,1,2,3,4,5,6,7,8,9,10,11,12,13,14,15,16,17,18],[18])])
def exerguelaw12_PlurTells.B14:List Nat:=[0,1,3,7,15,31,63,127,255,511,1023,1023,4095,1023,1023,32767,65535,131071,262143,524287]
theorem exerguelaw12_PlurTells.tab14:rtab .any (opsOf Tryz.f4 14)=exerguelaw12_PlurTells.T14:=by kernel_rfl
theorem exerguelaw12_PlurTells.bits14:waitsOk exerguelaw12_PlurTells.T14.2 exerguelaw12_PlurTells.B14=true:=by kernel_rfl
set_option maxHeartbeats 8000000 in
set_option maxRecDepth 100000 in
theorem exerguelaw12_PlurTells.calls (k:Nat)(ar:Option Addr)(au:Nat)(ac:List (S65))(aX:Option Addr)(aY:Nat)(af:List (S65))(aC:Option Addr)(aD:Nat)(ad:List Int)(aE:Option Addr)(aF:Nat)(ae:List Int)(ai:Int)(aj:Int)(ap:Int)(ao:ByteArray)(r:Bool)(w:World)(hG:GL w)(ba:Kd.C k65 w ar ac.length ac)(bb:ac.length≤au)(bc:Kd.C k65 w aX af.length af)(bd:af.length≤aY)(be:Kd.C (Kd.int .u8) w aC ad.length ad)(bf:ad.length≤aD)(bh:Kd.C (Kd.int .u8) w aE ae.length ae)(bi:ae.length≤aF)(h:exerguelaw12_PlurTells.f k ac af ad ae ai aj ap ao=some r) :
  Calls Tryz.prog 4 #[.agg #[.slice ar ac.length au,.slice aX af.length aY,.slice aC ad.length aD,.slice aE ae.length aF,.int .i64 ai,.int .i64 aj,.int .i64 ap,.string ao]] w fun e w'=>e = .returned (.bool r)∧Below w.heap.size w w':=by
 have hu38:=Tryz.underlying38
 have hu36:=Tryz.underlying36
 have ag:=zS ba
 have ah:=zS bb
 clear ba bb
 have av:=zS bc
 have aw:=zS bd
 clear bc bd
 have aN:=zS be
 have aO:=zS bf
 clear be bf
 have aP:=zS bh
 have aQ:=zS bi
 clear bh bi
 have HB:=zS (Below.refl w.heap.size w)
 have HG:=zS hG
 clear hG
 have H:((exerguelaw12_shown.f k).bind fun aB=>((exergueref12_Short.f k ac).bind fun aV=>(if aV=true then ((exergueref12_Short.f k af).bind fun aW=>(if aW=true then (if (wrap64 ((ad.length:Int)+(ae.length:Int)))>1000 then (exerguelaw12_PlurTells.j0 k ac af ap ao aB true ad ae ai aj) else (exerguelaw12_PlurTells.j0 k ac af ap ao aB (decide ((ao.size:Int)>50)) ad ae ai aj)) else (exerguelaw12_PlurTells.j0 k ac af ap ao aB true ad ae ai aj))) else (exerguelaw12_PlurTells.j0 k ac af ap ao aB true ad ae ai aj))))=some r:=h
 clear h
 replace H:=Option.bind_eq_some_iff.mp H
 obtain ⟨aB,A20,H⟩:=H
 try dsimp only at H
 have A2:=zS A20
 clear A20
 have HC3:=zS H
 clear H
 go_enter Tryz.func4,Tryz.ntmps4
 go_upto_region 7 with (first|((with_reducible refine gate_dst (N:=1) rfl ?_);(try (refine gate_guard (by rfl) ?_;dsimp only));refine box_event ?hg (N:=1) ?hd (cs:=#[.slice ar ac.length au,.slice aX af.length aY,.slice aC ad.length aD,.slice aE ae.length aF,.int .i64 ai,.int .i64 aj,.int .i64 ap,.string ao]) (t:=38) ?hr ?_;(case hd=>rfl);(case hg=>rfl);(case hr=>first|(go_simp;done)|(go_simp;rfl));intro bj hg w4 hbox hb;have ab:=zS (hbox);have b2:=bg HB hg;replace HB:=bs HB hb;clear hb hbox hg;have bF:=blkc8 ab.out;have bG:=blkf8 ab.out)|((with_reducible refine gate_dst (N:=5) rfl ?_);(try (refine gate_guard (by rfl) ?_;dsimp only));refine box_event ?hg (N:=5) ?hd (cs:=#[.slice none 0 0,.slice none 0 0,.int .i64 0,.int .i64 0]) (t:=36) ?hr ?_;(case hd=>rfl);(case hg=>rfl);(case hr=>first|(go_simp;done)|(go_simp;rfl));intro ax hg w6 hbox hb;have aa:=zS (hbox);have b3:=bg HB hg;replace HB:=bs HB hb;have aG:=kn ab hg;have aH:=km ab hg;replace ab:=kb ab hb;clear hb hbox hg;have ca:=aH.out;have cc:=aG.out;have bH:=blkc4 aa.out;have bI:=blkf4 aa.out;have bJ:=blkc8 ab.out;have bK:=blkf8 ab.out)|((with_reducible refine gate_callee (f:=14) rfl ?_);refine gL (some 24) Tryz.func14 #[] ?_;(with_reducible refine (exerguelaw12_shown.calls k  aB _ ?side1 A2.out).mono ?_);(case side1=>refine GL.below HG.out ?_;exact bQ HB);rintro e w10 ⟨rfl,hb⟩;refine ⟨_,rfl,?_⟩;replace ab:=kb ab hb;replace aa:=zS (blk_below (g:=ax) (o:=.cells #[.slice aC ad.length aD,.slice aE ae.length aF,.int .i64 ai,.int .i64 aj] 36 (0,0)) (kp aa rfl) hb);replace HB:=bs HB hb;(try clear hb)))
 (try simp only [Act.put,sA,sB,sC])
 go_cut [47] (fun v47 wc=>∃ (kq:Nat) (aR:Bool),v47 = .bool aR∧Sd (exerguelaw12_PlurTells.j0 kq ac af ap ao aB aR ad ae ai aj=some r)∧Sd (kq≤k)∧Sd (wc.heap[bj]?=some (.cells #[(.slice ar ac.length au),(.slice aX af.length aY),(.slice aC ad.length aD),(.slice aE ae.length aF),.int .i64 ai,.int .i64 aj,.int .i64 ap,.string ao] 38 (0,0)))∧Sd (wc.heap[ax]?=some (.cells #[(.slice aC ad.length aD),(.slice aE ae.length aF),.int .i64 ai,.int .i64 aj] 36 (0,0)))∧Sd (Below w.heap.size w wc))
 case first=>
  have H:=HC3.out
  clear HC3
  replace H:=Option.bind_eq_some_iff.mp H
  obtain ⟨aV,bL,H⟩:=H
  try dsimp only at H
  have A11:=zS bL
  clear bL
  by_cases c12:aV=true
  rotate_left
  ·replace c12:=Bool.eq_false_iff.mpr c12
   subst c12
   rw [if_neg (show ¬ (false=true) by decide)] at H
   have H':=zS H
   clear H
   go_wp2_with (first|((with_reducible refine gate_callee (f:=20) rfl ?_);refine gL (some 26) Tryz.func20 #[.slice ar ac.length au] ?_;(with_reducible refine (exergueref12_Short.calls k _ _ ac false _ (cb ag HB) ah.out A11.out).mono ?_);rintro e w' ⟨rfl,⟨nd,rfl⟩⟩;refine ⟨_,rfl,?_⟩))
   go_meet
   case rel=>exact ⟨_,(true),(by first|rfl|(simp;done)|(simp [*];done)),H',⟨by first|omega|exact Nat.le_refl _⟩,⟨ko ab⟩,⟨ko aa⟩,⟨bQ HB⟩⟩
  subst c12
  rw [if_pos rfl] at H
  replace H:=Option.bind_eq_some_iff.mp H
  obtain ⟨aW,bM,H⟩:=H
  try dsimp only at H
  have A13:=zS bM
  clear bM
  by_cases c14:aW=true
  rotate_left
  ·replace c14:=Bool.eq_false_iff.mpr c14
   subst c14
   rw [if_neg (show ¬ (false=true) by decide)] at H
   have H':=zS H
   clear H
   go_wp2_with (first|((with_reducible refine gate_callee (f:=20) rfl ?_);refine gL (some 26) Tryz.func20 #[.slice ar ac.length au] ?_;(with_reducible refine (exergueref12_Short.calls k _ _ ac true _ (cb ag HB) ah.out A11.out).mono ?_);rintro e w' ⟨rfl,⟨nd,rfl⟩⟩;refine ⟨_,rfl,?_⟩)|(go_at_call 20;(with_reducible refine (exergueref12_Short.calls k _ _ af false _ ?side1 aw.out A13.out).mono ?_);(case side1=>repeat (first|exact (Kd.C_below av.out (bQ HB))|(with_reducible refine Kd.C_alloc ?_ _)|(with_reducible refine Kd.C_drewN ?_ _)|(with_reducible refine Kd.C_drew ?_)));rintro e w' ⟨rfl,⟨nd,rfl⟩⟩))
   go_meet
   case rel=>exact ⟨_,(true),(by first|rfl|(simp;done)|(simp [*];done)),H',⟨by first|omega|exact Nat.le_refl _⟩,⟨ko ab⟩,⟨ko aa⟩,⟨bQ HB⟩⟩
  subst c14
  rw [if_pos rfl] at H
  by_cases c15:(wrap64 ((ad.length:Int)+(ae.length:Int)))>1000
  ·rw [if_pos c15] at H
   have aI:decide (1000<(wrap64 ((ad.length:Int)+(ae.length:Int))))=true:=zC c15
   clear c15
   (first|rw [aI]|(simp only [i64_w,i32_w];rw [aI])|rw [bN]|skip)
   have H':=zS H
   clear H
   go_wp2_with (first|((with_reducible refine gate_callee (f:=20) rfl ?_);refine gL (some 26) Tryz.func20 #[.slice ar ac.length au] ?_;(with_reducible refine (exergueref12_Short.calls k _ _ ac true _ (cb ag HB) ah.out A11.out).mono ?_);rintro e w' ⟨rfl,⟨nd,rfl⟩⟩;refine ⟨_,rfl,?_⟩)|(go_at_call 20;(with_reducible refine (exergueref12_Short.calls k _ _ af true _ ?side1 aw.out A13.out).mono ?_);(case side1=>repeat (first|exact (Kd.C_below av.out (bQ HB))|(with_reducible refine Kd.C_alloc ?_ _)|(with_reducible refine Kd.C_drewN ?_ _)|(with_reducible refine Kd.C_drew ?_)));rintro e w' ⟨rfl,⟨nd,rfl⟩⟩;have b4:=aH.out;have b5:=aG.out;have bk:=blkc4 aa.out;have bm:=blkf4 aa.out))
   go_meet
   case rel=>exact ⟨_,(true),(by first|rfl|(simp;done)|(simp [*];done)),H',⟨by first|omega|exact Nat.le_refl _⟩,⟨ko ab⟩,⟨ko aa⟩,⟨bQ HB⟩⟩
  rw [if_neg c15] at H
  have aI:decide (1000<(wrap64 ((ad.length:Int)+(ae.length:Int))))=false:=zD c15
  clear c15
  (first|rw [aI]|(simp only [i64_w,i32_w];rw [aI])|rw [bN]|skip)
  have H':=zS H
  clear H
  go_wp2_with (first|((with_reducible refine gate_callee (f:=20) rfl ?_);refine gL (some 26) Tryz.func20 #[.slice ar ac.length au] ?_;(with_reducible refine (exergueref12_Short.calls k _ _ ac true _ (cb ag HB) ah.out A11.out).mono ?_);rintro e w' ⟨rfl,⟨nd,rfl⟩⟩;refine ⟨_,rfl,?_⟩)|(go_at_call 20;(with_reducible refine (exergueref12_Short.calls k _ _ af true _ ?side1 aw.out A13.out).mono ?_);(case side1=>repeat (first|exact (Kd.C_below av.out (bQ HB))|(with_reducible refine Kd.C_alloc ?_ _)|(with_reducible refine Kd.C_drewN ?_ _)|(with_reducible refine Kd.C_drew ?_)));rintro e w' ⟨rfl,⟨nd,rfl⟩⟩;have b6:=aH.out;have b7:=aG.out;have bn:=blkc4 aa.out;have bo:=blkf4 aa.out))
  go_meet
  case rel=>exact ⟨_,(decide ((ao.size:Int)>50)),(by first|rfl|(simp;done)|(simp [*];done)),H',⟨by first|omega|exact Nat.le_refl _⟩,⟨ko ab⟩,⟨ko aa⟩,⟨bQ HB⟩⟩
 case rest=>
  clear HC3
  try clear c1
  try clear c2
  try clear p2
  try clear c4
  try clear p6
  try clear c7
  try clear c12
  try clear c14
  try clear c15
  try clear aI
  try clear c16
  try clear c18
  try clear bk
  try clear bn
  try clear bF
  try clear bH
  try clear bJ
  try clear bm
  try clear bo
  try clear bG
  try clear bI
  try clear bK
  obtain ⟨kq,aR,rfl,HA,HJ2,ab,aa,HB⟩:=hcut
  cases kq with
  | zero=>exact absurd HA.out (by simp [exerguelaw12_PlurTells.j0])
  | succ kj2=>
   have H:=HA.out
   clear HA
   simp only [exerguelaw12_PlurTells.j0] at H
   by_cases c20:aR=true
   ·subst c20
    rw [if_pos rfl] at H
    obtain rfl:=zE H
    go_wp2
    go_ret
    exact ⟨by first|rfl|(simp <;> rfl)|(simp [*] <;> rfl),bQ HB⟩
   replace c20:=Bool.eq_false_iff.mpr c20
   subst c20
   rw [if_neg (show ¬ (false=true) by decide)] at H
   replace H:=Option.bind_eq_some_iff.mp H
   obtain ⟨⟨aT,aZ⟩,bO,H⟩:=H
   try dsimp only at H
   have A21:=zS bO
   clear bO
   replace H:=Option.bind_eq_some_iff.mp H
   obtain ⟨⟨aU,bP⟩,bR,H⟩:=H
   try dsimp only at H
   have A22:=zS bR
   clear bR
   replace H:=Option.bind_eq_some_iff.mp H
   obtain ⟨aq,bS,H⟩:=H
   try dsimp only at H
   have A23:=zS bS
   clear bS
   have bE:=zS H
   clear H
   go_upto_region 12 with (first|((with_reducible refine gate_callee (f:=16) rfl ?_);refine gL (some 51) Tryz.func16 #[.string ao] ?_;(with_reducible refine (plur_Cat.calls ao aT aZ _ A21.out).mono ?_);rintro e w25 ⟨rfl,hb⟩;refine ⟨_,rfl,?_⟩;replace ab:=kb ab hb;replace aa:=kb aa hb;replace HB:=bs HB hb;(try clear hb))|((with_reducible refine gate_callee (f:=21) rfl ?_);refine gL (some 56) Tryz.func21 #[.string ao] ?_;(with_reducible refine (exergueref12_Cat.calls kj2 ao aU bP _ A22.out).mono ?_);rintro e w' ⟨rfl,⟨nd,rfl⟩⟩;refine ⟨_,rfl,?_⟩)|((with_reducible refine gate_callee (f:=19) rfl ?_);refine gL (some 60) Tryz.func19 #[.slice ar ac.length au] ?_;(with_reducible refine (exergueref12_Right.calls kj2 _ _ ac aq _ ?side1 ah.out A23.out).mono ?_);(case side1=>repeat (first|exact (Kd.C_below ag.out (bQ HB))|(with_reducible refine Kd.C_alloc ?_ _)|(with_reducible refine Kd.C_drewN ?_ _)|(with_reducible refine Kd.C_drew ?_)));rintro e w26 ⟨rfl,hb⟩;refine ⟨_,rfl,?_⟩;replace ab:=kb ab hb;replace aa:=kb aa hb;replace HB:=bs HB hb;(try clear hb);(try clear hb2);(try clear hk);(try clear hi)))
   (try simp only [Act.put,sA,sB,sC])
   go_cut [90] (fun v90 wc=>∃ (kq:Nat) (aM:Bool),v90 = .bool aM∧Sd (exerguelaw12_PlurTells.j1 kq ac aB aq aM ad ae ai aj=some r)∧Sd (kq≤kj2)∧Sd (wc.heap[bj]?=some (.cells #[(.slice ar ac.length au),(.slice aX af.length aY),(.slice aC ad.length aD),(.slice aE ae.length aF),.int .i64 ai,.int .i64 aj,.int .i64 ap,.string ao] 38 (0,0)))∧Sd (wc.heap[ax]?=some (.cells #[(.slice aC ad.length aD),(.slice aE ae.length aF),.int .i64 ai,.int .i64 aj] 36 (0,0)))∧Sd (Below w.heap.size w wc))
   case first=>
    have H:=bE.out
    clear bE
    replace H:=Option.bind_eq_some_iff.mp H
    obtain ⟨ay,bT,H⟩:=H
    try dsimp only at H
    have A27:=zS bT
    clear bT
    by_cases c28:(ay != aq)=true
    ·rw [if_pos c28] at H
     have aL:(ay != aq)=true:=c28
     (try (have aS:decide (ay=aq)=false:=by simpa using c28))
     (try (have bp:(ay == aq)=false:=by simpa using c28))
     (try (have b8:¬ (ay=aq):=by simpa using c28))
     clear c28
     (first|rw [aL]|(simp only [i64_w,i32_w];rw [aL])|rw [aS]|skip)
     have H':=zS H
     clear H
     go_wp2_with (first|((with_reducible refine gate_callee (f:=22) rfl ?_);refine gL (some 62) Tryz.func22 #[.slice ar ac.length au] ?_;(with_reducible refine (plur_Right.calls kj2 _ _ ac ay _ ?side3 (cb ag HB) ah.out A27.out).mono ?_);(case side3=>refine GL.below HG.out ?_;exact bQ HB);rintro e w29 ⟨rfl,hb⟩;refine ⟨_,rfl,?_⟩;replace ab:=kb ab hb;replace aa:=kb aa hb;replace HB:=bs HB hb;(try clear hb)))
     go_meet
     case rel=>exact ⟨_,(true),(by first|rfl|(simp;done)|(simp [*];done)),H',⟨by have:=HJ2.out;first|omega|exact Nat.le_refl _⟩,⟨ko ab⟩,⟨ko aa⟩,⟨bQ HB⟩⟩
    rw [if_neg c28] at H
    have aL:(ay != aq)=false:=by simpa using c28
    (try (have aS:decide (ay=aq)=true:=by simpa using c28))
    (try (have bp:(ay == aq)=true:=by simpa using c28))
    clear c28
    (first|rw [aL]|(simp only [i64_w,i32_w];rw [aL])|rw [aS]|skip)
    replace H:=Option.bind_eq_some_iff.mp H
    obtain ⟨az,bU,H⟩:=H
    try dsimp only at H
    have A30:=zS bU
    clear bU
    replace H:=Option.bind_eq_some_iff.mp H
    obtain ⟨aA,bV,H⟩:=H
    try dsimp only at H
    have A31:=zS bV
    clear bV
    by_cases c32:(az != aA)=true
    ·rw [if_pos c32] at H
     have bq:(az != aA)=true:=c32
     (try (have br:decide (az=aA)=false:=by simpa using c32))
     (try (have bu:(az == aA)=false:=by simpa using c32))
     (try (have b9:¬ (az=aA):=by simpa using c32))
     clear c32
     have H':=zS H
     clear H
     go_wp2_with (first|((with_reducible refine gate_callee (f:=22) rfl ?_);refine gL (some 62) Tryz.func22 #[.slice ar ac.length au] ?_;(with_reducible refine (plur_Right.calls kj2 _ _ ac ay _ ?side3 (cb ag HB) ah.out A27.out).mono ?_);(case side3=>refine GL.below HG.out ?_;exact bQ HB);rintro e w33 ⟨rfl,hb⟩;refine ⟨_,rfl,?_⟩;replace ab:=kb ab hb;replace aa:=kb aa hb;replace HB:=bs HB hb;(try clear hb))|(go_at_call 23;(with_reducible refine (plur_Same.calls _ _ ac _ _ af az _ (cb ag HB) ah.out (cb av HB) aw.out A30.out).mono ?_);rintro e w34 ⟨rfl,hb⟩;replace ab:=kb ab hb;replace aa:=kb aa hb;replace HB:=bs HB hb;(try clear hb);(try clear hb2);(try clear hk);(try clear hi))|(go_at_call 24;(with_reducible refine (exergueref12_Same.calls kj2 _ _ ac _ _ af aA _ (cb ag HB) ah.out (cb av HB) aw.out A31.out).mono ?_);rintro e w35 ⟨rfl,hb⟩;replace ab:=kb ab hb;replace aa:=kb aa hb;replace HB:=bs HB hb;(try clear hb);(try clear hb2);(try clear hk);(try clear hi)))
     go_meet
     case rel=>exact ⟨_,(true),(by first|rfl|(simp;done)|(simp [*];done)),H',⟨by have:=HJ2.out;first|omega|exact Nat.le_refl _⟩,⟨ko ab⟩,⟨ko aa⟩,⟨bQ HB⟩⟩
    rw [if_neg c32] at H
    have bq:(az != aA)=false:=by simpa using c32
    (try (have br:decide (az=aA)=true:=by simpa using c32))
    (try (have bu:(az == aA)=true:=by simpa using c32))
    clear c32
    replace H:=Option.bind_eq_some_iff.mp H
    obtain ⟨aJ,bW,H⟩:=H
    try dsimp only at H
    have A36:=zS bW
    clear bW
    replace H:=Option.bind_eq_some_iff.mp H
    obtain ⟨aK,bX,H⟩:=H
    try dsimp only at H
    have A37:=zS bX
    clear bX
    by_cases c38:aJ.toList=aK.toList
    rotate_left
    ·rw [if_neg c38] at H
     have bv:(aJ.toList == aK.toList)=false:=zF c38
     have bw:(aJ.toList != aK.toList)=true:=zI c38
     have H':=zS H
     clear H
     go_wp2_with (first|((with_reducible refine gate_callee (f:=22) rfl ?_);refine gL (some 62) Tryz.func22 #[.slice ar ac.length au] ?_;(with_reducible refine (plur_Right.calls kj2 _ _ ac ay _ ?side3 (cb ag HB) ah.out A27.out).mono ?_);(case side3=>refine GL.below HG.out ?_;exact bQ HB);rintro e w48 ⟨rfl,hb⟩;refine ⟨_,rfl,?_⟩;replace ab:=kb ab hb;replace aa:=kb aa hb;replace HB:=bs HB hb;(try clear hb))|(go_at_call 23;(with_reducible refine (plur_Same.calls _ _ ac _ _ af az _ (cb ag HB) ah.out (cb av HB) aw.out A30.out).mono ?_);rintro e w49 ⟨rfl,hb⟩;replace ab:=kb ab hb;replace aa:=kb aa hb;replace HB:=bs HB hb;(try clear hb);(try clear hb2);(try clear hk);(try clear hi))|(go_at_call 24;(with_reducible refine (exergueref12_Same.calls kj2 _ _ ac _ _ af aA _ (cb ag HB) ah.out (cb av HB) aw.out A31.out).mono ?_);rintro e w50 ⟨rfl,hb⟩;replace ab:=kb ab hb;replace aa:=kb aa hb;replace HB:=bs HB hb;(try clear hb);(try clear hb2);(try clear hk);(try clear hi))|(go_at_call 17;(with_reducible refine (plur_Name.calls ap aJ _ A36.out).mono ?_);rintro e w51 ⟨rfl,hb⟩;replace ab:=kb ab hb;replace aa:=kb aa hb;replace HB:=bs HB hb;(try clear hb);(try clear hb2);(try clear hk);(try clear hi))|(go_at_call 25;(with_reducible refine (exergueref12_Name.calls ap aK _ A37.out).mono ?_);rintro e w' ⟨rfl,⟨nd,rfl⟩⟩))
     go_meet
     case rel=>exact ⟨_,(true),(by first|rfl|(simp;done)|(simp [*];done)),H',⟨by have:=HJ2.out;first|omega|exact Nat.le_refl _⟩,⟨ko ab⟩,⟨ko aa⟩,⟨bQ HB⟩⟩
    rw [if_pos c38] at H
    have bv:(aJ.toList == aK.toList)=true:=zH c38
    have bw:(aJ.toList != aK.toList)=false:=zG c38
    clear c38
    by_cases c39:aT=aU
    ·rw [if_pos c39] at H
     have bx:(aT == aU)=true:=zH c39
     have bA:(aT != aU)=false:=zG c39
     clear c39
     have H':=zS H
     clear H
     go_wp2_with (first|((with_reducible refine gate_callee (f:=22) rfl ?_);refine gL (some 62) Tryz.func22 #[.slice ar ac.length au] ?_;(with_reducible refine (plur_Right.calls kj2 _ _ ac ay _ ?side3 (cb ag HB) ah.out A27.out).mono ?_);(case side3=>refine GL.below HG.out ?_;exact bQ HB);rintro e w40 ⟨rfl,hb⟩;refine ⟨_,rfl,?_⟩;replace ab:=kb ab hb;replace aa:=kb aa hb;replace HB:=bs HB hb;(try clear hb))|(go_at_call 23;(with_reducible refine (plur_Same.calls _ _ ac _ _ af az _ (cb ag HB) ah.out (cb av HB) aw.out A30.out).mono ?_);rintro e w41 ⟨rfl,hb⟩;replace ab:=kb ab hb;replace aa:=kb aa hb;replace HB:=bs HB hb;(try clear hb);(try clear hb2);(try clear hk);(try clear hi))|(go_at_call 24;(with_reducible refine (exergueref12_Same.calls kj2 _ _ ac _ _ af aA _ (cb ag HB) ah.out (cb av HB) aw.out A31.out).mono ?_);rintro e w42 ⟨rfl,hb⟩;replace ab:=kb ab hb;replace aa:=kb aa hb;replace HB:=bs HB hb;(try clear hb);(try clear hb2);(try clear hk);(try clear hi))|(go_at_call 17;(with_reducible refine (plur_Name.calls ap aJ _ A36.out).mono ?_);rintro e w43 ⟨rfl,hb⟩;replace ab:=kb ab hb;replace aa:=kb aa hb;replace HB:=bs HB hb;(try clear hb);(try clear hb2);(try clear hk);(try clear hi))|(go_at_call 25;(with_reducible refine (exergueref12_Name.calls ap aK _ A37.out).mono ?_);rintro e w' ⟨rfl,⟨nd,rfl⟩⟩))
     go_meet
     case rel=>exact ⟨_,((aZ != bP)),(by first|rfl|(simp;done)|(simp [*];done)|(cases aZ <;> simp;done)|(cases aZ <;> simp [*];done)),H',⟨by have:=HJ2.out;first|omega|exact Nat.le_refl _⟩,⟨ko ab⟩,⟨ko aa⟩,⟨bQ HB⟩⟩
    rw [if_neg c39] at H
    have bx:(aT == aU)=false:=zF c39
    have bA:(aT != aU)=true:=zI c39
    have H':=zS H
    clear H
    go_wp2_with (first|((with_reducible refine gate_callee (f:=22) rfl ?_);refine gL (some 62) Tryz.func22 #[.slice ar ac.length au] ?_;(with_reducible refine (plur_Right.calls kj2 _ _ ac ay _ ?side3 (cb ag HB) ah.out A27.out).mono ?_);(case side3=>refine GL.below HG.out ?_;exact bQ HB);rintro e w44 ⟨rfl,hb⟩;refine ⟨_,rfl,?_⟩;replace ab:=kb ab hb;replace aa:=kb aa hb;replace HB:=bs HB hb;(try clear hb))|(go_at_call 23;(with_reducible refine (plur_Same.calls _ _ ac _ _ af az _ (cb ag HB) ah.out (cb av HB) aw.out A30.out).mono ?_);rintro e w45 ⟨rfl,hb⟩;replace ab:=kb ab hb;replace aa:=kb aa hb;replace HB:=bs HB hb;(try clear hb);(try clear hb2);(try clear hk);(try clear hi))|(go_at_call 24;(with_reducible refine (exergueref12_Same.calls kj2 _ _ ac _ _ af aA _ (cb ag HB) ah.out (cb av HB) aw.out A31.out).mono ?_);rintro e w46 ⟨rfl,hb⟩;replace ab:=kb ab hb;replace aa:=kb aa hb;replace HB:=bs HB hb;(try clear hb);(try clear hb2);(try clear hk);(try clear hi))|(go_at_call 17;(with_reducible refine (plur_Name.calls ap aJ _ A36.out).mono ?_);rintro e w47 ⟨rfl,hb⟩;replace ab:=kb ab hb;replace aa:=kb aa hb;replace HB:=bs HB hb;(try clear hb);(try clear hb2);(try clear hk);(try clear hi))|(go_at_call 25;(with_reducible refine (exergueref12_Name.calls ap aK _ A37.out).mono ?_);rintro e w' ⟨rfl,⟨nd,rfl⟩⟩))
    go_meet
    case rel=>exact ⟨_,(true),(by first|rfl|(simp;done)|(simp [*];done)),H',⟨by have:=HJ2.out;first|omega|exact Nat.le_refl _⟩,⟨ko ab⟩,⟨ko aa⟩,⟨bQ HB⟩⟩
   case rest=>
    clear bE
    try clear c1
    try clear c2
    try clear p2
    try clear c3
    try clear c4
    try clear p6
    try clear c7
    try clear c12
    try clear c14
    try clear c15
    try clear aI
    try clear c16
    try clear c18
    try clear c19
    try clear c20
    try clear c21
    try clear c22
    try clear c28
    try clear aL
    try clear aS
    try clear bp
    try clear c32
    try clear bq
    try clear br
    try clear bu
    try clear c38
    try clear bv
    try clear bw
    try clear c39
    try clear bx
    try clear bA
    try clear bk
    try clear bn
    try clear bF
    try clear bH
    try clear bJ
    try clear bm
    try clear bo
    try clear bG
    try clear bI
    try clear bK
    try clear p2
    try clear p6
    obtain ⟨kq,aM,rfl,HA,HJ23,ab,aa,HB⟩:=hcut
    cases kq with
    | zero=>exact absurd HA.out (by simp [exerguelaw12_PlurTells.j1])
    | succ kj23=>
     have H:=HA.out
     clear HA
     simp only [exerguelaw12_PlurTells.j1] at H
     by_cases c52:aM=true
     ·subst c52
      rw [if_pos rfl] at H
      exact absurd H (by simp)
     replace c52:=Bool.eq_false_iff.mpr c52
     subst c52
     rw [if_neg (show ¬ (false=true) by decide)] at H
     by_cases c53:aB=true
     rotate_left
     ·replace c53:=Bool.eq_false_iff.mpr c53
      subst c53
      rw [if_neg (show ¬ (false=true) by decide)] at H
      exact absurd H (by simp)
     subst c53
     rw [if_pos rfl] at H
     by_cases c54:aq=true
     rotate_left
     ·replace c54:=Bool.eq_false_iff.mpr c54
      subst c54
      rw [if_neg (show ¬ (false=true) by decide)] at H
      obtain rfl:=zE H
      try go_wp2
      replace ab:=zS (blk_drew ab.out)
      replace aa:=zS (blk_drew aa.out)
      replace HB:=zS (below_drew1 HB.out)
      refine start_ (n:=20) (S:=fun w'=>True) (ds:=[]) (bZ 20 0) (by kernel_rfl) rfl (by kernel_rfl) trivial (fun hHeld=>?_);refine with_tabW exerguelaw12_PlurTells.tab14 exerguelaw12_PlurTells.bits14 (fun HT_ HW_=>?_)
      generalize wc.drew=w65 at ab aa HB hHeld ⊢
      refine q1 0 91 1 HT_ ?_
      refine q1 1 92 3 HT_ ?_
      refine q1 2 93 7 HT_ ?_
      refine q1 3 94 15 HT_ ?_
      refine q1 4 95 31 HT_ ?_
      refine pure_ (i:=5) (N:=some 96) (v:=undef) (a':=?_) (bZ 20 63) rfl rfl (any_of HT_.out (by kernel_rfl)) (fun _ _ _ h=>h) (Or.inr ⟨by rfl,rfl⟩) ?_ ?_
      rotate_left
      ·simp only [Act.put,sA,sB,sC,i64_w,i32_w]
       rfl
      refine pure_ (i:=6) (N:=some 97) (v:=undef) (a':=?_) (bZ 20 127) rfl rfl (any_of HT_.out (by kernel_rfl)) (fun _ _ _ h=>h) (Or.inr ⟨by rfl,rfl⟩) ?_ ?_
      rotate_left
      ·simp only [Act.put,sA,sB,sC,i64_w,i32_w]
       rfl
      refine pure_ (i:=7) (N:=some 98) (v:=undef) (a':=?_) (bZ 20 255) rfl rfl (any_of HT_.out (by kernel_rfl)) (fun _ _ _ h=>h) (Or.inr ⟨by rfl,rfl⟩) ?_ ?_
      rotate_left
      ·simp only [Act.put,sA,sB,sC,i64_w,i32_w]
       rfl
      refine q1 8 99 511 HT_ ?_
      refine q1 9 100 1023 HT_ ?_
      refine pure_ (i:=10) (N:=some 101) (v:=undef) (a':=?_) (bZ 20 2047) rfl rfl (any_of HT_.out (by kernel_rfl)) (fun _ _ _ h=>h) (Or.inr ⟨by rfl,rfl⟩) ?_ ?_
      rotate_left
      ·simp only [Act.put,sA,sB,sC,i64_w,i32_w]
       rfl
      refine pure_ (i:=11) (N:=some 102) (v:=undef) (a':=?_) (bZ 20 4095) rfl rfl (any_of HT_.out (by kernel_rfl)) (fun _ _ _ h=>h) (Or.inr ⟨by rfl,rfl⟩) ?_ ?_
      rotate_left
      ·simp only [Act.put,sA,sB,sC,i64_w,i32_w]
       rfl
      refine pure_ (i:=12) (N:=some 103) (v:=undef) (a':=?_) (bZ 20 8191) rfl rfl (any_of HT_.out (by kernel_rfl)) (fun _ _ _ h=>h) (Or.inr ⟨by rfl,rfl⟩) ?_ ?_
      rotate_left
      ·simp only [Act.put,sA,sB,sC,i64_w,i32_w]
       rfl
      refine pure_ (i:=13) (N:=some 104) (v:=undef) (a':=?_) (bZ 20 16383) rfl rfl (any_of HT_.out (by kernel_rfl)) (fun _ _ _ h=>h) (Or.inr ⟨by rfl,rfl⟩) ?_ ?_
      rotate_left
      ·simp only [Act.put,sA,sB,sC,i64_w,i32_w]
       rfl
      refine pure_ (i:=14) (N:=some 105) (v:=undef) (a':=?_) (bZ 20 32767) rfl rfl (any_of HT_.out (by kernel_rfl)) (fun _ _ _ h=>h) (Or.inr ⟨by rfl,rfl⟩) ?_ ?_
      rotate_left
      ·simp only [Act.put,sA,sB,sC,i64_w,i32_w]
       rfl
      refine pure_ (i:=15) (N:=some 106) (v:=undef) (a':=?_) (bZ 20 65535) rfl rfl (any_of HT_.out (by kernel_rfl)) (fun _ _ _ h=>h) (Or.inr ⟨by rfl,rfl⟩) ?_ ?_
      rotate_left
      ·simp only [Act.put,sA,sB,sC,i64_w,i32_w]
       rfl
      refine pure_ (i:=16) (N:=some 107) (v:=undef) (a':=?_) (bZ 20 131071) rfl rfl (any_of HT_.out (by kernel_rfl)) (fun _ _ _ h=>h) (Or.inr ⟨by rfl,rfl⟩) ?_ ?_
      rotate_left
      ·simp only [Act.put,sA,sB,sC,i64_w,i32_w]
       rfl
      refine q1 17 108 262143 HT_ ?_
      refine q1 18 109 524287 HT_ ?_
      refine q1 19 2 1048575 HT_ ?_
      refine done_ (done_of HT_.out (by kernel_rfl)) ?_
      try go_wp2
      go_ret
      exact ⟨by first|rfl|(simp <;> rfl)|(simp [*] <;> rfl),bQ HB⟩
     subst c54
     rw [if_pos rfl] at H
     replace H:=Option.bind_eq_some_iff.mp H
     obtain ⟨bB,bY,H⟩:=H
     try dsimp only at H
     have A55:=zS bY
     clear bY
     by_cases c56:bB=true
     rotate_left
     ·replace c56:=Bool.eq_false_iff.mpr c56
      subst c56
      rw [if_neg (show ¬ (false=true) by decide)] at H
      obtain rfl:=zE H
      try go_wp2
      replace ab:=zS (blk_drew ab.out)
      replace aa:=zS (blk_drew aa.out)
      replace HB:=zS (below_drew1 HB.out)
      refine start_ (n:=20) (S:=fun w'=>w'.cell? ⟨ax,0,none⟩=some (.slice aC ad.length aD)∧w'.cell? ⟨ax,1,none⟩=some (.slice aE ae.length aF)∧w'.cell? ⟨ax,2,none⟩=some (.int .i64 ai)∧w'.cell? ⟨ax,3,none⟩=some (.int .i64 aj)) (ds:=[]) (bZ 20 0) (by kernel_rfl) rfl (by kernel_rfl) ⟨(blk_cell aa.out 0).trans rfl,(blk_cell aa.out 1).trans rfl,(blk_cell aa.out 2).trans rfl,(blk_cell aa.out 3).trans rfl⟩ (fun hHeld=>?_);refine with_tabW exerguelaw12_PlurTells.tab14 exerguelaw12_PlurTells.bits14 (fun HT_ HW_=>?_)
      generalize wc.drew=w63 at ab aa HB hHeld ⊢
      refine q1 0 91 1 HT_ ?_
      refine q1 1 92 3 HT_ ?_
      refine q1 2 93 7 HT_ ?_
      refine q1 3 94 15 HT_ ?_
      refine q1 4 95 31 HT_ ?_
      refine q2 5 96 63 HT_ HW_ hHeld ?_ (hy:=by rintro w' ⟨s0,s1,s2,s3⟩;go_simp;with_reducible rfl)
      refine one_ (i:=6) (N:=some 97) (bZ 20 127) rfl rfl (one_of HT_.out (by kernel_rfl)) (by decide) (fun K hK=>?_)
      refine goes_ Tryz.func26 (by kernel_rfl) rfl #[.agg #[.slice aC ad.length aD,.slice aE ae.length aF,.int .i64 ai,.int .i64 aj]] (by rfl) rfl rfl (by (try simp only [mA,mB,mC]);first|done|rfl|(simp only [lD,lT];rfl)) ?_
      with_reducible refine (exergueref07_Right.calls kj23 _ _ ad _ _ ae ai aj false _ ?side1 ?side2 ?side3 ?side4 A55.out).mono ?_
      (case side1=>exact Kd.C_below aN.out (bQ HB))
      (case side2=>exact aO.out)
      (case side3=>exact Kd.C_below aP.out (bQ HB))
      (case side4=>exact aQ.out)
      rintro e w64 ⟨rfl,hb⟩
      refine ⟨_,rfl,?_⟩
      replace ab:=kb ab hb
      replace aa:=kb aa hb
      replace HB:=bs HB hb
      (try clear hb)
      (try clear hb2)
      (try clear hk)
      (try clear hi)
      refine hK.out _ _ ⟨(blk_cell aa.out 0).trans rfl,(blk_cell aa.out 1).trans rfl,(blk_cell aa.out 2).trans rfl,(blk_cell aa.out 3).trans rfl⟩ (fun hHeld=>?_)
      clear hK K
      refine norm_ (a':=?_) ?_ ?_
      rotate_left
      ·show Act.put _ (some 97) _=_
       simp only [Act.put,sA,sB,sC,i64_w,i32_w]
       rfl
      refine q1 7 98 255 HT_ ?_
      refine q1 8 99 511 HT_ ?_
      refine q1 9 100 1023 HT_ ?_
      refine pure_ (i:=10) (N:=some 101) (v:=undef) (a':=?_) (bZ 20 2047) rfl rfl (any_of HT_.out (by kernel_rfl)) (fun _ _ _ h=>h) (Or.inr ⟨by rfl,rfl⟩) ?_ ?_
      rotate_left
      ·simp only [Act.put,sA,sB,sC,i64_w,i32_w]
       rfl
      refine pure_ (i:=11) (N:=some 102) (v:=undef) (a':=?_) (bZ 20 4095) rfl rfl (any_of HT_.out (by kernel_rfl)) (fun _ _ _ h=>h) (Or.inr ⟨by rfl,rfl⟩) ?_ ?_
      rotate_left
      ·simp only [Act.put,sA,sB,sC,i64_w,i32_w]
       rfl
      refine pure_ (i:=12) (N:=some 103) (v:=undef) (a':=?_) (bZ 20 8191) rfl rfl (any_of HT_.out (by kernel_rfl)) (fun _ _ _ h=>h) (Or.inr ⟨by rfl,rfl⟩) ?_ ?_
      rotate_left
      ·simp only [Act.put,sA,sB,sC,i64_w,i32_w]
       rfl
      refine pure_ (i:=13) (N:=some 104) (v:=undef) (a':=?_) (bZ 20 16383) rfl rfl (any_of HT_.out (by kernel_rfl)) (fun _ _ _ h=>h) (Or.inr ⟨by rfl,rfl⟩) ?_ ?_
      rotate_left
      ·simp only [Act.put,sA,sB,sC,i64_w,i32_w]
       rfl
      refine pure_ (i:=14) (N:=some 105) (v:=undef) (a':=?_) (bZ 20 32767) rfl rfl (any_of HT_.out (by kernel_rfl)) (fun _ _ _ h=>h) (Or.inr ⟨by rfl,rfl⟩) ?_ ?_
      rotate_left
      ·simp only [Act.put,sA,sB,sC,i64_w,i32_w]
       rfl
      refine pure_ (i:=15) (N:=some 106) (v:=undef) (a':=?_) (bZ 20 65535) rfl rfl (any_of HT_.out (by kernel_rfl)) (fun _ _ _ h=>h) (Or.inr ⟨by rfl,rfl⟩) ?_ ?_
      rotate_left
      ·simp only [Act.put,sA,sB,sC,i64_w,i32_w]
       rfl
      refine pure_ (i:=16) (N:=some 107) (v:=undef) (a':=?_) (bZ 20 131071) rfl rfl (any_of HT_.out (by kernel_rfl)) (fun _ _ _ h=>h) (Or.inr ⟨by rfl,rfl⟩) ?_ ?_
      rotate_left
      ·simp only [Act.put,sA,sB,sC,i64_w,i32_w]
       rfl
      refine q1 17 108 262143 HT_ ?_
      refine q1 18 109 524287 HT_ ?_
      refine q1 19 2 1048575 HT_ ?_
      refine done_ (done_of HT_.out (by kernel_rfl)) ?_
      try go_wp2
      go_ret
      exact ⟨by first|rfl|(simp <;> rfl)|(simp [*] <;> rfl),bQ HB⟩
     subst c56
     rw [if_pos rfl] at H
     replace H:=Option.bind_eq_some_iff.mp H
     obtain ⟨bC,b0,H⟩:=H
     try dsimp only at H
     have A57:=zS b0
     clear b0
     replace H:=Option.bind_eq_some_iff.mp H
     obtain ⟨bD,b1,H⟩:=H
     try dsimp only at H
     have A58:=zS b1
     clear b1
     obtain rfl:=zE H
     try go_wp2
     replace ab:=zS (blk_drew ab.out)
     replace aa:=zS (blk_drew aa.out)
     replace HB:=zS (below_drew1 HB.out)
     refine start_ (n:=20) (S:=fun w'=>w'.cell? ⟨ax,0,none⟩=some (.slice aC ad.length aD)∧w'.cell? ⟨ax,1,none⟩=some (.slice aE ae.length aF)∧w'.cell? ⟨ax,2,none⟩=some (.int .i64 ai)∧w'.cell? ⟨ax,3,none⟩=some (.int .i64 aj)) (ds:=[]) (bZ 20 0) (by kernel_rfl) rfl (by kernel_rfl) ⟨(blk_cell aa.out 0).trans rfl,(blk_cell aa.out 1).trans rfl,(blk_cell aa.out 2).trans rfl,(blk_cell aa.out 3).trans rfl⟩ (fun hHeld=>?_);refine with_tabW exerguelaw12_PlurTells.tab14 exerguelaw12_PlurTells.bits14 (fun HT_ HW_=>?_)
     generalize wc.drew=w59 at ab aa HB hHeld ⊢
     refine q1 0 91 1 HT_ ?_
     refine q1 1 92 3 HT_ ?_
     refine q1 2 93 7 HT_ ?_
     refine q1 3 94 15 HT_ ?_
     refine q1 4 95 31 HT_ ?_
     refine q2 5 96 63 HT_ HW_ hHeld ?_ (hy:=by rintro w' ⟨s0,s1,s2,s3⟩;go_simp;with_reducible rfl)
     refine one_ (i:=6) (N:=some 97) (bZ 20 127) rfl rfl (one_of HT_.out (by kernel_rfl)) (by decide) (fun K hK=>?_)
     refine goes_ Tryz.func26 (by kernel_rfl) rfl #[.agg #[.slice aC ad.length aD,.slice aE ae.length aF,.int .i64 ai,.int .i64 aj]] (by rfl) rfl rfl (by (try simp only [mA,mB,mC]);first|done|rfl|(simp only [lD,lT];rfl)) ?_
     with_reducible refine (exergueref07_Right.calls kj23 _ _ ad _ _ ae ai aj true _ ?side1 ?side2 ?side3 ?side4 A55.out).mono ?_
     (case side1=>exact Kd.C_below aN.out (bQ HB))
     (case side2=>exact aO.out)
     (case side3=>exact Kd.C_below aP.out (bQ HB))
     (case side4=>exact aQ.out)
     rintro e w60 ⟨rfl,hb⟩
     refine ⟨_,rfl,?_⟩
     replace ab:=kb ab hb
     replace aa:=kb aa hb
     replace HB:=bs HB hb
     (try clear hb)
     (try clear hb2)
     (try clear hk)
     (try clear hi)
     refine hK.out _ _ ⟨(blk_cell aa.out 0).trans rfl,(blk_cell aa.out 1).trans rfl,(blk_cell aa.out 2).trans rfl,(blk_cell aa.out 3).trans rfl⟩ (fun hHeld=>?_)
     clear hK K
     refine norm_ (a':=?_) ?_ ?_
     rotate_left
     ·show Act.put _ (some 97) _=_
      simp only [Act.put,sA,sB,sC,i64_w,i32_w]
      rfl
     refine q1 7 98 255 HT_ ?_
     refine q1 8 99 511 HT_ ?_
     refine q1 9 100 1023 HT_ ?_
     refine q1 10 101 2047 HT_ ?_
     refine q1 13 104 10239 HT_ ?_
     refine q2 11 102 12287 HT_ HW_ hHeld ?_ (hy:=by rintro w' ⟨s0,s1,s2,s3⟩;go_simp;with_reducible rfl)
     refine q2 14 105 28671 HT_ HW_ hHeld ?_ (hy:=by rintro w' ⟨s0,s1,s2,s3⟩;go_simp;with_reducible rfl)
     refine one_ (i:=12) (N:=some 103) (bZ 20 32767) rfl rfl (one_of HT_.out (by kernel_rfl)) (by decide) (fun K hK=>?_)
     refine goes_ Tryz.func27 (by kernel_rfl) rfl #[.slice ar ac.length au,.agg #[.slice aC ad.length aD,.slice aE ae.length aF,.int .i64 ai,.int .i64 aj]] (by rfl) rfl rfl (by (try simp only [mA,mB,mC]);first|done|rfl|(simp only [lD,lT];rfl)) ?_
     with_reducible refine (plur_Of.calls _ _ ac _ _ ad _ _ ae ai aj bC _ ?side7 ?side1 ?side2 ?side3 ?side4 ?side5 ?side6 A57.out).mono ?_
     (case side1=>exact Kd.C_below ag.out (bQ HB))
     (case side2=>exact ah.out)
     (case side3=>exact Kd.C_below aN.out (bQ HB))
     (case side4=>exact aO.out)
     (case side5=>exact Kd.C_below aP.out (bQ HB))
     (case side6=>exact aQ.out)
     (case side7=>refine GL.below HG.out ?_;exact bQ HB)
     rintro e w61 ⟨rfl,hb⟩
     refine ⟨_,rfl,?_⟩
     replace ab:=kb ab hb
     replace aa:=kb aa hb
     replace HB:=bs HB hb
     (try clear hb)
     (try clear hb2)
     (try clear hk)
     (try clear hi)
     refine hK.out _ _ ⟨(blk_cell aa.out 0).trans rfl,(blk_cell aa.out 1).trans rfl,(blk_cell aa.out 2).trans rfl,(blk_cell aa.out 3).trans rfl⟩ (fun hHeld=>?_)
     clear hK K
     refine norm_ (a':=?_) ?_ ?_
     rotate_left
     ·show Act.put _ (some 103) _=_
      simp only [Act.put,sA,sB,sC,i64_w,i32_w]
      rfl
     refine one_ (i:=15) (N:=some 106) (bZ 20 65535) rfl rfl (one_of HT_.out (by kernel_rfl)) (by decide) (fun K hK=>?_)
     refine goes_ Tryz.func28 (by kernel_rfl) rfl #[.slice ar ac.length au,.agg #[.slice aC ad.length aD,.slice aE ae.length aF,.int .i64 ai,.int .i64 aj]] (by rfl) rfl rfl (by (try simp only [mA,mB,mC]);first|done|rfl|(simp only [lD,lT];rfl)) ?_
     with_reducible refine (exergueref12_Of.calls kj23 _ _ ac _ _ ad _ _ ae ai aj bD _ ?side1 ?side2 ?side3 ?side4 ?side5 ?side6 A58.out).mono ?_
     (case side1=>exact Kd.C_below ag.out (bQ HB))
     (case side2=>exact ah.out)
     (case side3=>exact Kd.C_below aN.out (bQ HB))
     (case side4=>exact aO.out)
     (case side5=>exact Kd.C_below aP.out (bQ HB))
     (case side6=>exact aQ.out)
     rintro e w62 ⟨rfl,hb⟩
     refine ⟨_,rfl,?_⟩
     replace ab:=kb ab hb
     replace aa:=kb aa hb
     replace HB:=bs HB hb
     (try clear hb)
     (try clear hb2)
     (try clear hk)
     (try clear hi)
     refine hK.out _ _ ⟨(blk_cell aa.out 0).trans rfl,(blk_cell aa.out 1).trans rfl,(blk_cell aa.out 2).trans rfl,(blk_cell aa.out 3).trans rfl⟩ (fun hHeld=>?_)
     clear hK K
     refine norm_ (a':=?_) ?_ ?_
     rotate_left
     ·show Act.put _ (some 106) _=_
      simp only [Act.put,sA,sB,sC,i64_w,i32_w]
      rfl
     refine q1 16 107 131071 HT_ ?_
     refine q1 17 108 262143 HT_ ?_
     refine q1 18 109 524287 HT_ ?_
     refine q1 19 2 1048575 HT_ ?_
     refine done_ (done_of HT_.out (by kernel_rfl)) ?_
     try go_wp2
     go_ret
     exact ⟨by first|rfl|(simp <;> rfl)|(simp [*] <;> rfl),bQ HB⟩
end Go.Proofs.YtgfajgkjbckkgaaGreatDoor.PZ
end
end
section
set_option maxRecDepth 100000
namespace Go.Proofs.YtgfajgkjbckkgaaGreatDoor.PZ
open Go.RowKit Go.Proofs.YtgfajgkjbckkgaaGreatDoorW.PrintWords Go.Proofs.YtgfajgkjbckkgaaGreatDoorW.PrintLast
theorem ptells_off (L M:List Ru)(cat:Int)(name:ByteArray)(i f:List Int)(w c:Int):Ev (fun k=>exerguelaw12_PlurTells.j0 k L M cat name true true i f w c) true:=by
 refine Ev_shift ?_
 simp only [exerguelaw12_PlurTells.j0,if_true]
 exact Ev.now _
theorem Pure.PlurTells:∀ (x0_0:List S65) (x0_1:List S65) (x0_2_0:List Int) (x0_2_1:List Int) (x0_2_2:Int) (x0_2_3:Int) (x0_3:Int) (x0_4:ByteArray),OkRus x0_0→OkRus x0_1→x0_2_0.length * 1≤140737488351232→(∀ b_ ∈ x0_2_0,(Lit.int .u8 b_).wf=true)→x0_2_1.length * 1≤140737488351232→(∀ b_ ∈ x0_2_1,(Lit.int .u8 b_).wf=true)→(Lit.int .i64 x0_2_2).wf=true→(Lit.int .i64 x0_2_3).wf=true→(Lit.int .i64 x0_3).wf=true→x0_4.size≤140737488351232→∃ k,exerguelaw12_PlurTells.f k x0_0 x0_1 x0_2_0 x0_2_1 x0_2_2 x0_2_3 x0_3 x0_4=some true:=by
 intro L M i f w c cat name hL hM hi bi hf bf hw hc hcat hname
 refine Ev.rounds ?_
 unfold exerguelaw12_PlurTells.f
 refine Ev.bind shown12_ev ?_
 have off:=ptells_off L M cat name i f w c
 obtain ⟨s1,S1,P1⟩:=shortR_ev hL.len.1 hL.len.2
 refine Ev.bind S1 ?_
 cases s1 with
 | false=>simp only [Bool.false_eq_true,if_false];exact off
 | true=>
  obtain ⟨s2,S2,P2⟩:=shortR_ev hM.len.1 hM.len.2
  simp only [if_true]
  refine Ev.bind S2 ?_
  cases s2 with
  | false=>simp only [Bool.false_eq_true,if_false];exact off
  | true=>
   simp only [if_true]
   have wl:wrap64 ((i.length:Int)+(f.length:Int))=(i.length:Int)+(f.length:Int):=w64 _ (by omega) (by omega)
   rw [wl]
   by_cases hl:(i.length:Int)+(f.length:Int)>1000
   · simp only [if_pos hl];exact off
   simp only [if_neg hl]
   by_cases h50:(name.size:Int)>50
   · rw [zC h50];exact off
   rw [zD h50]
   have hT:∀ x ∈ L,TxtOk x.f1:=fun x hx=>((P1 rfl).2 x hx).txt (hL.2 x hx).2
   have hcat2:plur_Cat.f name=some (max (ixL plNames name 0) 0,decide (0≤ixL plNames name 0)):=rfl
   have hnm:plur_Name.f cat=some (if 0≤cat∧cat<6 then plNames.getD cat.toNat ⟨#[]⟩ else ⟨#[]⟩):=rfl
   refine Ev_shift ?_
   simp only [exerguelaw12_PlurTells.j0,Bool.false_eq_true,if_false,hcat2,Option.bind_some]
   refine Ev.bind (cat_same name) ?_
   refine Ev.bind (refRight12_ev hT hL.len.1 hL.len.2) ?_
   refine Ev.bind (plurRight_ev hT hL.len.2) ?_
   have q1:¬ (rightR 0 L != rightR 0 L)=true:=by simp
   simp only [if_neg q1]
   unfold plur_Same.f
   simp only [Option.bind_some]
   refine Ev.bind (same12_ev (b:=M) hL.len.1 hL.len.2) ?_
   have q2:¬ (decide (L=M) != decide (L=M))=true:=by simp
   simp only [if_neg q2,name_same,hnm,Option.bind_some,if_true]
   have q3:(decide (0≤ixL plNames name 0) != decide (0≤ixL plNames name 0))=false:=by simp
   rw [q3]
   refine Ev_shift ?_
   simp only [exerguelaw12_PlurTells.j1,Bool.false_eq_true,if_false,if_true]
   cases hr:rightR 0 L with
   | false=>simp only [Bool.false_eq_true,if_false];exact Ev.now _
   | true=>
    have hg:=rightR_good hr
    simp only [if_true]
    refine Ev.bind (refRight_ev i f w c (by omega) (by omega)) ?_
    by_cases ho:RightO i f w c
    ·have hok:OpOk i f w c:=⟨ho,bi,bf,by omega,by omega⟩
     simp only [zC ho,if_true,plurOf_f hok hg,Option.bind_some]
     refine Ev.bind (refOf12_ev hok hg hL.len.2) ?_
     have q4:(catX i f w c L == catX i f w c L)=true:=by simp
     rw [q4]
     exact Ev.now _
    simp only [zD ho,Bool.false_eq_true,if_false]
    exact Ev.now _
end Go.Proofs.YtgfajgkjbckkgaaGreatDoor.PZ
end
