/- Texts of this seat, joined. Conditions: none beyond each statement's own. -/
import Derived.Test.YtgfajgkjbckkgaaGreatDoorPc12
import Derived.Test.YtgfajgkjbckkgaaGreatDoorPc13
set_option linter.all false
section
noncomputable section
namespace Go.Proofs.YtgfajgkjbckkgaaGreatDoor.PZ
open Go.RowKit Go.Proofs.YtgfajgkjbckkgaaGreatDoorW.PrintWords Go.Proofs.YtgfajgkjbckkgaaGreatDoorW.PrintLast Go.Proofs.YtgfajgkjbckkgaaGreatDoorW.PrintMore
attribute [local go_sem] max2_int min2_int max_two min_two max_three min_three max_four min_four   -- for this text's walks alone
mutual
def exergueref11_rel.j0:Nat→ByteArray→Int→Bool→Int→Int→Bool→Option (Int×Int×Bool×(List (S57))×Int×Bool)
 | 0,_,_,_,_,_,_=>none
 | k+1,x0,x1,x29,an,ah,ai=>if x29=true then (some (an,ah,ai,([]:List (S57)),x1,false)) else (if 0≤x1 then (if x1<(x0.size:Int) then ((exergueref11_over.f k x0 (wrap64 (x1+1))).bind fun aq=>((exergueref11_sign.f x0 aq (⟨#[37]⟩:ByteArray)).bind fun aE=>(if aE=true then ((exergueref11_number.f k x0 (wrap64 (aq+1)) 1).bind fun ay=>(if ay.1<0 then (some (bt x0 x1,ah,ai,([]:List (S57)),ay.2,false)) else ((exergueref11_over.f k x0 ay.2).bind fun aF=>(exergueref11_rel.j1 k x0 aF (bt x0 x1) ay.1 ai)))) else (exergueref11_rel.j1 k x0 aq (bt x0 x1) ah ai)))) else (none)) else (none))
def exergueref11_rel.j1:Nat→ByteArray→Int→Int→Int→Bool→Option (Int×Int×Bool×(List (S57))×Int×Bool)
 | 0,_,_,_,_,_=>none
 | k+1,x0,x1,an,ah,ai=>(exergueref11_sign.f x0 x1 (⟨#[33,61]⟩:ByteArray)).bind fun aG=>(if aG=true then (exergueref11_rel.j2 k x0 (wrap64 (x1+1)) an ah true) else (exergueref11_rel.j2 k x0 x1 an ah ai))
def exergueref11_rel.j2:Nat→ByteArray→Int→Int→Int→Bool→Option (Int×Int×Bool×(List (S57))×Int×Bool)
 | 0,_,_,_,_,_=>none
 | k+1,x0,x1,an,ah,ai=>(exergueref11_sign.f x0 x1 (⟨#[61]⟩:ByteArray)).bind fun aZ=>(if aZ=true then ((exergueref11_ranges.f k x0 (wrap64 (x1+1))).bind fun aB=>(some (an,ah,ai,aB.1,aB.2.1,aB.2.2))) else (some (an,ah,ai,([]:List (S57)),x1,false)))
end
def exergueref11_rel.f (k:Nat)(a0:ByteArray)(a1:Int):Option (Int×Int×Bool×(List (S57))×Int×Bool):=(exergueref11_over.f k a0 a1).bind fun aa=>((exergueref11_word.f k a0 aa).bind fun ar=>(if ar=(wrap64 (aa+1)) then (if 0≤aa then (if aa<(a0.size:Int) then ((exergueref11_op.f (bt a0 aa)).bind fun aA=>(exergueref11_rel.j0 k a0 aa (!aA) 0 0 false)) else (none)) else (none)) else (exergueref11_rel.j0 k a0 aa true 0 0 false)))
theorem exergueref11_rel.mono_l:∀ k,(∀ y0 y1 y2 y3 y4 y5,LeO (exergueref11_rel.j0 k y0 y1 y2 y3 y4 y5) (exergueref11_rel.j0 (k+1) y0 y1 y2 y3 y4 y5))∧(∀ y0 y1 y2 y3 y4,LeO (exergueref11_rel.j1 k y0 y1 y2 y3 y4) (exergueref11_rel.j1 (k+1) y0 y1 y2 y3 y4))∧(∀ y0 y1 y2 y3 y4,LeO (exergueref11_rel.j2 k y0 y1 y2 y3 y4) (exergueref11_rel.j2 (k+1) y0 y1 y2 y3 y4))
 | 0=>⟨fun _ _ _ _ _ _ r h=>by simp [exergueref11_rel.j0] at h,fun _ _ _ _ _ r h=>by simp [exergueref11_rel.j1] at h,fun _ _ _ _ _ r h=>by simp [exergueref11_rel.j2] at h⟩
 | k+1=>by
  obtain ⟨ih0,ih1,ih2⟩:=exergueref11_rel.mono_l k
  refine ⟨?_,?_,?_⟩
  ·intro y0 y1 y2 y3 y4 y5
   unfold exergueref11_rel.j0
   repeat' first|(with_reducible first|apply ih0|apply ih1|apply ih2|apply exergueref11_number.mono|apply exergueref11_over.mono|apply exergueref11_ranges.mono|apply exergueref11_word.mono|apply LeO.refl|apply LeO.none|refine LeO.ite ?_ ?_|refine LeO.bind ?_ (fun _=>?_))|apply ih0|apply ih1|apply ih2|apply exergueref11_number.mono|apply exergueref11_over.mono|apply exergueref11_ranges.mono|apply exergueref11_word.mono|apply LeO.none
  ·intro y0 y1 y2 y3 y4
   unfold exergueref11_rel.j1
   repeat' first|(with_reducible first|apply ih0|apply ih1|apply ih2|apply exergueref11_number.mono|apply exergueref11_over.mono|apply exergueref11_ranges.mono|apply exergueref11_word.mono|apply LeO.refl|apply LeO.none|refine LeO.ite ?_ ?_|refine LeO.bind ?_ (fun _=>?_))|apply ih0|apply ih1|apply ih2|apply exergueref11_number.mono|apply exergueref11_over.mono|apply exergueref11_ranges.mono|apply exergueref11_word.mono|apply LeO.none
  ·intro y0 y1 y2 y3 y4
   unfold exergueref11_rel.j2
   repeat' first|(with_reducible first|apply ih0|apply ih1|apply ih2|apply exergueref11_number.mono|apply exergueref11_over.mono|apply exergueref11_ranges.mono|apply exergueref11_word.mono|apply LeO.refl|apply LeO.none|refine LeO.ite ?_ ?_|refine LeO.bind ?_ (fun _=>?_))|apply ih0|apply ih1|apply ih2|apply exergueref11_number.mono|apply exergueref11_over.mono|apply exergueref11_ranges.mono|apply exergueref11_word.mono|apply LeO.none
theorem exergueref11_rel.mono:∀ a0 a1 k,LeO (exergueref11_rel.f k a0 a1) (exergueref11_rel.f (k+1) a0 a1):=by
 intro a0 a1 k
 obtain ⟨ih0,ih1,ih2⟩:=exergueref11_rel.mono_l k
 unfold exergueref11_rel.f
 repeat' first|(with_reducible first|apply ih0|apply ih1|apply ih2|apply exergueref11_number.mono|apply exergueref11_over.mono|apply exergueref11_ranges.mono|apply exergueref11_word.mono|apply LeO.refl|apply LeO.none|refine LeO.ite ?_ ?_|refine LeO.bind ?_ (fun _=>?_))|apply ih0|apply ih1|apply ih2|apply exergueref11_number.mono|apply exergueref11_over.mono|apply exergueref11_ranges.mono|apply exergueref11_word.mono|apply LeO.none
set_option maxHeartbeats 8000000 in
set_option maxRecDepth 100000 in
theorem exergueref11_rel.calls (k:Nat)(a0:ByteArray)(a1:Int)(r1:Int)(r2:Int)(r3:Bool)(r4:List (S57))(r5:Int)(r6:Bool)(w:World)(h:exergueref11_rel.f k a0 a1=some (r1,r2,r3,r4,r5,r6)) :
  Calls Tryz.prog 71 #[.string a0,.int .i64 a1] w fun e w'=>∃ v3_:Value,e = .returned (.tuple #[.agg #[.int .u8 r1,.int .i64 r2,.bool r3,v3_],.int .i64 r5,.bool r6])∧Kd.R k57 57 w' w.heap.size (fun _=>True) v3_ r4∧Below w.heap.size w w':=by
 have hu60:=Tryz.underlying60
 have HB:=zS (Below.refl w.heap.size w)
 have H:((exergueref11_over.f k a0 a1).bind fun aa=>((exergueref11_word.f k a0 aa).bind fun ar=>(if ar=(wrap64 (aa+1)) then (if 0≤aa then (if aa<(a0.size:Int) then ((exergueref11_op.f (bt a0 aa)).bind fun aA=>(exergueref11_rel.j0 k a0 aa (!aA) 0 0 false)) else (none)) else (none)) else (exergueref11_rel.j0 k a0 aa true 0 0 false))))=some (r1,r2,r3,r4,r5,r6):=h
 clear h
 replace H:=Option.bind_eq_some_iff.mp H
 obtain ⟨aa,A30,H⟩:=H
 try dsimp only at H
 have A3:=zS A30
 clear A30
 have HC4:=zS H
 clear H
 go_enter Tryz.func71,Tryz.ntmps71
 go_upto_region 3 with (first|((with_reducible refine gate_dst (N:=4) rfl ?_);refine box_event ?hg (N:=4) ?hd (cs:=#[.int .u8 0,.int .i64 0,.bool false,.slice none 0 0]) (t:=60) ?hr ?_;(case hd=>rfl);(case hg=>rfl);(case hr=>first|(go_simp;done)|(go_simp;rfl));intro am hg w5 hbox hb;have ab:=zS (hbox);have bq:=bg HB hg;replace HB:=bs HB hb;clear hb hbox hg)|((with_reducible refine gate_dst (N:=7) rfl ?_);refine box_event ?hg (N:=7) ?hd (cs:=#[.int .u8 0,.int .i64 0,.bool false,.slice none 0 0]) (t:=60) ?hr ?_;(case hd=>rfl);(case hg=>rfl);(case hr=>first|(go_simp;done)|(go_simp;rfl));intro aw hg w6 hbox hb;have ac:=zS (hbox);have br:=bg HB hg;replace HB:=bs HB hb;have af:=kn ab hg;have ag:=km ab hg;replace ab:=kb ab hb;clear hb hbox hg;have bT:=ag.out;have bU:=af.out;have a2:=blkc4 ac.out;have a3:=blkf4 ac.out)|((with_reducible refine gate_callee (f:=72) rfl ?_);refine gL (some 16) Tryz.func72 #[.string a0,.int .i64 a1] ?_;(with_reducible refine (exergueref11_over.calls k a0 a1 aa _ A3.out).mono ?_);rintro e w' ⟨rfl,⟨nd,rfl⟩⟩;refine ⟨_,rfl,?_⟩))
 (try simp only [Act.put,sA,sB,sC])
 go_cut [29] (fun v29 wc=>∃ (kq:Nat) (az:Bool),v29 = .bool az∧Sd (exergueref11_rel.j0 kq a0 aa az 0 0 false=some (r1,r2,r3,r4,r5,r6))∧Sd (kq≤k)∧Sd (wc.heap[am]?=some (.cells #[.int .u8 0,.int .i64 0,.bool false,(.slice none 0 0)] 60 (0,0)))∧Sd (wc.heap[aw]?=some (.cells #[.int .u8 0,.int .i64 0,.bool false,(.slice none 0 0)] 60 (0,0)))∧Sd (Below w.heap.size w wc))
 case first=>
  have H:=HC4.out
  clear HC4
  replace H:=Option.bind_eq_some_iff.mp H
  obtain ⟨ar,A90,H⟩:=H
  try dsimp only at H
  have A9:=zS A90
  clear A90
  by_cases c10:ar=(wrap64 (aa+1))
  rotate_left
  ·rw [if_neg c10] at H
   have ap:(ar == (wrap64 (aa+1)))=false:=zF c10
   have ax:(ar != (wrap64 (aa+1)))=true:=zI c10
   (first|rw [ap]|(simp only [i64_w,i32_w];rw [ap])|rw [ax]|skip)
   have H':=zS H
   clear H
   go_wp2_with (first|((with_reducible refine gate_callee (f:=73) rfl ?_);refine gL (some 19) Tryz.func73 #[.string a0,.int .i64 aa] ?_;(with_reducible refine (exergueref11_word.calls k a0 aa ar _ A9.out).mono ?_);rintro e w' ⟨rfl,⟨nd,rfl⟩⟩;refine ⟨_,rfl,?_⟩))
   go_meet
   case rel=>exact ⟨_,(true),(by first|rfl|(simp;done)|(simp [*];done)),H',⟨by first|omega|exact Nat.le_refl _⟩,⟨ko ab⟩,⟨kp ac rfl⟩,⟨bQ HB⟩⟩
  rw [if_pos c10] at H
  have ap:(ar == (wrap64 (aa+1)))=true:=zH c10
  have ax:(ar != (wrap64 (aa+1)))=false:=zG c10
  clear c10
  (first|rw [ap]|(simp only [i64_w,i32_w];rw [ap])|rw [ax]|skip)
  by_cases c11:0≤aa
  rotate_left
  ·rw [if_neg c11] at H
   exact absurd H (by simp)
  rw [if_pos c11] at H
  have aC:=zC c11
  clear c11
  by_cases c12:aa<(a0.size:Int)
  ·rw [if_pos c12] at H
   have aD:=zC c12
   clear c12
   replace H:=Option.bind_eq_some_iff.mp H
   obtain ⟨aA,a9,H⟩:=H
   try dsimp only at H
   have A14:=zS a9
   clear a9
   have H':=zS H
   clear H
   go_wp2_with (first|((with_reducible refine gate_callee (f:=73) rfl ?_);refine gL (some 19) Tryz.func73 #[.string a0,.int .i64 aa] ?_;(with_reducible refine (exergueref11_word.calls k a0 aa ar _ A9.out).mono ?_);rintro e w' ⟨rfl,⟨nd,rfl⟩⟩;refine ⟨_,rfl,?_⟩;have p13:0≤(aa:Int):=zB (by first|(with_reducible assumption)|assumption);have q13:aa<(a0.size:Int):=zB (by first|(with_reducible assumption)|assumption);have a4:=bt_at a0 aa;replace p13:=eq_true p13;replace q13:=eq_true q13)|(go_at_call 94;(with_reducible refine (exergueref11_op.calls (bt a0 aa) aA _ A14.out).mono ?_);rintro e w' ⟨rfl,⟨nd,rfl⟩⟩))
   go_meet
   case rel=>exact ⟨_,(!aA),(by first|rfl|(simp;done)|(simp [*];done)),H',⟨by first|omega|exact Nat.le_refl _⟩,⟨ko ab⟩,⟨kp ac rfl⟩,⟨bQ HB⟩⟩
  rw [if_neg c12] at H
  exact absurd H (by simp)
 case rest=>
  clear HC4
  try clear c1
  try clear p1
  try clear q1
  try clear hx1
  try clear p2
  try clear p6
  try clear c7
  try clear c10
  try clear ap
  try clear ax
  try clear c11
  try clear aC
  try clear c12
  try clear aD
  try clear p13
  try clear q13
  try clear a4
  try clear a2
  try clear a3
  try clear p13
  try clear q13
  obtain ⟨kq,az,rfl,HA,HJ3,ab,ac,HB⟩:=hcut
  cases kq with
  | zero=>exact absurd HA.out (by simp [exergueref11_rel.j0])
  | succ kj3=>
   have H:=HA.out
   clear HA
   simp only [exergueref11_rel.j0] at H
   by_cases c15:az=true
   ·subst c15
    rw [if_pos rfl] at H
    simp only [Option.some.injEq,Prod.mk.injEq] at H
    obtain ⟨rfl,rfl,rfl,rfl,rfl,rfl⟩:=H
    have bu:=ag.out
    have bv:=af.out
    have aK:=blkc4 ac.out
    have aL:=blkf4 ac.out
    have aM:=blkc4 ab.out
    have aN:=blkf4 ab.out
    go_wp2
    refine bodyPost_ret (results_ctt rfl _ _ am 60 #[.int .u8 0,.int .i64 0,.bool false,.slice none 0 0] (0,0) _ rfl (kp ab rfl) Tryz.underlying60 rfl (by kernel_rfl)) rfl ?_
    exact ⟨_,by first|rfl|(simp <;> rfl)|(simp [*] <;> rfl),by first|exact Kd.R_nil _ _ _ _ _|exact Kd.N_nil _ _ _ _ _|exact Kd.V_nil _ _ _ _ _|exact Kd.Q_nil _ _ _ _ _|exact Kd.S_nil _ _ _ _ _,bQ HB⟩
   replace c15:=Bool.eq_false_iff.mpr c15
   subst c15
   rw [if_neg (show ¬ (false=true) by decide)] at H
   by_cases c19:0≤aa
   rotate_left
   ·rw [if_neg c19] at H
    exact absurd H (by simp)
   rw [if_pos c19] at H
   have aO:=zC c19
   clear c19
   by_cases c20:aa<(a0.size:Int)
   rotate_left
   ·rw [if_neg c20] at H
    exact absurd H (by simp)
   rw [if_pos c20] at H
   have aP:=zC c20
   clear c20
   replace H:=Option.bind_eq_some_iff.mp H
   obtain ⟨aq,ba,H⟩:=H
   try dsimp only at H
   have A22:=zS ba
   clear ba
   replace H:=Option.bind_eq_some_iff.mp H
   obtain ⟨aE,bb,H⟩:=H
   try dsimp only at H
   have A23:=zS bb
   clear bb
   have a5:=zS H
   clear H
   have p21:0≤(aa:Int):=zB (by first|(with_reducible assumption)|assumption)
   have q21:aa<(a0.size:Int):=zB (by first|(with_reducible assumption)|assumption)
   have bc:=bt_at a0 aa
   replace p21:=eq_true p21
   replace q21:=eq_true q21
   have bw:=ag.out
   have bx:=af.out
   have aQ:=blkc4 ac.out
   have aR:=blkf4 ac.out
   go_upto_if 42 with (first|((with_reducible refine gate_callee (f:=72) rfl ?_);refine gL (some 39) Tryz.func72 #[.string a0,.int .i64 (wrap64 (aa+1))] ?_;(with_reducible refine (exergueref11_over.calls kj3 a0 (wrap64 (aa+1)) aq _ A22.out).mono ?_);rintro e w' ⟨rfl,⟨nd,rfl⟩⟩;refine ⟨_,rfl,?_⟩)|((with_reducible refine gate_callee (f:=95) rfl ?_);refine gL (some 42) Tryz.func95 #[.string a0,.int .i64 aq,.string (⟨#[37]⟩:ByteArray)] ?_;(with_reducible refine (exergueref11_sign.calls a0 aq (⟨#[37]⟩:ByteArray) aE _ A23.out).mono ?_);rintro e w' ⟨rfl,⟨nd,rfl⟩⟩;refine ⟨_,rfl,?_⟩))
   (try simp only [Act.put,sA,sB,sC])
   go_cut [1] (fun v1 wc=>∃ (kq:Nat) (au:Int) (aj:Int) (ak:Int) (al:Bool) (ad:Int),v1 = .int .i64 au∧Sd (exergueref11_rel.j1 kq a0 au (bt a0 aa) ad false=some (r1,r2,r3,r4,r5,r6))∧Sd (kq≤kj3)∧Sd (wc.heap[am]?=some (.cells #[.int .u8 aj,.int .i64 ak,.bool al,(.slice none 0 0)] 60 (0,0)))∧Sd (wc.heap[aw]?=some (.cells #[.int .u8 (bt a0 aa),.int .i64 ad,.bool false,(.slice none 0 0)] 60 (0,0)))∧Sd (Below w.heap.size w wc))
   case first=>
    have H:=a5.out
    clear a5
    by_cases c27:aE=true
    rotate_left
    ·replace c27:=Bool.eq_false_iff.mpr c27
     subst c27
     rw [if_neg (show ¬ (false=true) by decide)] at H
     have H':=zS H
     clear H
     go_wp2
     go_meet
     case rel=>exact ⟨_,(aq),(0),(0),(false),(0),(by first|rfl|(simp;done)|(simp [*];done)),H',⟨by have:=HJ3.out;first|omega|exact Nat.le_refl _⟩,⟨ko ab⟩,⟨kp ac rfl⟩,⟨bQ HB⟩⟩
    subst c27
    rw [if_pos rfl] at H
    replace H:=Option.bind_eq_some_iff.mp H
    obtain ⟨⟨aH,aI⟩,bd,H⟩:=H
    try dsimp only at H
    have A28:=zS bd
    clear bd
    by_cases c29:aH<0
    ·rw [if_pos c29] at H
     have av:=zC c29
     clear c29
     (first|rw [av]|(simp only [i64_w,i32_w];rw [av])|rw [be]|skip)
     simp only [Option.some.injEq,Prod.mk.injEq] at H
     obtain ⟨rfl,rfl,rfl,rfl,rfl,rfl⟩:=H
     go_wp2_with (first|((with_reducible refine gate_callee (f:=96) rfl ?_);refine gL (some 47) Tryz.func96 #[.string a0,.int .i64 (wrap64 (aq+1)),.int .i64 1] ?_;(with_reducible refine (exergueref11_number.calls kj3 a0 (wrap64 (aq+1)) 1 aH aI _ A28.out).mono ?_);rintro e w' ⟨rfl,⟨nd,rfl⟩⟩;refine ⟨_,rfl,?_⟩;have bA:=ag.out;have bB:=af.out;have aS:=blkc4 ac.out;have aT:=blkf4 ac.out;have aU:=blkc4 ab.out;have aV:=blkf4 ab.out))
     refine bodyPost_ret (results_ctt rfl _ _ am 60 #[.int .u8 (bt a0 aa),.int .i64 0,.bool false,.slice none 0 0] (0,0) _ rfl (kp ab rfl) Tryz.underlying60 rfl (by kernel_rfl)) rfl ?_
     exact ⟨_,by first|rfl|(simp <;> rfl)|(simp [*] <;> rfl),by first|exact Kd.R_nil _ _ _ _ _|exact Kd.N_nil _ _ _ _ _|exact Kd.V_nil _ _ _ _ _|exact Kd.Q_nil _ _ _ _ _|exact Kd.S_nil _ _ _ _ _,bQ HB⟩
    rw [if_neg c29] at H
    have av:=zD c29
    clear c29
    (first|rw [av]|(simp only [i64_w,i32_w];rw [av])|rw [be]|skip)
    replace H:=Option.bind_eq_some_iff.mp H
    obtain ⟨aF,bf,H⟩:=H
    try dsimp only at H
    have A33:=zS bf
    clear bf
    have H':=zS H
    clear H
    go_wp2_with (first|((with_reducible refine gate_callee (f:=96) rfl ?_);refine gL (some 47) Tryz.func96 #[.string a0,.int .i64 (wrap64 (aq+1)),.int .i64 1] ?_;(with_reducible refine (exergueref11_number.calls kj3 a0 (wrap64 (aq+1)) 1 aH aI _ A28.out).mono ?_);rintro e w' ⟨rfl,⟨nd,rfl⟩⟩;refine ⟨_,rfl,?_⟩;have bC:=ag.out;have bD:=af.out;have aW:=blkc4 ac.out;have aX:=blkf4 ac.out)|((with_reducible refine gate_callee (f:=72) rfl ?_);refine gL (some 58) Tryz.func72 #[.string a0,.int .i64 aI] ?_;(with_reducible refine (exergueref11_over.calls kj3 a0 aI aF _ A33.out).mono ?_);rintro e w' ⟨rfl,⟨nd,rfl⟩⟩;refine ⟨_,rfl,?_⟩))
    go_meet
    case rel=>exact ⟨_,(aF),(0),(0),(false),(aH),(by first|rfl|(simp;done)|(simp [*];done)),H',⟨by have:=HJ3.out;first|omega|exact Nat.le_refl _⟩,⟨ko ab⟩,⟨kp ac rfl⟩,⟨bQ HB⟩⟩
   case rest=>
    clear a5
    try clear c1
    try clear p1
    try clear q1
    try clear hx1
    try clear c2
    try clear p2
    try clear q2
    try clear hx2
    try clear c3
    try clear p6
    try clear c7
    try clear c9
    try clear c10
    try clear ap
    try clear ax
    try clear c11
    try clear aC
    try clear c12
    try clear aD
    try clear p13
    try clear q13
    try clear a4
    try clear c15
    try clear c16
    try clear c19
    try clear aO
    try clear c20
    try clear aP
    try clear p21
    try clear q21
    try clear bc
    try clear c25
    try clear c27
    try clear c29
    try clear av
    try clear c30
    try clear c34
    try clear aK
    try clear aM
    try clear aQ
    try clear aS
    try clear aU
    try clear aW
    try clear a2
    try clear aL
    try clear aN
    try clear aR
    try clear aT
    try clear aV
    try clear aX
    try clear a3
    try clear p1
    try clear p13
    try clear p2
    try clear p21
    try clear p6
    try clear q1
    try clear q13
    try clear q21
    obtain ⟨kq,au,aj,ak,al,ad,rfl,HA,HJ23,ab,ac,HB⟩:=hcut
    cases kq with
    | zero=>exact absurd HA.out (by simp [exergueref11_rel.j1])
    | succ kj23=>
     have H:=HA.out
     clear HA
     simp only [exergueref11_rel.j1] at H
     replace H:=Option.bind_eq_some_iff.mp H
     obtain ⟨aG,bh,H⟩:=H
     try dsimp only at H
     have A36:=zS bh
     clear bh
     have a6:=zS H
     clear H
     go_upto_if 61 with (first|((with_reducible refine gate_callee (f:=95) rfl ?_);refine gL (some 61) Tryz.func95 #[.string a0,.int .i64 au,.string (⟨#[33,61]⟩:ByteArray)] ?_;(with_reducible refine (exergueref11_sign.calls a0 au (⟨#[33,61]⟩:ByteArray) aG _ A36.out).mono ?_);rintro e w' ⟨rfl,⟨nd,rfl⟩⟩;refine ⟨_,rfl,?_⟩))
     (try simp only [Act.put,sA,sB,sC])
     go_cut [1] (fun v1 wc=>∃ (kq:Nat) (ao:Int) (ae:Bool),v1 = .int .i64 ao∧Sd (exergueref11_rel.j2 kq a0 ao (bt a0 aa) ad ae=some (r1,r2,r3,r4,r5,r6))∧Sd (kq≤kj23)∧Sd (wc.heap[am]?=some (.cells #[.int .u8 aj,.int .i64 ak,.bool al,(.slice none 0 0)] 60 (0,0)))∧Sd (wc.heap[aw]?=some (.cells #[.int .u8 (bt a0 aa),.int .i64 ad,.bool ae,(.slice none 0 0)] 60 (0,0)))∧Sd (Below w.heap.size w wc))
     case first=>
      have H:=a6.out
      clear a6
      by_cases c38:aG=true
      ·subst c38
       rw [if_pos rfl] at H
       have H':=zS H
       clear H
       have bE:=ag.out
       have bF:=af.out
       have bi:=blkc4 ac.out
       have bj:=blkf4 ac.out
       go_wp2
       go_meet
       case rel=>exact ⟨_,(wrap64 (au+1)),(true),(by first|rfl|(simp;done)|(simp [*];done)),H',⟨by have:=HJ3.out;have:=HJ23.out;first|omega|exact Nat.le_refl _⟩,⟨ko ab⟩,⟨kp ac rfl⟩,⟨bQ HB⟩⟩
      replace c38:=Bool.eq_false_iff.mpr c38
      subst c38
      rw [if_neg (show ¬ (false=true) by decide)] at H
      have H':=zS H
      clear H
      go_wp2
      go_meet
      case rel=>exact ⟨_,(au),(false),(by first|rfl|(simp;done)|(simp [*];done)),H',⟨by have:=HJ3.out;have:=HJ23.out;first|omega|exact Nat.le_refl _⟩,⟨ko ab⟩,⟨ko ac⟩,⟨bQ HB⟩⟩
     case rest=>
      clear a6
      try clear c1
      try clear p1
      try clear q1
      try clear hx1
      try clear c2
      try clear p2
      try clear q2
      try clear hx2
      try clear c3
      try clear p6
      try clear c7
      try clear c9
      try clear c10
      try clear ap
      try clear ax
      try clear c11
      try clear aC
      try clear c12
      try clear aD
      try clear p13
      try clear q13
      try clear a4
      try clear c15
      try clear c16
      try clear c19
      try clear aO
      try clear c20
      try clear aP
      try clear p21
      try clear q21
      try clear bc
      try clear c25
      try clear c27
      try clear c29
      try clear av
      try clear c30
      try clear c34
      try clear c38
      try clear c39
      try clear aK
      try clear aM
      try clear aQ
      try clear aS
      try clear aU
      try clear aW
      try clear bi
      try clear a2
      try clear aL
      try clear aN
      try clear aR
      try clear aT
      try clear aV
      try clear aX
      try clear bj
      try clear a3
      try clear p1
      try clear p13
      try clear p2
      try clear p21
      try clear p6
      try clear q1
      try clear q13
      try clear q2
      try clear q21
      obtain ⟨kq,ao,ae,rfl,HA,HJ36,ab,ac,HB⟩:=hcut
      cases kq with
      | zero=>exact absurd HA.out (by simp [exergueref11_rel.j2])
      | succ kj36=>
       have H:=HA.out
       clear HA
       simp only [exergueref11_rel.j2] at H
       replace H:=Option.bind_eq_some_iff.mp H
       obtain ⟨aZ,bk,H⟩:=H
       try dsimp only at H
       have A41:=zS bk
       clear bk
       by_cases c42:aZ=true
       ·subst c42
        rw [if_pos rfl] at H
        replace H:=Option.bind_eq_some_iff.mp H
        obtain ⟨⟨aJ,bn,bo⟩,bm,H⟩:=H
        try dsimp only at H
        have A43:=zS bm
        clear bm
        simp only [Option.some.injEq,Prod.mk.injEq] at H
        obtain ⟨rfl,rfl,rfl,rfl,rfl,rfl⟩:=H
        go_wp2_with (first|((with_reducible refine gate_callee (f:=95) rfl ?_);refine gL (some 67) Tryz.func95 #[.string a0,.int .i64 ao,.string (⟨#[61]⟩:ByteArray)] ?_;(with_reducible refine (exergueref11_sign.calls a0 ao (⟨#[61]⟩:ByteArray) true _ A41.out).mono ?_);rintro e w' ⟨rfl,⟨nd,rfl⟩⟩;refine ⟨_,rfl,?_⟩;(try (rw [drewN_self wc];generalize hq_:World.drewN wc _=wc;replace ab:Sd (wc.heap[am]?=some (.cells #[.int .u8 aj,.int .i64 ak,.bool al,.slice none 0 0] 60 (0,0))):=⟨by rw [← hq_];exact (ko ab)⟩;replace ac:Sd (wc.heap[aw]?=some (.cells #[.int .u8 (bt a0 aa),.int .i64 ad,.bool ae,.slice none 0 0] 60 (0,0))):=⟨by rw [← hq_];exact (ko ac)⟩;replace HB:Sd (Below w.heap.size w wc):=⟨by rw [← hq_];exact (bQ HB)⟩;clear hq_)))|((with_reducible refine gate_callee (f:=97) rfl ?_);refine gL (some 75) Tryz.func97 #[.string a0,.int .i64 (wrap64 (ao+1))] ?_;(with_reducible refine (exergueref11_ranges.calls kj36 a0 (wrap64 (ao+1)) aJ bn bo _ A43.out).mono ?_);rintro e w44 ⟨bV,rfl,ho0,hb⟩;refine ⟨_,rfl,?_⟩;have aY:=zS (Kd.R_lower ho0 (bz HB));replace ab:=kb ab hb;replace ac:=kb ac hb;replace HB:=bs HB hb;(try clear hb);(try clear ho0);obtain ⟨a7,a8,bp⟩:=Kd.R_slice aY.out;subst bp;have bG:=ag.out;have bH:=af.out;have bI:=blkc4 ac.out;have bJ:=blkf4 ac.out;have bK:=blkc4 ab.out;have bL:=blkf4 ab.out))
        refine bodyPost_ret (results_ctt rfl _ _ am 60 #[.int .u8 (bt a0 aa),.int .i64 ad,.bool ae,.slice a7 aJ.length a8] (0,0) _ rfl (kp ab rfl) Tryz.underlying60 rfl (by kernel_rfl)) rfl ?_
        exact ⟨_,by first|rfl|(simp <;> rfl)|(simp [*] <;> rfl),by (with_reducible repeat (first|apply Kd.R_alloc|apply Kd.R_drewN|apply Kd.R_drew));exact Kd.R_mono (Kd.R_far (p:=⟨am,3,none⟩) (Kd.R_far (p:=⟨am,2,none⟩) (Kd.R_far (p:=⟨am,1,none⟩) (Kd.R_far (p:=⟨am,0,none⟩) (Kd.R_far (p:=⟨aw,3,none⟩) (Kd.R_types (Kd.R_types aY.out ac.out (by decide)) ab.out (by decide)) (fun _ hk=>hk.1.2) (.slice a7 aJ.length a8)) (fun _ hk=>hk.2) (.int .u8 (bt a0 aa))) (fun _ hk=>hk.2) (.int .i64 ad)) (fun _ hk=>hk.2) (.bool ae)) (fun _ hk=>hk.2) (.slice a7 aJ.length a8)) (fun _ hk=>trivial),bQ HB⟩
       replace c42:=Bool.eq_false_iff.mpr c42
       subst c42
       rw [if_neg (show ¬ (false=true) by decide)] at H
       simp only [Option.some.injEq,Prod.mk.injEq] at H
       obtain ⟨rfl,rfl,rfl,rfl,rfl,rfl⟩:=H
       go_wp2_with (first|((with_reducible refine gate_callee (f:=95) rfl ?_);refine gL (some 67) Tryz.func95 #[.string a0,.int .i64 ao,.string (⟨#[61]⟩:ByteArray)] ?_;(with_reducible refine (exergueref11_sign.calls a0 ao (⟨#[61]⟩:ByteArray) false _ A41.out).mono ?_);rintro e w' ⟨rfl,⟨nd,rfl⟩⟩;refine ⟨_,rfl,?_⟩;(try (rw [drewN_self wc];generalize hq_:World.drewN wc _=wc;replace ab:Sd (wc.heap[am]?=some (.cells #[.int .u8 aj,.int .i64 ak,.bool al,.slice none 0 0] 60 (0,0))):=⟨by rw [← hq_];exact (ko ab)⟩;replace ac:Sd (wc.heap[aw]?=some (.cells #[.int .u8 (bt a0 aa),.int .i64 ad,.bool ae,.slice none 0 0] 60 (0,0))):=⟨by rw [← hq_];exact (ko ac)⟩;replace HB:Sd (Below w.heap.size w wc):=⟨by rw [← hq_];exact (bQ HB)⟩;clear hq_));have bM:=ag.out;have bN:=af.out;have bO:=blkc4 ac.out;have bP:=blkf4 ac.out;have bR:=blkc4 ab.out;have bS:=blkf4 ab.out))
       refine bodyPost_ret (results_ctt rfl _ _ am 60 #[.int .u8 (bt a0 aa),.int .i64 ad,.bool ae,.slice none 0 0] (0,0) _ rfl (kp ab rfl) Tryz.underlying60 rfl (by kernel_rfl)) rfl ?_
       exact ⟨_,by first|rfl|(simp <;> rfl)|(simp [*] <;> rfl),by first|exact Kd.R_nil _ _ _ _ _|exact Kd.N_nil _ _ _ _ _|exact Kd.V_nil _ _ _ _ _|exact Kd.Q_nil _ _ _ _ _|exact Kd.S_nil _ _ _ _ _,bQ HB⟩
end Go.Proofs.YtgfajgkjbckkgaaGreatDoor.PZ
end
end
section
set_option maxRecDepth 100000
namespace Go.Proofs.YtgfajgkjbckkgaaGreatDoor.PZ
open Go.RowKit Go.Proofs.YtgfajgkjbckkgaaGreatDoorW.PrintWords Go.Proofs.YtgfajgkjbckkgaaGreatDoorW.PrintLast
section
section
variable {W W' W2 w0:World}{g:Nat}{s:ByteArray}{a:Nat}{b:Bool}
theorem RdTo.more (h:RdTo W g s a b W')(hb:Below W'.heap.size W' W2):RdTo W g s a b W2:=
  ⟨(hb.block g (blk_lt h.1)).trans h.1,Lib.grownBy_below h.2 hb⟩
theorem RdTo.below (h:RdTo W g s a b W')(hB:Below w0.heap.size w0 W)(hg:w0.heap.size≤g):Below w0.heap.size w0 W':=
  pw_below_grown hB (some g) hB.size h.2 (fun k e=>by cases e;exact hg)
end
theorem parse_ok:∀ (l:List UInt8) (acc:Nat),(∀ c ∈ l,48≤c.toNat∧c.toNat≤57)→(acc+1) * 10 ^ l.length≤10 ^ 18→∃ v,Lib.parseUint10 acc l = .ok v∧(v:Int)=(l.map fun b=>(b.toNat:Int)).foldl (fun n c=>n * 10+(c - 48)) (acc:Int)∧v<(acc+1) * 10 ^ l.length
  | [],acc,_,h=>⟨acc,rfl,rfl,by simp⟩
  | c :: l,acc,hc,h=>by
    have h1:=hc c (by simp)
    have hp:0<10 ^ l.length:=Nat.pow_pos (by decide)
    rw [List.length_cons,Nat.pow_succ] at h
    have h2:(acc * 10+(c.toNat - 48)+1) * 10 ^ l.length≤(acc+1) * (10 ^ l.length * 10):=by
     rw [show (acc+1) * (10 ^ l.length * 10)=((acc+1) * 10) * 10 ^ l.length by rw [Nat.mul_comm (10 ^ l.length) 10,Nat.mul_assoc]]
     exact Nat.mul_le_mul_right _ (by omega)
    obtain ⟨v,e1,e2,e3⟩:=parse_ok l (acc * 10+(c.toNat - 48)) (fun x hx=>hc x (by simp [hx])) (Nat.le_trans h2 h)
    have h3:acc * 10+(c.toNat - 48)+1≤10 ^ 18:=by
     have:(acc * 10+(c.toNat - 48)+1) * 1≤(acc * 10+(c.toNat - 48)+1) * 10 ^ l.length:=Nat.mul_le_mul_left _ hp
     omega
    refine ⟨v,?_,?_,by rw [List.length_cons,Nat.pow_succ];omega⟩
    · rw [Lib.parseUint10,if_pos h1,if_neg (by omega),if_neg (by omega),e1]
    · rw [e2,List.map_cons,List.foldl_cons]
      congr 1
      omega
theorem atoi_dig {q:ByteArray}(hd:∀ c ∈ bytesOf q,isDi c=true)(h0:0<q.size)(h9:q.size≤9):Lib.atoiAll q.data.toList = .ok (decv (bytesOf q)):=by
 have hc:∀ c ∈ q.data.toList,48≤c.toNat∧c.toNat≤57:=by
  intro c hc
  have:=hd (c.toNat:Int) (List.mem_map.2 ⟨c,hc,rfl⟩)
  unfold isDi at this
  simp at this
  omega
 have hl:=data_length q
 obtain ⟨v,e1,e2,e3⟩:=parse_ok q.data.toList 0 hc (by
  rw [hl,Nat.zero_add,Nat.one_mul]
  exact Nat.pow_le_pow_right (by decide) (by omega))
 have hv:v<9223372036854775808:=by
  rw [hl] at e3
  have:(10:Nat) ^ q.size≤10 ^ 9:=Nat.pow_le_pow_right (by decide) h9
  omega
 unfold decv bytesOf
 generalize q.data.toList=l at *
 match l,hc,e1,e2 with
 | [],_,_,_=>simp at hl;omega
 | c :: r,hc,e1,e2=>
  have h1:=hc c (by simp)
  unfold Lib.atoiAll
  simp only
  rw [if_neg (by omega)]
  unfold Lib.parseMag
  rw [if_neg (by simp),e1]
  simp only
  rw [if_neg (by omega),if_neg (by omega),if_neg (by omega),e2]
  rfl
def AtoiEnd (q:ByteArray)(w:World)(e:Ending)(w':World):Prop:=
  ((∃ v,e = .returned (.tuple #[.int .i64 v,.nilIface])∧Lib.atoiAll q.data.toList = .ok v)∨(∃ v te pe,e = .returned (.tuple #[.int .i64 v,.iface te pe])∧∀ v,Lib.atoiAll q.data.toList ≠ .ok v))∧Below w.heap.size w w'
theorem atoi_any (q:ByteArray)(hq:q.size≤140737488351232)(w:World)(hG:GL w):Calls Tryz.prog 114 #[.string q] w (AtoiEnd q w):=by
 cases h:Lib.atoiAll q.data.toList with
 | ok v=>
  refine (Tryz.strconv_Atoi_ok q (by omega) v h w).mono ?_
  rintro e w' ⟨rfl,hw⟩
  refine ⟨.inl ⟨v,rfl,h⟩,?_⟩
  rcases hw with rfl|⟨t,rfl⟩
  · exact Below.refl _ _
  exact bytes_below (Below.refl _ _) (Nat.le_refl _) _ _
 | «syntax»=>
  obtain ⟨tp,p,hv⟩:=hG.2.1
  refine (Tryz.strconv_Atoi_syntax_var q (by omega) h tp p w hv).mono ?_
  rintro e w' ⟨N,rfl,_,_,hb⟩
  exact ⟨.inr ⟨_,_,_,rfl,fun v hv=>by rw [h] at hv;cases hv⟩,hb⟩
 | range=>
  obtain ⟨tp,p,hv⟩:=hG.2.2
  refine (Tryz.strconv_Atoi_range_var q (by omega) h tp p w hv).mono ?_
  rintro e w' ⟨N,rfl,_,_,hb⟩
  exact ⟨.inr ⟨_,_,_,rfl,fun v hv=>by rw [h] at hv;cases hv⟩,hb⟩
def NumEnd (least:Int)(W:World)(g:Nat)(s:ByteArray)(a:Nat)(b:Bool)(e:Ending)(W':World):Prop:=
  match numP least ((bytesOf s).drop a) with
  | (none,n)=>e = .returned (.int .i64 0)∧RdTo W g s (a+n) false W'
  | (some v,n)=>e = .returned (.int .i64 v)∧RdTo W g s (a+n) b W'
theorem take_runs (p:Int→Bool):∀ (t:List Int),∀ c ∈ t.take (runL p t),p c=true
  | [],c,h=>by simp [runL] at h
  | x :: t,c,h=>by
    rw [run_cons] at h
    split at h
    · rename_i hx
      rw [List.take_succ_cons] at h
      rcases List.mem_cons.1 h with rfl|h
      · exact hx
      · exact take_runs p t c h
    · simp at h
structure NumQ (least:Int)(s:ByteArray)(a A:Nat)(q:ByteArray):Prop where
  le:A+q.size≤s.size
  dig:∀ c ∈ bytesOf q,isDi c=true
  eq:numP least ((bytesOf s).drop a)=if q.size=0∨9<q.size∨(bt q 0=48∧1<q.size)∨decv (bytesOf q)<least then (none,A - a) else (some (decv (bytesOf q)),A - a+q.size)
  at_:a≤A
theorem numQ (least:Int)(s:ByteArray)(a:Nat)(ha:a≤s.size):NumQ least s a (a+bl ((bytesOf s).drop a)) (s.extract (a+bl ((bytesOf s).drop a)) (farTo isDi s a)):=by
 have hA:=run_size isBl s a ha
 change a+bl ((bytesOf s).drop a)≤s.size at hA
 have hd:=bl_drop s a
 unfold farTo
 have hE:=run_size isDi s _ hA
 obtain ⟨n,hn⟩:∃ n,bl ((bytesOf s).drop a)=n:=⟨_,rfl⟩
 rw [hn] at hA hd hE ⊢
 obtain ⟨A,hA3⟩:∃ A,a+n=A:=⟨_,rfl⟩
 rw [hA3] at hA hd hE ⊢
 have hbl:A - a=n:=by omega
 have hsz:(s.extract A (A+runL isDi ((bytesOf s).drop A))).size=runL isDi ((bytesOf s).drop A):=by rw [ByteArray.size_extract];omega
 have hb:bytesOf (s.extract A (A+runL isDi ((bytesOf s).drop A)))=((bytesOf s).drop A).take (runL isDi ((bytesOf s).drop A)):=by rw [bytes_cut,Nat.add_sub_cancel_left]
 refine ⟨by rw [hsz];exact hE,by rw [hb];exact take_runs _ _,?_,by omega⟩
 unfold numP
 simp only
 rw [hn,hd,hsz,hb,hbl]
 by_cases h0:runL isDi ((bytesOf s).drop A)=0
 · rw [if_pos (.inl h0),if_pos (.inl h0)]
 have hr:bt (s.extract A (A+runL isDi ((bytesOf s).drop A))) 0=rd ((bytesOf s).drop A) 0:=by
  rw [← rd_bytesOf,hb]
  unfold rd
  simp only [Int.toNat_zero,List.getD_eq_getElem?_getD]
  rw [List.getElem?_take_of_lt (by omega)]
 rw [hr]
set_option maxHeartbeats 4000000 in
set_option maxRecDepth 100000 in
theorem rd_number (least:Int)(w0:World)(hG:GL w0)(g:Nat)(s:ByteArray)(a:Nat)(b:Bool)(W:World)(h:Rdr W g s a b)(hB:Below w0.heap.size w0 W)(hg:w0.heap.size≤g)(ha:a≤s.size)(hs:s.size≤140737488351232) :
    Calls Tryz.prog 91 #[.pointer (some ⟨g,0,none⟩),.int .i64 least] W (NumEnd least W g s a b):=by
 have hF:=rd_far 113 isDi fv_dig (enters_of Tryz.func113 (by kernel_rfl) rfl) g s a b W h ha hs
 have hQ:=numQ least s a ha
 unfold NumEnd
 generalize s.extract (a+bl ((bytesOf s).drop a)) (farTo isDi s a)=q at *
 generalize a+bl ((bytesOf s).drop a)=A at *
 obtain ⟨q1,q2,q3,q4⟩:=hQ
 rw [q3]
 clear q3 h
 have hq:q.size≤140737488351232:=by omega
 have HQ:=zA q2
 have HT:=zA (fun w hG=>atoi_any q hq w hG)
 have HA:=zA (fun (W1:World) (x:RdTo W g s A b W1)=>hG.below (x.below hB hg))
 have hc1:((A+q.size:Nat):Int)=(A:Int)+(q.size:Int):=by omega
 have ha3:a+(A - a)=A:=by omega
 have ha4:a+(A - a+q.size)=A+q.size:=by omega
 clear hG hB q2 ha
 have p0:(0≤(A:Int))=True:=eq_true (by omega)
 by_cases h9:q.size=0∨9<q.size
 ·rw [if_pos (by rcases h9 with h|h;exact .inl h;exact .inr (.inl h))]
  simp only [ha3]
  clear ha3 ha4 hc1
  rcases h9 with h|h2
  ·have HV:=zA (show ∀ v,Lib.atoiAll q.data.toList ≠ .ok v from fun v hv=>by
    have:q.data.toList=[]:=by
     have:=data_length q
     exact List.eq_nil_of_length_eq_zero (by omega)
    rw [this] at hv
    cases hv)
   clear h
   go_enter Tryz.func91,Tryz.ntmps91
   go_wp2_with (go_at_call 92;refine hF.mono ?_;rintro e W1 ⟨rfl,hr1⟩;have HR:=zA hr1;clear hr1)
   clear hF
   go_wp2_with (go_at_call 114;refine (HT.out _ (HA.out _ HR.out)).mono ?_;rintro e W2 ⟨he,hb2⟩;have HE:=zA he;have HR2:=zA (HR.out.more hb2);clear he hb2;obtain ⟨c0,c1,c2,f1,f2⟩:=HR2.out.1.c;rcases HE.out with ⟨v,he1,hv⟩|⟨v,te,pe,he1,hv⟩;(exact absurd hv (HV.out v));subst he1;clear hv HE)
   go_wp2
   go_ret
   exact ⟨rfl,HR2.out.bad false⟩
  have g1:decide ((q.size:Int)>9)=true:=zC (by omega)
  have g2:decide (9<q.size)=true:=zC h2
  have g3:decide ((9:Int)<(q.size:Int))=true:=zC (by omega)
  clear h2
  go_enter Tryz.func91,Tryz.ntmps91
  go_wp2_with (go_at_call 92;refine hF.mono ?_;rintro e W1 ⟨rfl,hr1⟩;have HR:=zA hr1;clear hr1)
  clear hF
  go_wp2_with (go_at_call 114;refine (HT.out _ (HA.out _ HR.out)).mono ?_;rintro e W2 ⟨he,hb2⟩;have HE:=zA he;have HR2:=zA (HR.out.more hb2);clear he hb2;obtain ⟨c0,c1,c2,f1,f2⟩:=HR2.out.1.c;rcases HE.out with ⟨v,he1,hv⟩|⟨v,te,pe,he1,hv⟩ <;> (subst he1;clear hv HE))
  all_goals
   go_wp2
   go_ret
   exact ⟨rfl,HR2.out.bad false⟩
 have hA9:=atoi_dig HQ.out (by omega) (by omega)
 have g1:decide ((q.size:Int)>9)=false:=zD (by omega)
 have g2:decide (9<q.size)=false:=zD (by omega)
 have g3:decide ((9:Int)<(q.size:Int))=false:=zD (by omega)
 have g4:decide (0<q.size)=true:=zC (by omega)
 have g5:(0<q.size)=True:=eq_true (by omega)
 have g6:((0:Int)<(q.size:Int))=True:=eq_true (by omega)
 have hx:=bt_nat q 0
 rw [show ((0:Nat):Int)=0 from rfl] at hx
 have hc9:¬ (q.size=0∨9<q.size∨(bt q 0=48∧1<q.size)∨decv (bytesOf q)<least) ↔ ¬ (bt q 0=48∧1<q.size)∧¬ decv (bytesOf q)<least:=by
  constructor
  · intro h;exact ⟨fun z=>h (.inr (.inr (.inl z))),fun z=>h (.inr (.inr (.inr z)))⟩
  rintro ⟨h1,h2⟩ (h|h|h|h)
  · exact h9 (.inl h)
  · exact h9 (.inr h)
  · exact h1 h
  exact h2 h
 have HV:=zA hA9
 have H9:=zA hc9
 clear hA9 hc9 h9
 obtain ⟨V,hV⟩:∃ V,decv (bytesOf q)=V:=⟨_,rfl⟩
 rw [hV] at HV H9 ⊢
 clear hV
 by_cases h48:bt q 0=48
 rotate_left
 ·have e1:(bt q 0 == 48)=false:=zF h48
  by_cases hl:V<least
  ·have l1:decide (V<least)=true:=zC hl
   rw [if_pos (.inr (.inr (.inr hl)))]
   simp only [ha3]
   clear h48 ha3 ha4 hc1 H9 hl
   go_enter Tryz.func91,Tryz.ntmps91
   go_wp2_with (go_at_call 92;refine hF.mono ?_;rintro e W1 ⟨rfl,hr1⟩;have HR:=zA hr1;clear hr1)
   clear hF
   go_wp2_with (go_at_call 114;refine (HT.out _ (HA.out _ HR.out)).mono ?_;rintro e W2 ⟨he,hb2⟩;have HE:=zA he;have HR2:=zA (HR.out.more hb2);clear he hb2;obtain ⟨c0,c1,c2,f1,f2⟩:=HR2.out.1.c;rcases HE.out with ⟨v,he1,hv⟩|⟨v,te,pe,he1,hv⟩;rotate_left;(exact absurd HV.out (hv V));obtain rfl:V=v:=(Lib.NumEnd.ok.inj (HV.out.symm.trans hv));subst he1;clear hv HE)
   go_wp2
   go_ret
   exact ⟨rfl,HR2.out.bad false⟩
  have l1:decide (V<least)=false:=zD hl
  rw [if_neg (H9.out.2 ⟨fun z=>h48 z.1,hl⟩)]
  simp only [ha4]
  clear h48 ha3 ha4 H9 hl
  go_enter Tryz.func91,Tryz.ntmps91
  go_wp2_with (go_at_call 92;refine hF.mono ?_;rintro e W1 ⟨rfl,hr1⟩;have HR:=zA hr1;clear hr1)
  clear hF
  go_wp2_with (go_at_call 114;refine (HT.out _ (HA.out _ HR.out)).mono ?_;rintro e W2 ⟨he,hb2⟩;have HE:=zA he;have HR2:=zA (HR.out.more hb2);clear he hb2;obtain ⟨c0,c1,c2,f1,f2⟩:=HR2.out.1.c;rcases HE.out with ⟨v,he1,hv⟩|⟨v,te,pe,he1,hv⟩;rotate_left;(exact absurd HV.out (hv V));obtain rfl:V=v:=(Lib.NumEnd.ok.inj (HV.out.symm.trans hv));subst he1;clear hv HE)
  go_wp2
  go_ret
  exact ⟨rfl,HR2.out.put hc1.symm⟩
 have e1:(bt q 0 == 48)=true:=zH h48
 by_cases h1:1<q.size
 ·have d1:decide ((q.size:Int)>1)=true:=zC (by omega)
  have d2:decide (1<q.size)=true:=zC h1
  have d3:decide ((1:Int)<(q.size:Int))=true:=zC (by omega)
  rw [if_pos (.inr (.inr (.inl ⟨h48,h1⟩)))]
  simp only [ha3]
  clear h48 h1 ha3 ha4 hc1 H9
  go_enter Tryz.func91,Tryz.ntmps91
  go_wp2_with (go_at_call 92;refine hF.mono ?_;rintro e W1 ⟨rfl,hr1⟩;have HR:=zA hr1;clear hr1)
  clear hF
  go_wp2_with (go_at_call 114;refine (HT.out _ (HA.out _ HR.out)).mono ?_;rintro e W2 ⟨he,hb2⟩;have HE:=zA he;have HR2:=zA (HR.out.more hb2);clear he hb2;obtain ⟨c0,c1,c2,f1,f2⟩:=HR2.out.1.c;rcases HE.out with ⟨v,he1,hv⟩|⟨v,te,pe,he1,hv⟩;rotate_left;(exact absurd HV.out (hv V));obtain rfl:V=v:=(Lib.NumEnd.ok.inj (HV.out.symm.trans hv));subst he1;clear hv HE)
  go_wp2
  go_ret
  exact ⟨rfl,HR2.out.bad false⟩
 have d1:decide ((q.size:Int)>1)=false:=zD (by omega)
 have d2:decide (1<q.size)=false:=zD h1
 have d3:decide ((1:Int)<(q.size:Int))=false:=zD (by omega)
 by_cases hl:V<least
 ·have l1:decide (V<least)=true:=zC hl
  rw [if_pos (.inr (.inr (.inr hl)))]
  simp only [ha3]
  clear h48 h1 ha3 ha4 hc1 H9 hl
  go_enter Tryz.func91,Tryz.ntmps91
  go_wp2_with (go_at_call 92;refine hF.mono ?_;rintro e W1 ⟨rfl,hr1⟩;have HR:=zA hr1;clear hr1)
  clear hF
  go_wp2_with (go_at_call 114;refine (HT.out _ (HA.out _ HR.out)).mono ?_;rintro e W2 ⟨he,hb2⟩;have HE:=zA he;have HR2:=zA (HR.out.more hb2);clear he hb2;obtain ⟨c0,c1,c2,f1,f2⟩:=HR2.out.1.c;rcases HE.out with ⟨v,he1,hv⟩|⟨v,te,pe,he1,hv⟩;rotate_left;(exact absurd HV.out (hv V));obtain rfl:V=v:=(Lib.NumEnd.ok.inj (HV.out.symm.trans hv));subst he1;clear hv HE)
  go_wp2
  go_ret
  exact ⟨rfl,HR2.out.bad false⟩
 have l1:decide (V<least)=false:=zD hl
 rw [if_neg (H9.out.2 ⟨fun z=>h1 z.2,hl⟩)]
 simp only [ha4]
 clear h48 h1 ha3 ha4 H9 hl
 go_enter Tryz.func91,Tryz.ntmps91
 go_wp2_with (go_at_call 92;refine hF.mono ?_;rintro e W1 ⟨rfl,hr1⟩;have HR:=zA hr1;clear hr1)
 clear hF
 go_wp2_with (go_at_call 114;refine (HT.out _ (HA.out _ HR.out)).mono ?_;rintro e W2 ⟨he,hb2⟩;have HE:=zA he;have HR2:=zA (HR.out.more hb2);clear he hb2;obtain ⟨c0,c1,c2,f1,f2⟩:=HR2.out.1.c;rcases HE.out with ⟨v,he1,hv⟩|⟨v,te,pe,he1,hv⟩;rotate_left;(exact absurd HV.out (hv V));obtain rfl:V=v:=(Lib.NumEnd.ok.inj (HV.out.symm.trans hv));subst he1;clear hv HE)
 go_wp2
 go_ret
 exact ⟨rfl,HR2.out.put hc1.symm⟩
def OpEndR (W:World)(g:Nat)(s:ByteArray)(a:Nat)(b:Bool)(e:Ending)(W':World):Prop:=
  match opP ((bytesOf s).drop a) with
  | (none,n)=>e = .returned (.int .u8 0)∧RdTo W g s (a+n) false W'
  | (some c,n)=>e = .returned (.int .u8 c)∧RdTo W g s (a+n) b W'
set_option maxHeartbeats 4000000 in
set_option maxRecDepth 100000 in
theorem rd_op (g:Nat)(s:ByteArray)(a:Nat)(b:Bool)(W:World)(h:Rdr W g s a b)(ha:a≤s.size)(hs:s.size≤140737488351232) :
    Calls Tryz.prog 89 #[.pointer (some ⟨g,0,none⟩)] W (OpEndR W g s a b):=by
 have hF:=rd_word g s a b W h ha hs
 have hA:=run_size isBl s a ha
 change a+bl ((bytesOf s).drop a)≤s.size at hA
 have hd:=bl_drop s a
 unfold OpEndR opP
 rw [hd]
 unfold farTo at hF
 have hE:=run_size isLo s _ hA
 have ha1:a+(bl ((bytesOf s).drop a)+1)=a+bl ((bytesOf s).drop a)+1:=by omega
 generalize bl ((bytesOf s).drop a)=n at *
 generalize hA3:a+n=A at *
 have hsz:(s.extract A (A+runL isLo ((bytesOf s).drop A))).size=runL isLo ((bytesOf s).drop A):=by rw [ByteArray.size_extract];omega
 clear hd h ha
 by_cases h1:runL isLo ((bytesOf s).drop A)=1
 rotate_left
 ·rw [if_neg (fun z=>h1 z.1)]
  generalize s.extract A (A+runL isLo ((bytesOf s).drop A))=q at *
  have hz:q.size≠1:=by rw [hsz];exact h1
  have HC:=zA hA3
  have k1:((q.size:Int) == 1)=false:=zF (by omega)
  have k2:((q.size:Int) != 1)=true:=zI (by omega)
  have k3:(q.size == 1)=false:=zF hz
  have k4:(q.size != 1)=true:=zI hz
  clear hsz h1 hz hE hA3 ha1
  simp only
  go_enter Tryz.func89,Tryz.ntmps89
  go_wp2_with (go_at_call 67;refine hF.mono ?_;rintro e W1 ⟨rfl,hr1⟩;have HR:=zA hr1;obtain ⟨c0,c1,c2,f1,f2⟩:=hr1.1.c;clear hr1)
  clear hF
  go_wp2
  go_ret
  exact ⟨rfl,by rw [HC.out];exact HR.out.bad false⟩
 rw [h1] at hF hsz hE ⊢
 obtain ⟨c,hc1,hc2⟩:=cut_one s A (by omega)
 have hN:=fun w=>Tryz.strings_Contains_one ⟨#[110,105,118,119,102,116,99,101]⟩ c w
 change ∀ w,Calls _ _ _ w fun e w'=>e = .returned (.bool (decide (0≤Lib.indexByte [110,105,118,119,102,116,99,101] c)))∧w'=w at hN
 rw [names_op,hc2,← hc1] at hN
 have hrd:rd ((bytesOf s).drop A) 0=bt s (A:Int):=by
  rw [drop_bt s A (by omega)]
  simp [rd]
 rw [hrd]
 have hq0:bt (s.extract A (A+1)) 0=bt s (A:Int):=by
  rw [← rd_bytesOf,bytes_cut,drop_bt s A (by omega),Nat.add_sub_cancel_left]
  simp [rd]
 generalize s.extract A (A+1)=q at *
 rw [← hq0] at hN ⊢
 have HN:=zA hN
 have HC:=zA hA3
 have HC1:=zA ha1
 have hx:=bt_nat q 0
 rw [show ((0:Nat):Int)=0 from rfl] at hx
 have g4:decide (0<q.size)=true:=zC (by omega)
 have g5:(0<q.size)=True:=eq_true (by omega)
 have g6:((0:Int)<(q.size:Int))=True:=eq_true (by omega)
 have k1:((q.size:Int) == 1)=true:=zH (by omega)
 have k2:((q.size:Int) != 1)=false:=zG (by omega)
 have k3:(q.size == 1)=true:=zH hsz
 have k4:(q.size != 1)=false:=zG hsz
 clear hc1 hc2 hrd hq0 hN hA3 ha1 hsz h1
 cases hop:isOp (bt q 0) with
 | true=>
  rw [hop] at HN
  rw [if_pos ⟨rfl,rfl⟩]
  simp only
  clear hop
  go_enter Tryz.func89,Tryz.ntmps89
  go_wp2_with (go_at_call 67;refine hF.mono ?_;rintro e W1 ⟨rfl,hr1⟩;have HR:=zA hr1;obtain ⟨c0,c1,c2,f1,f2⟩:=hr1.1.c;clear hr1)
  clear hF
  go_wp2_with (go_at_call 110;refine (HN.out _).mono ?_;rintro e w2 ⟨rfl,rfl⟩)
  go_ret
  exact ⟨rfl,by rw [HC1.out];exact HR.out.put (by omega)⟩
 | false=>
  rw [hop] at HN
  rw [if_neg (by simp)]
  simp only
  clear hop
  go_enter Tryz.func89,Tryz.ntmps89
  go_wp2_with (go_at_call 67;refine hF.mono ?_;rintro e W1 ⟨rfl,hr1⟩;have HR:=zA hr1;obtain ⟨c0,c1,c2,f1,f2⟩:=hr1.1.c;clear hr1)
  clear hF
  go_wp2_with (go_at_call 110;refine (HN.out _).mono ?_;rintro e w2 ⟨rfl,rfl⟩)
  go_ret
  exact ⟨rfl,by rw [HC.out];exact HR.out.bad false⟩
end
section
theorem sN_app (a b:List Int):strOfNums a ++ strOfNums b=strOfNums (a ++ b):=by
 apply ByteArray.ext
 rw [ByteArray.data_append]
 unfold strOfNums
 simp
theorem sN_join (sep:List Int)(l:List (List Int)):joinB (l.map strOfNums) (strOfNums sep)=strOfNums (joinT sep l):=by
 unfold joinB
 apply ByteArray.ext
 cases l with
 | nil=>rfl
 | cons a l=>
  rw [List.map_cons,List.map_cons,Lib.join_cons]
  unfold strOfNums Lib.joinTail joinT
  simp only [List.map_append,List.map_map]
  congr 2
  induction l with
  | nil=>rfl
  | cons b l ih=>simp only [List.map_cons,List.flatten_cons,List.flatMap_cons,List.map_append,ih];simp [Function.comp_def]
theorem itoa_f {e:Int}(he:NumOk e):strconv_Itoa.f e=some (strOfNums (pw e)):=by
 obtain ⟨h1,h2⟩:=he
 unfold strconv_Itoa.f
 rw [if_pos ⟨by omega,h2⟩]
 congr 1
 exact bytesInj (by rw [bytes_list,itoa_map,bytesOf_nums pw_bytes])
def wR (x:Rl):Nat:=1+x.f3.length
def wRow (r:List Rl):Nat:=1+(r.map wR).sum
def wC (c:List (List Rl)):Nat:=(c.map wRow).sum
structure NumR (x:Rl):Prop where
  op:0≤x.f0∧x.f0≤255
  m:NumOk x.f1
  r:∀ r ∈ x.f3,NumOk r.f0∧NumOk r.f1
structure TxtOk (c:List (List Rl)):Prop where
  w:wC c≤10000
  n:∀ row ∈ c,∀ x ∈ row,NumR x
theorem join_le (sep:List Int):∀ l:List (List Int),(joinT sep l).length≤(l.map fun x=>x.length+sep.length).sum
  | []=>by simp [joinT]
  | a :: l=>by
    have:∀ l:List (List Int),(l.flatMap fun y=>sep ++ y).length=(l.map fun x=>x.length+sep.length).sum:=by
     intro l
     induction l with
     | nil=>rfl
     | cons b l ih=>rw [List.flatMap_cons,List.length_append,ih,List.map_cons,List.sum_cons,List.length_append];omega
    unfold joinT
    rw [List.length_append,this,List.map_cons,List.sum_cons]
    omega
theorem sum_le {α:Type}{f g:α→Nat}:∀ {l:List α},(∀ x ∈ l,f x≤g x)→(l.map f).sum≤(l.map g).sum
  | [],_=>by simp
  | a :: l,h=>by
    have h1:=h a (by simp)
    have h2:=sum_le (l:=l) (fun x hx=>h x (by simp [hx]))
    rw [List.map_cons,List.map_cons,List.sum_cons,List.sum_cons]
    omega
theorem sum_const {α:Type}(k:Nat)(l:List α):(l.map fun _=>k).sum=k * l.length:=by
 induction l with
 | nil=>rfl
 | cons a l ih=>rw [List.map_cons,List.sum_cons,ih,List.length_cons,Nat.mul_succ];omega
theorem sum_mul {α:Type}(k:Nat)(f:α→Nat)(l:List α):(l.map fun x=>k * f x).sum=k * (l.map f).sum:=by
 induction l with
 | nil=>rfl
 | cons a l ih=>rw [List.map_cons,List.sum_cons,ih,List.map_cons,List.sum_cons,Nat.mul_add]
theorem sum_mem {α:Type}{f:α→Nat}{l:List α}{a:α}(h:a ∈ l):f a≤(l.map f).sum:=by
 induction l with
 | nil=>cases h
 | cons b l ih=>
  rw [List.map_cons,List.sum_cons]
  rcases List.mem_cons.1 h with rfl|h
  · omega
  have:=ih h;omega
theorem rgT_len {r:Rg}(h:NumOk r.f0∧NumOk r.f1):(rgT r).length≤42:=by
 have h1:=pw_len h.1
 have h2:=pw_len h.2
 unfold rgT
 split
 · simp;omega
 omega
theorem rgs_len {l:List Rg}(h:∀ r ∈ l,NumOk r.f0∧NumOk r.f1):(joinT [44] (l.map rgT)).length≤43 * l.length:=by
 refine Nat.le_trans (join_le _ _) ?_
 rw [List.map_map,← sum_const 43 l]
 refine sum_le (fun r hr=>?_)
 have:=rgT_len (h r hr)
 simp only [Function.comp_apply,List.length_cons,List.length_nil]
 omega
theorem relT_len {x:Rl}(h:NumR x):(relT [32] x).length≤45 * wR x - 10:=by
 have h1:=rgs_len h.r
 have h2:=pw_len h.m
 unfold relT wR
 by_cases hm:x.f1≠0
 ·simp only [if_pos hm]
  cases x.f2 <;> simp <;> omega
 simp only [if_neg hm]
 cases x.f2 <;> simp <;> omega
theorem rowT_len {r:List Rl}(h:∀ x ∈ r,NumR x):(rowT [32] r).length≤45 * (r.map wR).sum:=by
 unfold rowT
 refine Nat.le_trans (join_le _ _) ?_
 rw [List.map_map,← sum_mul]
 refine sum_le (fun x hx=>?_)
 have:=relT_len (h x hx)
 simp only [Function.comp_apply,wordAnd,List.length_append,List.length_cons,List.length_nil]
 unfold wR at this ⊢
 omega
theorem condT_len {c:List (List Rl)}(h:∀ row ∈ c,∀ x ∈ row,NumR x):(condT [32] c).length≤45 * wC c:=by
 unfold condT wC
 refine Nat.le_trans (join_le _ _) ?_
 rw [List.map_map,← sum_mul]
 refine sum_le (fun r hr=>?_)
 have:=rowT_len (h r hr)
 simp only [Function.comp_apply,wordOr,List.length_append,List.length_cons,List.length_nil]
 unfold wRow
 omega
theorem join_f (sep:List Int)(l:List (List Int))(h:(joinT sep l).length≤1000000)(h2:l.length≤1000000):strings_Join.f (l.map strOfNums) (strOfNums sep)=some (strOfNums (joinT sep l)):=by
 unfold strings_Join.f
 rw [sN_join,strOfNums_size,List.length_map,if_pos ⟨by omega,by omega⟩]
theorem rd57 {l:List Rg}{i:Nat}(h:i<l.length):rd_T57 l (i:Int)=l[i]:=by
 unfold rd_T57
 simp [List.getD_eq_getElem?_getD,List.getElem?_eq_getElem h]
theorem rd60 {l:List Rl}{i:Nat}(h:i<l.length):rd_T60 l (i:Int)=l[i]:=by
 unfold rd_T60
 simp [List.getD_eq_getElem?_getD,List.getElem?_eq_getElem h]
theorem written_l0 {l:List Rg}(hl:∀ r ∈ l,NumOk r.f0∧NumOk r.f1)(hn:l.length≤10000)(x3:List Int)(h3:x3.length≤1000)(n:Nat):∀ i:Nat,i+n=l.length →
    Ev (fun k=>rule_written.l0 k (strOfNums x3) ((l.take i).map fun r=>strOfNums (rgT r)) l (l.length:Int) (i:Int)) (strOfNums (x3 ++ ([61,32] ++ joinT [44] (l.map rgT)))):=by
 have hj:=rgs_len hl
 induction n with
 | zero=>
  intro i hi
  obtain rfl:i=l.length:=by omega
  refine Ev_shift ?_
  have e1:(l.take l.length).map (fun r=>strOfNums (rgT r))=(l.map rgT).map strOfNums:=by rw [List.take_length,List.map_map];rfl
  have e2:(⟨#[44]⟩:ByteArray)=strOfNums [44]:=rfl
  have e3:(⟨#[61,32]⟩:ByteArray)=strOfNums [61,32]:=rfl
  simp only [rule_written.l0,if_neg (show ¬ ((l.length:Nat):Int)<(l.length:Int) by omega),e1,e2,e3,join_f [44] (l.map rgT) (by omega) (by rw [List.length_map];omega),Option.bind_some,strOfNums_size,sN_app]
  rw [if_pos (by omega),if_pos (by simp;omega),List.append_assoc]
  exact Ev.now _
 | succ n ih=>
  intro i hi
  have hlt:i<l.length:=by omega
  obtain ⟨r0,r1⟩:=hl l[i] (List.getElem_mem hlt)
  have w1:wrap64 ((i:Int)+1)=((i+1:Nat):Int):=by rw [w64 _ (by omega) (by omega)];omega
  have hnext:=ih (i+1) (by omega)
  have e2:(l.take (i+1)).map (fun r=>strOfNums (rgT r))=(l.take i).map (fun r=>strOfNums (rgT r)) ++ [strOfNums (rgT l[i])]:=by rw [List.take_succ_eq_append_getElem hlt,List.map_append];rfl
  have e4:(⟨#[46,46]⟩:ByteArray)=strOfNums [46,46]:=rfl
  have p0:=pw_len r0
  have p1:=pw_len r1
  have hla:((l.take i).map (fun r=>strOfNums (rgT r))).length<8796093022208:=by rw [List.length_map,List.length_take];omega
  refine Ev_shift ?_
  simp only [rule_written.l0,if_pos (show ((i:Nat):Int)<(l.length:Int) by omega),if_pos (show (0:Int)≤(i:Int) by omega),rd57 hlt,itoa_f r0,itoa_f r1,Option.bind_some,w1,e4,strOfNums_size,sN_app,if_pos hla]
  by_cases he:(l[i]).f1=(l[i]).f0
  ·rw [e2,show rgT l[i]=pw (l[i]).f0 from by unfold rgT;rw [if_neg (by simp [he])]] at hnext
   simp only [if_pos he]
   exact hnext
  rw [e2,show rgT l[i]=pw (l[i]).f0 ++ ([46,46] ++ pw (l[i]).f1) from by unfold rgT;rw [if_pos he,List.append_assoc]] at hnext
  simp only [if_neg he,if_pos (show 2+(pw (l[i]).f1).length≤9223372036854775807 by omega),if_pos (show (pw (l[i]).f0).length+(([46,46]:List Int) ++ pw (l[i]).f1).length≤9223372036854775807 by simp;omega)]
  exact hnext
theorem written_ev {x:Rl}(hx:NumR x)(hn:x.f3.length≤10000):Ev (fun k=>rule_written.f k x.f0 x.f1 x.f2 x.f3) (strOfNums (relT [32] x)):=by
 have hp:=pw_len hx.m
 have j0:∀ y:List Int,y.length≤100→Ev (fun k=>rule_written.j0 k (strOfNums y) x.f0 x.f1 x.f2 x.f3) (strOfNums (y ++ ([32] ++ ((if x.f2 then [33,61] else [61]) ++ ([32] ++ joinT [44] (x.f3.map rgT)))))):=by
  intro y hy
  have e1:(⟨#[32,33]⟩:ByteArray)=strOfNums [32,33]:=rfl
  have e2:(⟨#[32]⟩:ByteArray)=strOfNums [32]:=rfl
  cases hb:x.f2 with
  | true=>
   have:=written_l0 hx.r hn (y ++ [32,33]) (by simp;omega) x.f3.length 0 (by omega)
   refine Ev_shift ?_
   simp only [rule_written.j0,if_true,e1,strOfNums_size,if_pos (show y.length+2≤9223372036854775807 by omega),sN_app]
   refine Ev_shift ?_
   simp only [rule_written.j1]
   simpa using this
  | false=>
   have:=written_l0 hx.r hn (y ++ [32]) (by simp;omega) x.f3.length 0 (by omega)
   refine Ev_shift ?_
   simp only [rule_written.j0,Bool.false_eq_true,if_false,e2,strOfNums_size,if_pos (show y.length+1≤9223372036854775807 by omega),sN_app]
   refine Ev_shift ?_
   simp only [rule_written.j1]
   simpa using this
 have e3:(⟨#[32,37,32]⟩:ByteArray)=strOfNums [32,37,32]:=rfl
 unfold rule_written.f
 simp only [Option.bind_some]
 by_cases hm:x.f1=0
 ·have ht:relT [32] x=[x.f0] ++ ([32] ++ ((if x.f2 then [33,61] else [61]) ++ ([32] ++ joinT [44] (x.f3.map rgT)))):=by unfold relT;rw [if_neg (by simpa using hm)];simp
  have:=j0 [x.f0] (by simp)
  rw [ht]
  simp only [if_pos hm]
  exact this
 have ht:relT [32] x=([x.f0] ++ ([32,37,32] ++ pw x.f1)) ++ ([32] ++ ((if x.f2 then [33,61] else [61]) ++ ([32] ++ joinT [44] (x.f3.map rgT)))):=by unfold relT;rw [if_pos hm];simp
 have:=j0 ([x.f0] ++ ([32,37,32] ++ pw x.f1)) (by simp;omega)
 rw [ht]
 simp only [if_neg hm,itoa_f hx.m,Option.bind_some,strOfNums_size,e3,sN_app,if_pos (show 3+(pw x.f1).length≤9223372036854775807 by omega),if_pos (show ([x.f0]:List Int).length+(([32,37,32]:List Int) ++ pw x.f1).length≤9223372036854775807 by simp;omega)]
 exact this
theorem rdL {c:List (List Rl)}{i:Nat}(h:i<c.length):rd_L7 c (i:Int)=c[i]:=by
 unfold rd_L7
 simp [List.getD_eq_getElem?_getD,List.getElem?_eq_getElem h]
theorem wRow_le {c:List (List Rl)}{row:List Rl}(h:row ∈ c):wRow row≤wC c:=sum_mem h
theorem wR_le {row:List Rl}{x:Rl}(h:x ∈ row):wR x<wRow row:=by
 have:=sum_mem (f:=wR) h
 unfold wRow;omega
theorem len_wRow (row:List Rl):row.length<wRow row:=by
 have h1:=sum_le (f:=fun _:Rl=>1) (g:=wR) (l:=row) (fun x _=>by unfold wR;omega)
 rw [sum_const] at h1
 unfold wRow;omega
theorem len_wC (c:List (List Rl)):c.length≤wC c:=by
 have h1:=sum_le (f:=fun _:List Rl=>1) (g:=wRow) (l:=c) (fun x _=>by unfold wRow;omega)
 rw [sum_const] at h1
 unfold wC;omega
theorem take_len_lt {α β:Type}(f:α→β)(l:List α)(j:Nat)(h:l.length≤10000):((l.take j).map f).length<8796093022208:=by
 rw [List.length_map,List.length_take];omega
section
variable {c:List (List Rl)}(hc:TxtOk c)
include hc
theorem text_l1 {i:Nat}(hi:i<c.length)(acc:List ByteArray)(hacc:acc.length<10001){T:ByteArray}(hT:Ev (fun k=>rule_Text.l0 k (acc ++ [strOfNums (rowT [32] c[i])]) c (c.length:Int) ((i+1:Nat):Int)) T)(n:Nat):∀ j:Nat,j+n=(c[i]).length →
    Ev (fun k=>rule_Text.l1 k acc (((c[i]).take j).map fun x=>strOfNums (relT [32] x)) c (c.length:Int) (i:Int) c[i] ((c[i]).length:Int) (j:Int)) T:=by
 have hm:c[i] ∈ c:=List.getElem_mem hi
 have hnum:=hc.n _ hm
 have hw1:=wRow_le hm
 have hw2:=hc.w
 have hw3:=len_wRow c[i]
 have hw4:=len_wC c
 have hrl:=rowT_len hnum
 have hrl2:(rowT [32] c[i]).length≤1000000:=by
  unfold wRow at hw1
  omega
 have hr10:(c[i]).length≤10000:=by omega
 have hx10:∀ x ∈ c[i],x.f3.length≤10000:=fun x hx=>by
  have:=wR_le hx
  unfold wR at this
  omega
 have hi10:i≤10000:=by omega
 clear hw1 hw2 hw3 hw4 hrl hm
 generalize c[i]=row at *
 have wi:wrap64 ((i:Int)+1)=((i+1:Nat):Int):=by rw [w64 _ (by omega) (by omega)];omega
 clear hc
 induction n with
 | zero=>
  intro j hj
  obtain rfl:j=row.length:=by omega
  refine Ev_shift ?_
  have e1:(row.take row.length).map (fun x=>strOfNums (relT [32] x))=(row.map (relT [32])).map strOfNums:=by rw [List.take_length,List.map_map];rfl
  have e2:(⟨#[32,97,110,100,32]⟩:ByteArray)=strOfNums ([32] ++ wordAnd ++ [32]):=rfl
  have e3:strings_Join.f ((row.map (relT [32])).map strOfNums) (strOfNums ([32] ++ wordAnd ++ [32]))=some (strOfNums (rowT [32] row)):=join_f _ _ hrl2 (by rw [List.length_map];omega)
  have q1:¬ ((row.length:Nat):Int)<(row.length:Int):=by omega
  have q2:acc.length<8796093022208:=by omega
  simp only [rule_Text.l1,if_neg q1,e1,e2,e3,Option.bind_some,if_pos q2,wi]
  exact hT
 | succ n ih=>
  intro j hj
  have hlt:j<row.length:=by omega
  have hx:=hnum row[j] (List.getElem_mem hlt)
  have hx3:=hx10 row[j] (List.getElem_mem hlt)
  have hnext:=ih (j+1) (by omega)
  have e2:(row.take (j+1)).map (fun x=>strOfNums (relT [32] x))=(row.take j).map (fun x=>strOfNums (relT [32] x)) ++ [strOfNums (relT [32] row[j])]:=by rw [List.take_succ_eq_append_getElem hlt,List.map_append];rfl
  rw [e2] at hnext
  have hla:=take_len_lt (fun x=>strOfNums (relT [32] x)) row j hr10
  have q1:((j:Nat):Int)<(row.length:Int):=by omega
  have q2:(0:Int)≤(j:Int):=by omega
  have wj:wrap64 ((j:Int)+1)=((j+1:Nat):Int):=by rw [w64 _ (by omega) (by omega)];omega
  refine Ev_shift ?_
  simp only [rule_Text.l1,if_pos q1,if_pos q2,rd60 hlt,if_pos hla,wj]
  exact Ev.bind (written_ev hx hx3) hnext
theorem text_l0 (n:Nat):∀ i:Nat,i+n=c.length →
    Ev (fun k=>rule_Text.l0 k ((c.take i).map fun r=>strOfNums (rowT [32] r)) c (c.length:Int) (i:Int)) (strOfNums (condT [32] c)):=by
 have hw4:=len_wC c
 have hw2:=hc.w
 have hcl:=condT_len hc.n
 induction n with
 | zero=>
  intro i hi
  obtain rfl:i=c.length:=by omega
  refine Ev_shift ?_
  have e1:(c.take c.length).map (fun r=>strOfNums (rowT [32] r))=(c.map (rowT [32])).map strOfNums:=by rw [List.take_length,List.map_map];rfl
  have e2:(⟨#[32,111,114,32]⟩:ByteArray)=strOfNums ([32] ++ wordOr ++ [32]):=rfl
  have e3:strings_Join.f ((c.map (rowT [32])).map strOfNums) (strOfNums ([32] ++ wordOr ++ [32]))=some (strOfNums (condT [32] c)):=join_f _ _ (Nat.le_trans hcl (by omega)) (by rw [List.length_map];omega)
  simp only [rule_Text.l0,if_neg (show ¬ ((c.length:Nat):Int)<(c.length:Int) by omega),e1,e2,e3,Option.bind_some]
  exact Ev.now _
 | succ n ih=>
  intro i hi
  have hlt:i<c.length:=by omega
  have hnext:=ih (i+1) (by omega)
  have e2:(c.take (i+1)).map (fun r=>strOfNums (rowT [32] r))=(c.take i).map (fun r=>strOfNums (rowT [32] r)) ++ [strOfNums (rowT [32] c[i])]:=by rw [List.take_succ_eq_append_getElem hlt,List.map_append];rfl
  rw [e2] at hnext
  refine Ev_shift ?_
  simp only [rule_Text.l0,if_pos (show ((i:Nat):Int)<(c.length:Int) by omega),if_pos (show (0:Int)≤(i:Int) by omega),rdL hlt]
  exact text_l1 hc hlt _ (by rw [List.length_map,List.length_take];omega) hnext (c[i]).length 0 (by omega)
theorem text_ev:Ev (fun k=>rule_Text.f k c) (strOfNums (condT [32] c)):=by
 unfold rule_Text.f
 exact text_l0 hc c.length 0 (by omega)
end
def Byts (l:List Int):Prop:=∀ c ∈ l,0≤c∧c≤255
theorem Byts.app {a b:List Int}(h:Byts a)(k:Byts b):Byts (a ++ b):=fun c hc=>by
  rcases List.mem_append.1 hc with hc|hc
  · exact h c hc
  · exact k c hc
theorem Byts.join {sep:List Int}(hs:Byts sep):∀ {l:List (List Int)},(∀ x ∈ l,Byts x)→Byts (joinT sep l)
  | [],_=>fun c hc=>by simp [joinT] at hc
  | a :: l,h=>by
    unfold joinT
    refine Byts.app (h a (by simp)) (fun c hc=>?_)
    obtain ⟨y,hy,hc⟩:=List.mem_flatMap.1 hc
    exact (Byts.app hs (h y (by simp [hy]))) c hc
theorem rgT_byts (r:Rg):Byts (rgT r):=by
 unfold rgT
 split
 · exact Byts.app (Byts.app pw_bytes (by intro c hc;simp at hc;omega)) pw_bytes
 exact pw_bytes
theorem relT_byts {x:Rl}(h:NumR x):Byts (relT [32] x):=by
 have b1:Byts [32]:=by intro c hc;simp at hc;omega
 have b2:Byts [37]:=by intro c hc;simp at hc;omega
 unfold relT
 refine Byts.app (by intro c hc;simp at hc;have:=h.op;omega) (Byts.app ?_ (Byts.app b1 (Byts.app ?_ (Byts.app b1 (Byts.join (by intro c hc;simp at hc;omega) (fun y hy=>by obtain ⟨r,_,rfl⟩:=List.mem_map.1 hy;exact rgT_byts r))))))
 ·split
  · exact Byts.app (Byts.app (Byts.app b1 b2) b1) pw_bytes
  intro c hc;simp at hc
 split <;> (intro c hc;simp at hc;omega)
theorem condT_byts {c:List (List Rl)}(h:∀ row ∈ c,∀ x ∈ row,NumR x):Byts (condT [32] c):=by
 unfold condT
 refine Byts.join (by intro c hc;simp [wordOr] at hc;omega) (fun y hy=>?_)
 obtain ⟨r,hr,rfl⟩:=List.mem_map.1 hy
 unfold rowT
 refine Byts.join (by intro c hc;simp [wordAnd] at hc;omega) (fun z hz=>?_)
 obtain ⟨x,hx,rfl⟩:=List.mem_map.1 hz
 exact relT_byts (h r hr x hx)
theorem condB_bytes {c:List (List Rl)}(h:∀ row ∈ c,∀ x ∈ row,NumR x):bytesOf (strOfNums (condT [32] c))=condT [32] c:=bytesOf_nums (condT_byts h)
end
end Go.Proofs.YtgfajgkjbckkgaaGreatDoor.PZ
end
