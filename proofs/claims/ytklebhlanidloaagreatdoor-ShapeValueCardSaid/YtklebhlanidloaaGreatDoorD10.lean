/- Texts of this seat, joined. Conditions: none beyond each statement's own. -/
import Derived.Test.YtklebhlanidloaaGreatDoorD07
set_option linter.all false
section
noncomputable section
namespace Go.Proofs.YtklebhlanidloaaGreatDoor.PZ
open Go.RowKit Go.Proofs.YtklebhlanidloaaGreatDoorW.PrintWords Go.Proofs.YtklebhlanidloaaGreatDoorW.PrintLast Go.Proofs.YtklebhlanidloaaGreatDoorW.PrintMore
attribute [local go_sem] max2_int min2_int max_two min_two max_three min_three max_four min_four   -- for this text's walks alone
def sym_Digits.l0:Nat→List Int→List Int→Int→Int→Int→Int→Int→Int→Int→Int→Int→Option (List Int)
 | 0,_,_,_,_,_,_,_,_,_,_,_=>none
 | k+1,x1,x5,x11,x12,aR,aV,aW,aX,aY,aZ,ba=>if x12<x11 then (if 0≤x12 then (if x12<(x1.length:Int) then (if x12<(x5.length:Int) then (sym_Digits.l0 k x1 (x5.set (x12:Int).toNat (wrap32 (aR+(wrap32 (rd x1 x12))))) x11 (wrap64 (x12+1)) aR aV aW aX aY aZ ba) else (none)) else (none)) else (none)) else (some x5)
def sym_Digits.f (k:Nat)(ae:Int)(ag:Int)(ad:Int)(ah:Int)(ai:Int)(aj:Int)(ak:Int)(l1:List Int):Option (List Int):=if 0≤(l1.length:Int) then (if ((l1.length:Int):Int).toNat≤70368744177664 then (sym_Digits.l0 k l1 (List.replicate ((l1.length:Int):Int).toNat 0) (l1.length:Int) 0 ae ag ad ah ai aj ak) else (none)) else (none)
theorem sym_Digits.mono_l:∀ k,(∀ y0 y1 y2 y3 y4 y5 y6 y7 y8 y9 y10,LeO (sym_Digits.l0 k y0 y1 y2 y3 y4 y5 y6 y7 y8 y9 y10) (sym_Digits.l0 (k+1) y0 y1 y2 y3 y4 y5 y6 y7 y8 y9 y10))
 | 0=>fun _ _ _ _ _ _ _ _ _ _ _ r h=>by simp [sym_Digits.l0] at h
 | k+1=>by
  have ih0:=sym_Digits.mono_l k
  ·intro y0 y1 y2 y3 y4 y5 y6 y7 y8 y9 y10
   unfold sym_Digits.l0
   repeat' first|(with_reducible first|apply ih0|apply LeO.refl|apply LeO.none|refine LeO.ite ?_ ?_|refine LeO.bind ?_ (fun _=>?_))|apply ih0|apply LeO.none
theorem sym_Digits.mono:∀ a0 a1 a2 a3 a4 a5 a6 a7 k,LeO (sym_Digits.f k a0 a1 a2 a3 a4 a5 a6 a7) (sym_Digits.f (k+1) a0 a1 a2 a3 a4 a5 a6 a7):=by
 intro a0 a1 a2 a3 a4 a5 a6 a7 k
 have ih0:=sym_Digits.mono_l k
 unfold sym_Digits.f
 repeat' first|(with_reducible first|apply ih0|apply LeO.refl|apply LeO.none|refine LeO.ite ?_ ?_|refine LeO.bind ?_ (fun _=>?_))|apply ih0|apply LeO.none
def sym_Digits.T5:Bool×List (List Nat×List Nat):=(true,[([],[]),([],[]),([],[]),([2],[2]),([],[]),([],[]),([4,5],[4,5]),([6],[6]),([7],[7]),([3,8],[3,8]),([0,1,0,1,2,3,4,5,6,7,8,9],[0,1]),([10,9,0,1,2,3,4,5,6,7,8,9],[9,10])])
def sym_Digits.B5:List Nat:=[0,0,0,4,0,0,48,112,240,508,1023,2047]
theorem sym_Digits.tab5:rtab .any (opsOf Tryz.f50 5)=sym_Digits.T5:=by kernel_rfl
theorem sym_Digits.bits5:waitsOk sym_Digits.T5.2 sym_Digits.B5=true:=by kernel_rfl
set_option maxHeartbeats 8000000 in
set_option maxRecDepth 100000 in
theorem sym_Digits.calls (k:Nat)(ae:Int)(ag:Int)(ad:Int)(ah:Int)(ai:Int)(aj:Int)(ak:Int)(A1:Option Addr)(c1:Nat)(l1:List Int)(r:List Int)(w:World)(hr1:Kd.C (Kd.int .u8) w A1 l1.length l1)(hc1:l1.length≤c1)(h:sym_Digits.f k ae ag ad ah ai aj ak l1=some r) :
  Calls Tryz.prog 50 #[.agg #[.int .i32 ae,.int .i32 ag,.int .i32 ad,.int .i32 ah,.int .i32 ai,.int .i32 aj,.int .i32 ak],.slice A1 l1.length c1] w fun e w'=>∃ v0_:Value,e = .returned (v0_)∧Kd.R (Kd.int .i32) 21 w' w.heap.size (fun _=>True) v0_ r∧Below w.heap.size w w':=by
 have hu23:=Tryz.underlying23
 have HR1:=zS hr1
 have HC1:=zS hc1
 clear hr1 hc1
 have HB:=zS (Below.refl w.heap.size w)
 have H:(if 0≤(l1.length:Int) then (if ((l1.length:Int):Int).toNat≤70368744177664 then (sym_Digits.l0 k l1 (List.replicate ((l1.length:Int):Int).toNat 0) (l1.length:Int) 0 ae ag ad ah ai aj ak) else (none)) else (none))=some r:=h
 clear h
 by_cases c3:0≤(l1.length:Int)
 rotate_left
 ·rw [if_neg c3] at H
  exact absurd H (by simp)
 rw [if_pos c3] at H
 have bS:=eq_true c3
 have bT:=zC c3
 clear c3
 by_cases c4:((l1.length:Int):Int).toNat≤70368744177664
 rotate_left
 ·rw [if_neg c4] at H
  exact absurd H (by simp)
 rw [if_pos c4] at H
 have bU:=eq_true c4
 have bV:=zC c4
 clear c4
 obtain ⟨bi,aE⟩:∃ y_:List Int,y_=(List.replicate ((l1.length:Int):Int).toNat 0):=⟨_,rfl⟩
 replace H:(sym_Digits.l0 k l1 bi (l1.length:Int) 0 ae ag ad ah ai aj ak)=some r:=by first|(rw [aE];with_reducible exact H)|(have H2_:=(Option.bind_some _ _).symm.trans H;rw [aE];with_reducible exact H2_)|(have H2_:=(Option.bind_some _ _).symm.trans H;with_reducible exact H2_)|with_reducible exact H|(rw [aE];exact H)|exact H
 have bb:=zS aE
 clear aE
 have H':=zS H
 clear H
 go_enter Tryz.func50,Tryz.ntmps50
 go_wp2_with (first|((with_reducible refine gate_dst (N:=2) rfl ?_);refine box_event ?hg (N:=2) ?hd (cs:=#[.int .i32 ae,.int .i32 ag,.int .i32 ad,.int .i32 ah,.int .i32 ai,.int .i32 aj,.int .i32 ak]) (t:=23) ?hr ?_;(case hd=>rfl);(case hg=>rfl);(case hr=>first|(go_simp;done)|(go_simp;rfl));intro aA hg w5 hbox hb;have al:=zS (hbox);have bj:=bg HB hg;replace HB:=bs HB hb;clear hb hbox hg)|((with_reducible refine gate_dst (N:=9) rfl ?_);refine Kd.R_make (Kd.int .i32) _ 21 rfl (N:=9) rfl 46 _ _ rfl (l1.length:Int) rfl rfl Tryz.underlying46 (.int .i32 0) 4 info21 rfl (by decide) (by omega) 0 (ok:=fun _=>True) (okp:=fun _=>True) rfl (fun _ hk=>hk) trivial (zB (by first|(with_reducible assumption)|assumption)) (Nat.le_trans (Nat.mul_le_mul_right _ (zB (by first|(with_reducible assumption)|assumption):(l1.length:Int).toNat≤70368744177664)) (by omega)) (Below.refl _ _) (Nat.le_refl _) ?_;intro bW w6 ho7 hb hg_ hnew_;clear hg_ hnew_;(first|rw [← bb.out] at ho7|(simp only [Int.reduceToNat] at ho7;rw [← bb.out] at ho7));have bk:=zS (Kd.R_lower ho7 (bz HB));replace al:=kb al hb;replace HB:=bs HB hb;clear hb ho7))
 go_loopg [12] k (fun kq v12 w'=>∃ (aT:List Int) (af:Int),v12 = .int .i64 af∧Sd (sym_Digits.l0 kq l1 aT (l1.length:Int) af ae ag ad ah ai aj ak=some r)∧Sd (kq≤k)∧Sd (Kd.R (Kd.int .i32) 21 w' w.heap.size (fun _=>True) bW aT)∧Sd (w'.heap[aA]?=some (.cells #[.int .i32 ae,.int .i32 ag,.int .i32 ad,.int .i32 ah,.int .i32 ai,.int .i32 aj,.int .i32 ak] 23 (0,0)))∧Sd (Below w.heap.size w w'))
 case atStart=>exact ⟨(bi),(0),(by first|rfl|(simp;done)|(simp [*];done)),H',⟨Nat.le_refl _⟩,⟨ro bk⟩,⟨ko al⟩,⟨bl HB⟩⟩
 case round=>
  clear H'
  try clear c1
  try clear p2
  try clear c3
  try clear bS
  try clear bT
  try clear c4
  try clear bU
  try clear bV
  try clear c5
  obtain ⟨aT,af,rfl,HA,HK1,HO_5,al,HB⟩:=hrel
  cases gk with
  | zero=>exact absurd HA.out (by simp [sym_Digits.l0])
  | succ k1=>
   have H:=HA.out
   clear HA
   simp only [sym_Digits.l0] at H
   by_cases c8:af<(l1.length:Int)
   rotate_left
   ·rw [if_neg c8] at H
    have bX:=zD c8
    clear c8
    obtain rfl:=zE H
    go_wp2
    go_ret
    exact ⟨_,by first|rfl|(simp <;> rfl)|(simp [*] <;> rfl),by (with_reducible repeat (first|apply Kd.R_alloc|apply Kd.R_drewN|apply Kd.R_drew));exact HO_5.out,bl HB⟩
   rw [if_pos c8] at H
   have bX:=zC c8
   clear c8
   by_cases c9:0≤af
   rotate_left
   ·rw [if_neg c9] at H
    exact absurd H (by simp)
   rw [if_pos c9] at H
   have b9:=zC c9
   clear c9
   by_cases c10:af<(l1.length:Int)
   rotate_left
   ·rw [if_neg c10] at H
    exact absurd H (by simp)
   rw [if_pos c10] at H
   have bc:=zC c10
   clear c10
   by_cases c11:af<(aT.length:Int)
   rotate_left
   ·rw [if_neg c11] at H
    exact absurd H (by simp)
   rw [if_pos c11] at H
   have bm:=zC c11
   clear c11
   obtain ⟨bn,aG⟩:∃ y_:List Int,y_=(aT.set (af:Int).toNat (wrap32 (ae+(wrap32 (rd l1 af))))):=⟨_,rfl⟩
   replace H:(sym_Digits.l0 k1 l1 bn (l1.length:Int) (wrap64 (af+1)) ae ag ad ah ai aj ak)=some r:=by first|(rw [aG];with_reducible exact H)|(have H2_:=(Option.bind_some _ _).symm.trans H;rw [aG];with_reducible exact H2_)|(have H2_:=(Option.bind_some _ _).symm.trans H;with_reducible exact H2_)|with_reducible exact H|(rw [aG];exact H)|exact H
   have bo:=zS aG
   clear aG
   have H':=zS H
   clear H
   try go_wp2
   replace HO_5:=zS (Kd.R_drew HO_5.out)
   replace al:=zS (blk_drew al.out)
   replace HB:=zS (below_drew1 HB.out)
   have be:0≤(af:Int):=zB (by first|(with_reducible assumption)|assumption)
   have bf:af<(l1.length:Int):=zB (by first|(with_reducible assumption)|assumption)
   obtain ⟨bp,bY,ar⟩:=Kd.at_int HR1.out af be bf
   have hw231_0:=ar
   cases bY
   replace ar:=(HB.out.cell (World.block_lt_of_cell? w _ ar)).trans ar
   replace be:=eq_true be
   replace bf:=eq_true bf
   have p12:0≤(af:Int):=zB (by first|(with_reducible assumption)|assumption)
   have q12:(af:Int)<((aT.length:Int):Int):=zB (by first|(with_reducible assumption)|assumption)
   obtain ⟨go12,ca,bq,br,gl12,cl12,HG12⟩:=Kd.R_form HO_5.out (by omega)
   (first|cases bq|(injection bq with ea_ en_ ec_;(first|subst ea_|(injection ea_ with ea_;subst ea_));subst ec_;clear en_))
   have GB12:=zS br
   have GG12:=zS HG12
   clear br gl12 HG12
   obtain ⟨bh,hf12_0⟩:=Kd.R_celln 0 HO_5.out (af:Int) p12 q12
   replace p12:=eq_true p12
   replace q12:=eq_true q12
   have HP14:=Kd.R_putn HO_5.out (af:Int) (wrap32 (ae+(wrap32 (rd l1 af))))
   rw [← bo.out] at HP14
   have HQ14:=zS HP14
   clear HP14
   refine start_ (n:=12) (S:=fun w'=>w'.cell? ⟨aA,0,none⟩=some (.int .i32 ae)∧w'.cell? ⟨aA,1,none⟩=some (.int .i32 ag)∧w'.cell? ⟨aA,2,none⟩=some (.int .i32 ad)∧w'.cell? ⟨aA,3,none⟩=some (.int .i32 ah)∧w'.cell? ⟨aA,4,none⟩=some (.int .i32 ai)∧w'.cell? ⟨aA,5,none⟩=some (.int .i32 aj)∧w'.cell? ⟨aA,6,none⟩=some (.int .i32 ak)∧w'.cell? (bp.add (af).toNat)=some (.int .u8 (rd l1 af))) (ds:=[11]) (bZ 12 0) (by kernel_rfl) rfl (by kernel_rfl) ⟨(blk_cell al.out 0).trans rfl,(blk_cell al.out 1).trans rfl,(blk_cell al.out 2).trans rfl,(blk_cell al.out 3).trans rfl,(blk_cell al.out 4).trans rfl,(blk_cell al.out 5).trans rfl,(blk_cell al.out 6).trans rfl,((HB.out.cell (World.block_lt_of_cell? w _ hw231_0)).trans hw231_0)⟩ (fun hHeld=>?_);refine with_tabW sym_Digits.tab5 sym_Digits.bits5 (fun HT_ HW_=>?_)
   generalize wr.drew=w13 at HO_5 al HB GG12 HQ14 hf12_0 bh ar hHeld ⊢
   refine p1 0 15 1 HT_ (v:=?_) ?_ (a':=?_) ?_ ?_
   rotate_left
   ·intro w';go_simp;with_reducible rfl
   rotate_left
   ·simp only [Act.put,sA,sB,sC,i64_w,i32_w];rfl
   refine p1 1 16 3 HT_ (v:=?_) ?_ (a':=?_) ?_ ?_
   rotate_left
   ·intro w';go_simp;with_reducible rfl
   rotate_left
   ·simp only [Act.put,sA,sB,sC,i64_w,i32_w];rfl
   refine p1 2 17 7 HT_ (v:=?_) ?_ (a':=?_) ?_ ?_
   rotate_left
   ·intro w';go_simp;with_reducible rfl
   rotate_left
   ·simp only [Act.put,sA,sB,sC,i64_w,i32_w];rfl
   refine p1 4 19 23 HT_ (v:=?_) ?_ (a':=?_) ?_ ?_
   rotate_left
   ·intro w';go_simp;with_reducible rfl
   rotate_left
   ·simp only [Act.put,sA,sB,sC,i64_w,i32_w];rfl
   refine p1 5 20 55 HT_ (v:=?_) ?_ (a':=?_) ?_ ?_
   rotate_left
   ·intro w';go_simp;with_reducible rfl
   rotate_left
   ·simp only [Act.put,sA,sB,sC,i64_w,i32_w];rfl
   refine p1 6 21 119 HT_ (v:=?_) ?_ (a':=?_) ?_ ?_
   rotate_left
   ·intro w';go_simp;with_reducible rfl
   rotate_left
   ·simp only [Act.put,sA,sB,sC,i64_w,i32_w];rfl
   refine p2 3 18 127 HT_ HW_ (v:=?_) ?_ hHeld (a':=?_) ?_ ?_
   rotate_left
   ·rintro w' ⟨s0,s1,s2,s3,s4,s5,s6,s7⟩;go_simp;with_reducible rfl
   rotate_left
   ·simp only [Act.put,sA,sB,sC,i64_w,i32_w];rfl
   refine p2 7 22 255 HT_ HW_ (v:=?_) ?_ hHeld (a':=?_) ?_ ?_
   rotate_left
   ·rintro w' ⟨s0,s1,s2,s3,s4,s5,s6,s7⟩;go_simp;with_reducible rfl
   rotate_left
   ·simp only [Act.put,sA,sB,sC,i64_w,i32_w];rfl
   refine p1 8 23 511 HT_ (v:=?_) ?_ (a':=?_) ?_ ?_
   rotate_left
   ·intro w';go_simp;with_reducible rfl
   rotate_left
   ·simp only [Act.put,sA,sB,sC,i64_w,i32_w];rfl
   refine p1 9 24 1023 HT_ (v:=?_) ?_ (a':=?_) ?_ ?_
   rotate_left
   ·intro w';go_simp;with_reducible rfl
   rotate_left
   ·simp only [Act.put,sA,sB,sC,i64_w,i32_w];rfl
   refine p1 10 25 2047 HT_ (v:=?_) ?_ (a':=?_) ?_ ?_
   rotate_left
   ·intro w';go_simp;with_reducible rfl
   rotate_left
   ·simp only [Act.put,sA,sB,sC,i64_w,i32_w];rfl
   refine last_ (i:=11) (N:=none) (bZ 12 4095) rfl rfl (one_of HT_.out (by kernel_rfl)) (by decide) (fun K hK=>?_)
   refine skip_ (w1:=?_) (by rfl) rfl ?_ ?_
   rotate_left
   ·go_simp
    rfl
   refine hK.out _ _ ?_
   clear hK K
   refine done_ (done_of HT_.out (by kernel_rfl)) ?_
   try go_wp2
   go_roundg k1
   case measure=>have:=HK1.out;omega
   case rel=>exact ⟨(bn),(wrap64 (af+1)),(by first|rfl|(simp;done)|(simp [*];done)),H',⟨by have:=HK1.out;omega⟩,⟨by (with_reducible repeat (first|apply Kd.R_alloc|apply Kd.R_drewN|apply Kd.R_drew));exact HQ14.out⟩,⟨by (with_reducible repeat (first|refine blk_drewN ?_ _|refine blk_drew ?_|refine blk_alloc ?_ _));refine blk_far ?_ (by have h_:=Kd.R_ne HO_5.out al.out (by decide);intro e_;exact h_ (by rw [e_];rfl)) _;(with_reducible repeat (first|refine blk_drewN ?_ _|refine blk_drew ?_|refine blk_alloc ?_ _));exact al.out⟩,⟨by repeat (first|(with_reducible first|exact HB.out|apply below_alloc|apply pw_below_drewN|apply below_drew1|refine below_set ?_ GB12.out|refine below_set ?_ bj.out)|exact HB.out)⟩⟩
def sym_Grouped.l0:Nat→List Int→Int→Int→List Int→List Int→Int→Int→Int→Int→Int→Int→Int→Int→Int→Option (List Int)
 | 0,_,_,_,_,_,_,_,_,_,_,_,_,_,_=>none
 | k+1,x1,x2,x3,x9,x15,x16,x17,au,av,ap,aw,ax,ay,az=>if x17<x16 then (if 0≤x17 then (if x17<(x15.length:Int) then (if x17>0 then (if x2>0 then (if (wrap64 ((x1.length:Int) - x17))≥x2 then (if x3=0 then (none) else (if (Int.tmod (wrap64 ((wrap64 ((x1.length:Int) - x17)) - x2)) x3)=0 then (if x9.length<35184372088832 then ((some (x9 ++ [ap]:List Int)).bind fun aH=>(if aH.length<35184372088832 then (sym_Grouped.l0 k x1 x2 x3 (aH ++ [rd x15 x17]) x15 x16 (wrap64 (x17+1)) au av ap aw ax ay az) else (none))) else (none)) else (if x9.length<35184372088832 then (sym_Grouped.l0 k x1 x2 x3 (x9 ++ [rd x15 x17]) x15 x16 (wrap64 (x17+1)) au av ap aw ax ay az) else (none)))) else (if x9.length<35184372088832 then (sym_Grouped.l0 k x1 x2 x3 (x9 ++ [rd x15 x17]) x15 x16 (wrap64 (x17+1)) au av ap aw ax ay az) else (none))) else (if x9.length<35184372088832 then (sym_Grouped.l0 k x1 x2 x3 (x9 ++ [rd x15 x17]) x15 x16 (wrap64 (x17+1)) au av ap aw ax ay az) else (none))) else (if x9.length<35184372088832 then (sym_Grouped.l0 k x1 x2 x3 (x9 ++ [rd x15 x17]) x15 x16 (wrap64 (x17+1)) au av ap aw ax ay az) else (none))) else (none)) else (none)) else (some x9)
def sym_Grouped.f (k:Nat)(ae:Int)(ag:Int)(ad:Int)(ah:Int)(ai:Int)(aj:Int)(ak:Int)(l1:List Int)(a2:Int)(a3:Int):Option (List Int):=(sym_Digits.f k ae ag ad ah ai aj ak l1).bind fun ab=>(sym_Grouped.l0 k l1 a2 a3 ([]:List Int) ab (ab.length:Int) 0 ae ag ad ah ai aj ak)
theorem sym_Grouped.mono_l:∀ k,(∀ y0 y1 y2 y3 y4 y5 y6 y7 y8 y9 y10 y11 y12 y13,LeO (sym_Grouped.l0 k y0 y1 y2 y3 y4 y5 y6 y7 y8 y9 y10 y11 y12 y13) (sym_Grouped.l0 (k+1) y0 y1 y2 y3 y4 y5 y6 y7 y8 y9 y10 y11 y12 y13))
 | 0=>fun _ _ _ _ _ _ _ _ _ _ _ _ _ _ r h=>by simp [sym_Grouped.l0] at h
 | k+1=>by
  have ih0:=sym_Grouped.mono_l k
  ·intro y0 y1 y2 y3 y4 y5 y6 y7 y8 y9 y10 y11 y12 y13
   unfold sym_Grouped.l0
   repeat' first|(with_reducible first|apply ih0|apply sym_Digits.mono|apply LeO.refl|apply LeO.none|refine LeO.ite ?_ ?_|refine LeO.bind ?_ (fun _=>?_))|apply ih0|apply sym_Digits.mono|apply LeO.none
theorem sym_Grouped.mono:∀ a0 a1 a2 a3 a4 a5 a6 a7 a8 a9 k,LeO (sym_Grouped.f k a0 a1 a2 a3 a4 a5 a6 a7 a8 a9) (sym_Grouped.f (k+1) a0 a1 a2 a3 a4 a5 a6 a7 a8 a9):=by
 intro a0 a1 a2 a3 a4 a5 a6 a7 a8 a9 k
 have ih0:=sym_Grouped.mono_l k
 unfold sym_Grouped.f
 repeat' first|(with_reducible first|apply ih0|apply sym_Digits.mono|apply LeO.refl|apply LeO.none|refine LeO.ite ?_ ?_|refine LeO.bind ?_ (fun _=>?_))|apply ih0|apply sym_Digits.mono|apply LeO.none
set_option maxHeartbeats 8000000 in
set_option maxRecDepth 100000 in
theorem sym_Grouped.calls (k:Nat)(ae:Int)(ag:Int)(ad:Int)(ah:Int)(ai:Int)(aj:Int)(ak:Int)(A1:Option Addr)(c1:Nat)(l1:List Int)(a2:Int)(a3:Int)(r:List Int)(w:World)(hr1:Kd.C (Kd.int .u8) w A1 l1.length l1)(hc1:l1.length≤c1)(h:sym_Grouped.f k ae ag ad ah ai aj ak l1 a2 a3=some r) :
  Calls Tryz.prog 49 #[.agg #[.int .i32 ae,.int .i32 ag,.int .i32 ad,.int .i32 ah,.int .i32 ai,.int .i32 aj,.int .i32 ak],.slice A1 l1.length c1,.int .i64 a2,.int .i64 a3] w fun e w'=>∃ v0_:Value,e = .returned (v0_)∧Kd.R (Kd.int .i32) 21 w' w.heap.size (fun _=>True) v0_ r∧Below w.heap.size w w':=by
 have hu23:=Tryz.underlying23
 have HR1:=zS hr1
 have HC1:=zS hc1
 clear hr1 hc1
 have HB:=zS (Below.refl w.heap.size w)
 have H:((sym_Digits.f k ae ag ad ah ai aj ak l1).bind fun ab=>(sym_Grouped.l0 k l1 a2 a3 ([]:List Int) ab (ab.length:Int) 0 ae ag ad ah ai aj ak))=some r:=h
 clear h
 replace H:=Option.bind_eq_some_iff.mp H
 obtain ⟨ab,A50,H⟩:=H
 try dsimp only at H
 have A5:=zS A50
 clear A50
 have H':=zS H
 clear H
 go_enter Tryz.func49,Tryz.ntmps49
 go_wp2_with (first|((with_reducible refine gate_dst (N:=4) rfl ?_);refine box_event ?hg (N:=4) ?hd (cs:=#[.int .i32 ae,.int .i32 ag,.int .i32 ad,.int .i32 ah,.int .i32 ai,.int .i32 aj,.int .i32 ak]) (t:=23) ?hr ?_;(case hd=>rfl);(case hg=>rfl);(case hr=>first|(go_simp;done)|(go_simp;rfl));intro bu hg w6 hbox hb;have ac:=zS (hbox);have b3:=bg HB hg;replace HB:=bs HB hb;clear hb hbox hg;have b0:=blkc7 ac.out;have b1:=blkf7 ac.out)|((with_reducible refine gate_callee (f:=50) rfl ?_);refine gL (some 15) Tryz.func50 #[.agg #[.int .i32 ae,.int .i32 ag,.int .i32 ad,.int .i32 ah,.int .i32 ai,.int .i32 aj,.int .i32 ak],.slice A1 l1.length c1] ?_;(with_reducible refine (sym_Digits.calls k ae ag ad ah ai aj ak _ _ l1 ab _ (cb HR1 HB) HC1.out A5.out).mono ?_);rintro e w8 ⟨cc,rfl,ho0,hb⟩;refine ⟨_,rfl,?_⟩;have bd:=zS (Kd.R_lower ho0 (bz HB));replace ac:=kb ac hb;replace HB:=bs HB hb;(try clear hb);(try clear ho0);obtain ⟨Ao9,co9,eo9⟩:=Kd.R_slice bd.out;subst eo9))
 go_loopg [9,17] k (fun kq v9 v17 w'=>∃ (ao:List Int) (aa:Int),v17 = .int .i64 aa∧Sd (sym_Grouped.l0 kq l1 a2 a3 ao ab (ab.length:Int) aa ae ag ad ah ai aj ak=some r)∧Sd (kq≤k)∧Sd (Kd.R (Kd.int .i32) 21 w' w.heap.size (fun k_=>some k_≠((.slice Ao9 ab.length co9):Value).ownBlock) v9 ao)∧Sd (Kd.R (Kd.int .i32) 21 w' w.heap.size (fun k_=>some k_≠(v9:Value).ownBlock) (.slice Ao9 ab.length co9) ab)∧Sd (w'.heap[bu]?=some (.cells #[.int .i32 ae,.int .i32 ag,.int .i32 ad,.int .i32 ah,.int .i32 ai,.int .i32 aj,.int .i32 ak] 23 (0,0)))∧Sd (Below w.heap.size w w'))
 case atStart=>exact ⟨(([]:List Int)),(0),(by first|rfl|(simp;done)|(simp [*];done)),H',⟨Nat.le_refl _⟩,⟨by first|exact Kd.R_nil _ _ _ _ _|exact Kd.N_nil _ _ _ _ _|exact Kd.V_nil _ _ _ _ _|exact Kd.Q_nil _ _ _ _ _|exact Kd.S_nil _ _ _ _ _⟩,⟨by (with_reducible repeat (first|apply Kd.R_alloc|apply Kd.R_drewN|apply Kd.R_drew));exact Kd.R_mono bd.out (fun _ hk=>(by simp [Value.ownBlock]))⟩,⟨ko ac⟩,⟨bl HB⟩⟩
 case round=>
  clear H'
  try clear c1
  try clear p2
  try clear c4
  try clear c5
  try clear b0
  try clear b1
  obtain ⟨ao,aa,rfl,HA,HK1,HO_9,HO_15,ac,HB⟩:=hrel
  cases gk with
  | zero=>exact absurd HA.out (by simp [sym_Grouped.l0])
  | succ k1=>
   have H:=HA.out
   clear HA
   simp only [sym_Grouped.l0] at H
   by_cases c10:aa<(ab.length:Int)
   rotate_left
   ·rw [if_neg c10] at H
    have bc:=zD c10
    clear c10
    obtain rfl:=zE H
    go_wp2
    go_ret
    exact ⟨_,by first|rfl|(simp <;> rfl)|(simp [*] <;> rfl),by (with_reducible repeat (first|apply Kd.R_alloc|apply Kd.R_drewN|apply Kd.R_drew));exact Kd.R_mono HO_9.out (fun _ hk=>trivial),bl HB⟩
   rw [if_pos c10] at H
   have bc:=zC c10
   clear c10
   by_cases c11:0≤aa
   rotate_left
   ·rw [if_neg c11] at H
    exact absurd H (by simp)
   rw [if_pos c11] at H
   have bm:=zC c11
   clear c11
   by_cases c12:aa<(ab.length:Int)
   rotate_left
   ·rw [if_neg c12] at H
    exact absurd H (by simp)
   rw [if_pos c12] at H
   have b4:=zC c12
   clear c12
   by_cases c13:aa>0
   rotate_left
   ·rw [if_neg c13] at H
    have bv:decide (0<aa)=false:=zD c13
    clear c13
    by_cases c29:ao.length<35184372088832
    rotate_left
    ·rw [if_neg c29] at H
     exact absurd H (by simp)
    rw [if_pos c29] at H
    have LMc29:=zS c29
    clear c29
    obtain ⟨bw,aI⟩:∃ y_:List Int,y_=(ao ++ [rd ab aa]):=⟨_,rfl⟩
    replace H:(sym_Grouped.l0 k1 l1 a2 a3 bw ab (ab.length:Int) (wrap64 (aa+1)) ae ag ad ah ai aj ak)=some r:=by first|(rw [aI];with_reducible exact H)|(have H2_:=(Option.bind_some _ _).symm.trans H;rw [aI];with_reducible exact H2_)|(have H2_:=(Option.bind_some _ _).symm.trans H;with_reducible exact H2_)|with_reducible exact H|(rw [aI];exact H)|exact H
    have bx:=zS aI
    clear aI
    have H':=zS H
    clear H
    have am:0≤(aa:Int):=zB (by first|(with_reducible assumption)|assumption)
    have an:aa<(ab.length:Int):=zB (by first|(with_reducible assumption)|assumption)
    obtain ⟨aq,aD,aC⟩:=Kd.at_int (Kd.R_reads' HO_15.out).2.2 aa am an
    cases aD
    replace am:=eq_true am
    replace an:=eq_true an
    go_wp2_with (first|((with_reducible refine gate_builtin (b:=.append) (xs:=#[.tmp 50,.tmp 52]) rfl ?_);at_builtin;refine Kd.R_append (Kd.int .i32) (w0:=w) w.heap.size rfl (.tmp 50) (.tmp 52) 46 21 (.int .i32 0) 4 rfl Tryz.underlying46 info21 rfl (by decide) (by omega) u9 ao (rd ab aa) [.int .i32 (rd ab aa)] (fun k_=>some k_≠(.slice (some aq) ab.length co9:Value).ownBlock) (fun _=>False) rfl rfl ?aP (fun _ hk=>hk.elim) ?aF ?aO ?aB ?aS ?aL ?_;(case aP=>exact rfl);(case aB=>exact (bl HB));(case aF=>exact (fun k_ hk=>Kd.fresh' (Kd.R_lt (ro HO_15)) k_ hk));(case aO=>exact (ro HO_9));(case aS=>exact (bz HB));(case aL=>have:=LMc29.out;omega);intro cd w30 ho hb hg hat;rw [← bx.out] at ho;replace HO_15:=zS (Kd.R_after (ok:=(fun _=>True)) (by (with_reducible repeat (first|apply Kd.R_alloc|apply Kd.R_drewN|apply Kd.R_drew));exact Kd.R_mono HO_15.out (fun _ hk=>⟨trivial,hk⟩)) hg hat);replace ac:=zS (blk_grown (ko ac) hg (Kd.R_ne HO_9.out ac.out (by decide)));replace HB:=zS (hb);have bA:=zS (ho);clear HO_9;clear ho hb hg hat))
    go_roundg k1
    case measure=>have:=HK1.out;omega
    case rel=>exact ⟨(bw),(wrap64 (aa+1)),(by first|rfl|(simp;done)|(simp [*];done)),H',⟨by have:=HK1.out;omega⟩,⟨ro bA⟩,⟨by (with_reducible repeat (first|apply Kd.R_alloc|apply Kd.R_drewN|apply Kd.R_drew));exact Kd.R_mono HO_15.out (fun _ hk=>hk.2)⟩,⟨ko ac⟩,⟨bl HB⟩⟩
   rw [if_pos c13] at H
   have bv:decide (0<aa)=true:=zC c13
   clear c13
   by_cases c14:a2>0
   rotate_left
   ·rw [if_neg c14] at H
    have bB:decide (0<a2)=false:=zD c14
    clear c14
    by_cases c27:ao.length<35184372088832
    rotate_left
    ·rw [if_neg c27] at H
     exact absurd H (by simp)
    rw [if_pos c27] at H
    have LMc27:=zS c27
    clear c27
    obtain ⟨bC,aJ⟩:∃ y_:List Int,y_=(ao ++ [rd ab aa]):=⟨_,rfl⟩
    replace H:(sym_Grouped.l0 k1 l1 a2 a3 bC ab (ab.length:Int) (wrap64 (aa+1)) ae ag ad ah ai aj ak)=some r:=by first|(rw [aJ];with_reducible exact H)|(have H2_:=(Option.bind_some _ _).symm.trans H;rw [aJ];with_reducible exact H2_)|(have H2_:=(Option.bind_some _ _).symm.trans H;with_reducible exact H2_)|with_reducible exact H|(rw [aJ];exact H)|exact H
    have bD:=zS aJ
    clear aJ
    have H':=zS H
    clear H
    have am:0≤(aa:Int):=zB (by first|(with_reducible assumption)|assumption)
    have an:aa<(ab.length:Int):=zB (by first|(with_reducible assumption)|assumption)
    obtain ⟨aq,aD,aC⟩:=Kd.at_int (Kd.R_reads' HO_15.out).2.2 aa am an
    cases aD
    replace am:=eq_true am
    replace an:=eq_true an
    go_wp2_with (first|((with_reducible refine gate_builtin (b:=.append) (xs:=#[.tmp 50,.tmp 52]) rfl ?_);at_builtin;refine Kd.R_append (Kd.int .i32) (w0:=w) w.heap.size rfl (.tmp 50) (.tmp 52) 46 21 (.int .i32 0) 4 rfl Tryz.underlying46 info21 rfl (by decide) (by omega) u9 ao (rd ab aa) [.int .i32 (rd ab aa)] (fun k_=>some k_≠(.slice (some aq) ab.length co9:Value).ownBlock) (fun _=>False) rfl rfl ?aP (fun _ hk=>hk.elim) ?aF ?aO ?aB ?aS ?aL ?_;(case aP=>exact rfl);(case aB=>exact (bl HB));(case aF=>exact (fun k_ hk=>Kd.fresh' (Kd.R_lt (ro HO_15)) k_ hk));(case aO=>exact (ro HO_9));(case aS=>exact (bz HB));(case aL=>have:=LMc27.out;omega);intro ce w28 ho hb hg hat;rw [← bD.out] at ho;replace HO_15:=zS (Kd.R_after (ok:=(fun _=>True)) (by (with_reducible repeat (first|apply Kd.R_alloc|apply Kd.R_drewN|apply Kd.R_drew));exact Kd.R_mono HO_15.out (fun _ hk=>⟨trivial,hk⟩)) hg hat);replace ac:=zS (blk_grown (ko ac) hg (Kd.R_ne HO_9.out ac.out (by decide)));replace HB:=zS (hb);have bE:=zS (ho);clear HO_9;clear ho hb hg hat))
    go_roundg k1
    case measure=>have:=HK1.out;omega
    case rel=>exact ⟨(bC),(wrap64 (aa+1)),(by first|rfl|(simp;done)|(simp [*];done)),H',⟨by have:=HK1.out;omega⟩,⟨ro bE⟩,⟨by (with_reducible repeat (first|apply Kd.R_alloc|apply Kd.R_drewN|apply Kd.R_drew));exact Kd.R_mono HO_15.out (fun _ hk=>hk.2)⟩,⟨ko ac⟩,⟨bl HB⟩⟩
   rw [if_pos c14] at H
   have bB:decide (0<a2)=true:=zC c14
   clear c14
   by_cases c15:(wrap64 ((l1.length:Int) - aa))≥a2
   rotate_left
   ·rw [if_neg c15] at H
    have bF:decide (a2≤(wrap64 ((l1.length:Int) - aa)))=false:=zD c15
    clear c15
    by_cases c25:ao.length<35184372088832
    rotate_left
    ·rw [if_neg c25] at H
     exact absurd H (by simp)
    rw [if_pos c25] at H
    have LMc25:=zS c25
    clear c25
    obtain ⟨bG,aK⟩:∃ y_:List Int,y_=(ao ++ [rd ab aa]):=⟨_,rfl⟩
    replace H:(sym_Grouped.l0 k1 l1 a2 a3 bG ab (ab.length:Int) (wrap64 (aa+1)) ae ag ad ah ai aj ak)=some r:=by first|(rw [aK];with_reducible exact H)|(have H2_:=(Option.bind_some _ _).symm.trans H;rw [aK];with_reducible exact H2_)|(have H2_:=(Option.bind_some _ _).symm.trans H;with_reducible exact H2_)|with_reducible exact H|(rw [aK];exact H)|exact H
    have bH:=zS aK
    clear aK
    have H':=zS H
    clear H
    have am:0≤(aa:Int):=zB (by first|(with_reducible assumption)|assumption)
    have an:aa<(ab.length:Int):=zB (by first|(with_reducible assumption)|assumption)
    obtain ⟨aq,aD,aC⟩:=Kd.at_int (Kd.R_reads' HO_15.out).2.2 aa am an
    cases aD
    replace am:=eq_true am
    replace an:=eq_true an
    go_wp2_with (first|((with_reducible refine gate_builtin (b:=.append) (xs:=#[.tmp 50,.tmp 52]) rfl ?_);at_builtin;refine Kd.R_append (Kd.int .i32) (w0:=w) w.heap.size rfl (.tmp 50) (.tmp 52) 46 21 (.int .i32 0) 4 rfl Tryz.underlying46 info21 rfl (by decide) (by omega) u9 ao (rd ab aa) [.int .i32 (rd ab aa)] (fun k_=>some k_≠(.slice (some aq) ab.length co9:Value).ownBlock) (fun _=>False) rfl rfl ?aP (fun _ hk=>hk.elim) ?aF ?aO ?aB ?aS ?aL ?_;(case aP=>exact rfl);(case aB=>exact (bl HB));(case aF=>exact (fun k_ hk=>Kd.fresh' (Kd.R_lt (ro HO_15)) k_ hk));(case aO=>exact (ro HO_9));(case aS=>exact (bz HB));(case aL=>have:=LMc25.out;omega);intro cf w26 ho hb hg hat;rw [← bH.out] at ho;replace HO_15:=zS (Kd.R_after (ok:=(fun _=>True)) (by (with_reducible repeat (first|apply Kd.R_alloc|apply Kd.R_drewN|apply Kd.R_drew));exact Kd.R_mono HO_15.out (fun _ hk=>⟨trivial,hk⟩)) hg hat);replace ac:=zS (blk_grown (ko ac) hg (Kd.R_ne HO_9.out ac.out (by decide)));replace HB:=zS (hb);have bI:=zS (ho);clear HO_9;clear ho hb hg hat))
    go_roundg k1
    case measure=>have:=HK1.out;omega
    case rel=>exact ⟨(bG),(wrap64 (aa+1)),(by first|rfl|(simp;done)|(simp [*];done)),H',⟨by have:=HK1.out;omega⟩,⟨ro bI⟩,⟨by (with_reducible repeat (first|apply Kd.R_alloc|apply Kd.R_drewN|apply Kd.R_drew));exact Kd.R_mono HO_15.out (fun _ hk=>hk.2)⟩,⟨ko ac⟩,⟨bl HB⟩⟩
   rw [if_pos c15] at H
   have bF:decide (a2≤(wrap64 ((l1.length:Int) - aa)))=true:=zC c15
   clear c15
   by_cases c16:a3=0
   ·rw [if_pos c16] at H
    exact absurd H (by simp)
   rw [if_neg c16] at H
   have b5:(a3 == 0)=false:=zF c16
   have b6:(a3 != 0)=true:=zI c16
   by_cases c17:(Int.tmod (wrap64 ((wrap64 ((l1.length:Int) - aa)) - a2)) a3)=0
   rotate_left
   ·rw [if_neg c17] at H
    have bJ:((Int.tmod (wrap64 ((wrap64 ((l1.length:Int) - aa)) - a2)) a3) == 0)=false:=zF c17
    have bK:((Int.tmod (wrap64 ((wrap64 ((l1.length:Int) - aa)) - a2)) a3) != 0)=true:=zI c17
    by_cases c23:ao.length<35184372088832
    rotate_left
    ·rw [if_neg c23] at H
     exact absurd H (by simp)
    rw [if_pos c23] at H
    have LMc23:=zS c23
    clear c23
    obtain ⟨bL,aM⟩:∃ y_:List Int,y_=(ao ++ [rd ab aa]):=⟨_,rfl⟩
    replace H:(sym_Grouped.l0 k1 l1 a2 a3 bL ab (ab.length:Int) (wrap64 (aa+1)) ae ag ad ah ai aj ak)=some r:=by first|(rw [aM];with_reducible exact H)|(have H2_:=(Option.bind_some _ _).symm.trans H;rw [aM];with_reducible exact H2_)|(have H2_:=(Option.bind_some _ _).symm.trans H;with_reducible exact H2_)|with_reducible exact H|(rw [aM];exact H)|exact H
    have bM:=zS aM
    clear aM
    have H':=zS H
    clear H
    have am:0≤(aa:Int):=zB (by first|(with_reducible assumption)|assumption)
    have an:aa<(ab.length:Int):=zB (by first|(with_reducible assumption)|assumption)
    obtain ⟨aq,aD,aC⟩:=Kd.at_int (Kd.R_reads' HO_15.out).2.2 aa am an
    cases aD
    replace am:=eq_true am
    replace an:=eq_true an
    go_wp2_with (first|((with_reducible refine gate_builtin (b:=.append) (xs:=#[.tmp 50,.tmp 52]) rfl ?_);at_builtin;refine Kd.R_append (Kd.int .i32) (w0:=w) w.heap.size rfl (.tmp 50) (.tmp 52) 46 21 (.int .i32 0) 4 rfl Tryz.underlying46 info21 rfl (by decide) (by omega) u9 ao (rd ab aa) [.int .i32 (rd ab aa)] (fun k_=>some k_≠(.slice (some aq) ab.length co9:Value).ownBlock) (fun _=>False) rfl rfl ?aP (fun _ hk=>hk.elim) ?aF ?aO ?aB ?aS ?aL ?_;(case aP=>exact rfl);(case aB=>exact (bl HB));(case aF=>exact (fun k_ hk=>Kd.fresh' (Kd.R_lt (ro HO_15)) k_ hk));(case aO=>exact (ro HO_9));(case aS=>exact (bz HB));(case aL=>have:=LMc23.out;omega);intro cg w24 ho hb hg hat;rw [← bM.out] at ho;replace HO_15:=zS (Kd.R_after (ok:=(fun _=>True)) (by (with_reducible repeat (first|apply Kd.R_alloc|apply Kd.R_drewN|apply Kd.R_drew));exact Kd.R_mono HO_15.out (fun _ hk=>⟨trivial,hk⟩)) hg hat);replace ac:=zS (blk_grown (ko ac) hg (Kd.R_ne HO_9.out ac.out (by decide)));replace HB:=zS (hb);have bN:=zS (ho);clear HO_9;clear ho hb hg hat))
    go_roundg k1
    case measure=>have:=HK1.out;omega
    case rel=>exact ⟨(bL),(wrap64 (aa+1)),(by first|rfl|(simp;done)|(simp [*];done)),H',⟨by have:=HK1.out;omega⟩,⟨ro bN⟩,⟨by (with_reducible repeat (first|apply Kd.R_alloc|apply Kd.R_drewN|apply Kd.R_drew));exact Kd.R_mono HO_15.out (fun _ hk=>hk.2)⟩,⟨ko ac⟩,⟨bl HB⟩⟩
   rw [if_pos c17] at H
   have bJ:((Int.tmod (wrap64 ((wrap64 ((l1.length:Int) - aa)) - a2)) a3) == 0)=true:=zH c17
   have bK:((Int.tmod (wrap64 ((wrap64 ((l1.length:Int) - aa)) - a2)) a3) != 0)=false:=zG c17
   clear c17
   by_cases c18:ao.length<35184372088832
   rotate_left
   ·rw [if_neg c18] at H
    exact absurd H (by simp)
   rw [if_pos c18] at H
   have LMc18:=zS c18
   clear c18
   obtain ⟨aH,aN⟩:∃ y_:List Int,y_=(ao ++ [ad]):=⟨_,rfl⟩
   replace H:(if aH.length<35184372088832 then (sym_Grouped.l0 k1 l1 a2 a3 (aH ++ [rd ab aa]) ab (ab.length:Int) (wrap64 (aa+1)) ae ag ad ah ai aj ak) else (none))=some r:=by first|(rw [aN];with_reducible exact H)|(have H2_:=(Option.bind_some _ _).symm.trans H;rw [aN];with_reducible exact H2_)|(have H2_:=(Option.bind_some _ _).symm.trans H;with_reducible exact H2_)|with_reducible exact H|(rw [aN];exact H)|exact H
   have bO:=zS aN
   clear aN
   by_cases c19:aH.length<35184372088832
   rotate_left
   ·rw [if_neg c19] at H
    exact absurd H (by simp)
   rw [if_pos c19] at H
   have LMc19:=zS c19
   clear c19
   obtain ⟨bP,aQ⟩:∃ y_:List Int,y_=(aH ++ [rd ab aa]):=⟨_,rfl⟩
   replace H:(sym_Grouped.l0 k1 l1 a2 a3 bP ab (ab.length:Int) (wrap64 (aa+1)) ae ag ad ah ai aj ak)=some r:=by first|(rw [aQ];with_reducible exact H)|(have H2_:=(Option.bind_some _ _).symm.trans H;rw [aQ];with_reducible exact H2_)|(have H2_:=(Option.bind_some _ _).symm.trans H;with_reducible exact H2_)|with_reducible exact H|(rw [aQ];exact H)|exact H
   have bQ:=zS aQ
   clear aQ
   have H':=zS H
   clear H
   have am:0≤(aa:Int):=zB (by first|(with_reducible assumption)|assumption)
   have an:aa<(ab.length:Int):=zB (by first|(with_reducible assumption)|assumption)
   obtain ⟨aq,aD,aC⟩:=Kd.at_int (Kd.R_reads' HO_15.out).2.2 aa am an
   cases aD
   replace am:=eq_true am
   replace an:=eq_true an
   have b7:=blkc7 ac.out
   have b8:=blkf7 ac.out
   go_wp2_with (first|((with_reducible refine gate_builtin (b:=.append) (xs:=#[.tmp 45,.tmp 48]) rfl ?_);at_builtin;refine Kd.R_append (Kd.int .i32) (w0:=w) w.heap.size rfl (.tmp 45) (.tmp 48) 46 21 (.int .i32 0) 4 rfl Tryz.underlying46 info21 rfl (by decide) (by omega) u9 ao ad [.int .i32 ad] (fun k_=>some k_≠(.slice (some aq) ab.length co9:Value).ownBlock) (fun _=>False) rfl rfl ?aP (fun _ hk=>hk.elim) ?aF ?aO ?aB ?aS ?aL ?_;(case aP=>exact rfl);(case aB=>exact (bl HB));(case aF=>exact (fun k_ hk=>Kd.fresh' (Kd.R_lt (ro HO_15)) k_ hk));(case aO=>exact (ro HO_9));(case aS=>exact (bz HB));(case aL=>have:=LMc18.out;omega);intro b2 w21 ho hb hg hat;rw [← bO.out] at ho;replace HO_15:=zS (Kd.R_after (ok:=(fun _=>True)) (by (with_reducible repeat (first|apply Kd.R_alloc|apply Kd.R_drewN|apply Kd.R_drew));exact Kd.R_mono HO_15.out (fun _ hk=>⟨trivial,hk⟩)) hg hat);replace ac:=zS (blk_grown (ko ac) hg (Kd.R_ne HO_9.out ac.out (by decide)));replace HB:=zS (hb);have aU:=zS (ho);clear HO_9;clear ho hb hg hat)|((with_reducible refine gate_builtin (b:=.append) (xs:=#[.tmp 50,.tmp 52]) rfl ?_);at_builtin;refine Kd.R_append (Kd.int .i32) (w0:=w) w.heap.size rfl (.tmp 50) (.tmp 52) 46 21 (.int .i32 0) 4 rfl Tryz.underlying46 info21 rfl (by decide) (by omega) b2 aH (rd ab aa) [.int .i32 (rd ab aa)] (fun k_=>some k_≠(.slice (some aq) ab.length co9:Value).ownBlock) (fun _=>False) rfl rfl ?aP (fun _ hk=>hk.elim) ?aF ?aO ?aB ?aS ?aL ?_;(case aP=>exact rfl);(case aB=>exact (bl HB));(case aF=>exact (fun k_ hk=>Kd.fresh' (Kd.R_lt (ro HO_15)) k_ hk));(case aO=>exact (ro aU));(case aS=>exact (bz HB));(case aL=>have:=LMc19.out;omega);intro ch w22 ho hb hg hat;rw [← bQ.out] at ho;replace HO_15:=zS (Kd.R_after (ok:=(fun _=>True)) (ro HO_15) hg hat);replace ac:=zS (blk_grown (ko ac) hg (Kd.R_ne aU.out ac.out (by decide)));replace HB:=zS (hb);have bR:=zS (ho);clear aU;clear ho hb hg hat))
   go_roundg k1
   case measure=>have:=HK1.out;omega
   case rel=>exact ⟨(bP),(wrap64 (aa+1)),(by first|rfl|(simp;done)|(simp [*];done)),H',⟨by have:=HK1.out;omega⟩,⟨ro bR⟩,⟨by (with_reducible repeat (first|apply Kd.R_alloc|apply Kd.R_drewN|apply Kd.R_drew));exact Kd.R_mono HO_15.out (fun _ hk=>hk.2)⟩,⟨ko ac⟩,⟨bl HB⟩⟩
end Go.Proofs.YtklebhlanidloaaGreatDoor.PZ
end
end
section
set_option maxRecDepth 100000
namespace Go.Proofs.YtklebhlanidloaaGreatDoor.PZ
open Go.RowKit Go.Proofs.YtklebhlanidloaaGreatDoorW.PrintWords Go.Proofs.YtklebhlanidloaaGreatDoorW.PrintLast
def nearF (half:Int)(t:Bool):Bool:=decide (half>0) || (half == 0 && t)
theorem nearer_calls (w:World)(b:Nat)(half:Int)(t:Bool)(hc:w.cell? ⟨b,1,none⟩=some (.int .i64 half)) :
    Calls Tryz.prog 122 #[.bool t,.pointer (some ⟨b,0,none⟩)] w fun e w'=>e = .returned (.bool (nearF half t))∧w'=w:=by
 unfold nearF
 by_cases h0:half>0
 ·have h1:decide (0<half)=true:=zC h0
  go_enter Tryz.func122,Tryz.ntmps122
  go_wp2
  go_ret
  simp [h0]
 have h1:decide (0<half)=false:=zD h0
 cases h2:(half == 0)
 all_goals
  go_enter Tryz.func122,Tryz.ntmps122
  go_wp2
  go_ret
  simp [h0,h2]
def wayF (neg:Bool)(half:Int)(odd:Bool)(k:Int):Bool:=
  if k=0 then true else if k=1 then false else if k=2 then !neg else if k=3 then neg else if k=4 then nearF half true else if k=5 then nearF half false else if k=6 then nearF half odd else nearF half (!odd)
def round_found_away.f (l:List Int)(half:Int)(left neg:Bool)(mode:Int):Option Bool:=(round_found_odd.f l half left).bind fun o=>if 0≤mode∧mode≤7 then some (left && wayF neg half o mode) else none
def GoodM (f:Int→Bool)(es:Array MapEntry):Prop:=∀ e ∈ es.toList,∃ k,e.key = .int .i64 k∧e.val = .bool (f k)
def HasM (es:Array MapEntry)(k:Int):Prop:=∃ e ∈ es.toList,e.key = .int .i64 k
theorem GoodM.keys {f:Int→Bool}{es:Array MapEntry}(h:GoodM f es):∀ x ∈ es.toList,MapKept.IsKey (.int .i64) x.key:=by
 intro x hx
 obtain ⟨k,hk,_⟩:=h x hx
 rw [hk]
 simp [MapKept.IsKey]
theorem insert_good {P:Program}{mty kt et:TypeId}(hm:P.underlying mty=some (.map kt et))(hk:P.underlying kt=some (.int .i64)){f:Int→Bool}{W:World}{g:Nat}{es:Array MapEntry}{clk:Nat}(hb:W.heap[g]?=some (.map es clk))(hg:GoodM f es)(k:Int) :
    ∃ es' clk',(Instr.mapUpdate mty (.map (some g)) (.int .i64 k) (.bool (f k))).run P W = .ok () { W with heap:=W.heap.setIfInBounds g (.map es' clk') }∧GoodM f es'∧HasM es' k∧∀ k',HasM es k'→HasM es' k':=by
 have hik:MapKept.IsKey (.int .i64) (Value.int .i64 k):=by simp [MapKept.IsKey]
 rcases MapKept.findNow_spec hik es.toList 0 hg.keys with ⟨h1,h2⟩|⟨j,e,h1,h2,h3⟩
 ·refine ⟨es.push { key:=.int .i64 k,val:=.bool (f k),born:=clk },clk+1,?_,?_,?_,?_⟩
  · simp only [Instr.mapUpdate,Sem.run_bind,run_underlying hm,MapKept.run_getObj_map hb,MapKept.run_checkKey hk hik,MapKept.run_findKey hk h1,MapKept.run_setObj_map _ hb,Result.andThen]
  ·intro x hx
   rw [Array.toList_push,List.mem_append] at hx
   rcases hx with hx|hx
   · exact hg x hx
   obtain rfl:x=_:=List.mem_singleton.1 hx
   exact ⟨k,rfl,rfl⟩
  · exact ⟨_,by rw [Array.toList_push];exact List.mem_append_right _ (List.mem_singleton.2 rfl),rfl⟩
  rintro k' ⟨x,hx,e⟩
  exact ⟨x,by rw [Array.toList_push];exact List.mem_append_left _ hx,e⟩
 have hj:es[j]?=some e:=by simpa using h2
 have hej:e ∈ es.toList:=List.mem_of_getElem? h2
 have hev:e={ key:=.int .i64 k,val:=.bool (f k),born:=e.born }:=by
  obtain ⟨k',a1,a2⟩:=hg e hej
  rw [h3] at a1
  obtain rfl:k=k':=by injection a1
  cases e
  simp_all
 have hmod:(es.modify j fun e=>{ e with key:=.int .i64 k,val:=.bool (f k) })=es:=by
  apply Array.ext_getElem?
  intro i
  rw [Array.getElem?_modify]
  split
  ·rename_i hi
   subst hi
   rw [hj]
   simp only [Option.map_some]
   rw [← hev]
  rfl
 refine ⟨es,clk,?_,hg,⟨e,hej,h3⟩,fun _ h=>h⟩
 simp only [Instr.mapUpdate,Sem.run_bind,run_underlying hm,MapKept.run_getObj_map hb,MapKept.run_checkKey hk hik,MapKept.run_findKey hk h1,Result.andThen]
 rw [Nat.zero_add,hj]
 simp only [Option.map_some,Option.getD_some,h3,MapKept.run_keyThatStays hik,MapKept.run_setObj_map _ hb,hmod]
theorem look_good {P:Program}{mty kt et:TypeId}(hm:P.underlying mty=some (.map kt et))(hk:P.underlying kt=some (.int .i64)){f:Int→Bool}{W:World}{g:Nat}{es:Array MapEntry}{clk:Nat}(hb:W.heap[g]?=some (.map es clk))(hg:GoodM f es)(k:Int)(hh:HasM es k) :
    (Instr.lookup mty (.map (some g)) (.int .i64 k) false).run P W = .ok (.bool (f k)) W:=by
 have hik:MapKept.IsKey (.int .i64) (Value.int .i64 k):=by simp [MapKept.IsKey]
 have hc:(Instr.checkKey es.isEmpty 10000 kt (.int .i64 k)).run P W = .ok () W:=MapKept.run_checkKey hk hik _ 9999
 rcases MapKept.findNow_spec hik es.toList 0 hg.keys with ⟨h1,h2⟩|⟨j,e,h1,h2,h3⟩
 ·obtain ⟨x,hx,e⟩:=hh
  exact absurd e (h2 x hx)
 obtain ⟨k',a1,a2⟩:=hg e (List.mem_of_getElem? h2)
 rw [h3] at a1
 obtain rfl:k=k':=by injection a1
 rw [a2] at h1
 simp only [Instr.lookup,Sem.run_bind,Sem.run_pure,run_underlying hm,MapKept.run_getObj_map hb,hc,MapKept.run_findKey hk h1,Result.andThen]
 rfl
def sel (b:Bool)(v:Value):Value:=if b then v else undef
theorem sel_true (v:Value):sel true v=v:=rfl
def awF (ag cl mp:Value)(neg:Bool)(mode half:Int)(odd:Bool)(B:Nat)(b:Nat→Bool):Act:=
  { tmps:=#[ag,.bool neg,.int .i64 mode,.pointer (some ⟨B,0,none⟩),undef,undef,.bool false,cl,sel (b 26) mp,cl,sel (b 0) mp,sel (b 3) (.bool neg),sel (b 4) (.bool !neg),sel (b 6) (.bool neg),sel (b 8) cl,sel (b 9) (.bool (nearF half true)),
      sel (b 11) cl,sel (b 12) (.bool (nearF half false)),sel (b 14) cl,sel (b 15) ag,sel (b 16) (.bool odd),sel (b 17) (.bool (nearF half odd)),sel (b 19) cl,sel (b 20) ag,sel (b 21) (.bool odd),sel (b 22) (.bool !odd),sel (b 23) (.bool (nearF half !odd)),sel (b 25) mp,
      undef,undef,undef,undef,undef,undef,undef],defers:=[] }
def awKeys:List (Nat×Int):=[(1,0),(2,1),(5,2),(7,3),(10,4),(13,5),(18,6),(24,7)]
def awW (w0:World)(f:Int→Bool)(g:Nat)(b:Nat→Bool)(W:World):Prop:=
  Below w0.heap.size w0 W∧(b 0=false→∀ p ∈ awKeys,b p.1=false) ∧
    (b 0=true→w0.heap.size≤g∧∃ es clk,W.heap[g]?=some (.map es clk)∧GoodM f es∧∀ p ∈ awKeys,b p.1=true→HasM es p.2)
theorem awW.same {w0:World}{f:Int→Bool}{g:Nat}{b:Nat→Bool}{W:World}(h:awW w0 f g b W)(i:Nat)(hi:i≠0∧∀ p ∈ awKeys,p.1≠i):awW w0 f g (upd b i) W:=by
 obtain ⟨h1,h2,h3⟩:=h
 refine ⟨h1,?_,?_⟩
 ·intro h0 p hp
  rw [upd_ne b (fun z=>hi.1 z.symm)] at h0
  rw [upd_ne b (hi.2 p hp)]
  exact h2 h0 p hp
 intro h0
 rw [upd_ne b (fun z=>hi.1 z.symm)] at h0
 obtain ⟨hg,es,clk,e1,e2,e3⟩:=h3 h0
 exact ⟨hg,es,clk,e1,e2,fun p hp hb=>e3 p hp (by rwa [upd_ne b (hi.2 p hp)] at hb)⟩
theorem awW.below {w0:World}{f:Int→Bool}{g:Nat}{b:Nat→Bool}{W W':World}(h:awW w0 f g b W)(hB:Below W.heap.size W W'):awW w0 f g b W':=by
 obtain ⟨h1,h2,h3⟩:=h
 refine ⟨h1.trans (hB.mono h1.size),h2,fun h0=>?_⟩
 obtain ⟨hg,es,clk,e1,e2,e3⟩:=h3 h0
 exact ⟨hg,es,clk,by rw [hB.block g (Array.getElem?_eq_some_iff.1 e1).1];exact e1,e2,e3⟩
theorem awW.make {w0:World}{f:Int→Bool}{g:Nat}{b:Nat→Bool}{W:World}(h:awW w0 f g b W)(h0:b 0=false)(clk:Nat):awW w0 f W.heap.size (upd b 0) (W.alloc (.map #[] clk)):=by
 obtain ⟨h1,h2,h3⟩:=h
 refine ⟨h1.alloc h1.size _,fun h=>?_,fun _=>⟨h1.size,#[],clk,map_at W _ _,fun e he=>by simp at he,fun p hp hb=>?_⟩⟩
 · rw [upd_same] at h;cases h
 have hne:p.1≠0:=by simp only [awKeys,List.mem_cons,List.not_mem_nil,or_false] at hp;rcases hp with rfl|rfl|rfl|rfl|rfl|rfl|rfl|rfl <;> decide
 rw [upd_ne b hne,h2 h0 p hp] at hb
 cases hb
theorem awW.insert {w0:World}{f:Int→Bool}{g:Nat}{b:Nat→Bool}{W:World}(h:awW w0 f g b W)(h0:b 0=true)(i:Nat)(k:Int)(hik:(i,k) ∈ awKeys) :
    ∃ W',(Instr.mapUpdate 145 (.map (some g)) (.int .i64 k) (.bool (f k))).run Tryz.prog W = .ok () W'∧awW w0 f g (upd b i) W':=by
 obtain ⟨h1,h2,h3⟩:=h
 obtain ⟨hg,es,clk,e1,e2,e3⟩:=h3 h0
 obtain ⟨es',clk',hr,a1,a2,a3⟩:=insert_good Tryz.underlying145 Tryz.underlying3 e1 e2 k
 have hi0:i≠0:=by simp only [awKeys,List.mem_cons,List.not_mem_nil,or_false,Prod.mk.injEq] at hik;omega
 refine ⟨_,hr,?_,fun h=>?_,fun _=>⟨hg,es',clk',(MapKept.heap_set e1).1,a1,fun p hp hb=>?_⟩⟩
 · exact ⟨h1.os,h1.tape,h1.output,by simpa using h1.size,fun k hk=>by rw [(MapKept.heap_set e1).2 k (by omega)];exact h1.block k hk⟩
 ·rw [upd_ne b (fun z=>hi0 z.symm),h0] at h
  cases h
 by_cases e:p.1=i
 ·have:p.2=k:=by
   simp only [awKeys,List.mem_cons,List.not_mem_nil,or_false,Prod.mk.injEq] at hik
   simp only [awKeys,List.mem_cons,List.not_mem_nil,or_false] at hp
   rcases hp with rfl|rfl|rfl|rfl|rfl|rfl|rfl|rfl <;> simp only at e ⊢ <;> omega
  rw [this]
  exact a2
 rw [upd_ne b e] at hb
 exact a3 _ (e3 p hp hb)
def awI (ag cl:Value)(neg:Bool)(mode half:Int)(odd:Bool)(B:Nat)(w0:World)(b:Nat→Bool)(a:Act)(W:World):Prop:=∃ g,a=awF ag cl (.map (some g)) neg mode half odd B b∧awW w0 (wayF neg half odd) g b W∧(b 0=false→b 25=false∧b 26=false)
theorem awW_cells {w:World}{f:Int→Bool}{g:Nat}{b:Nat→Bool}{W:World}{x y z:Value}{t:TypeId}(h:awW (w.alloc (.cells #[x,y,z] t)) f g b W):W.cell? ⟨w.heap.size,0,none⟩=some x∧W.cell? ⟨w.heap.size,1,none⟩=some y∧W.cell? ⟨w.heap.size,2,none⟩=some z:=by
 have hb:=h.1.block w.heap.size (by simp)
 have hn:=heap_alloc_new w (.cells #[x,y,z] t)
 have hc:∀ o,W.cell? ⟨w.heap.size,o,none⟩=(w.alloc (.cells #[x,y,z] t)).cell? ⟨w.heap.size,o,none⟩:=fun o=>by simp only [World.cell?,hb]
 exact ⟨by rw [hc,cell_of_row _ _ _ _ _ _ hn];rfl,by rw [hc,cell_of_row _ _ _ _ _ _ hn];rfl,by rw [hc,cell_of_row _ _ _ _ _ _ hn];rfl⟩
set_option maxRecDepth 100000 in
theorem round_found_away.calls (A0_0:Option Addr)(c0_0:Nat)(l0_0:List Int)(a0_1:Int)(a0_2:Bool)(a1:Bool)(a2:Int)(r:Bool)(w:World)(hr0_0:Kd.C (Kd.int .u8) w A0_0 l0_0.length l0_0)(hc0_0:l0_0.length≤c0_0)(h:round_found_away.f l0_0 a0_1 a0_2 a1 a2=some r) :
    Calls Tryz.prog 96 #[.agg #[.slice A0_0 l0_0.length c0_0,.int .i64 a0_1,.bool a0_2],.bool a1,.int .i64 a2] w fun e w'=>e = .returned (.bool r)∧Below w.heap.size w w':=by
 unfold round_found_away.f at h
 cases ho:round_found_odd.f l0_0 a0_1 a0_2 with
 | none=>rw [ho] at h;cases h
 | some od=>
  rw [ho,Option.bind_some] at h
  by_cases hb:0≤a2∧a2≤7
  rotate_left
  ·rw [if_neg hb] at h
   cases h
  rw [if_pos hb] at h
  obtain rfl:=zE h
  have hu:=Tryz.underlying126
  have hOdd:∀ W,Below (w.alloc (.cells #[.slice A0_0 l0_0.length c0_0,.int .i64 a0_1,.bool a0_2] 126)).heap.size (w.alloc (.cells #[.slice A0_0 l0_0.length c0_0,.int .i64 a0_1,.bool a0_2] 126)) W →
     Calls Tryz.prog 123 #[.agg #[.slice A0_0 l0_0.length c0_0,.int .i64 a0_1,.bool a0_2]] W fun e w'=>e = .returned (.bool od)∧Below W.heap.size W w':=fun W hW=>
   round_found_odd.calls A0_0 c0_0 l0_0 a0_1 a0_2 od W (Kd.C_below hr0_0 (((Below.refl _ w).alloc (Nat.le_refl _) _).trans (hW.mono (by simp)))) hc0_0 ho
  have HB:=zA hb
  clear ho hb h hr0_0
  go_enter Tryz.func96,Tryz.ntmps96
  go_wp2
  refine wp_region_inv (awI (.agg #[.slice A0_0 l0_0.length c0_0,.int .i64 a0_1,.bool a0_2]) (.func (.func 122) #[] #[.pointer (some ⟨w.heap.size,0,none⟩)]) a1 a2 a0_1 od w.heap.size (w.alloc (.cells #[.slice A0_0 l0_0.length c0_0,.int .i64 a0_1,.bool a0_2] 126))) (by kernel_rfl) (by kernel_rfl) ?hI ?hstep ?hend
  case hI=>
   exact ⟨0,by simp [awF,sel],⟨pw_below_drewN (Below.refl _ _) 1,fun _ _ _=>rfl,fun h=>by cases h⟩,fun _=>⟨rfl,rfl⟩⟩
  case hend=>
   rintro b a W hb ⟨g,rfl,hW,_⟩
   obtain ⟨hc0,hc1,hc2⟩:=awW_cells hW
   obtain ⟨_,es,clk,e1,e2,e3⟩:=hW.2.2 (hb 0 (by simp))
   have hBl:Below w.heap.size w W:=((Below.refl _ w).alloc (Nat.le_refl _) _).trans (hW.1.mono (by simp))
   have hl:=look_good Tryz.underlying145 Tryz.underlying3 e1 e2 a2 (by
    obtain ⟨h1,h2⟩:=HB.out
    have:a2=0∨a2=1∨a2=2∨a2=3∨a2=4∨a2=5∨a2=6∨a2=7:=by omega
    rcases this with rfl|rfl|rfl|rfl|rfl|rfl|rfl|rfl
    · exact e3 (1,0) (by simp [awKeys]) (hb 1 (by simp))
    · exact e3 (2,1) (by simp [awKeys]) (hb 2 (by simp))
    · exact e3 (5,2) (by simp [awKeys]) (hb 5 (by simp))
    · exact e3 (7,3) (by simp [awKeys]) (hb 7 (by simp))
    · exact e3 (10,4) (by simp [awKeys]) (hb 10 (by simp))
    · exact e3 (13,5) (by simp [awKeys]) (hb 13 (by simp))
    · exact e3 (18,6) (by simp [awKeys]) (hb 18 (by simp))
    exact e3 (24,7) (by simp [awKeys]) (hb 24 (by simp)))
   obtain ⟨wf,hwf⟩:∃ wf,wayF a1 a0_1 od a2=wf:=⟨_,rfl⟩
   rw [hwf] at hl
   have HWF:=zA hwf
   clear hwf
   have hf:awF (.agg #[.slice A0_0 l0_0.length c0_0,.int .i64 a0_1,.bool a0_2]) (.func (.func 122) #[] #[.pointer (some ⟨w.heap.size,0,none⟩)]) (.map (some g)) a1 a2 a0_1 od w.heap.size b =
      awF (.agg #[.slice A0_0 l0_0.length c0_0,.int .i64 a0_1,.bool a0_2]) (.func (.func 122) #[] #[.pointer (some ⟨w.heap.size,0,none⟩)]) (.map (some g)) a1 a2 a0_1 od w.heap.size (fun _=>true):=by
    unfold awF
    simp only [hb 0 (by simp),hb 3 (by simp),hb 4 (by simp),hb 6 (by simp),hb 8 (by simp),hb 9 (by simp),hb 11 (by simp),hb 12 (by simp),hb 14 (by simp),hb 15 (by simp),hb 16 (by simp),hb 17 (by simp),hb 19 (by simp),hb 20 (by simp),hb 21 (by simp),hb 22 (by simp),hb 23 (by simp),hb 25 (by simp),hb 26 (by simp)]
   rw [hf]
   unfold awF
   simp only [sel_true]
   clear hf hb e1 e2 e3 hW
   have HBl:=zA hBl
   clear hBl
   cases a0_2
   all_goals
    go_wp2
    go_ret
    exact ⟨by simp [HWF.out],HBl.out⟩
  case hstep=>
   refine ⟨⟨rfl,?_⟩,⟨rfl,?_⟩,⟨rfl,?_⟩,⟨rfl,?_⟩,⟨rfl,?_⟩,⟨rfl,?_⟩,⟨rfl,?_⟩,⟨rfl,?_⟩,⟨rfl,?_⟩,⟨rfl,?_⟩,⟨rfl,?_⟩,⟨rfl,?_⟩,⟨rfl,?_⟩,⟨rfl,?_⟩,⟨rfl,?_⟩,⟨rfl,?_⟩,⟨rfl,?_⟩,⟨rfl,?_⟩,⟨rfl,?_⟩,⟨rfl,?_⟩,⟨rfl,?_⟩,⟨rfl,?_⟩,⟨rfl,?_⟩,⟨rfl,?_⟩,⟨rfl,?_⟩,⟨rfl,?_⟩,⟨rfl,?_⟩,trivial⟩
   -- BEGIN STEPS
   ·rintro b a W h0 hn ⟨g,rfl,hW,hz⟩
    obtain ⟨z25,z26⟩:=hz h0
    have hmm:=@run_makeMap Tryz.prog
    unfold awF
    go_simp
    exact ⟨W.heap.size,by simp [awF,upd,sel,z25,z26],hW.make h0 _,by simp [upd]⟩
   ·rintro b a W h0 hn ⟨g,rfl,hW,hz⟩
    have hb0:b 0=true:=hn 0 (zB (by kernel_rfl))
    obtain ⟨W',hr,hW'⟩:=hW.insert hb0 1 0 (by simp [awKeys])
    rw [show wayF a1 a0_1 od 0=(true) from rfl] at hr
    unfold awF
    simp only [sel_true,hb0]
    go_simp
    exact ⟨g,by simp [awF,upd,sel_true,hb0],hW',by simpa [upd] using hz⟩
   ·rintro b a W h0 hn ⟨g,rfl,hW,hz⟩
    have hb0:b 0=true:=hn 0 (zB (by kernel_rfl))
    obtain ⟨W',hr,hW'⟩:=hW.insert hb0 2 1 (by simp [awKeys])
    rw [show wayF a1 a0_1 od 1=(false) from rfl] at hr
    unfold awF
    simp only [sel_true,hb0]
    go_simp
    exact ⟨g,by simp [awF,upd,sel_true,hb0],hW',by simpa [upd] using hz⟩
   ·rintro b a W h0 hn ⟨g,rfl,hW,hz⟩
    unfold awF
    go_simp
    exact ⟨g,by simp [awF,upd,sel_true],hW.same 3 (by simp [awKeys]),by simpa [upd] using hz⟩
   ·rintro b a W h0 hn ⟨g,rfl,hW,hz⟩
    have hb3:b 3=true:=hn 3 (zB (by kernel_rfl))
    unfold awF
    simp only [sel_true,hb3]
    go_simp
    exact ⟨g,by simp [awF,upd,sel_true,hb3],hW.same 4 (by simp [awKeys]),by simpa [upd] using hz⟩
   ·rintro b a W h0 hn ⟨g,rfl,hW,hz⟩
    have hb0:b 0=true:=hn 0 (zB (by kernel_rfl))
    have hb4:b 4=true:=hn 4 (zB (by kernel_rfl))
    obtain ⟨W',hr,hW'⟩:=hW.insert hb0 5 2 (by simp [awKeys])
    rw [show wayF a1 a0_1 od 2=(!a1) from rfl] at hr
    unfold awF
    simp only [sel_true,hb0,hb4]
    go_simp
    exact ⟨g,by simp [awF,upd,sel_true,hb0,hb4],hW',by simpa [upd] using hz⟩
   ·rintro b a W h0 hn ⟨g,rfl,hW,hz⟩
    unfold awF
    go_simp
    exact ⟨g,by simp [awF,upd,sel_true],hW.same 6 (by simp [awKeys]),by simpa [upd] using hz⟩
   ·rintro b a W h0 hn ⟨g,rfl,hW,hz⟩
    have hb0:b 0=true:=hn 0 (zB (by kernel_rfl))
    have hb6:b 6=true:=hn 6 (zB (by kernel_rfl))
    obtain ⟨W',hr,hW'⟩:=hW.insert hb0 7 3 (by simp [awKeys])
    rw [show wayF a1 a0_1 od 3=(a1) from rfl] at hr
    unfold awF
    simp only [sel_true,hb0,hb6]
    go_simp
    exact ⟨g,by simp [awF,upd,sel_true,hb0,hb6],hW',by simpa [upd] using hz⟩
   ·rintro b a W h0 hn ⟨g,rfl,hW,hz⟩
    unfold awF
    go_simp
    exact ⟨g,by simp [awF,upd,sel_true],hW.same 8 (by simp [awKeys]),by simpa [upd] using hz⟩
   ·rintro b a W h0 hn ⟨g,rfl,hW,hz⟩
    have hb8:b 8=true:=hn 8 (zB (by kernel_rfl))
    obtain ⟨hc0,hc1,hc2⟩:=awW_cells hW
    unfold awF
    simp only [sel_true,hb8]
    go_simp
    refine (nearer_calls W _ a0_1 (true) hc1).mono ?_
    rintro e w' ⟨rfl,rfl⟩
    exact ⟨g,by simp [awF,upd,sel_true,hb8],hW.same 9 (by simp [awKeys]),by simpa [upd] using hz⟩
   ·rintro b a W h0 hn ⟨g,rfl,hW,hz⟩
    have hb0:b 0=true:=hn 0 (zB (by kernel_rfl))
    have hb9:b 9=true:=hn 9 (zB (by kernel_rfl))
    obtain ⟨W',hr,hW'⟩:=hW.insert hb0 10 4 (by simp [awKeys])
    rw [show wayF a1 a0_1 od 4=(nearF a0_1 true) from rfl] at hr
    unfold awF
    simp only [sel_true,hb0,hb9]
    go_simp
    exact ⟨g,by simp [awF,upd,sel_true,hb0,hb9],hW',by simpa [upd] using hz⟩
   ·rintro b a W h0 hn ⟨g,rfl,hW,hz⟩
    unfold awF
    go_simp
    exact ⟨g,by simp [awF,upd,sel_true],hW.same 11 (by simp [awKeys]),by simpa [upd] using hz⟩
   ·rintro b a W h0 hn ⟨g,rfl,hW,hz⟩
    have hb11:b 11=true:=hn 11 (zB (by kernel_rfl))
    obtain ⟨hc0,hc1,hc2⟩:=awW_cells hW
    unfold awF
    simp only [sel_true,hb11]
    go_simp
    refine (nearer_calls W _ a0_1 (false) hc1).mono ?_
    rintro e w' ⟨rfl,rfl⟩
    exact ⟨g,by simp [awF,upd,sel_true,hb11],hW.same 12 (by simp [awKeys]),by simpa [upd] using hz⟩
   ·rintro b a W h0 hn ⟨g,rfl,hW,hz⟩
    have hb0:b 0=true:=hn 0 (zB (by kernel_rfl))
    have hb12:b 12=true:=hn 12 (zB (by kernel_rfl))
    obtain ⟨W',hr,hW'⟩:=hW.insert hb0 13 5 (by simp [awKeys])
    rw [show wayF a1 a0_1 od 5=(nearF a0_1 false) from rfl] at hr
    unfold awF
    simp only [sel_true,hb0,hb12]
    go_simp
    exact ⟨g,by simp [awF,upd,sel_true,hb0,hb12],hW',by simpa [upd] using hz⟩
   ·rintro b a W h0 hn ⟨g,rfl,hW,hz⟩
    unfold awF
    go_simp
    exact ⟨g,by simp [awF,upd,sel_true],hW.same 14 (by simp [awKeys]),by simpa [upd] using hz⟩
   ·rintro b a W h0 hn ⟨g,rfl,hW,hz⟩
    obtain ⟨hc0,hc1,hc2⟩:=awW_cells hW
    unfold awF
    go_simp
    exact ⟨g,by simp [awF,upd,sel_true],hW.same 15 (by simp [awKeys]),by simpa [upd] using hz⟩
   ·rintro b a W h0 hn ⟨g,rfl,hW,hz⟩
    have hb15:b 15=true:=hn 15 (zB (by kernel_rfl))
    obtain ⟨hc0,hc1,hc2⟩:=awW_cells hW
    unfold awF
    simp only [sel_true,hb15]
    go_simp
    refine (hOdd W hW.1).mono ?_
    rintro e w' ⟨rfl,hB'⟩
    exact ⟨g,by simp [awF,upd,sel_true,hb15],(hW.same 16 (by simp [awKeys])).below hB',by simpa [upd] using hz⟩
   ·rintro b a W h0 hn ⟨g,rfl,hW,hz⟩
    have hb14:b 14=true:=hn 14 (zB (by kernel_rfl))
    have hb16:b 16=true:=hn 16 (zB (by kernel_rfl))
    obtain ⟨hc0,hc1,hc2⟩:=awW_cells hW
    unfold awF
    simp only [sel_true,hb14,hb16]
    go_simp
    refine (nearer_calls W _ a0_1 (od) hc1).mono ?_
    rintro e w' ⟨rfl,rfl⟩
    exact ⟨g,by simp [awF,upd,sel_true,hb14,hb16],hW.same 17 (by simp [awKeys]),by simpa [upd] using hz⟩
   ·rintro b a W h0 hn ⟨g,rfl,hW,hz⟩
    have hb0:b 0=true:=hn 0 (zB (by kernel_rfl))
    have hb17:b 17=true:=hn 17 (zB (by kernel_rfl))
    obtain ⟨W',hr,hW'⟩:=hW.insert hb0 18 6 (by simp [awKeys])
    rw [show wayF a1 a0_1 od 6=(nearF a0_1 od) from rfl] at hr
    unfold awF
    simp only [sel_true,hb0,hb17]
    go_simp
    exact ⟨g,by simp [awF,upd,sel_true,hb0,hb17],hW',by simpa [upd] using hz⟩
   ·rintro b a W h0 hn ⟨g,rfl,hW,hz⟩
    unfold awF
    go_simp
    exact ⟨g,by simp [awF,upd,sel_true],hW.same 19 (by simp [awKeys]),by simpa [upd] using hz⟩
   ·rintro b a W h0 hn ⟨g,rfl,hW,hz⟩
    obtain ⟨hc0,hc1,hc2⟩:=awW_cells hW
    unfold awF
    go_simp
    exact ⟨g,by simp [awF,upd,sel_true],hW.same 20 (by simp [awKeys]),by simpa [upd] using hz⟩
   ·rintro b a W h0 hn ⟨g,rfl,hW,hz⟩
    have hb20:b 20=true:=hn 20 (zB (by kernel_rfl))
    obtain ⟨hc0,hc1,hc2⟩:=awW_cells hW
    unfold awF
    simp only [sel_true,hb20]
    go_simp
    refine (hOdd W hW.1).mono ?_
    rintro e w' ⟨rfl,hB'⟩
    exact ⟨g,by simp [awF,upd,sel_true,hb20],(hW.same 21 (by simp [awKeys])).below hB',by simpa [upd] using hz⟩
   ·rintro b a W h0 hn ⟨g,rfl,hW,hz⟩
    have hb21:b 21=true:=hn 21 (zB (by kernel_rfl))
    unfold awF
    simp only [sel_true,hb21]
    go_simp
    exact ⟨g,by simp [awF,upd,sel_true,hb21],hW.same 22 (by simp [awKeys]),by simpa [upd] using hz⟩
   ·rintro b a W h0 hn ⟨g,rfl,hW,hz⟩
    have hb19:b 19=true:=hn 19 (zB (by kernel_rfl))
    have hb22:b 22=true:=hn 22 (zB (by kernel_rfl))
    obtain ⟨hc0,hc1,hc2⟩:=awW_cells hW
    unfold awF
    simp only [sel_true,hb19,hb22]
    go_simp
    refine (nearer_calls W _ a0_1 (!od) hc1).mono ?_
    rintro e w' ⟨rfl,rfl⟩
    exact ⟨g,by simp [awF,upd,sel_true,hb19,hb22],hW.same 23 (by simp [awKeys]),by simpa [upd] using hz⟩
   ·rintro b a W h0 hn ⟨g,rfl,hW,hz⟩
    have hb0:b 0=true:=hn 0 (zB (by kernel_rfl))
    have hb23:b 23=true:=hn 23 (zB (by kernel_rfl))
    obtain ⟨W',hr,hW'⟩:=hW.insert hb0 24 7 (by simp [awKeys])
    rw [show wayF a1 a0_1 od 7=(nearF a0_1 !od) from rfl] at hr
    unfold awF
    simp only [sel_true,hb0,hb23]
    go_simp
    exact ⟨g,by simp [awF,upd,sel_true,hb0,hb23],hW',by simpa [upd] using hz⟩
   ·rintro b a W h0 hn ⟨g,rfl,hW,hz⟩
    have hb0:b 0=true:=hn 0 (zB (by kernel_rfl))
    unfold awF
    simp only [sel_true,hb0]
    go_simp
    exact ⟨g,by simp [awF,upd,sel_true,hb0],hW.same 25 (by simp [awKeys]),by simp [upd,hb0]⟩
   ·rintro b a W h0 hn ⟨g,rfl,hW,hz⟩
    have hb25:b 25=true:=hn 25 (zB (by kernel_rfl))
    unfold awF
    simp only [sel_true,hb25]
    go_simp
    exact ⟨g,by simp [awF,upd,sel_true,hb25],hW.same 26 (by simp [awKeys]),fun h=>by have h2:=hz (by simpa [upd] using h);simp [hb25] at h2⟩
   -- END STEPS
def round_figures.f (n:Int):Option (List Int):=if -9223372036854775808≤n∧n≤9223372036854775807 then some ((bytesOf (numText n)).map lessB) else none
set_option maxHeartbeats 1000000 in
theorem round_figures.calls (a0:Int)(r:List Int)(w:World)(hG:GL w)(h:round_figures.f a0=some r) :
    Calls Tryz.prog 119 #[.int .i64 a0] w fun e w'=>∃ v0_:Value,e = .returned (v0_)∧Kd.V (Kd.int .u8) 5 w' w.heap.size (fun k_=>w.heap.size≤k_) v0_ r∧Below w.heap.size w w':=by
 unfold round_figures.f at h
 by_cases hb : -9223372036854775808≤a0∧a0≤9223372036854775807
 rotate_left
 ·rw [if_neg hb] at h
  cases h
 rw [if_pos hb] at h
 obtain rfl:=zE h
 clear h
 have hsz:=numText_size a0 hb.1 hb.2
 have hIt:=strconv_Itoa.calls a0 (numText a0) w hG (by unfold strconv_Itoa.f numText;rw [if_pos hb])
 have hlen:(bytesOf (numText a0)).length=(numText a0).size:=bytesOf_length _
 clear hb hG
 generalize numText a0=s at *
 have kc:=fun (W:World)=>print_bytes (P:=Tryz.prog) 9 27 5 Tryz.underlying9 Tryz.underlying27 Tryz.underlying5 s W
 have HSZ:=zA hsz
 have HLEN:=zA hlen
 clear hsz hlen
 go_enter Tryz.func119,Tryz.ntmps119
 go_wp2_with (go_at_call 76;refine hIt.mono ?_;rintro e w1 ⟨rfl,hb1⟩;have HB1:=zA hb1;clear hb1)
 have H0:=zA (MixSt.start w1 s)
 have HB2:=zA (bytes_below HB1.out HB1.out.size 5 s)
 go_loopg [4,10] s.size (fun gg _ s12 wr=>∃ k:Nat,k≤s.size∧s.size - k≤gg∧s12 = .int .i64 k∧Aside0 (MixSt w1.heap.size (bytesOf s) k wr)∧Aside0 (Below w.heap.size w wr))
 case atStart=>exact ⟨0,Nat.zero_le _,by omega,rfl,H0,HB2⟩
 case round=>
  obtain ⟨k,hk,hg,rfl,HM,HB⟩:=hrel
  have hs21:=HSZ.out
  by_cases hlt:k<s.size
  ·have hlt1:=zC hlt
   obtain ⟨hcell,hfz⟩:=HM.out.2 k (by rw [HLEN.out];exact hlt)
   rw [if_neg (Nat.lt_irrefl k)] at hcell
   have HP:=zA (HM.out.put (by rw [HLEN.out];exact hlt))
   generalize hy:rd (bytesOf s) (k:Int)=y at hcell HP
   clear hy
   go_wp2
   go_roundg (s.size - (k+1))
   case measure=>omega
   case rel=>exact ⟨k+1,by omega,by omega,by go_num,HP,⟨Below.setCell HB.out HB1.out.size _⟩⟩
  have:k=s.size:=by omega
  subst this
  have hlt1:=zD hlt
  go_wp2
  go_ret
  have hd:=HM.out
  rw [← HLEN.out] at hd
  have hV:=hd.done w.heap.size HB1.out.size (grownCap w1 s.size 0 5) (by rw [HLEN.out];exact grownCap_ge _ _ _ _) (by rw [HLEN.out];omega)
  rw [HLEN.out] at hV
  exact ⟨_,rfl,hV,HB.out⟩
end Go.Proofs.YtklebhlanidloaaGreatDoor.PZ
end
