/- Texts of this seat, joined. Conditions: none beyond each statement's own. -/
import Derived.Test.YtgfajgkjbckkgaaGreatDoorPb13
import Derived.Test.YtgfajgkjbckkgaaGreatDoorPb12
set_option linter.all false
section
noncomputable section
namespace Go.Proofs.YtgfajgkjbckkgaaGreatDoor.PZ
open Go.RowKit Go.Proofs.YtgfajgkjbckkgaaGreatDoorW.PrintWords Go.Proofs.YtgfajgkjbckkgaaGreatDoorW.PrintLast Go.Proofs.YtgfajgkjbckkgaaGreatDoorW.PrintMore
attribute [local go_sem] max2_int min2_int max_two min_two max_three min_three max_four min_four   -- for this text's walks alone
mutual
def exergueref11_holds.j0:Nat→List Int→Int→Int→Bool→List (S57)→Option (Bool)
 | 0,_,_,_,_,_=>none
 | k+1,x5,aB,aC,au,ap=>exergueref11_holds.l0 k x5 0 aB aC au ap
def exergueref11_holds.l0:Nat→List Int→Int→Int→Int→Bool→List (S57)→Option (Bool)
 | 0,_,_,_,_,_,_=>none
 | k+1,x5,x7,aB,aC,au,ap=>if x7<(ap.length:Int) then (if 0≤x7 then ((exergueref07_In.f k x5 ((rd_T57 ap x7).f0) ((rd_T57 ap x7).f1)).bind fun bk=>(if bk=true then (some (!au)) else (exergueref11_holds.l0 k x5 (wrap64 (x7+1)) aB aC au ap))) else (none)) else (some au)
end
def exergueref11_holds.f (k:Nat)(an:Int)(al:Int)(ao:Bool)(ad:List (S57))(aq:List Int)(ar:List Int)(av:Int)(aw:Int):Option (Bool):=(exergueref07_Operand.f k aq ar av aw an).bind fun ax=>(if ax.2=true then (if al>0 then ((exergueref07_Mod.f k ax.1 al).bind fun aL=>((exergueref11_figures.f k aL).bind fun aR=>(exergueref11_holds.j0 k aR an al ao ad))) else (exergueref11_holds.j0 k ax.1 an al ao ad)) else (some ao))
theorem exergueref11_holds.mono_l:∀ k,(∀ y0 y1 y2 y3 y4,LeO (exergueref11_holds.j0 k y0 y1 y2 y3 y4) (exergueref11_holds.j0 (k+1) y0 y1 y2 y3 y4))∧(∀ y0 y1 y2 y3 y4 y5,LeO (exergueref11_holds.l0 k y0 y1 y2 y3 y4 y5) (exergueref11_holds.l0 (k+1) y0 y1 y2 y3 y4 y5))
 | 0=>⟨fun _ _ _ _ _ r h=>by simp [exergueref11_holds.j0] at h,fun _ _ _ _ _ _ r h=>by simp [exergueref11_holds.l0] at h⟩
 | k+1=>by
  obtain ⟨ih0,ih1⟩:=exergueref11_holds.mono_l k
  refine ⟨?_,?_⟩
  ·intro y0 y1 y2 y3 y4
   unfold exergueref11_holds.j0
   repeat' first|(with_reducible first|apply ih0|apply ih1|apply exergueref07_In.mono|apply exergueref07_Mod.mono|apply exergueref07_Operand.mono|apply exergueref11_figures.mono|apply LeO.refl|apply LeO.none|refine LeO.ite ?_ ?_|refine LeO.bind ?_ (fun _=>?_))|apply ih0|apply ih1|apply exergueref07_In.mono|apply exergueref07_Mod.mono|apply exergueref07_Operand.mono|apply exergueref11_figures.mono|apply LeO.none
  ·intro y0 y1 y2 y3 y4 y5
   unfold exergueref11_holds.l0
   repeat' first|(with_reducible first|apply ih0|apply ih1|apply exergueref07_In.mono|apply exergueref07_Mod.mono|apply exergueref07_Operand.mono|apply exergueref11_figures.mono|apply LeO.refl|apply LeO.none|refine LeO.ite ?_ ?_|refine LeO.bind ?_ (fun _=>?_))|apply ih0|apply ih1|apply exergueref07_In.mono|apply exergueref07_Mod.mono|apply exergueref07_Operand.mono|apply exergueref11_figures.mono|apply LeO.none
theorem exergueref11_holds.mono:∀ a0 a1 a2 a3 a4 a5 a6 a7 k,LeO (exergueref11_holds.f k a0 a1 a2 a3 a4 a5 a6 a7) (exergueref11_holds.f (k+1) a0 a1 a2 a3 a4 a5 a6 a7):=by
 intro a0 a1 a2 a3 a4 a5 a6 a7 k
 obtain ⟨ih0,ih1⟩:=exergueref11_holds.mono_l k
 unfold exergueref11_holds.f
 repeat' first|(with_reducible first|apply ih0|apply ih1|apply exergueref07_In.mono|apply exergueref07_Mod.mono|apply exergueref07_Operand.mono|apply exergueref11_figures.mono|apply LeO.refl|apply LeO.none|refine LeO.ite ?_ ?_|refine LeO.bind ?_ (fun _=>?_))|apply ih0|apply ih1|apply exergueref07_In.mono|apply exergueref07_Mod.mono|apply exergueref07_Operand.mono|apply exergueref11_figures.mono|apply LeO.none
def exergueref11_holds.T9:Bool×List (List Nat×List Nat):=(true,[([],[]),([],[]),([1],[1]),([],[]),([2,3],[2,3]),([4],[4]),([5],[5]),([],[]),([7],[7]),([],[]),([8,9],[8,9]),([10],[10]),([11],[11]),([0,6,12],[0,6,12]),([13,13,0,1,2,3,4,5,6,7,8,9,10,11,12,13],[13])])
def exergueref11_holds.B9:List Nat:=[0,0,2,0,14,30,62,0,128,0,896,1920,3968,8191,16383]
theorem exergueref11_holds.tab9:rtab .any (opsOf Tryz.f65 9)=exergueref11_holds.T9:=by kernel_rfl
theorem exergueref11_holds.bits9:waitsOk exergueref11_holds.T9.2 exergueref11_holds.B9=true:=by kernel_rfl
set_option maxHeartbeats 8000000 in
set_option maxRecDepth 100000 in
theorem exergueref11_holds.calls (k:Nat)(an:Int)(al:Int)(ao:Bool)(aS:Option Addr)(aE:Nat)(ad:List (S57))(aF:Option Addr)(aG:Nat)(aq:List Int)(aH:Option Addr)(aI:Nat)(ar:List Int)(av:Int)(aw:Int)(r:Bool)(w:World)(aV:Kd.C k57 w aS ad.length ad)(aW:ad.length≤aE)(aX:Kd.C (Kd.int .u8) w aF aq.length aq)(aY:aq.length≤aG)(aZ:Kd.C (Kd.int .u8) w aH ar.length ar)(a8:ar.length≤aI)(h:exergueref11_holds.f k an al ao ad aq ar av aw=some r) :
  Calls Tryz.prog 65 #[.agg #[.int .u8 an,.int .i64 al,.bool ao,.slice aS ad.length aE],.agg #[.slice aF aq.length aG,.slice aH ar.length aI,.int .i64 av,.int .i64 aw]] w fun e w'=>e = .returned (.bool r)∧Below w.heap.size w w':=by
 have hu60:=Tryz.underlying60
 have hu36:=Tryz.underlying36
 have aQ:=zS aV
 have bL:=zS aW
 clear aV aW
 have a9:=zS aX
 have ba:=zS aY
 clear aX aY
 have bb:=zS aZ
 have bc:=zS a8
 clear aZ a8
 have HB:=zS (Below.refl w.heap.size w)
 have H:((exergueref07_Operand.f k aq ar av aw an).bind fun ax=>(if ax.2=true then (if al>0 then ((exergueref07_Mod.f k ax.1 al).bind fun aL=>((exergueref11_figures.f k aL).bind fun aR=>(exergueref11_holds.j0 k aR an al ao ad))) else (exergueref11_holds.j0 k ax.1 an al ao ad)) else (some ao)))=some r:=h
 clear h
 replace H:=Option.bind_eq_some_iff.mp H
 obtain ⟨⟨aT,bC⟩,A30,H⟩:=H
 try dsimp only at H
 have A3:=zS A30
 clear A30
 by_cases c4:bC=true
 rotate_left
 ·replace c4:=Bool.eq_false_iff.mpr c4
  subst c4
  rw [if_neg (show ¬ (false=true) by decide)] at H
  obtain rfl:=zE H
  go_enter Tryz.func65,Tryz.ntmps65
  go_wp2_with (first|((with_reducible refine gate_dst (N:=2) rfl ?_);refine box_event ?hg (N:=2) ?hd (cs:=#[.int .u8 an,.int .i64 al,.bool ao,.slice aS ad.length aE]) (t:=60) ?hr ?_;(case hd=>rfl);(case hg=>rfl);(case hr=>first|(go_simp;done)|(go_simp;rfl));intro am hg w37 hbox hb;have aa:=zS (hbox);have aJ:=bg HB hg;replace HB:=bs HB hb;clear hb hbox hg)|((with_reducible refine gate_dst (N:=3) rfl ?_);refine box_event ?hg (N:=3) ?hd (cs:=#[.slice aF aq.length aG,.slice aH ar.length aI,.int .i64 av,.int .i64 aw]) (t:=36) ?hr ?_;(case hd=>rfl);(case hg=>rfl);(case hr=>first|(go_simp;done)|(go_simp;rfl));intro ay hg w38 hbox hb;have ac:=zS (hbox);have aK:=bg HB hg;replace HB:=bs HB hb;have ai:=kn aa hg;have aj:=km aa hg;replace aa:=kb aa hb;clear hb hbox hg;have bM:=aj.out;have bN:=ai.out;have bO:=blkc4 ac.out;have bP:=blkf4 ac.out;have bR:=blkc4 aa.out;have bS:=blkf4 aa.out)|((with_reducible refine gate_callee (f:=40) rfl ?_);refine gL (some 13) Tryz.func40 #[.agg #[.slice aF aq.length aG,.slice aH ar.length aI,.int .i64 av,.int .i64 aw],.int .u8 an] ?_;(with_reducible refine (exergueref07_Operand.calls k (fun k_=>k_<w.heap.size) _ _ aq (fun k_=>k_<w.heap.size) _ _ ar av aw an aT false _ ?side1 ?side2 A3.out).mono ?_);(case side1=>exact Kd.V_mk ba.out (Kd.F_below (Kd.C_F (Kd.heap_int .u8) a9.out) (bQ HB)));(case side2=>exact Kd.V_mk bc.out (Kd.F_below (Kd.C_F (Kd.heap_int .u8) bb.out) (bQ HB)));rintro e w42 ⟨bD,rfl,ho0,hb⟩;refine ⟨_,rfl,?_⟩;have az:=zS (Kd.V_lower (Kd.V_mono (ok':=fun k_=>k_≠am∧k_≠ay) ho0 (fun k_ hk_=>⟨Or.elim hk_ (fun hs_=>Or.elim hs_ (fun hs_=>fun e_=>Nat.not_le.2 hs_ (by rw [e_];exact aJ.out)) (fun hs_=>fun e_=>Nat.not_le.2 hs_ (by rw [e_];exact aJ.out))) (fun hn_=>(Kd.freshB (ko aa) k_ hn_)),Or.elim hk_ (fun hs_=>Or.elim hs_ (fun hs_=>fun e_=>Nat.not_le.2 hs_ (by rw [e_];exact aK.out)) (fun hs_=>fun e_=>Nat.not_le.2 hs_ (by rw [e_];exact aK.out))) (fun hn_=>(Kd.freshB (ko ac) k_ hn_))⟩)) (bz HB));replace aa:=kb aa hb;replace ac:=kb ac hb;replace HB:=bs HB hb;(try clear hb);(try clear ho0);have bT:=blkc4 aa.out;have bU:=blkf4 aa.out))
  go_ret
  exact ⟨by first|rfl|(simp <;> rfl)|(simp [*] <;> rfl),bQ HB⟩
 subst c4
 rw [if_pos rfl] at H
 have HC5:=zS H
 clear H
 go_enter Tryz.func65,Tryz.ntmps65
 go_upto_if 22 with (first|((with_reducible refine gate_dst (N:=2) rfl ?_);refine box_event ?hg (N:=2) ?hd (cs:=#[.int .u8 an,.int .i64 al,.bool ao,.slice aS ad.length aE]) (t:=60) ?hr ?_;(case hd=>rfl);(case hg=>rfl);(case hr=>first|(go_simp;done)|(go_simp;rfl));intro am hg w6 hbox hb;have aa:=zS (hbox);have aJ:=bg HB hg;replace HB:=bs HB hb;clear hb hbox hg)|((with_reducible refine gate_dst (N:=3) rfl ?_);refine box_event ?hg (N:=3) ?hd (cs:=#[.slice aF aq.length aG,.slice aH ar.length aI,.int .i64 av,.int .i64 aw]) (t:=36) ?hr ?_;(case hd=>rfl);(case hg=>rfl);(case hr=>first|(go_simp;done)|(go_simp;rfl));intro ay hg w7 hbox hb;have ac:=zS (hbox);have aK:=bg HB hg;replace HB:=bs HB hb;have ai:=kn aa hg;have aj:=km aa hg;replace aa:=kb aa hb;clear hb hbox hg;have ce:=aj.out;have cf:=ai.out;have bo:=blkc4 ac.out;have bp:=blkf4 ac.out;have bd:=blkc4 aa.out;have be:=blkf4 aa.out)|((with_reducible refine gate_callee (f:=40) rfl ?_);refine gL (some 13) Tryz.func40 #[.agg #[.slice aF aq.length aG,.slice aH ar.length aI,.int .i64 av,.int .i64 aw],.int .u8 an] ?_;(with_reducible refine (exergueref07_Operand.calls k (fun k_=>k_<w.heap.size) _ _ aq (fun k_=>k_<w.heap.size) _ _ ar av aw an aT true _ ?side1 ?side2 A3.out).mono ?_);(case side1=>exact Kd.V_mk ba.out (Kd.F_below (Kd.C_F (Kd.heap_int .u8) a9.out) (bQ HB)));(case side2=>exact Kd.V_mk bc.out (Kd.F_below (Kd.C_F (Kd.heap_int .u8) bb.out) (bQ HB)));rintro e w11 ⟨bD,rfl,ho0,hb⟩;refine ⟨_,rfl,?_⟩;have az:=zS (Kd.V_lower (Kd.V_mono (ok':=fun k_=>k_≠am∧k_≠ay) ho0 (fun k_ hk_=>⟨Or.elim hk_ (fun hs_=>Or.elim hs_ (fun hs_=>fun e_=>Nat.not_le.2 hs_ (by rw [e_];exact aJ.out)) (fun hs_=>fun e_=>Nat.not_le.2 hs_ (by rw [e_];exact aJ.out))) (fun hn_=>(Kd.freshB (ko aa) k_ hn_)),Or.elim hk_ (fun hs_=>Or.elim hs_ (fun hs_=>fun e_=>Nat.not_le.2 hs_ (by rw [e_];exact aK.out)) (fun hs_=>fun e_=>Nat.not_le.2 hs_ (by rw [e_];exact aK.out))) (fun hn_=>(Kd.freshB (ko ac) k_ hn_))⟩)) (bz HB));replace aa:=kb aa hb;replace ac:=kb ac hb;replace HB:=bs HB hb;(try clear hb);(try clear ho0);have bf:=blkc4 aa.out;have bh:=blkf4 aa.out))
 (try simp only [Act.put,sA,sB,sC])
 go_cut [5] (fun v5 wc=>∃ (kq:Nat) (aD:List Int),Sd (exergueref11_holds.j0 kq aD an al ao ad=some r)∧Sd (kq≤k)∧Sd (Kd.V (Kd.int .u8) 5 wc w.heap.size (fun k_=>k_≠am∧k_≠ay) v5 aD)∧Sd (wc.heap[am]?=some (.cells #[.int .u8 an,.int .i64 al,.bool ao,(.slice aS ad.length aE)] 60 (0,0)))∧Sd (wc.heap[ay]?=some (.cells #[(.slice aF aq.length aG),(.slice aH ar.length aI),.int .i64 av,.int .i64 aw] 36 (0,0)))∧Sd (Below w.heap.size w wc))
 case first=>
  have H:=HC5.out
  clear HC5
  by_cases c13:al>0
  rotate_left
  ·rw [if_neg c13] at H
   have aA:decide (0<al)=false:=zD c13
   clear c13
   (first|rw [aA]|(simp only [i64_w,i32_w];rw [aA])|rw [bq]|skip)
   have H':=zS H
   clear H
   go_wp2
   go_meet
   case rel=>exact ⟨_,(aT),H',⟨by first|omega|exact Nat.le_refl _⟩,⟨vo az⟩,⟨ko aa⟩,⟨ko ac⟩,⟨bQ HB⟩⟩
  rw [if_pos c13] at H
  have aA:decide (0<al)=true:=zC c13
  clear c13
  (first|rw [aA]|(simp only [i64_w,i32_w];rw [aA])|rw [bq]|skip)
  replace H:=Option.bind_eq_some_iff.mp H
  obtain ⟨aL,br,H⟩:=H
  try dsimp only at H
  have A14:=zS br
  clear br
  replace H:=Option.bind_eq_some_iff.mp H
  obtain ⟨aR,bu,H⟩:=H
  try dsimp only at H
  have A15:=zS bu
  clear bu
  have H':=zS H
  clear H
  have bV:=ai.out
  have bW:=aj.out
  have bi:=blkc4 aa.out
  have bj:=blkf4 aa.out
  obtain ⟨bE,bF,bG⟩:=Kd.V_slice az.out
  subst bG
  go_wp2_with (first|((with_reducible refine gate_callee (f:=41) rfl ?_);refine gL (some 26) Tryz.func41 #[.slice bE aT.length bF,.int .i64 al] ?_;(with_reducible refine (exergueref07_Mod.calls k _ _ aT al aL _ (vc az) (vl az) A14.out).mono ?_);rintro e w' ⟨rfl,⟨nd,rfl⟩⟩;refine ⟨_,rfl,?_⟩)|((with_reducible refine gate_callee (f:=87) rfl ?_);refine gL (some 27) Tryz.func87 #[.int .i64 aL] ?_;(with_reducible refine (exergueref11_figures.calls k aL aR _ A15.out).mono ?_);rintro e w19 ⟨cg,rfl,ho0,hb⟩;refine ⟨_,rfl,?_⟩;replace az:=zS (Kd.V_elder' (vo az) (Kd.R_base ho0) hb);have bv:=zS (Kd.R_lower ho0 (bz HB));replace aa:=kb aa hb;replace ac:=kb ac hb;replace HB:=bs HB hb;(try clear hb);(try clear ho0)))
  go_meet
  case rel=>exact ⟨_,(aR),H',⟨by first|omega|exact Nat.le_refl _⟩,⟨Kd.R_V (by (with_reducible repeat (first|apply Kd.R_alloc|apply Kd.R_drewN|apply Kd.R_drew));exact Kd.R_mono (Kd.R_types (Kd.R_types bv.out aa.out (by decide)) ac.out (by decide)) (fun _ hk=>⟨hk.1.2,hk.2⟩))⟩,⟨ko aa⟩,⟨ko ac⟩,⟨bQ HB⟩⟩
 case rest=>
  clear HC5
  try clear c1
  try clear p2
  try clear c4
  try clear c6
  try clear c8
  try clear c13
  try clear aA
  try clear c16
  try clear bd
  try clear bf
  try clear bi
  try clear bo
  try clear be
  try clear bh
  try clear bj
  try clear bp
  obtain ⟨kq,aD,HA,HJ4,HO_5,aa,ac,HB⟩:=hcut
  cases kq with
  | zero=>exact absurd HA.out (by simp [exergueref11_holds.j0])
  | succ kj4=>
   have H:=HA.out
   clear HA
   simp only [exergueref11_holds.j0] at H
   have H':=zS H
   clear H
   go_wp2
   go_loopg [7] kj4 (fun kq v7 w'=>∃ (ab:Int),v7 = .int .i64 ab∧Sd (exergueref11_holds.l0 kq aD ab an al ao ad=some r)∧Sd (kq≤kj4)∧Sd (Kd.V (Kd.int .u8) 5 w' w.heap.size (fun k_=>k_≠am∧k_≠ay) u5 aD)∧Sd (w'.heap[am]?=some (.cells #[.int .u8 an,.int .i64 al,.bool ao,(.slice aS ad.length aE)] 60 (0,0)))∧Sd (w'.heap[ay]?=some (.cells #[(.slice aF aq.length aG),(.slice aH ar.length aI),.int .i64 av,.int .i64 aw] 36 (0,0)))∧Sd (Below w.heap.size w w'))
   case atStart=>exact ⟨(0),(by first|rfl|(simp;done)|(simp [*];done)),H',⟨Nat.le_refl _⟩,⟨vo HO_5⟩,⟨ko aa⟩,⟨ko ac⟩,⟨bQ HB⟩⟩
   case round=>
    clear H'
    try clear c1
    try clear p2
    try clear c4
    try clear c6
    try clear c8
    try clear c13
    try clear aA
    try clear c16
    try clear bd
    try clear bf
    try clear bi
    try clear bo
    try clear be
    try clear bh
    try clear bj
    try clear bp
    try clear p2
    obtain ⟨ab,rfl,HA,HK2,HO_5,aa,ac,HB⟩:=hrel
    cases gk with
    | zero=>exact absurd HA.out (by simp [exergueref11_holds.l0])
    | succ k2=>
     have H:=HA.out
     clear HA
     simp only [exergueref11_holds.l0] at H
     by_cases c20:ab<(ad.length:Int)
     rotate_left
     ·rw [if_neg c20] at H
      have bw:=zD c20
      clear c20
      obtain rfl:=zE H
      have bX:=ai.out
      have bY:=aj.out
      have b0:=blkc4 aa.out
      have b1:=blkf4 aa.out
      go_wp2
      go_ret
      exact ⟨by first|rfl|(simp <;> rfl)|(simp [*] <;> rfl),bQ HB⟩
     rw [if_pos c20] at H
     have bw:=zC c20
     clear c20
     by_cases c21:0≤ab
     rotate_left
     ·rw [if_neg c21] at H
      exact absurd H (by simp)
     rw [if_pos c21] at H
     have b2:=zC c21
     clear c21
     replace H:=Option.bind_eq_some_iff.mp H
     obtain ⟨bk,bx,H⟩:=H
     try dsimp only at H
     have A22:=zS bx
     clear bx
     by_cases c23:bk=true
     ·subst c23
      rw [if_pos rfl] at H
      obtain rfl:=zE H
      have b3:=ai.out
      have b4:=aj.out
      have b5:=blkc4 aa.out
      have b6:=blkf4 aa.out
      try go_wp2
      replace HO_5:=zS (Kd.V_drew HO_5.out)
      replace aa:=zS (blk_drew aa.out)
      replace ac:=zS (blk_drew ac.out)
      replace HB:=zS (below_drew1 HB.out)
      have aM:0≤(ab:Int):=zB (by first|(with_reducible assumption)|assumption)
      have aN:ab<(ad.length:Int):=zB (by first|(with_reducible assumption)|assumption)
      obtain ⟨ak,bm,ae,af⟩:=at_T57 aQ.out ab aM aN
      have hw334_1:=af
      have hw334_0:=ae
      cases bm
      replace ae:=(HB.out.cell (World.block_lt_of_cell? w _ ae)).trans ae
      replace af:=(HB.out.cell (World.block_lt_of_cell? w _ af)).trans af
      replace aM:=eq_true aM
      replace aN:=eq_true aN
      have aO:0≤(ab:Int):=zB (by first|(with_reducible assumption)|assumption)
      have aP:ab<(ad.length:Int):=zB (by first|(with_reducible assumption)|assumption)
      obtain ⟨aU,bn,ag,ah⟩:=at_T57 aQ.out ab aO aP
      have hw335_1:=ah
      have hw335_0:=ag
      obtain rfl:ak=aU:=(by injection bn)
      replace ag:=(HB.out.cell (World.block_lt_of_cell? w _ ag)).trans ag
      replace ah:=(HB.out.cell (World.block_lt_of_cell? w _ ah)).trans ah
      replace aO:=eq_true aO
      replace aP:=eq_true aP
      obtain ⟨bH,bI,bA⟩:=Kd.V_slice HO_5.out
      (first|subst bA|(injection bA with f1_ f2_ f3_;have f4_:=f1_.symm;have f5_:=f3_.symm;clear f1_ f2_ f3_;subst f4_;subst f5_))
      refine start_ (n:=15) (S:=fun w'=>w'.cell? ⟨am,0,none⟩=some (.int .u8 an)∧w'.cell? ⟨am,1,none⟩=some (.int .i64 al)∧w'.cell? ⟨am,2,none⟩=some (.bool ao)∧w'.cell? ⟨am,3,none⟩=some (.slice (some ak) ad.length aE)∧w'.cell? (ak.add ((ab).toNat * 2))=some (.int .i64 ((rd_T57 ad ab).f0))∧w'.cell? ⟨(ak.add ((ab).toNat * 2)).block,(ak.add ((ab).toNat * 2)).off+1,none⟩=some (.int .i64 ((rd_T57 ad ab).f1))∧w'.cell? (ak.add ((ab).toNat * 2))=some (.int .i64 ((rd_T57 ad ab).f0))∧w'.cell? ⟨(ak.add ((ab).toNat * 2)).block,(ak.add ((ab).toNat * 2)).off+1,none⟩=some (.int .i64 ((rd_T57 ad ab).f1))) (ds:=[]) (bZ 15 0) (by kernel_rfl) rfl (by kernel_rfl) ⟨(blk_cell aa.out 0).trans rfl,(blk_cell aa.out 1).trans rfl,(blk_cell aa.out 2).trans rfl,(blk_cell aa.out 3).trans rfl,((HB.out.cell (World.block_lt_of_cell? w _ hw334_0)).trans hw334_0),((HB.out.cell (World.block_lt_of_cell? w _ hw334_1)).trans hw334_1),((HB.out.cell (World.block_lt_of_cell? w _ hw335_0)).trans hw335_0),((HB.out.cell (World.block_lt_of_cell? w _ hw335_1)).trans hw335_1)⟩ (fun hHeld=>?_);refine with_tabW exergueref11_holds.tab9 exergueref11_holds.bits9 (fun HT_ HW_=>?_)
      generalize wr.drew=w26 at HO_5 aa ac HB ae af ag ah hHeld ⊢
      refine q1 0 35 1 HT_ ?_
      refine q1 1 36 3 HT_ ?_
      refine q1 3 38 11 HT_ ?_
      refine q1 7 42 139 HT_ ?_
      refine q1 9 44 651 HT_ ?_
      refine q2 2 37 655 HT_ HW_ hHeld ?_ (hy:=by rintro w' ⟨s0,s1,s2,s3,s4,s5,s6,s7⟩;go_simp;with_reducible rfl)
      refine q1 4 39 671 HT_ ?_
      refine q1 5 40 703 HT_ ?_
      refine q2 6 41 767 HT_ HW_ hHeld ?_ (hy:=by rintro w' ⟨s0,s1,s2,s3,s4,s5,s6,s7⟩;go_simp;with_reducible rfl)
      refine q2 8 43 1023 HT_ HW_ hHeld ?_ (hy:=by rintro w' ⟨s0,s1,s2,s3,s4,s5,s6,s7⟩;go_simp;with_reducible rfl)
      refine q1 10 45 2047 HT_ ?_
      refine q1 11 46 4095 HT_ ?_
      refine q2 12 47 8191 HT_ HW_ hHeld ?_ (hy:=by rintro w' ⟨s0,s1,s2,s3,s4,s5,s6,s7⟩;go_simp;with_reducible rfl)
      refine one_ (i:=13) (N:=some 48) (bZ 15 16383) rfl rfl (one_of HT_.out (by kernel_rfl)) (by decide) (fun K hK=>?_)
      refine goes_ Tryz.func88 (by kernel_rfl) rfl #[.slice bH aD.length bI,.int .i64 ((rd_T57 ad ab).f0),.int .i64 ((rd_T57 ad ab).f1)] (by rfl) rfl rfl (by (try simp only [mA,mB,mC]);first|done|rfl|(simp only [lD,lT];rfl)) ?_
      with_reducible refine (exergueref07_In.calls k2 _ _ aD ((rd_T57 ad ab).f0) ((rd_T57 ad ab).f1) true _ ?side1 ?side2 A22.out).mono ?_
      (case side1=>exact (Kd.V_reads' HO_5.out).2.2)
      (case side2=>exact (Kd.V_reads' HO_5.out).2.1)
      rintro e w28 ⟨rfl,hb⟩
      refine ⟨_,rfl,?_⟩
      replace HO_5:=vb HO_5 hb
      replace aa:=kb aa hb
      replace ac:=kb ac hb
      replace HB:=bs HB hb
      (try clear hb)
      (try clear hb2)
      (try clear hk)
      (try clear hi)
      refine hK.out _ _ ⟨(blk_cell aa.out 0).trans rfl,(blk_cell aa.out 1).trans rfl,(blk_cell aa.out 2).trans rfl,(blk_cell aa.out 3).trans rfl,((HB.out.cell (World.block_lt_of_cell? w _ hw334_0)).trans hw334_0),((HB.out.cell (World.block_lt_of_cell? w _ hw334_1)).trans hw334_1),((HB.out.cell (World.block_lt_of_cell? w _ hw335_0)).trans hw335_0),((HB.out.cell (World.block_lt_of_cell? w _ hw335_1)).trans hw335_1)⟩ (fun hHeld=>?_)
      clear hK K
      refine norm_ (a':=?_) ?_ ?_
      rotate_left
      ·show Act.put _ (some 48) _=_
       simp only [Act.put,sA,sB,sC,i64_w,i32_w]
       rfl
      refine q1 14 8 32767 HT_ ?_
      refine done_ (done_of HT_.out (by kernel_rfl)) ?_
      have b7:=blkc4 aa.out
      have b8:=blkf4 aa.out
      try go_wp2
      go_ret
      exact ⟨by first|rfl|(simp <;> rfl)|(simp [*] <;> rfl),bQ HB⟩
     replace c23:=Bool.eq_false_iff.mpr c23
     subst c23
     rw [if_neg (show ¬ (false=true) by decide)] at H
     have H':=zS H
     clear H
     have b9:=ai.out
     have ca:=aj.out
     have cc:=blkc4 aa.out
     have cd:=blkf4 aa.out
     try go_wp2
     replace HO_5:=zS (Kd.V_drew HO_5.out)
     replace aa:=zS (blk_drew aa.out)
     replace ac:=zS (blk_drew ac.out)
     replace HB:=zS (below_drew1 HB.out)
     have aM:0≤(ab:Int):=zB (by first|(with_reducible assumption)|assumption)
     have aN:ab<(ad.length:Int):=zB (by first|(with_reducible assumption)|assumption)
     obtain ⟨ak,bm,ae,af⟩:=at_T57 aQ.out ab aM aN
     have hw334_1:=af
     have hw334_0:=ae
     cases bm
     replace ae:=(HB.out.cell (World.block_lt_of_cell? w _ ae)).trans ae
     replace af:=(HB.out.cell (World.block_lt_of_cell? w _ af)).trans af
     replace aM:=eq_true aM
     replace aN:=eq_true aN
     have aO:0≤(ab:Int):=zB (by first|(with_reducible assumption)|assumption)
     have aP:ab<(ad.length:Int):=zB (by first|(with_reducible assumption)|assumption)
     obtain ⟨aU,bn,ag,ah⟩:=at_T57 aQ.out ab aO aP
     have hw335_1:=ah
     have hw335_0:=ag
     obtain rfl:ak=aU:=(by injection bn)
     replace ag:=(HB.out.cell (World.block_lt_of_cell? w _ ag)).trans ag
     replace ah:=(HB.out.cell (World.block_lt_of_cell? w _ ah)).trans ah
     replace aO:=eq_true aO
     replace aP:=eq_true aP
     obtain ⟨bJ,bK,bB⟩:=Kd.V_slice HO_5.out
     (first|subst bB|(injection bB with f1_ f2_ f3_;have f4_:=f1_.symm;have f5_:=f3_.symm;clear f1_ f2_ f3_;subst f4_;subst f5_))
     refine start_ (n:=15) (S:=fun w'=>w'.cell? ⟨am,0,none⟩=some (.int .u8 an)∧w'.cell? ⟨am,1,none⟩=some (.int .i64 al)∧w'.cell? ⟨am,2,none⟩=some (.bool ao)∧w'.cell? ⟨am,3,none⟩=some (.slice (some ak) ad.length aE)∧w'.cell? (ak.add ((ab).toNat * 2))=some (.int .i64 ((rd_T57 ad ab).f0))∧w'.cell? ⟨(ak.add ((ab).toNat * 2)).block,(ak.add ((ab).toNat * 2)).off+1,none⟩=some (.int .i64 ((rd_T57 ad ab).f1))∧w'.cell? (ak.add ((ab).toNat * 2))=some (.int .i64 ((rd_T57 ad ab).f0))∧w'.cell? ⟨(ak.add ((ab).toNat * 2)).block,(ak.add ((ab).toNat * 2)).off+1,none⟩=some (.int .i64 ((rd_T57 ad ab).f1))) (ds:=[]) (bZ 15 0) (by kernel_rfl) rfl (by kernel_rfl) ⟨(blk_cell aa.out 0).trans rfl,(blk_cell aa.out 1).trans rfl,(blk_cell aa.out 2).trans rfl,(blk_cell aa.out 3).trans rfl,((HB.out.cell (World.block_lt_of_cell? w _ hw334_0)).trans hw334_0),((HB.out.cell (World.block_lt_of_cell? w _ hw334_1)).trans hw334_1),((HB.out.cell (World.block_lt_of_cell? w _ hw335_0)).trans hw335_0),((HB.out.cell (World.block_lt_of_cell? w _ hw335_1)).trans hw335_1)⟩ (fun hHeld=>?_);refine with_tabW exergueref11_holds.tab9 exergueref11_holds.bits9 (fun HT_ HW_=>?_)
     generalize wr.drew=w32 at HO_5 aa ac HB ae af ag ah hHeld ⊢
     refine q1 0 35 1 HT_ ?_
     refine q1 1 36 3 HT_ ?_
     refine q1 3 38 11 HT_ ?_
     refine q1 7 42 139 HT_ ?_
     refine q1 9 44 651 HT_ ?_
     refine q2 2 37 655 HT_ HW_ hHeld ?_ (hy:=by rintro w' ⟨s0,s1,s2,s3,s4,s5,s6,s7⟩;go_simp;with_reducible rfl)
     refine q1 4 39 671 HT_ ?_
     refine q1 5 40 703 HT_ ?_
     refine q2 6 41 767 HT_ HW_ hHeld ?_ (hy:=by rintro w' ⟨s0,s1,s2,s3,s4,s5,s6,s7⟩;go_simp;with_reducible rfl)
     refine q2 8 43 1023 HT_ HW_ hHeld ?_ (hy:=by rintro w' ⟨s0,s1,s2,s3,s4,s5,s6,s7⟩;go_simp;with_reducible rfl)
     refine q1 10 45 2047 HT_ ?_
     refine q1 11 46 4095 HT_ ?_
     refine q2 12 47 8191 HT_ HW_ hHeld ?_ (hy:=by rintro w' ⟨s0,s1,s2,s3,s4,s5,s6,s7⟩;go_simp;with_reducible rfl)
     refine one_ (i:=13) (N:=some 48) (bZ 15 16383) rfl rfl (one_of HT_.out (by kernel_rfl)) (by decide) (fun K hK=>?_)
     refine goes_ Tryz.func88 (by kernel_rfl) rfl #[.slice bJ aD.length bK,.int .i64 ((rd_T57 ad ab).f0),.int .i64 ((rd_T57 ad ab).f1)] (by rfl) rfl rfl (by (try simp only [mA,mB,mC]);first|done|rfl|(simp only [lD,lT];rfl)) ?_
     with_reducible refine (exergueref07_In.calls k2 _ _ aD ((rd_T57 ad ab).f0) ((rd_T57 ad ab).f1) false _ ?side1 ?side2 A22.out).mono ?_
     (case side1=>exact (Kd.V_reads' HO_5.out).2.2)
     (case side2=>exact (Kd.V_reads' HO_5.out).2.1)
     rintro e w34 ⟨rfl,hb⟩
     refine ⟨_,rfl,?_⟩
     replace HO_5:=vb HO_5 hb
     replace aa:=kb aa hb
     replace ac:=kb ac hb
     replace HB:=bs HB hb
     (try clear hb)
     (try clear hb2)
     (try clear hk)
     (try clear hi)
     refine hK.out _ _ ⟨(blk_cell aa.out 0).trans rfl,(blk_cell aa.out 1).trans rfl,(blk_cell aa.out 2).trans rfl,(blk_cell aa.out 3).trans rfl,((HB.out.cell (World.block_lt_of_cell? w _ hw334_0)).trans hw334_0),((HB.out.cell (World.block_lt_of_cell? w _ hw334_1)).trans hw334_1),((HB.out.cell (World.block_lt_of_cell? w _ hw335_0)).trans hw335_0),((HB.out.cell (World.block_lt_of_cell? w _ hw335_1)).trans hw335_1)⟩ (fun hHeld=>?_)
     clear hK K
     refine norm_ (a':=?_) ?_ ?_
     rotate_left
     ·show Act.put _ (some 48) _=_
      simp only [Act.put,sA,sB,sC,i64_w,i32_w]
      rfl
     refine q1 14 8 32767 HT_ ?_
     refine done_ (done_of HT_.out (by kernel_rfl)) ?_
     try go_wp2
     go_roundg k2
     case measure=>have:=HJ4.out;have:=HK2.out;omega
     case rel=>exact ⟨(wrap64 (ab+1)),(by first|rfl|(simp;done)|(simp [*];done)),H',⟨by have:=HJ4.out;have:=HK2.out;omega⟩,⟨vo HO_5⟩,⟨ko aa⟩,⟨ko ac⟩,⟨bQ HB⟩⟩
end Go.Proofs.YtgfajgkjbckkgaaGreatDoor.PZ
end
end
section
noncomputable section
namespace Go.Proofs.YtgfajgkjbckkgaaGreatDoor.PZ
open Go.RowKit Go.Proofs.YtgfajgkjbckkgaaGreatDoorW.PrintWords Go.Proofs.YtgfajgkjbckkgaaGreatDoorW.PrintLast Go.Proofs.YtgfajgkjbckkgaaGreatDoorW.PrintMore
attribute [local go_sem] max2_int min2_int max_two min_two max_three min_three max_four min_four   -- for this text's walks alone
mutual
def exergueref11_rel.j0:Nat→ByteArray→Int→Bool→Int→Int→Bool→Option (Int×Int×Bool×(List (S57))×Int×Bool)
 | 0,_,_,_,_,_,_=>none
 | k+1,x0,x1,x29,an,ah,ai=>if x29=true then (some (an,ah,ai,([]:List (S57)),x1,false)) else (if 0≤x1 then (if x1<(x0.size:Int) then ((exergueref11_over.f k x0 (wrap64 (x1+1))).bind fun aq=>((exergueref11_sign.f x0 aq (⟨#[37]⟩:ByteArray)).bind fun aE=>(if aE=true then ((exergueref11_number.f k x0 (wrap64 (aq+1)) 1).bind fun ay=>(if ay.1<0 then (some (bt x0 x1,ah,ai,([]:List (S57)),ay.2,false)) else ((exergueref11_over.f k x0 ay.2).bind fun aF=>(exergueref11_rel.j1 k x0 aF (bt x0 x1) ay.1 ai)))) else (exergueref11_rel.j1 k x0 aq (bt x0 x1) ah ai)))) else (none)) else (none))
def exergueref11_rel.j1:Nat→ByteArray→Int→Int→Int→Bool→Option (Int×Int×Bool×(List (S57))×Int×Bool)
 | 0,_,_,_,_,_=>none
 | k+1,x0,x1,an,ah,ai=>(exergueref11_sign.f x0 x1 (⟨#[33,61]⟩:ByteArray)).bind fun aG=>(if aG=true then (exergueref11_rel.j2 k x0 (wrap64 (x1+1)) an ah true) else (exergueref11_rel.j2 k x0 x1 an ah ai))
def exergueref11_rel.j2:Nat→ByteArray→Int→Int→Int→Bool→Option (Int×Int×Bool×(List (S57))×Int×Bool)
 | 0,_,_,_,_,_=>none
 | k+1,x0,x1,an,ah,ai=>(exergueref11_sign.f x0 x1 (⟨#[61]⟩:ByteArray)).bind fun aZ=>(if aZ=true then ((exergueref11_ranges.f k x0 (wrap64 (x1+1))).bind fun aB=>(some (an,ah,ai,aB.1,aB.2.1,aB.2.2))) else (some (an,ah,ai,([]:List (S57)),x1,false)))
end
def exergueref11_rel.f (k:Nat)(a0:ByteArray)(a1:Int):Option (Int×Int×Bool×(List (S57))×Int×Bool):=(exergueref11_over.f k a0 a1).bind fun aa=>((exergueref11_word.f k a0 aa).bind fun ar=>(if ar=(wrap64 (aa+1)) then (if 0≤aa then (if aa<(a0.size:Int) then ((exergueref11_op.f (bt a0 aa)).bind fun aA=>(exergueref11_rel.j0 k a0 aa (!aA) 0 0 false)) else (none)) else (none)) else (exergueref11_rel.j0 k a0 aa true 0 0 false)))
theorem exergueref11_rel.mono_l:∀ k,(∀ y0 y1 y2 y3 y4 y5,LeO (exergueref11_rel.j0 k y0 y1 y2 y3 y4 y5) (exergueref11_rel.j0 (k+1) y0 y1 y2 y3 y4 y5))∧(∀ y0 y1 y2 y3 y4,LeO (exergueref11_rel.j1 k y0 y1 y2 y3 y4) (exergueref11_rel.j1 (k+1) y0 y1 y2 y3 y4))∧(∀ y0 y1 y2 y3 y4,LeO (exergueref11_rel.j2 k y0 y1 y2 y3 y4) (exergueref11_rel.j2 (k+1) y0 y1 y2 y3 y4))
 | 0=>⟨fun _ _ _ _ _ _ r h=>by simp [exergueref11_rel.j0] at h,fun _ _ _ _ _ r h=>by simp [exergueref11_rel.j1] at h,fun _ _ _ _ _ r h=>by simp [exergueref11_rel.j2] at h⟩
 | k+1=>by
  obtain ⟨ih0,ih1,ih2⟩:=exergueref11_rel.mono_l k
  refine ⟨?_,?_,?_⟩
  ·intro y0 y1 y2 y3 y4 y5
   unfold exergueref11_rel.j0
   repeat' first|(with_reducible first|apply ih0|apply ih1|apply ih2|apply exergueref11_number.mono|apply exergueref11_over.mono|apply exergueref11_ranges.mono|apply exergueref11_word.mono|apply LeO.refl|apply LeO.none|refine LeO.ite ?_ ?_|refine LeO.bind ?_ (fun _=>?_))|apply ih0|apply ih1|apply ih2|apply exergueref11_number.mono|apply exergueref11_over.mono|apply exergueref11_ranges.mono|apply exergueref11_word.mono|apply LeO.none
  ·intro y0 y1 y2 y3 y4
   unfold exergueref11_rel.j1
   repeat' first|(with_reducible first|apply ih0|apply ih1|apply ih2|apply exergueref11_number.mono|apply exergueref11_over.mono|apply exergueref11_ranges.mono|apply exergueref11_word.mono|apply LeO.refl|apply LeO.none|refine LeO.ite ?_ ?_|refine LeO.bind ?_ (fun _=>?_))|apply ih0|apply ih1|apply ih2|apply exergueref11_number.mono|apply exergueref11_over.mono|apply exergueref11_ranges.mono|apply exergueref11_word.mono|apply LeO.none
  ·intro y0 y1 y2 y3 y4
   unfold exergueref11_rel.j2
   repeat' first|(with_reducible first|apply ih0|apply ih1|apply ih2|apply exergueref11_number.mono|apply exergueref11_over.mono|apply exergueref11_ranges.mono|apply exergueref11_word.mono|apply LeO.refl|apply LeO.none|refine LeO.ite ?_ ?_|refine LeO.bind ?_ (fun _=>?_))|apply ih0|apply ih1|apply ih2|apply exergueref11_number.mono|apply exergueref11_over.mono|apply exergueref11_ranges.mono|apply exergueref11_word.mono|apply LeO.none
theorem exergueref11_rel.mono:∀ a0 a1 k,LeO (exergueref11_rel.f k a0 a1) (exergueref11_rel.f (k+1) a0 a1):=by
 intro a0 a1 k
 obtain ⟨ih0,ih1,ih2⟩:=exergueref11_rel.mono_l k
 unfold exergueref11_rel.f
 repeat' first|(with_reducible first|apply ih0|apply ih1|apply ih2|apply exergueref11_number.mono|apply exergueref11_over.mono|apply exergueref11_ranges.mono|apply exergueref11_word.mono|apply LeO.refl|apply LeO.none|refine LeO.ite ?_ ?_|refine LeO.bind ?_ (fun _=>?_))|apply ih0|apply ih1|apply ih2|apply exergueref11_number.mono|apply exergueref11_over.mono|apply exergueref11_ranges.mono|apply exergueref11_word.mono|apply LeO.none
set_option maxHeartbeats 8000000 in
set_option maxRecDepth 100000 in
theorem exergueref11_rel.calls (k:Nat)(a0:ByteArray)(a1:Int)(r1:Int)(r2:Int)(r3:Bool)(r4:List (S57))(r5:Int)(r6:Bool)(w:World)(h:exergueref11_rel.f k a0 a1=some (r1,r2,r3,r4,r5,r6)) :
  Calls Tryz.prog 71 #[.string a0,.int .i64 a1] w fun e w'=>∃ v3_:Value,e = .returned (.tuple #[.agg #[.int .u8 r1,.int .i64 r2,.bool r3,v3_],.int .i64 r5,.bool r6])∧Kd.R k57 57 w' w.heap.size (fun _=>True) v3_ r4∧Below w.heap.size w w':=by
 have hu60:=Tryz.underlying60
 have HB:=zS (Below.refl w.heap.size w)
 have H:((exergueref11_over.f k a0 a1).bind fun aa=>((exergueref11_word.f k a0 aa).bind fun ar=>(if ar=(wrap64 (aa+1)) then (if 0≤aa then (if aa<(a0.size:Int) then ((exergueref11_op.f (bt a0 aa)).bind fun aA=>(exergueref11_rel.j0 k a0 aa (!aA) 0 0 false)) else (none)) else (none)) else (exergueref11_rel.j0 k a0 aa true 0 0 false))))=some (r1,r2,r3,r4,r5,r6):=h
 clear h
 replace H:=Option.bind_eq_some_iff.mp H
 obtain ⟨aa,A30,H⟩:=H
 try dsimp only at H
 have A3:=zS A30
 clear A30
 have HC4:=zS H
 clear H
 go_enter Tryz.func71,Tryz.ntmps71
 go_upto_region 3 with (first|((with_reducible refine gate_dst (N:=4) rfl ?_);refine box_event ?hg (N:=4) ?hd (cs:=#[.int .u8 0,.int .i64 0,.bool false,.slice none 0 0]) (t:=60) ?hr ?_;(case hd=>rfl);(case hg=>rfl);(case hr=>first|(go_simp;done)|(go_simp;rfl));intro am hg w5 hbox hb;have ab:=zS (hbox);have bq:=bg HB hg;replace HB:=bs HB hb;clear hb hbox hg)|((with_reducible refine gate_dst (N:=7) rfl ?_);refine box_event ?hg (N:=7) ?hd (cs:=#[.int .u8 0,.int .i64 0,.bool false,.slice none 0 0]) (t:=60) ?hr ?_;(case hd=>rfl);(case hg=>rfl);(case hr=>first|(go_simp;done)|(go_simp;rfl));intro aw hg w6 hbox hb;have ac:=zS (hbox);have br:=bg HB hg;replace HB:=bs HB hb;have af:=kn ab hg;have ag:=km ab hg;replace ab:=kb ab hb;clear hb hbox hg;have bT:=ag.out;have bU:=af.out;have a2:=blkc4 ac.out;have a3:=blkf4 ac.out)|((with_reducible refine gate_callee (f:=72) rfl ?_);refine gL (some 16) Tryz.func72 #[.string a0,.int .i64 a1] ?_;(with_reducible refine (exergueref11_over.calls k a0 a1 aa _ A3.out).mono ?_);rintro e w' ⟨rfl,⟨nd,rfl⟩⟩;refine ⟨_,rfl,?_⟩))
 (try simp only [Act.put,sA,sB,sC])
 go_cut [29] (fun v29 wc=>∃ (kq:Nat) (az:Bool),v29 = .bool az∧Sd (exergueref11_rel.j0 kq a0 aa az 0 0 false=some (r1,r2,r3,r4,r5,r6))∧Sd (kq≤k)∧Sd (wc.heap[am]?=some (.cells #[.int .u8 0,.int .i64 0,.bool false,(.slice none 0 0)] 60 (0,0)))∧Sd (wc.heap[aw]?=some (.cells #[.int .u8 0,.int .i64 0,.bool false,(.slice none 0 0)] 60 (0,0)))∧Sd (Below w.heap.size w wc))
 case first=>
  have H:=HC4.out
  clear HC4
  replace H:=Option.bind_eq_some_iff.mp H
  obtain ⟨ar,A90,H⟩:=H
  try dsimp only at H
  have A9:=zS A90
  clear A90
  by_cases c10:ar=(wrap64 (aa+1))
  rotate_left
  ·rw [if_neg c10] at H
   have ap:(ar == (wrap64 (aa+1)))=false:=zF c10
   have ax:(ar != (wrap64 (aa+1)))=true:=zI c10
   (first|rw [ap]|(simp only [i64_w,i32_w];rw [ap])|rw [ax]|skip)
   have H':=zS H
   clear H
   go_wp2_with (first|((with_reducible refine gate_callee (f:=73) rfl ?_);refine gL (some 19) Tryz.func73 #[.string a0,.int .i64 aa] ?_;(with_reducible refine (exergueref11_word.calls k a0 aa ar _ A9.out).mono ?_);rintro e w' ⟨rfl,⟨nd,rfl⟩⟩;refine ⟨_,rfl,?_⟩))
   go_meet
   case rel=>exact ⟨_,(true),(by first|rfl|(simp;done)|(simp [*];done)),H',⟨by first|omega|exact Nat.le_refl _⟩,⟨ko ab⟩,⟨kp ac rfl⟩,⟨bQ HB⟩⟩
  rw [if_pos c10] at H
  have ap:(ar == (wrap64 (aa+1)))=true:=zH c10
  have ax:(ar != (wrap64 (aa+1)))=false:=zG c10
  clear c10
  (first|rw [ap]|(simp only [i64_w,i32_w];rw [ap])|rw [ax]|skip)
  by_cases c11:0≤aa
  rotate_left
  ·rw [if_neg c11] at H
   exact absurd H (by simp)
  rw [if_pos c11] at H
  have aC:=zC c11
  clear c11
  by_cases c12:aa<(a0.size:Int)
  ·rw [if_pos c12] at H
   have aD:=zC c12
   clear c12
   replace H:=Option.bind_eq_some_iff.mp H
   obtain ⟨aA,a9,H⟩:=H
   try dsimp only at H
   have A14:=zS a9
   clear a9
   have H':=zS H
   clear H
   go_wp2_with (first|((with_reducible refine gate_callee (f:=73) rfl ?_);refine gL (some 19) Tryz.func73 #[.string a0,.int .i64 aa] ?_;(with_reducible refine (exergueref11_word.calls k a0 aa ar _ A9.out).mono ?_);rintro e w' ⟨rfl,⟨nd,rfl⟩⟩;refine ⟨_,rfl,?_⟩;have p13:0≤(aa:Int):=zB (by first|(with_reducible assumption)|assumption);have q13:aa<(a0.size:Int):=zB (by first|(with_reducible assumption)|assumption);have a4:=bt_at a0 aa;replace p13:=eq_true p13;replace q13:=eq_true q13)|(go_at_call 94;(with_reducible refine (exergueref11_op.calls (bt a0 aa) aA _ A14.out).mono ?_);rintro e w' ⟨rfl,⟨nd,rfl⟩⟩))
   go_meet
   case rel=>exact ⟨_,(!aA),(by first|rfl|(simp;done)|(simp [*];done)),H',⟨by first|omega|exact Nat.le_refl _⟩,⟨ko ab⟩,⟨kp ac rfl⟩,⟨bQ HB⟩⟩
  rw [if_neg c12] at H
  exact absurd H (by simp)
 case rest=>
  clear HC4
  try clear c1
  try clear p1
  try clear q1
  try clear hx1
  try clear p2
  try clear p6
  try clear c7
  try clear c10
  try clear ap
  try clear ax
  try clear c11
  try clear aC
  try clear c12
  try clear aD
  try clear p13
  try clear q13
  try clear a4
  try clear a2
  try clear a3
  try clear p13
  try clear q13
  obtain ⟨kq,az,rfl,HA,HJ3,ab,ac,HB⟩:=hcut
  cases kq with
  | zero=>exact absurd HA.out (by simp [exergueref11_rel.j0])
  | succ kj3=>
   have H:=HA.out
   clear HA
   simp only [exergueref11_rel.j0] at H
   by_cases c15:az=true
   ·subst c15
    rw [if_pos rfl] at H
    simp only [Option.some.injEq,Prod.mk.injEq] at H
    obtain ⟨rfl,rfl,rfl,rfl,rfl,rfl⟩:=H
    have bu:=ag.out
    have bv:=af.out
    have aK:=blkc4 ac.out
    have aL:=blkf4 ac.out
    have aM:=blkc4 ab.out
    have aN:=blkf4 ab.out
    go_wp2
    refine bodyPost_ret (results_ctt rfl _ _ am 60 #[.int .u8 0,.int .i64 0,.bool false,.slice none 0 0] (0,0) _ rfl (kp ab rfl) Tryz.underlying60 rfl (by kernel_rfl)) rfl ?_
    exact ⟨_,by first|rfl|(simp <;> rfl)|(simp [*] <;> rfl),by first|exact Kd.R_nil _ _ _ _ _|exact Kd.N_nil _ _ _ _ _|exact Kd.V_nil _ _ _ _ _|exact Kd.Q_nil _ _ _ _ _|exact Kd.S_nil _ _ _ _ _,bQ HB⟩
   replace c15:=Bool.eq_false_iff.mpr c15
   subst c15
   rw [if_neg (show ¬ (false=true) by decide)] at H
   by_cases c19:0≤aa
   rotate_left
   ·rw [if_neg c19] at H
    exact absurd H (by simp)
   rw [if_pos c19] at H
   have aO:=zC c19
   clear c19
   by_cases c20:aa<(a0.size:Int)
   rotate_left
   ·rw [if_neg c20] at H
    exact absurd H (by simp)
   rw [if_pos c20] at H
   have aP:=zC c20
   clear c20
   replace H:=Option.bind_eq_some_iff.mp H
   obtain ⟨aq,ba,H⟩:=H
   try dsimp only at H
   have A22:=zS ba
   clear ba
   replace H:=Option.bind_eq_some_iff.mp H
   obtain ⟨aE,bb,H⟩:=H
   try dsimp only at H
   have A23:=zS bb
   clear bb
   have a5:=zS H
   clear H
   have p21:0≤(aa:Int):=zB (by first|(with_reducible assumption)|assumption)
   have q21:aa<(a0.size:Int):=zB (by first|(with_reducible assumption)|assumption)
   have bc:=bt_at a0 aa
   replace p21:=eq_true p21
   replace q21:=eq_true q21
   have bw:=ag.out
   have bx:=af.out
   have aQ:=blkc4 ac.out
   have aR:=blkf4 ac.out
   go_upto_if 42 with (first|((with_reducible refine gate_callee (f:=72) rfl ?_);refine gL (some 39) Tryz.func72 #[.string a0,.int .i64 (wrap64 (aa+1))] ?_;(with_reducible refine (exergueref11_over.calls kj3 a0 (wrap64 (aa+1)) aq _ A22.out).mono ?_);rintro e w' ⟨rfl,⟨nd,rfl⟩⟩;refine ⟨_,rfl,?_⟩)|((with_reducible refine gate_callee (f:=95) rfl ?_);refine gL (some 42) Tryz.func95 #[.string a0,.int .i64 aq,.string (⟨#[37]⟩:ByteArray)] ?_;(with_reducible refine (exergueref11_sign.calls a0 aq (⟨#[37]⟩:ByteArray) aE _ A23.out).mono ?_);rintro e w' ⟨rfl,⟨nd,rfl⟩⟩;refine ⟨_,rfl,?_⟩))
   (try simp only [Act.put,sA,sB,sC])
   go_cut [1] (fun v1 wc=>∃ (kq:Nat) (au:Int) (aj:Int) (ak:Int) (al:Bool) (ad:Int),v1 = .int .i64 au∧Sd (exergueref11_rel.j1 kq a0 au (bt a0 aa) ad false=some (r1,r2,r3,r4,r5,r6))∧Sd (kq≤kj3)∧Sd (wc.heap[am]?=some (.cells #[.int .u8 aj,.int .i64 ak,.bool al,(.slice none 0 0)] 60 (0,0)))∧Sd (wc.heap[aw]?=some (.cells #[.int .u8 (bt a0 aa),.int .i64 ad,.bool false,(.slice none 0 0)] 60 (0,0)))∧Sd (Below w.heap.size w wc))
   case first=>
    have H:=a5.out
    clear a5
    by_cases c27:aE=true
    rotate_left
    ·replace c27:=Bool.eq_false_iff.mpr c27
     subst c27
     rw [if_neg (show ¬ (false=true) by decide)] at H
     have H':=zS H
     clear H
     go_wp2
     go_meet
     case rel=>exact ⟨_,(aq),(0),(0),(false),(0),(by first|rfl|(simp;done)|(simp [*];done)),H',⟨by have:=HJ3.out;first|omega|exact Nat.le_refl _⟩,⟨ko ab⟩,⟨kp ac rfl⟩,⟨bQ HB⟩⟩
    subst c27
    rw [if_pos rfl] at H
    replace H:=Option.bind_eq_some_iff.mp H
    obtain ⟨⟨aH,aI⟩,bd,H⟩:=H
    try dsimp only at H
    have A28:=zS bd
    clear bd
    by_cases c29:aH<0
    ·rw [if_pos c29] at H
     have av:=zC c29
     clear c29
     (first|rw [av]|(simp only [i64_w,i32_w];rw [av])|rw [be]|skip)
     simp only [Option.some.injEq,Prod.mk.injEq] at H
     obtain ⟨rfl,rfl,rfl,rfl,rfl,rfl⟩:=H
     go_wp2_with (first|((with_reducible refine gate_callee (f:=96) rfl ?_);refine gL (some 47) Tryz.func96 #[.string a0,.int .i64 (wrap64 (aq+1)),.int .i64 1] ?_;(with_reducible refine (exergueref11_number.calls kj3 a0 (wrap64 (aq+1)) 1 aH aI _ A28.out).mono ?_);rintro e w' ⟨rfl,⟨nd,rfl⟩⟩;refine ⟨_,rfl,?_⟩;have bA:=ag.out;have bB:=af.out;have aS:=blkc4 ac.out;have aT:=blkf4 ac.out;have aU:=blkc4 ab.out;have aV:=blkf4 ab.out))
     refine bodyPost_ret (results_ctt rfl _ _ am 60 #[.int .u8 (bt a0 aa),.int .i64 0,.bool false,.slice none 0 0] (0,0) _ rfl (kp ab rfl) Tryz.underlying60 rfl (by kernel_rfl)) rfl ?_
     exact ⟨_,by first|rfl|(simp <;> rfl)|(simp [*] <;> rfl),by first|exact Kd.R_nil _ _ _ _ _|exact Kd.N_nil _ _ _ _ _|exact Kd.V_nil _ _ _ _ _|exact Kd.Q_nil _ _ _ _ _|exact Kd.S_nil _ _ _ _ _,bQ HB⟩
    rw [if_neg c29] at H
    have av:=zD c29
    clear c29
    (first|rw [av]|(simp only [i64_w,i32_w];rw [av])|rw [be]|skip)
    replace H:=Option.bind_eq_some_iff.mp H
    obtain ⟨aF,bf,H⟩:=H
    try dsimp only at H
    have A33:=zS bf
    clear bf
    have H':=zS H
    clear H
    go_wp2_with (first|((with_reducible refine gate_callee (f:=96) rfl ?_);refine gL (some 47) Tryz.func96 #[.string a0,.int .i64 (wrap64 (aq+1)),.int .i64 1] ?_;(with_reducible refine (exergueref11_number.calls kj3 a0 (wrap64 (aq+1)) 1 aH aI _ A28.out).mono ?_);rintro e w' ⟨rfl,⟨nd,rfl⟩⟩;refine ⟨_,rfl,?_⟩;have bC:=ag.out;have bD:=af.out;have aW:=blkc4 ac.out;have aX:=blkf4 ac.out)|((with_reducible refine gate_callee (f:=72) rfl ?_);refine gL (some 58) Tryz.func72 #[.string a0,.int .i64 aI] ?_;(with_reducible refine (exergueref11_over.calls kj3 a0 aI aF _ A33.out).mono ?_);rintro e w' ⟨rfl,⟨nd,rfl⟩⟩;refine ⟨_,rfl,?_⟩))
    go_meet
    case rel=>exact ⟨_,(aF),(0),(0),(false),(aH),(by first|rfl|(simp;done)|(simp [*];done)),H',⟨by have:=HJ3.out;first|omega|exact Nat.le_refl _⟩,⟨ko ab⟩,⟨kp ac rfl⟩,⟨bQ HB⟩⟩
   case rest=>
    clear a5
    try clear c1
    try clear p1
    try clear q1
    try clear hx1
    try clear c2
    try clear p2
    try clear q2
    try clear hx2
    try clear c3
    try clear p6
    try clear c7
    try clear c9
    try clear c10
    try clear ap
    try clear ax
    try clear c11
    try clear aC
    try clear c12
    try clear aD
    try clear p13
    try clear q13
    try clear a4
    try clear c15
    try clear c16
    try clear c19
    try clear aO
    try clear c20
    try clear aP
    try clear p21
    try clear q21
    try clear bc
    try clear c25
    try clear c27
    try clear c29
    try clear av
    try clear c30
    try clear c34
    try clear aK
    try clear aM
    try clear aQ
    try clear aS
    try clear aU
    try clear aW
    try clear a2
    try clear aL
    try clear aN
    try clear aR
    try clear aT
    try clear aV
    try clear aX
    try clear a3
    try clear p1
    try clear p13
    try clear p2
    try clear p21
    try clear p6
    try clear q1
    try clear q13
    try clear q21
    obtain ⟨kq,au,aj,ak,al,ad,rfl,HA,HJ23,ab,ac,HB⟩:=hcut
    cases kq with
    | zero=>exact absurd HA.out (by simp [exergueref11_rel.j1])
    | succ kj23=>
     have H:=HA.out
     clear HA
     simp only [exergueref11_rel.j1] at H
     replace H:=Option.bind_eq_some_iff.mp H
     obtain ⟨aG,bh,H⟩:=H
     try dsimp only at H
     have A36:=zS bh
     clear bh
     have a6:=zS H
     clear H
     go_upto_if 61 with (first|((with_reducible refine gate_callee (f:=95) rfl ?_);refine gL (some 61) Tryz.func95 #[.string a0,.int .i64 au,.string (⟨#[33,61]⟩:ByteArray)] ?_;(with_reducible refine (exergueref11_sign.calls a0 au (⟨#[33,61]⟩:ByteArray) aG _ A36.out).mono ?_);rintro e w' ⟨rfl,⟨nd,rfl⟩⟩;refine ⟨_,rfl,?_⟩))
     (try simp only [Act.put,sA,sB,sC])
     go_cut [1] (fun v1 wc=>∃ (kq:Nat) (ao:Int) (ae:Bool),v1 = .int .i64 ao∧Sd (exergueref11_rel.j2 kq a0 ao (bt a0 aa) ad ae=some (r1,r2,r3,r4,r5,r6))∧Sd (kq≤kj23)∧Sd (wc.heap[am]?=some (.cells #[.int .u8 aj,.int .i64 ak,.bool al,(.slice none 0 0)] 60 (0,0)))∧Sd (wc.heap[aw]?=some (.cells #[.int .u8 (bt a0 aa),.int .i64 ad,.bool ae,(.slice none 0 0)] 60 (0,0)))∧Sd (Below w.heap.size w wc))
     case first=>
      have H:=a6.out
      clear a6
      by_cases c38:aG=true
      ·subst c38
       rw [if_pos rfl] at H
       have H':=zS H
       clear H
       have bE:=ag.out
       have bF:=af.out
       have bi:=blkc4 ac.out
       have bj:=blkf4 ac.out
       go_wp2
       go_meet
       case rel=>exact ⟨_,(wrap64 (au+1)),(true),(by first|rfl|(simp;done)|(simp [*];done)),H',⟨by have:=HJ3.out;have:=HJ23.out;first|omega|exact Nat.le_refl _⟩,⟨ko ab⟩,⟨kp ac rfl⟩,⟨bQ HB⟩⟩
      replace c38:=Bool.eq_false_iff.mpr c38
      subst c38
      rw [if_neg (show ¬ (false=true) by decide)] at H
      have H':=zS H
      clear H
      go_wp2
      go_meet
      case rel=>exact ⟨_,(au),(false),(by first|rfl|(simp;done)|(simp [*];done)),H',⟨by have:=HJ3.out;have:=HJ23.out;first|omega|exact Nat.le_refl _⟩,⟨ko ab⟩,⟨ko ac⟩,⟨bQ HB⟩⟩
     case rest=>
      clear a6
      try clear c1
      try clear p1
      try clear q1
      try clear hx1
      try clear c2
      try clear p2
      try clear q2
      try clear hx2
      try clear c3
      try clear p6
      try clear c7
      try clear c9
      try clear c10
      try clear ap
      try clear ax
      try clear c11
      try clear aC
      try clear c12
      try clear aD
      try clear p13
      try clear q13
      try clear a4
      try clear c15
      try clear c16
      try clear c19
      try clear aO
      try clear c20
      try clear aP
      try clear p21
      try clear q21
      try clear bc
      try clear c25
      try clear c27
      try clear c29
      try clear av
      try clear c30
      try clear c34
      try clear c38
      try clear c39
      try clear aK
      try clear aM
      try clear aQ
      try clear aS
      try clear aU
      try clear aW
      try clear bi
      try clear a2
      try clear aL
      try clear aN
      try clear aR
      try clear aT
      try clear aV
      try clear aX
      try clear bj
      try clear a3
      try clear p1
      try clear p13
      try clear p2
      try clear p21
      try clear p6
      try clear q1
      try clear q13
      try clear q2
      try clear q21
      obtain ⟨kq,ao,ae,rfl,HA,HJ36,ab,ac,HB⟩:=hcut
      cases kq with
      | zero=>exact absurd HA.out (by simp [exergueref11_rel.j2])
      | succ kj36=>
       have H:=HA.out
       clear HA
       simp only [exergueref11_rel.j2] at H
       replace H:=Option.bind_eq_some_iff.mp H
       obtain ⟨aZ,bk,H⟩:=H
       try dsimp only at H
       have A41:=zS bk
       clear bk
       by_cases c42:aZ=true
       ·subst c42
        rw [if_pos rfl] at H
        replace H:=Option.bind_eq_some_iff.mp H
        obtain ⟨⟨aJ,bn,bo⟩,bm,H⟩:=H
        try dsimp only at H
        have A43:=zS bm
        clear bm
        simp only [Option.some.injEq,Prod.mk.injEq] at H
        obtain ⟨rfl,rfl,rfl,rfl,rfl,rfl⟩:=H
        go_wp2_with (first|((with_reducible refine gate_callee (f:=95) rfl ?_);refine gL (some 67) Tryz.func95 #[.string a0,.int .i64 ao,.string (⟨#[61]⟩:ByteArray)] ?_;(with_reducible refine (exergueref11_sign.calls a0 ao (⟨#[61]⟩:ByteArray) true _ A41.out).mono ?_);rintro e w' ⟨rfl,⟨nd,rfl⟩⟩;refine ⟨_,rfl,?_⟩;(try (rw [drewN_self wc];generalize hq_:World.drewN wc _=wc;replace ab:Sd (wc.heap[am]?=some (.cells #[.int .u8 aj,.int .i64 ak,.bool al,.slice none 0 0] 60 (0,0))):=⟨by rw [← hq_];exact (ko ab)⟩;replace ac:Sd (wc.heap[aw]?=some (.cells #[.int .u8 (bt a0 aa),.int .i64 ad,.bool ae,.slice none 0 0] 60 (0,0))):=⟨by rw [← hq_];exact (ko ac)⟩;replace HB:Sd (Below w.heap.size w wc):=⟨by rw [← hq_];exact (bQ HB)⟩;clear hq_)))|((with_reducible refine gate_callee (f:=97) rfl ?_);refine gL (some 75) Tryz.func97 #[.string a0,.int .i64 (wrap64 (ao+1))] ?_;(with_reducible refine (exergueref11_ranges.calls kj36 a0 (wrap64 (ao+1)) aJ bn bo _ A43.out).mono ?_);rintro e w44 ⟨bV,rfl,ho0,hb⟩;refine ⟨_,rfl,?_⟩;have aY:=zS (Kd.R_lower ho0 (bz HB));replace ab:=kb ab hb;replace ac:=kb ac hb;replace HB:=bs HB hb;(try clear hb);(try clear ho0);obtain ⟨a7,a8,bp⟩:=Kd.R_slice aY.out;subst bp;have bG:=ag.out;have bH:=af.out;have bI:=blkc4 ac.out;have bJ:=blkf4 ac.out;have bK:=blkc4 ab.out;have bL:=blkf4 ab.out))
        refine bodyPost_ret (results_ctt rfl _ _ am 60 #[.int .u8 (bt a0 aa),.int .i64 ad,.bool ae,.slice a7 aJ.length a8] (0,0) _ rfl (kp ab rfl) Tryz.underlying60 rfl (by kernel_rfl)) rfl ?_
        exact ⟨_,by first|rfl|(simp <;> rfl)|(simp [*] <;> rfl),by (with_reducible repeat (first|apply Kd.R_alloc|apply Kd.R_drewN|apply Kd.R_drew));exact Kd.R_mono (Kd.R_far (p:=⟨am,3,none⟩) (Kd.R_far (p:=⟨am,2,none⟩) (Kd.R_far (p:=⟨am,1,none⟩) (Kd.R_far (p:=⟨am,0,none⟩) (Kd.R_far (p:=⟨aw,3,none⟩) (Kd.R_types (Kd.R_types aY.out ac.out (by decide)) ab.out (by decide)) (fun _ hk=>hk.1.2) (.slice a7 aJ.length a8)) (fun _ hk=>hk.2) (.int .u8 (bt a0 aa))) (fun _ hk=>hk.2) (.int .i64 ad)) (fun _ hk=>hk.2) (.bool ae)) (fun _ hk=>hk.2) (.slice a7 aJ.length a8)) (fun _ hk=>trivial),bQ HB⟩
       replace c42:=Bool.eq_false_iff.mpr c42
       subst c42
       rw [if_neg (show ¬ (false=true) by decide)] at H
       simp only [Option.some.injEq,Prod.mk.injEq] at H
       obtain ⟨rfl,rfl,rfl,rfl,rfl,rfl⟩:=H
       go_wp2_with (first|((with_reducible refine gate_callee (f:=95) rfl ?_);refine gL (some 67) Tryz.func95 #[.string a0,.int .i64 ao,.string (⟨#[61]⟩:ByteArray)] ?_;(with_reducible refine (exergueref11_sign.calls a0 ao (⟨#[61]⟩:ByteArray) false _ A41.out).mono ?_);rintro e w' ⟨rfl,⟨nd,rfl⟩⟩;refine ⟨_,rfl,?_⟩;(try (rw [drewN_self wc];generalize hq_:World.drewN wc _=wc;replace ab:Sd (wc.heap[am]?=some (.cells #[.int .u8 aj,.int .i64 ak,.bool al,.slice none 0 0] 60 (0,0))):=⟨by rw [← hq_];exact (ko ab)⟩;replace ac:Sd (wc.heap[aw]?=some (.cells #[.int .u8 (bt a0 aa),.int .i64 ad,.bool ae,.slice none 0 0] 60 (0,0))):=⟨by rw [← hq_];exact (ko ac)⟩;replace HB:Sd (Below w.heap.size w wc):=⟨by rw [← hq_];exact (bQ HB)⟩;clear hq_));have bM:=ag.out;have bN:=af.out;have bO:=blkc4 ac.out;have bP:=blkf4 ac.out;have bR:=blkc4 ab.out;have bS:=blkf4 ab.out))
       refine bodyPost_ret (results_ctt rfl _ _ am 60 #[.int .u8 (bt a0 aa),.int .i64 ad,.bool ae,.slice none 0 0] (0,0) _ rfl (kp ab rfl) Tryz.underlying60 rfl (by kernel_rfl)) rfl ?_
       exact ⟨_,by first|rfl|(simp <;> rfl)|(simp [*] <;> rfl),by first|exact Kd.R_nil _ _ _ _ _|exact Kd.N_nil _ _ _ _ _|exact Kd.V_nil _ _ _ _ _|exact Kd.Q_nil _ _ _ _ _|exact Kd.S_nil _ _ _ _ _,bQ HB⟩
end Go.Proofs.YtgfajgkjbckkgaaGreatDoor.PZ
end
end
section
set_option maxRecDepth 100000
namespace Go.Proofs.YtgfajgkjbckkgaaGreatDoor.PZ
open Go.RowKit Go.Proofs.YtgfajgkjbckkgaaGreatDoorW.PrintWords Go.Proofs.YtgfajgkjbckkgaaGreatDoorW.PrintLast
section
def combR (pre:List (Rl×Bool))(d:Nat):Option (List (Rl×Bool))×Nat→Option (List (Rl×Bool))×Nat
  | (none,j)=>(none,d+j)
  | (some r,j)=>(some (pre ++ r),d+j)
theorem combR_combR (l m:List (Rl×Bool))(d e:Nat)(p:Option (List (Rl×Bool))×Nat):combR l d (combR m e p)=combR (l ++ m) (d+e) p:=by
 rcases p with ⟨_|r,j⟩
 · simp only [combR,Nat.add_assoc]
 simp only [combR,Nat.add_assoc,List.append_assoc]
theorem combR_nil (p:Option (List (Rl×Bool))×Nat):combR [] 0 p=p:=by rcases p with ⟨_|r,j⟩ <;> simp [combR]
theorem rels_none {t:List Int}{n:Nat}(h:relP t=(none,n)):relsP t=(none,n):=by rw [relsP_eq,h]
section
variable {t:List Int}{n:Nat}{x:Rl}(h:relP t=(some x,n))
include h
theorem rels_end (hu:t.drop (n+bl (t.drop n))=[]):relsP t=(some [(x,false)],n+bl (t.drop n)):=by
 rw [relsP_eq,h]
 simp only [hu,if_true]
theorem rels_or (hu:t.drop (n+bl (t.drop n))≠[])(hw:wordP (t.drop (n+bl (t.drop n)))=wordOr):relsP t=combR [(x,true)] (n+bl (t.drop n)+2) (relsP (t.drop (n+bl (t.drop n)+2))):=by
 rw [relsP_eq,h]
 simp only [if_neg hu,if_pos hw]
 rcases relsP (t.drop (n+bl (t.drop n)+2)) with ⟨_|r,j⟩ <;> rfl
theorem rels_and (hu:t.drop (n+bl (t.drop n))≠[])(hw:wordP (t.drop (n+bl (t.drop n)))=wordAnd):relsP t=combR [(x,false)] (n+bl (t.drop n)+3) (relsP (t.drop (n+bl (t.drop n)+3))):=by
 have hne:¬ wordP (t.drop (n+bl (t.drop n)))=wordOr:=by rw [hw];decide
 rw [relsP_eq,h]
 simp only [if_neg hu,if_neg hne,if_pos hw]
 rcases relsP (t.drop (n+bl (t.drop n)+3)) with ⟨_|r,j⟩ <;> rfl
theorem rels_bad (hu:t.drop (n+bl (t.drop n))≠[])(h1:wordP (t.drop (n+bl (t.drop n)))≠wordOr)(h2:wordP (t.drop (n+bl (t.drop n)))≠wordAnd):relsP t=(none,n+bl (t.drop n)):=by
 rw [relsP_eq,h]
 simp only [if_neg hu,if_neg h1,if_neg h2]
end
theorem rowsOf_pos (l:List Rl)(r:List (Rl×Bool)):0<(rowsOf l r).length:=by
 induction r generalizing l with
 | nil=>simp [rowsOf]
 | cons x r ih=>obtain ⟨x,_|_⟩:=x <;> simp [rowsOf,ih]
theorem rowsOf_len (l:List Rl)(r:List (Rl×Bool)):(rowsOf l r).length≤r.length+1:=by
 induction r generalizing l with
 | nil=>simp [rowsOf]
 | cons x r ih=>
  obtain ⟨x,_|_⟩:=x
  · have:=ih (l ++ [x]);simp [rowsOf];omega
  have:=ih [];simp [rowsOf];omega
theorem rowsOf_row (r:List (Rl×Bool)):∀ (l:List Rl) (i:Nat),((rowsOf l r).getD i []).length≤l.length+r.length:=by
 induction r with
 | nil=>
  intro l i
  cases i <;> simp [rowsOf]
 | cons x r ih=>
  intro l i
  obtain ⟨x,_|_⟩:=x
  ·have:=ih (l ++ [x]) i
   simp only [rowsOf]
   simp only [List.length_append,List.length_cons,List.length_nil] at this ⊢
   omega
  simp only [rowsOf]
  cases i with
  | zero=>simp
  | succ i=>
   rw [List.getD_cons_succ]
   have:=ih [] i
   simp only [List.length_cons,List.length_nil] at this ⊢
   omega
theorem rowsOf_and (x:Rl):∀ (pre:List (Rl×Bool)) (l:List Rl),rowsOf l (pre ++ [(x,false)])=(rowsOf l pre).set ((rowsOf l pre).length - 1) ((rowsOf l pre).getD ((rowsOf l pre).length - 1) [] ++ [x])
  | [],l=>by simp [rowsOf]
  | (y,false) :: pre,l=>by
    rw [List.cons_append]
    simp only [rowsOf]
    exact rowsOf_and x pre (l ++ [y])
  | (y,true) :: pre,l=>by
    have hp:=rowsOf_pos [] pre
    have hl:(rowsOf [] pre).length=((rowsOf [] pre).length - 1)+1:=by omega
    rw [List.cons_append]
    simp only [rowsOf]
    rw [rowsOf_and x pre [],List.length_cons,Nat.add_sub_cancel]
    conv=>rhs;rw [hl,List.set_cons_succ,List.getD_cons_succ]
theorem rowsOf_orr (x:Rl):∀ (pre:List (Rl×Bool)) (l:List Rl),rowsOf l (pre ++ [(x,true)])=rowsOf l (pre ++ [(x,false)]) ++ [[]]
  | [],l=>by simp [rowsOf]
  | (y,false) :: pre,l=>by
    rw [List.cons_append,List.cons_append]
    simp only [rowsOf]
    exact rowsOf_orr x pre (l ++ [y])
  | (y,true) :: pre,l=>by
    rw [List.cons_append,List.cons_append]
    simp only [rowsOf]
    rw [rowsOf_orr x pre []]
    rfl
theorem fullP_snoc (pre:List (Rl×Bool))(x:Rl)(o:Bool):fullP (pre ++ [(x,o)])=((fullP pre || decide (20<x.f3.length)) || decide (20<pre.length+1)):=by
 unfold fullP
 rw [List.any_append,List.length_append]
 simp only [List.any_cons,List.any_nil,Bool.or_false,List.length_cons,List.length_nil,Nat.zero_add]
 by_cases h:20<pre.length+1
 · simp [h]
 have:¬ 20<pre.length:=by omega
 simp [h,this]
theorem prefix_len':∀ {x t:List Int},x.isPrefixOf t=true→x.length≤t.length
  | [],_,_=>by simp
  | _ :: _,[],h=>by simp [List.isPrefixOf] at h
  | a :: x,b :: t,h=>by
    simp only [List.isPrefixOf,Bool.and_eq_true] at h
    have:=prefix_len' h.2
    simp;omega
theorem sign_len {x t:List Int}(h:signP x t=true):bl t+x.length≤t.length:=by
 have h2:bl t≤t.length:=runL_le isBl t
 unfold signP at h
 have:=prefix_len' h
 rw [List.length_drop] at this
 omega
theorem one_le {t:List Int}{r:Rg}{n:Nat}(h:oneP t=(some r,n)):n≤t.length:=by
 unfold oneP at h
 rcases h1:numP 0 t with ⟨_|a,m⟩
 · rw [h1] at h;cases h
 rw [h1] at h
 have ha:=num_pos' h1
 simp only at h
 split at h
 ·rename_i hs
  have hl:=sign_len hs
  rcases h2:numP (a+1) (t.drop (m+(bl (t.drop m)+2))) with ⟨_|b,j⟩
  · rw [h2] at h;cases h
  rw [h2] at h
  have hb:=num_pos' h2
  simp only [Prod.mk.injEq] at h
  simp only [List.length_drop,List.length_cons,List.length_nil] at hb hl
  omega
 simp only [Prod.mk.injEq] at h
 omega
theorem rng_le:∀ (f:Nat) (t:List Int) (l:List Rg) (n:Nat),rngF f t=(some l,n)→n≤t.length
  | 0,_,_,_,h=>by cases h
  | f+1,t,l,n,h=>by
    rw [rngF] at h
    rcases h1:oneP t with ⟨_|a,m⟩
    · rw [h1] at h;cases h
    rw [h1] at h
    have ha:=one_le h1
    simp only at h
    split at h
    · rename_i hs
      have hl:=sign_len hs
      rcases h2:rngF f (t.drop (m+(bl (t.drop m)+1))) with ⟨_|b,j⟩
      · rw [h2] at h;cases h
      rw [h2] at h
      have hb:=rng_le f _ _ _ h2
      simp only [Prod.mk.injEq] at h
      simp only [List.length_drop,List.length_cons,List.length_nil] at hb hl
      omega
    · simp only [Prod.mk.injEq] at h
      omega
theorem rel_le' {t:List Int}{x:Rl}{n:Nat}(h:relP t=(some x,n)):n≤t.length:=by
 unfold relP at h
 rcases h1:opP t with ⟨_|c,m⟩
 · rw [h1] at h;cases h
 rw [h1] at h
 have b1:m≤t.length:=by
  unfold opP at h1
  have hbl:bl t≤t.length:=runL_le isBl t
  have h3:=runL_le isLo (t.drop (bl t))
  rw [List.length_drop] at h3
  split at h1
  ·rename_i hc
   have:=congrArg Prod.snd h1
   simp only at this
   omega
  cases h1
 simp only at h
 rcases h2:modP (t.drop m) with ⟨_|v,j⟩
 · rw [h2] at h;cases h
 rw [h2] at h
 have b2:m+j≤t.length:=by
  unfold modP at h2
  split at h2
  ·rename_i hs
   have hl:=sign_len hs
   rcases h3:numP 1 ((t.drop m).drop (bl (t.drop m)+1)) with ⟨_|b,q⟩
   · rw [h3] at h2;cases h2
   rw [h3] at h2
   have hb:=num_pos' h3
   simp only [Prod.mk.injEq] at h2
   simp only [List.length_drop,List.length_cons,List.length_nil] at hb hl
   omega
  simp only [Prod.mk.injEq] at h2
  omega
 simp only at h
 rcases h3:notP (t.drop (m+j)) with ⟨_|b,i⟩
 · rw [h3] at h;cases h
 rw [h3] at h
 have b3:m+j+i≤t.length:=by
  unfold notP at h3
  split at h3
  ·rename_i hs
   have hl:=sign_len hs
   simp only [Prod.mk.injEq] at h3
   simp only [List.length_drop,List.length_cons,List.length_nil] at hl
   omega
  split at h3
  ·rename_i hs
   have hl:=sign_len hs
   simp only [Prod.mk.injEq] at h3
   simp only [List.length_drop,List.length_cons,List.length_nil] at hl
   omega
  cases h3
 simp only at h
 rcases h4:rngP (t.drop (m+j+i)) with ⟨_|l,q⟩
 · rw [h4] at h;cases h
 rw [h4] at h
 have b4:=rng_le _ _ _ _ h4
 simp only [Prod.mk.injEq] at h
 rw [List.length_drop] at b4
 omega
end
end Go.Proofs.YtgfajgkjbckkgaaGreatDoor.PZ
end
