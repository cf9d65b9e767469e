/- Texts of this seat, joined. Conditions: none beyond each statement's own. -/
import Derived.Test.YtklebhlanidloaaGreatDoorD25
set_option linter.all false
section
noncomputable section
namespace Go.Proofs.YtklebhlanidloaaGreatDoor.PZ
open Go.RowKit Go.Proofs.YtklebhlanidloaaGreatDoorW.PrintWords Go.Proofs.YtklebhlanidloaaGreatDoorW.PrintLast Go.Proofs.YtklebhlanidloaaGreatDoorW.PrintMore
attribute [local go_sem] max2_int min2_int max_two min_two max_three min_three max_four min_four   -- for this text's walks alone
mutual
def slices_Concat_byte_byte.l0:Nat→List (List Int)→Int→List (List Int)→Int→Int→Option (List Int)
 | 0,_,_,_,_,_=>none
 | k+1,x0,x3,x9,x10,x11=>if x11<x10 then (if 0≤x11 then (if x11<(x9.length:Int) then (if (wrap64 (x3+((rd_L4 x9 x11).length:Int)))<0 then (none) else (slices_Concat_byte_byte.l0 k x0 (wrap64 (x3+((rd_L4 x9 x11).length:Int))) x9 x10 (wrap64 (x11+1)))) else (none)) else (none)) else ((slices_Grow_byte_byte.f () x3).bind fun cF=>(slices_Concat_byte_byte.l1 k cF x0 (x0.length:Int) 0))
def slices_Concat_byte_byte.l1:Nat→List Int→List (List Int)→Int→Int→Option (List Int)
 | 0,_,_,_,_=>none
 | k+1,x6,x25,x26,x27=>if x27<x26 then (if 0≤x27 then (if x27<(x25.length:Int) then (if x6.length+(rd_L4 x25 x27).length<140737488355328 then (slices_Concat_byte_byte.l1 k (x6 ++ (rd_L4 x25 x27)) x25 x26 (wrap64 (x27+1))) else (none)) else (none)) else (none)) else (some x6)
end
def slices_Concat_byte_byte.f (k:Nat)(l0:List (List Int)):Option (List Int):=slices_Concat_byte_byte.l0 k l0 0 l0 (l0.length:Int) 0
theorem slices_Concat_byte_byte.mono_l:∀ k,(∀ y0 y1 y2 y3 y4,LeO (slices_Concat_byte_byte.l0 k y0 y1 y2 y3 y4) (slices_Concat_byte_byte.l0 (k+1) y0 y1 y2 y3 y4))∧(∀ y0 y1 y2 y3,LeO (slices_Concat_byte_byte.l1 k y0 y1 y2 y3) (slices_Concat_byte_byte.l1 (k+1) y0 y1 y2 y3))
 | 0=>⟨fun _ _ _ _ _ r h=>by simp [slices_Concat_byte_byte.l0] at h,fun _ _ _ _ r h=>by simp [slices_Concat_byte_byte.l1] at h⟩
 | k+1=>by
  obtain ⟨ih0,ih1⟩:=slices_Concat_byte_byte.mono_l k
  refine ⟨?_,?_⟩
  ·intro y0 y1 y2 y3 y4
   unfold slices_Concat_byte_byte.l0
   repeat' first|(with_reducible first|apply ih0|apply ih1|apply LeO.refl|apply LeO.none|refine LeO.ite ?_ ?_|refine LeO.bind ?_ (fun _=>?_))|apply ih0|apply ih1|apply LeO.none
  ·intro y0 y1 y2 y3
   unfold slices_Concat_byte_byte.l1
   repeat' first|(with_reducible first|apply ih0|apply ih1|apply LeO.refl|apply LeO.none|refine LeO.ite ?_ ?_|refine LeO.bind ?_ (fun _=>?_))|apply ih0|apply ih1|apply LeO.none
theorem slices_Concat_byte_byte.mono:∀ a0 k,LeO (slices_Concat_byte_byte.f k a0) (slices_Concat_byte_byte.f (k+1) a0):=by
 intro a0 k
 obtain ⟨ih0,ih1⟩:=slices_Concat_byte_byte.mono_l k
 unfold slices_Concat_byte_byte.f
 repeat' first|(with_reducible first|apply ih0|apply ih1|apply LeO.refl|apply LeO.none|refine LeO.ite ?_ ?_|refine LeO.bind ?_ (fun _=>?_))|apply ih0|apply ih1|apply LeO.none
set_option maxHeartbeats 8000000 in
set_option maxRecDepth 100000 in
theorem slices_Concat_byte_byte.calls (k:Nat)(A0:Option Addr)(c0:Nat)(l0:List (List Int))(r:List Int)(w:World)(hr0:Kd.C (Kd.slice 5 (Kd.int .u8)) w A0 l0.length l0)(hc0:l0.length≤c0)(h:slices_Concat_byte_byte.f k l0=some r) :
  Calls Tryz.prog 59 #[.slice A0 l0.length c0] w fun e w'=>∃ v0_:Value,e = .returned (v0_)∧Kd.R (Kd.int .u8) 5 w' w.heap.size (fun _=>True) v0_ r∧Below w.heap.size w w':=by
 have HR0:=zS hr0
 have HC0:=zS hc0
 clear hr0 hc0
 have HB:=zS (Below.refl w.heap.size w)
 have H:(slices_Concat_byte_byte.l0 k l0 0 l0 (l0.length:Int) 0)=some r:=h
 clear h
 have H':=zS H
 clear H
 go_enter Tryz.func59,Tryz.ntmps59
 go_wp2
 go_loopg [3,11] k (fun kq v3 v11 w'=>∃ (aA:Int) (aH:Int),v3 = .int .i64 aA∧v11 = .int .i64 aH∧Sd (slices_Concat_byte_byte.l0 kq l0 aA l0 (l0.length:Int) aH=some r)∧Sd (kq≤k)∧Sd (Below w.heap.size w w'))
 case atStart=>exact ⟨(0),(0),(by first|rfl|(simp;done)|(simp [*];done)),(by first|rfl|(simp;done)|(simp [*];done)),H',⟨Nat.le_refl _⟩,⟨bl HB⟩⟩
 case round=>
  clear H'
  obtain ⟨aA,aH,rfl,rfl,HA,HK1,HB⟩:=hrel
  cases gk with
  | zero=>exact absurd HA.out (by simp [slices_Concat_byte_byte.l0])
  | succ k1=>
   have H:=HA.out
   clear HA
   simp only [slices_Concat_byte_byte.l0] at H
   by_cases c2:aH<(l0.length:Int)
   ·rw [if_pos c2] at H
    have cg:=zC c2
    clear c2
    by_cases c3:0≤aH
    rotate_left
    ·rw [if_neg c3] at H
     exact absurd H (by simp)
    rw [if_pos c3] at H
    have eR:=zC c3
    clear c3
    by_cases c4:aH<(l0.length:Int)
    rotate_left
    ·rw [if_neg c4] at H
     exact absurd H (by simp)
    rw [if_pos c4] at H
    have dx:=zC c4
    clear c4
    by_cases c5:(wrap64 (aA+((rd_L4 l0 aH).length:Int)))<0
    ·rw [if_pos c5] at H
     exact absurd H (by simp)
    rw [if_neg c5] at H
    have eS:=zD c5
    clear c5
    have H':=zS H
    clear H
    have cG:0≤(aH:Int):=zB (by first|(with_reducible assumption)|assumption)
    have cH:aH<(l0.length:Int):=zB (by first|(with_reducible assumption)|assumption)
    obtain ⟨fI,eT,eU,eV,bq,hl345_0,hi345_0⟩:=at_L4 HR0.out aH cG cH
    cases eV
    replace bq:=(HB.out.cell (World.block_lt_of_cell? w _ bq)).trans bq
    have ez:=zS hi345_0
    have eA:=zS hl345_0
    clear hi345_0 hl345_0
    replace cG:=eq_true cG
    replace cH:=eq_true cH
    go_wp2
    go_roundg k1
    case measure=>have:=HK1.out;omega
    case rel=>exact ⟨(wrap64 (aA+((rd_L4 l0 aH).length:Int))),(wrap64 (aH+1)),(by first|rfl|(simp;done)|(simp [*];done)),(by first|rfl|(simp;done)|(simp [*];done)),H',⟨by have:=HK1.out;omega⟩,⟨bl HB⟩⟩
   rw [if_neg c2] at H
   have cg:=zD c2
   clear c2
   replace H:=Option.bind_eq_some_iff.mp H
   obtain ⟨cF,A60,H⟩:=H
   try dsimp only at H
   have A6:=zS A60
   clear A60
   have H':=zS H
   clear H
   go_wp2_with (first|((with_reducible refine gate_callee (f:=85) rfl ?_);refine gL (some 24) Tryz.func85 #[.slice none 0 0,.int .i64 aA] ?_;(with_reducible refine (slices_Grow_byte_byte.calls () aA cF _ A6.out).mono ?_);rintro e w7 ⟨hq,rfl,ho0,hb⟩;refine ⟨_,rfl,?_⟩;have dG:=zS (Kd.R_lower ho0 (bz HB));replace HB:=bs HB hb;(try clear hb);(try clear ho0)))
   go_loopg [6,27] k1 (fun kq v6 v27 w'=>∃ (cd:List Int) (ay:Int),v27 = .int .i64 ay∧Sd (slices_Concat_byte_byte.l1 kq cd l0 (l0.length:Int) ay=some r)∧Sd (kq≤k1)∧Sd (Kd.R (Kd.int .u8) 5 w' w.heap.size (fun _=>True) v6 cd)∧Sd (Below w.heap.size w w'))
   case atStart=>exact ⟨(cF),(0),(by first|rfl|(simp;done)|(simp [*];done)),H',⟨Nat.le_refl _⟩,⟨ro dG⟩,⟨bl HB⟩⟩
   case round=>
    clear H'
    try clear c2
    try clear cg
    try clear p2
    try clear c3
    try clear eR
    try clear p3
    try clear q3
    try clear hx3
    try clear c4
    try clear dx
    try clear c5
    try clear eS
    try clear p6
    try clear bq
    try clear cG
    try clear cH
    obtain ⟨cd,ay,rfl,HA,HK2,HO_6,HB⟩:=hrel
    cases gk with
    | zero=>exact absurd HA.out (by simp [slices_Concat_byte_byte.l1])
    | succ k2=>
     have H:=HA.out
     clear HA
     simp only [slices_Concat_byte_byte.l1] at H
     by_cases c8:ay<(l0.length:Int)
     rotate_left
     ·rw [if_neg c8] at H
      have dH:=zD c8
      clear c8
      obtain rfl:=zE H
      go_wp2
      go_ret
      exact ⟨_,by first|rfl|(simp <;> rfl)|(simp [*] <;> rfl),by (with_reducible repeat (first|apply Kd.R_alloc|apply Kd.R_drewN|apply Kd.R_drew));exact HO_6.out,bl HB⟩
     rw [if_pos c8] at H
     have dH:=zC c8
     clear c8
     by_cases c9:0≤ay
     rotate_left
     ·rw [if_neg c9] at H
      exact absurd H (by simp)
     rw [if_pos c9] at H
     have dI:=zC c9
     clear c9
     by_cases c10:ay<(l0.length:Int)
     rotate_left
     ·rw [if_neg c10] at H
      exact absurd H (by simp)
     rw [if_pos c10] at H
     have dJ:=zC c10
     clear c10
     by_cases c11:cd.length+(rd_L4 l0 ay).length<140737488355328
     rotate_left
     ·rw [if_neg c11] at H
      exact absurd H (by simp)
     rw [if_pos c11] at H
     have LMc11:=zS c11
     clear c11
     obtain ⟨dK,bQ⟩:∃ y_:List Int,y_=(cd ++ (rd_L4 l0 ay)):=⟨_,rfl⟩
     replace H:(slices_Concat_byte_byte.l1 k2 dK l0 (l0.length:Int) (wrap64 (ay+1)))=some r:=by first|(rw [bQ];with_reducible exact H)|(have H2_:=(Option.bind_some _ _).symm.trans H;rw [bQ];with_reducible exact H2_)|(have H2_:=(Option.bind_some _ _).symm.trans H;with_reducible exact H2_)|with_reducible exact H|(rw [bQ];exact H)|exact H
     have dL:=zS bQ
     clear bQ
     have H':=zS H
     clear H
     have dy:0≤(ay:Int):=zB (by first|(with_reducible assumption)|assumption)
     have dz:ay<(l0.length:Int):=zB (by first|(with_reducible assumption)|assumption)
     obtain ⟨fJ,eW,eX,eY,bI,hl349_0,hi349_0⟩:=at_L4 HR0.out ay dy dz
     cases eY
     replace bI:=(HB.out.cell (World.block_lt_of_cell? w _ bI)).trans bI
     have cI:=zS hi349_0
     have eB:=zS hl349_0
     clear hi349_0 hl349_0
     replace dy:=eq_true dy
     replace dz:=eq_true dz
     go_wp2_with (first|((with_reducible refine gate_builtin (b:=.append) (xs:=#[.tmp 31,.tmp 32]) rfl ?_);at_builtin;refine Kd.R_append_rows (Kd.int .u8) (w0:=w) w.heap.size rfl (.tmp 31) (.tmp 32) 27 5 (.int .u8 0) 1 rfl Tryz.underlying27 info5 rfl (by decide) (by omega) u6 cd (rd_L4 l0 ay) _ _ _ (fun _=>True) (fun _=>False) rfl rfl ?aO ?aR (fun _ _ h=>h) (fun _ h=>h.elim) ?aF ?aB ?aS ?aL ?_;(case aR=>exact Kd.C_below cI.out (bl HB));(case aB=>exact (bl HB));(case aF=>exact (fun _ _=>trivial));(case aO=>exact (ro HO_6));(case aS=>exact (bz HB));(case aL=>have:=LMc11.out;omega);intro hs w12 ho hb hg hat;rw [← dL.out] at ho;replace HB:=zS (hb);have dM:=zS (ho);clear HO_6;clear ho hb hg hat))
     go_roundg k2
     case measure=>have:=HK1.out;have:=HK2.out;omega
     case rel=>exact ⟨(dK),(wrap64 (ay+1)),(by first|rfl|(simp;done)|(simp [*];done)),H',⟨by have:=HK1.out;have:=HK2.out;omega⟩,⟨ro dM⟩,⟨bl HB⟩⟩
mutual
def shape_Read.j0:Nat→List Int→Int→Int→Int→Int→Int→Int→Int→Int→List (S114)→List (S114)→List (S114)→List (S114)→Bool→Int→Int→Int→Int→Int→Int→Int→Int→Int→Bool→Int→Int→Option (Bool×List Int×Int×Int)
 | 0,_,_,_,_,_,_,_,_,_,_,_,_,_,_,_,_,_,_,_,_,_,_,_,_,_,_=>none
 | k+1,x2,x8,b1,bJ,b2,b3,b4,b5,b6,eC,eD,eE,eF,eG,eH,eI,eJ,eK,cJ,cK,eL,eM,eN,eO,eP,eQ=>(shape_cut.f k x2 bJ).bind fun b7=>((sym_Ungrouped.f k b1 bJ b2 b3 b4 b5 b6 b7.1 cJ cK).bind fun b8=>((sym_Ungrouped.f k b1 bJ b2 b3 b4 b5 b6 b7.2.1 0 0).bind fun b9=>(if b8.2.2=0 then (if b9.2.2=0 then (shape_Read.j1 k x8 b8.1 b9.1 (b7.2.2 != (decide ((b7.2.1.length:Int)>0)))) else (shape_Read.j1 k x8 b8.1 b9.1 true)) else (shape_Read.j1 k x8 b8.1 b9.1 true))))
def shape_Read.j1:Nat→Int→List Int→List Int→Bool→Option (Bool×List Int×Int×Int)
 | 0,_,_,_,_=>none
 | k+1,x8,x17,x20,x88=>if x88=true then (some (false,([]:List Int),0,10)) else ((slices_Concat_byte_byte.f k (([x17,x20]:List (List Int)))).bind fun bo=>((dec_Norm.f k false bo (wrap64 (x8 - (x20.length:Int)))).bind fun aU=>(if aU.2.2.2=0 then (some (aU.1,aU.2.1,aU.2.2.1,0)) else (some (false,([]:List Int),0,10)))))
end
def shape_Read.f (k:Nat)(ah:Int)(aq:Int)(ag:Int)(au:Int)(av:Int)(aw:Int)(aj:Int)(aV:List (S114))(aW:List (S114))(aX:List (S114))(aY:List (S114))(br:Bool)(bu:Int)(bv:Int)(bw:Int)(bx:Int)(bb:Int)(aD:Int)(aI:Int)(aJ:Int)(ar:Int)(aK:Bool)(aM:Int)(aN:Int)(l2:List Int):Option (Bool×List Int×Int×Int):=if ar>0 then ((shape_cut.f k l2 aj).bind fun bA=>((shape_power.f k ah aq ag au av aw aj bA.2.1).bind fun bR=>(if bA.2.2=true then (if bR.2=true then (shape_Read.j0 k bA.1 bR.1 ah aq ag au av aw aj aV aW aX aY br bu bv bw bx bb aD aI aJ ar aK aM aN) else (some (false,([]:List Int),0,10))) else (some (false,([]:List Int),0,10))))) else (shape_Read.j0 k l2 0 ah aq ag au av aw aj aV aW aX aY br bu bv bw bx bb aD aI aJ ar aK aM aN)
theorem shape_Read.mono_l:∀ k,(∀ y0 y1 y2 y3 y4 y5 y6 y7 y8 y9 y10 y11 y12 y13 y14 y15 y16 y17 y18 y19 y20 y21 y22 y23 y24 y25,LeO (shape_Read.j0 k y0 y1 y2 y3 y4 y5 y6 y7 y8 y9 y10 y11 y12 y13 y14 y15 y16 y17 y18 y19 y20 y21 y22 y23 y24 y25) (shape_Read.j0 (k+1) y0 y1 y2 y3 y4 y5 y6 y7 y8 y9 y10 y11 y12 y13 y14 y15 y16 y17 y18 y19 y20 y21 y22 y23 y24 y25))∧(∀ y0 y1 y2 y3,LeO (shape_Read.j1 k y0 y1 y2 y3) (shape_Read.j1 (k+1) y0 y1 y2 y3))
 | 0=>⟨fun _ _ _ _ _ _ _ _ _ _ _ _ _ _ _ _ _ _ _ _ _ _ _ _ _ _ r h=>by simp [shape_Read.j0] at h,fun _ _ _ _ r h=>by simp [shape_Read.j1] at h⟩
 | k+1=>by
  obtain ⟨ih0,ih1⟩:=shape_Read.mono_l k
  refine ⟨?_,?_⟩
  ·intro y0 y1 y2 y3 y4 y5 y6 y7 y8 y9 y10 y11 y12 y13 y14 y15 y16 y17 y18 y19 y20 y21 y22 y23 y24 y25
   unfold shape_Read.j0
   repeat' first|(with_reducible first|apply ih0|apply ih1|apply dec_Norm.mono|apply shape_cut.mono|apply shape_power.mono|apply slices_Concat_byte_byte.mono|apply sym_Ungrouped.mono|apply LeO.refl|apply LeO.none|refine LeO.ite ?_ ?_|refine LeO.bind ?_ (fun _=>?_))|apply ih0|apply ih1|apply dec_Norm.mono|apply shape_cut.mono|apply shape_power.mono|apply slices_Concat_byte_byte.mono|apply sym_Ungrouped.mono|apply LeO.none
  ·intro y0 y1 y2 y3
   unfold shape_Read.j1
   repeat' first|(with_reducible first|apply ih0|apply ih1|apply dec_Norm.mono|apply shape_cut.mono|apply shape_power.mono|apply slices_Concat_byte_byte.mono|apply sym_Ungrouped.mono|apply LeO.refl|apply LeO.none|refine LeO.ite ?_ ?_|refine LeO.bind ?_ (fun _=>?_))|apply ih0|apply ih1|apply dec_Norm.mono|apply shape_cut.mono|apply shape_power.mono|apply slices_Concat_byte_byte.mono|apply sym_Ungrouped.mono|apply LeO.none
theorem shape_Read.mono:∀ a0 a1 a2 a3 a4 a5 a6 a7 a8 a9 a10 a11 a12 a13 a14 a15 a16 a17 a18 a19 a20 a21 a22 a23 a24 k,LeO (shape_Read.f k a0 a1 a2 a3 a4 a5 a6 a7 a8 a9 a10 a11 a12 a13 a14 a15 a16 a17 a18 a19 a20 a21 a22 a23 a24) (shape_Read.f (k+1) a0 a1 a2 a3 a4 a5 a6 a7 a8 a9 a10 a11 a12 a13 a14 a15 a16 a17 a18 a19 a20 a21 a22 a23 a24):=by
 intro a0 a1 a2 a3 a4 a5 a6 a7 a8 a9 a10 a11 a12 a13 a14 a15 a16 a17 a18 a19 a20 a21 a22 a23 a24 k
 obtain ⟨ih0,ih1⟩:=shape_Read.mono_l k
 unfold shape_Read.f
 repeat' first|(with_reducible first|apply ih0|apply ih1|apply dec_Norm.mono|apply shape_cut.mono|apply shape_power.mono|apply slices_Concat_byte_byte.mono|apply sym_Ungrouped.mono|apply LeO.refl|apply LeO.none|refine LeO.ite ?_ ?_|refine LeO.bind ?_ (fun _=>?_))|apply ih0|apply ih1|apply dec_Norm.mono|apply shape_cut.mono|apply shape_power.mono|apply slices_Concat_byte_byte.mono|apply sym_Ungrouped.mono|apply LeO.none
set_option maxHeartbeats 8000000 in
set_option maxRecDepth 100000 in
theorem shape_Read.calls (k:Nat)(ah:Int)(aq:Int)(ag:Int)(au:Int)(av:Int)(aw:Int)(aj:Int)(ch:Option Addr)(ci:Nat)(aV:List (S114))(cj:Option Addr)(ck:Nat)(aW:List (S114))(cl:Option Addr)(cm:Nat)(aX:List (S114))(cn:Option Addr)(co:Nat)(aY:List (S114))(br:Bool)(bu:Int)(bv:Int)(bw:Int)(bx:Int)(bb:Int)(aD:Int)(aI:Int)(aJ:Int)(ar:Int)(aK:Bool)(aM:Int)(aN:Int)(P2_:Nat→Prop)(A2:Option Addr)(c2:Nat)(l2:List Int)(r1:Bool)(r2:List Int)(r3:Int)(r4:Int)(w:World)(cP:Kd.C k114 w ch aV.length aV)(cQ:aV.length≤ci)(cR:Kd.C k114 w cj aW.length aW)(cS:aW.length≤ck)(cT:Kd.C k114 w cl aX.length aX)(cU:aX.length≤cm)(cV:Kd.C k114 w cn aY.length aY)(cW:aY.length≤co)(hs2:Kd.V (Kd.int .i32) 21 w w.heap.size (fun k_=>P2_ k_) (.slice A2 l2.length c2) l2)(h:shape_Read.f k ah aq ag au av aw aj aV aW aX aY br bu bv bw bx bb aD aI aJ ar aK aM aN l2=some (r1,r2,r3,r4)) :
  Calls Tryz.prog 24 #[.agg #[.int .i32 ah,.int .i32 aq,.int .i32 ag,.int .i32 au,.int .i32 av,.int .i32 aw,.int .i32 aj],.agg #[.slice ch aV.length ci,.slice cj aW.length ck,.slice cl aX.length cm,.slice cn aY.length co,.bool br,.int .i64 bu,.int .i64 bv,.int .i64 bw,.int .i64 bx,.int .i64 bb,.int .i64 aD,.int .i64 aI,.int .i64 aJ,.int .i64 ar,.bool aK,.int .i32 aM,.int .i64 aN],.slice A2 l2.length c2] w fun e w'=>∃ v1_:Value,e = .returned (.tuple #[.agg #[.bool r1,v1_,.int .i64 r3],.int .i64 r4])∧Kd.R (Kd.int .u8) 5 w' w.heap.size (fun k_=>(w.heap.size≤k_)) v1_ r2∧Below w.heap.size w w':=by
 have hu23:=Tryz.underlying23
 have hu26:=Tryz.underlying26
 have hu29:=Tryz.underlying29
 have fK:=zS cP
 have fL:=zS cQ
 clear cP cQ
 have fM:=zS cR
 have fN:=zS cS
 clear cR cS
 have fO:=zS cT
 have fP:=zS cU
 clear cT cU
 have fQ:=zS cV
 have fR:=zS cW
 clear cV cW
 have HO2:=zS (show Kd.V (Kd.int .i32) 21 w w.heap.size (fun k_=>(P2_ k_∨w.heap.size≤k_)) (.slice A2 l2.length c2) l2 from Kd.V_mono hs2 (fun k_ hk=>.inl hk))
 have HB:=zS (Below.refl w.heap.size w)
 have H:(if ar>0 then ((shape_cut.f k l2 aj).bind fun bA=>((shape_power.f k ah aq ag au av aw aj bA.2.1).bind fun bR=>(if bA.2.2=true then (if bR.2=true then (shape_Read.j0 k bA.1 bR.1 ah aq ag au av aw aj aV aW aX aY br bu bv bw bx bb aD aI aJ ar aK aM aN) else (some (false,([]:List Int),0,10))) else (some (false,([]:List Int),0,10))))) else (shape_Read.j0 k l2 0 ah aq ag au av aw aj aV aW aX aY br bu bv bw bx bb aD aI aJ ar aK aM aN))=some (r1,r2,r3,r4):=h
 clear h
 have HC4:=zS H
 clear H
 go_enter Tryz.func24,Tryz.ntmps24
 go_upto_if 26 with (first|((with_reducible refine gate_dst (N:=3) rfl ?_);(try (refine gate_guard (by rfl) ?_;dsimp only));refine box_event ?hg (N:=3) ?hd (cs:=#[.int .i32 ah,.int .i32 aq,.int .i32 ag,.int .i32 au,.int .i32 av,.int .i32 aw,.int .i32 aj]) (t:=23) ?hr ?_;(case hd=>rfl);(case hg=>rfl);(case hr=>first|(go_simp;done)|(go_simp;rfl));intro ae hg w5 hbox hb;replace HO2:=zS (Kd.V_below (Kd.V_elderB (vo HO2) ae (Nat.le_of_eq hg.symm)) hb);have aa:=zS (hbox);have fS:=bg HB hg;replace HB:=bs HB hb;clear hb hbox hg)|((with_reducible refine gate_dst (N:=4) rfl ?_);(try (refine gate_guard (by rfl) ?_;dsimp only));refine box_event ?hg (N:=4) ?hd (cs:=#[.slice ch aV.length ci,.slice cj aW.length ck,.slice cl aX.length cm,.slice cn aY.length co,.bool br,.int .i64 bu,.int .i64 bv,.int .i64 bw,.int .i64 bx,.int .i64 bb,.int .i64 aD,.int .i64 aI,.int .i64 aJ,.int .i64 ar,.bool aK,.int .i32 aM,.int .i64 aN]) (t:=26) ?hr ?_;(case hd=>rfl);(case hg=>rfl);(case hr=>first|(go_simp;done)|(go_simp;rfl));intro af hg w6 hbox hb;replace HO2:=zS (Kd.V_below (Kd.V_elderB (vo HO2) af (Nat.le_of_eq hg.symm)) hb);have ac:=zS (hbox);have fT:=bg HB hg;replace HB:=bs HB hb;have aE:=kn aa hg;have aG:=km aa hg;replace aa:=kb aa hb;clear hb hbox hg)|((with_reducible refine gate_dst (N:=6) rfl ?_);(try (refine gate_guard (by rfl) ?_;dsimp only));refine box_event ?hg (N:=6) ?hd (cs:=#[.bool false,.slice none 0 0,.int .i64 0]) (t:=29) ?hr ?_;(case hd=>rfl);(case hg=>rfl);(case hr=>first|(go_simp;done)|(go_simp;rfl));intro ad hg w7 hbox hb;replace HO2:=zS (Kd.V_below (Kd.V_elderB (vo HO2) ad (Nat.le_of_eq hg.symm)) hb);have ab:=zS (hbox);have fU:=bg HB hg;replace HB:=bs HB hb;have am:=kn aa hg;have an:=km aa hg;replace aa:=kb aa hb;have ao:=kn ac hg;have ap:=km ac hg;replace ac:=kb ac hb;clear hb hbox hg;have ht:=aG.out;have hu:=aE.out;have hv:=ao.out;have hw:=ap.out;have cX:=blkc17 ac.out;have cY:=blkf17 ac.out))
 (try simp only [Act.put,sA,sB,sC])
 go_cut [2,8] (fun v2 v8 wc=>∃ (kq:Nat) (cp:List Int) (bK:Int) (bc:Bool) (bd:Int),v8 = .int .i64 bK∧Sd (shape_Read.j0 kq cp bK ah aq ag au av aw aj aV aW aX aY br bu bv bw bx bb aD aI aJ ar aK aM aN=some (r1,r2,r3,r4))∧Sd (kq≤k)∧Sd (Kd.V (Kd.int .i32) 21 wc w.heap.size (fun k_=>(P2_ k_∨w.heap.size≤k_)∧k_≠ae∧k_≠af∧k_≠ad) v2 cp)∧Sd (wc.heap[ae]?=some (.cells #[.int .i32 ah,.int .i32 aq,.int .i32 ag,.int .i32 au,.int .i32 av,.int .i32 aw,.int .i32 aj] 23 (0,0)))∧Sd (wc.heap[af]?=some (.cells #[(.slice ch aV.length ci),(.slice cj aW.length ck),(.slice cl aX.length cm),(.slice cn aY.length co),.bool br,.int .i64 bu,.int .i64 bv,.int .i64 bw,.int .i64 bx,.int .i64 bb,.int .i64 aD,.int .i64 aI,.int .i64 aJ,.int .i64 ar,.bool aK,.int .i32 aM,.int .i64 aN] 26 (0,0)))∧Sd (wc.heap[ad]?=some (.cells #[.bool bc,(.slice none 0 0),.int .i64 bd] 29 (0,0)))∧Sd (Below w.heap.size w wc))
 case first=>
  have H:=HC4.out
  clear HC4
  by_cases c11:ar>0
  rotate_left
  ·rw [if_neg c11] at H
   have bB:decide (0<ar)=false:=zD c11
   clear c11
   (first|rw [bB]|(simp only [i64_w,i32_w];rw [bB])|rw [dN]|skip)
   have H':=zS H
   clear H
   go_wp2
   go_meet
   case rel=>exact ⟨_,(l2),(0),(false),(0),(by first|rfl|(simp;done)|(simp [*];done)),H',⟨by first|omega|exact Nat.le_refl _⟩,⟨by (with_reducible repeat (first|apply Kd.V_alloc|apply Kd.V_drewN|apply Kd.V_drew));exact Kd.V_mono HO2.out (fun _ hk=>⟨hk.1.1.1,⟨hk.1.1.2,⟨hk.1.2,hk.2⟩⟩⟩)⟩,⟨ko aa⟩,⟨ko ac⟩,⟨ko ab⟩,⟨bl HB⟩⟩
  rw [if_pos c11] at H
  have bB:decide (0<ar)=true:=zC c11
  clear c11
  (first|rw [bB]|(simp only [i64_w,i32_w];rw [bB])|rw [dN]|skip)
  replace H:=Option.bind_eq_some_iff.mp H
  obtain ⟨⟨cL,bL,eZ⟩,dO,H⟩:=H
  try dsimp only at H
  have A12:=zS dO
  clear dO
  replace H:=Option.bind_eq_some_iff.mp H
  obtain ⟨⟨cM,dP⟩,dQ,H⟩:=H
  try dsimp only at H
  have A13:=zS dQ
  clear dQ
  by_cases c14:eZ=true
  rotate_left
  ·replace c14:=Bool.eq_false_iff.mpr c14
   subst c14
   rw [if_neg (show ¬ (false=true) by decide)] at H
   simp only [Option.some.injEq,Prod.mk.injEq] at H
   obtain ⟨rfl,rfl,rfl,rfl⟩:=H
   have fV:=aE.out
   have fW:=aG.out
   have fX:=am.out
   have fY:=an.out
   have cZ:=blkc7 aa.out
   have da:=blkf7 aa.out
   go_wp2_with (first|((with_reducible refine gate_callee (f:=55) rfl ?_);refine gL (some 31) Tryz.func55 #[.slice A2 l2.length c2,.int .i32 aj] ?_;(with_reducible refine (shape_cut.calls k (fun k_=>((((P2_ k_∨w.heap.size≤k_)∧k_≠ae)∧k_≠af)∧k_≠ad)) _ _ l2 aj cL bL false _ ?side1 A12.out).mono ?_);(case side1=>exact HO2.out);rintro e w35 ⟨dR,dS,rfl,ho0,ho1,hb⟩;refine ⟨_,rfl,?_⟩;replace HO2:=vb HO2 hb;have aZ:=zS (Kd.V_lower (Kd.V_mono (ok':=fun k_=>(P2_ k_∨w.heap.size≤k_)∧k_≠ae∧k_≠af∧k_≠ad) ho0 (fun k_ hk_=>⟨Or.elim hk_ (fun hs_=>hs_.1.1.1) (fun hn_=>(.inr (Nat.le_trans (bz HB) hn_))),Or.elim hk_ (fun hs_=>hs_.1.1.2) (fun hn_=>(Kd.freshB (ko aa) k_ hn_)),Or.elim hk_ (fun hs_=>hs_.1.2) (fun hn_=>(Kd.freshB (ko ac) k_ hn_)),Or.elim hk_ (fun hs_=>hs_.2) (fun hn_=>(Kd.freshB (ko ab) k_ hn_))⟩)) (bz HB));have az:=zS (Kd.V_lower (Kd.V_mono (ok':=fun k_=>(P2_ k_∨w.heap.size≤k_)∧k_≠ae∧k_≠af∧k_≠ad) ho1 (fun k_ hk_=>⟨Or.elim hk_ (fun hs_=>hs_.1.1.1) (fun hn_=>(.inr (Nat.le_trans (bz HB) hn_))),Or.elim hk_ (fun hs_=>hs_.1.1.2) (fun hn_=>(Kd.freshB (ko aa) k_ hn_)),Or.elim hk_ (fun hs_=>hs_.1.2) (fun hn_=>(Kd.freshB (ko ac) k_ hn_)),Or.elim hk_ (fun hs_=>hs_.2) (fun hn_=>(Kd.freshB (ko ab) k_ hn_))⟩)) (bz HB));replace aa:=kb aa hb;replace ac:=kb ac hb;replace ab:=kb ab hb;replace HB:=bs HB hb;(try clear hb);(try clear ho0);(try clear ho1);have db:=blkc7 aa.out;have dc:=blkf7 aa.out;obtain ⟨e0,e1,e2⟩:=Kd.V_slice az.out;subst e2)|((with_reducible refine gate_callee (f:=56) rfl ?_);refine gL (some 38) Tryz.func56 #[.agg #[.int .i32 ah,.int .i32 aq,.int .i32 ag,.int .i32 au,.int .i32 av,.int .i32 aw,.int .i32 aj],.slice e0 bL.length e1] ?_;(with_reducible refine (shape_power.calls k ah aq ag au av aw aj (fun k_=>((P2_ k_∨w.heap.size≤k_)∧(k_≠ae∧(k_≠af∧k_≠ad)))) _ _ bL cM dP _ ?side1 A13.out).mono ?_);(case side1=>exact az.out);rintro e w38 ⟨rfl,hb⟩;refine ⟨_,rfl,?_⟩;replace HO2:=vb HO2 hb;replace aZ:=vb aZ hb;replace az:=vb az hb;replace aa:=kb aa hb;replace ac:=kb ac hb;replace ab:=kb ab hb;replace HB:=bs HB hb;(try clear hb);(try clear hb2);(try clear hk);(try clear hi);have fZ:=ap.out;have f0:=ao.out;have dd:=blkc3 ab.out;have de:=blkf3 ab.out))
   refine bodyPost_ret (results_ct rfl _ _ ad 29 #[.bool false,.slice none 0 0,.int .i64 0] (0,0) _ rfl (kp ab rfl) Tryz.underlying29 rfl (by kernel_rfl)) rfl ?_
   exact ⟨_,by first|rfl|(simp <;> rfl)|(simp [*] <;> rfl),by first|exact Kd.R_nil _ _ _ _ _|exact Kd.N_nil _ _ _ _ _|exact Kd.V_nil _ _ _ _ _|exact Kd.Q_nil _ _ _ _ _|exact Kd.S_nil _ _ _ _ _,bl HB⟩
  subst c14
  rw [if_pos rfl] at H
  by_cases c15:dP=true
  ·subst c15
   rw [if_pos rfl] at H
   have H':=zS H
   clear H
   have f1:=aE.out
   have f2:=aG.out
   have f3:=am.out
   have f4:=an.out
   have cq:=blkc7 aa.out
   have cr:=blkf7 aa.out
   go_wp2_with (first|((with_reducible refine gate_callee (f:=55) rfl ?_);refine gL (some 31) Tryz.func55 #[.slice A2 l2.length c2,.int .i32 aj] ?_;(with_reducible refine (shape_cut.calls k (fun k_=>((((P2_ k_∨w.heap.size≤k_)∧k_≠ae)∧k_≠af)∧k_≠ad)) _ _ l2 aj cL bL true _ ?side1 A12.out).mono ?_);(case side1=>exact HO2.out);rintro e w19 ⟨dR,dS,rfl,ho0,ho1,hb⟩;refine ⟨_,rfl,?_⟩;replace HO2:=vb HO2 hb;have aZ:=zS (Kd.V_lower (Kd.V_mono (ok':=fun k_=>(P2_ k_∨w.heap.size≤k_)∧k_≠ae∧k_≠af∧k_≠ad) ho0 (fun k_ hk_=>⟨Or.elim hk_ (fun hs_=>hs_.1.1.1) (fun hn_=>(.inr (Nat.le_trans (bz HB) hn_))),Or.elim hk_ (fun hs_=>hs_.1.1.2) (fun hn_=>(Kd.freshB (ko aa) k_ hn_)),Or.elim hk_ (fun hs_=>hs_.1.2) (fun hn_=>(Kd.freshB (ko ac) k_ hn_)),Or.elim hk_ (fun hs_=>hs_.2) (fun hn_=>(Kd.freshB (ko ab) k_ hn_))⟩)) (bz HB));have az:=zS (Kd.V_lower (Kd.V_mono (ok':=fun k_=>(P2_ k_∨w.heap.size≤k_)∧k_≠ae∧k_≠af∧k_≠ad) ho1 (fun k_ hk_=>⟨Or.elim hk_ (fun hs_=>hs_.1.1.1) (fun hn_=>(.inr (Nat.le_trans (bz HB) hn_))),Or.elim hk_ (fun hs_=>hs_.1.1.2) (fun hn_=>(Kd.freshB (ko aa) k_ hn_)),Or.elim hk_ (fun hs_=>hs_.1.2) (fun hn_=>(Kd.freshB (ko ac) k_ hn_)),Or.elim hk_ (fun hs_=>hs_.2) (fun hn_=>(Kd.freshB (ko ab) k_ hn_))⟩)) (bz HB));replace aa:=kb aa hb;replace ac:=kb ac hb;replace ab:=kb ab hb;replace HB:=bs HB hb;(try clear hb);(try clear ho0);(try clear ho1);have df:=blkc7 aa.out;have dg:=blkf7 aa.out;obtain ⟨e3,e4,e5⟩:=Kd.V_slice az.out;subst e5)|((with_reducible refine gate_callee (f:=56) rfl ?_);refine gL (some 38) Tryz.func56 #[.agg #[.int .i32 ah,.int .i32 aq,.int .i32 ag,.int .i32 au,.int .i32 av,.int .i32 aw,.int .i32 aj],.slice e3 bL.length e4] ?_;(with_reducible refine (shape_power.calls k ah aq ag au av aw aj (fun k_=>((P2_ k_∨w.heap.size≤k_)∧(k_≠ae∧(k_≠af∧k_≠ad)))) _ _ bL cM true _ ?side1 A13.out).mono ?_);(case side1=>exact az.out);rintro e w22 ⟨rfl,hb⟩;refine ⟨_,rfl,?_⟩;replace HO2:=vb HO2 hb;replace aZ:=vb aZ hb;replace az:=vb az hb;replace aa:=kb aa hb;replace ac:=kb ac hb;replace ab:=kb ab hb;replace HB:=bs HB hb;(try clear hb);(try clear hb2);(try clear hk);(try clear hi)))
   go_meet
   case rel=>exact ⟨_,(cL),(cM),(false),(0),(by first|rfl|(simp;done)|(simp [*];done)),H',⟨by first|omega|exact Nat.le_refl _⟩,⟨vo aZ⟩,⟨ko aa⟩,⟨ko ac⟩,⟨ko ab⟩,⟨bl HB⟩⟩
  replace c15:=Bool.eq_false_iff.mpr c15
  subst c15
  rw [if_neg (show ¬ (false=true) by decide)] at H
  simp only [Option.some.injEq,Prod.mk.injEq] at H
  obtain ⟨rfl,rfl,rfl,rfl⟩:=H
  have f5:=aE.out
  have f6:=aG.out
  have f7:=am.out
  have f8:=an.out
  have dh:=blkc7 aa.out
  have di:=blkf7 aa.out
  go_wp2_with (first|((with_reducible refine gate_callee (f:=55) rfl ?_);refine gL (some 31) Tryz.func55 #[.slice A2 l2.length c2,.int .i32 aj] ?_;(with_reducible refine (shape_cut.calls k (fun k_=>((((P2_ k_∨w.heap.size≤k_)∧k_≠ae)∧k_≠af)∧k_≠ad)) _ _ l2 aj cL bL true _ ?side1 A12.out).mono ?_);(case side1=>exact HO2.out);rintro e w26 ⟨dR,dS,rfl,ho0,ho1,hb⟩;refine ⟨_,rfl,?_⟩;replace HO2:=vb HO2 hb;have aZ:=zS (Kd.V_lower (Kd.V_mono (ok':=fun k_=>(P2_ k_∨w.heap.size≤k_)∧k_≠ae∧k_≠af∧k_≠ad) ho0 (fun k_ hk_=>⟨Or.elim hk_ (fun hs_=>hs_.1.1.1) (fun hn_=>(.inr (Nat.le_trans (bz HB) hn_))),Or.elim hk_ (fun hs_=>hs_.1.1.2) (fun hn_=>(Kd.freshB (ko aa) k_ hn_)),Or.elim hk_ (fun hs_=>hs_.1.2) (fun hn_=>(Kd.freshB (ko ac) k_ hn_)),Or.elim hk_ (fun hs_=>hs_.2) (fun hn_=>(Kd.freshB (ko ab) k_ hn_))⟩)) (bz HB));have az:=zS (Kd.V_lower (Kd.V_mono (ok':=fun k_=>(P2_ k_∨w.heap.size≤k_)∧k_≠ae∧k_≠af∧k_≠ad) ho1 (fun k_ hk_=>⟨Or.elim hk_ (fun hs_=>hs_.1.1.1) (fun hn_=>(.inr (Nat.le_trans (bz HB) hn_))),Or.elim hk_ (fun hs_=>hs_.1.1.2) (fun hn_=>(Kd.freshB (ko aa) k_ hn_)),Or.elim hk_ (fun hs_=>hs_.1.2) (fun hn_=>(Kd.freshB (ko ac) k_ hn_)),Or.elim hk_ (fun hs_=>hs_.2) (fun hn_=>(Kd.freshB (ko ab) k_ hn_))⟩)) (bz HB));replace aa:=kb aa hb;replace ac:=kb ac hb;replace ab:=kb ab hb;replace HB:=bs HB hb;(try clear hb);(try clear ho0);(try clear ho1);have dj:=blkc7 aa.out;have dk:=blkf7 aa.out;obtain ⟨e6,e7,e8⟩:=Kd.V_slice az.out;subst e8)|((with_reducible refine gate_callee (f:=56) rfl ?_);refine gL (some 38) Tryz.func56 #[.agg #[.int .i32 ah,.int .i32 aq,.int .i32 ag,.int .i32 au,.int .i32 av,.int .i32 aw,.int .i32 aj],.slice e6 bL.length e7] ?_;(with_reducible refine (shape_power.calls k ah aq ag au av aw aj (fun k_=>((P2_ k_∨w.heap.size≤k_)∧(k_≠ae∧(k_≠af∧k_≠ad)))) _ _ bL cM false _ ?side1 A13.out).mono ?_);(case side1=>exact az.out);rintro e w29 ⟨rfl,hb⟩;refine ⟨_,rfl,?_⟩;replace HO2:=vb HO2 hb;replace aZ:=vb aZ hb;replace az:=vb az hb;replace aa:=kb aa hb;replace ac:=kb ac hb;replace ab:=kb ab hb;replace HB:=bs HB hb;(try clear hb);(try clear hb2);(try clear hk);(try clear hi);have f9:=ap.out;have ga:=ao.out;have dl:=blkc3 ab.out;have dm:=blkf3 ab.out))
  refine bodyPost_ret (results_ct rfl _ _ ad 29 #[.bool false,.slice none 0 0,.int .i64 0] (0,0) _ rfl (kp ab rfl) Tryz.underlying29 rfl (by kernel_rfl)) rfl ?_
  exact ⟨_,by first|rfl|(simp <;> rfl)|(simp [*] <;> rfl),by first|exact Kd.R_nil _ _ _ _ _|exact Kd.N_nil _ _ _ _ _|exact Kd.V_nil _ _ _ _ _|exact Kd.Q_nil _ _ _ _ _|exact Kd.S_nil _ _ _ _ _,bl HB⟩
 case rest=>
  clear HC4
  try clear c1
  try clear c2
  try clear p2
  try clear c3
  try clear c5
  try clear c8
  try clear c9
  try clear c11
  try clear bB
  try clear c14
  try clear c15
  try clear c16
  try clear c17
  try clear c23
  try clear c24
  try clear c30
  try clear c32
  try clear c33
  try clear c39
  try clear cX
  try clear cq
  try clear df
  try clear dh
  try clear dj
  try clear dl
  try clear cZ
  try clear db
  try clear dd
  try clear cY
  try clear cr
  try clear dg
  try clear di
  try clear dk
  try clear dm
  try clear da
  try clear dc
  try clear de
  obtain ⟨kq,cp,bK,bc,bd,rfl,HA,HJ3,HO_2,aa,ac,ab,HB⟩:=hcut
  cases kq with
  | zero=>exact absurd HA.out (by simp [shape_Read.j0])
  | succ kj3=>
   have H:=HA.out
   clear HA
   simp only [shape_Read.j0] at H
   replace H:=Option.bind_eq_some_iff.mp H
   obtain ⟨⟨dA,cN,cO⟩,dT,H⟩:=H
   try dsimp only at H
   have A41:=zS dT
   clear dT
   replace H:=Option.bind_eq_some_iff.mp H
   obtain ⟨⟨bp,e9,ce⟩,dU,H⟩:=H
   try dsimp only at H
   have A42:=zS dU
   clear dU
   replace H:=Option.bind_eq_some_iff.mp H
   obtain ⟨⟨aP,fa,cf⟩,dV,H⟩:=H
   try dsimp only at H
   have A43:=zS dV
   clear dV
   have dB:=zS H
   clear H
   have gb:=aE.out
   have gc:=aG.out
   have ge:=am.out
   have gg:=an.out
   have dW:=blkc7 aa.out
   have dX:=blkf7 aa.out
   obtain ⟨fb,fc,fd⟩:=Kd.V_slice HO_2.out
   subst fd
   go_upto_region 11 with (first|((with_reducible refine gate_callee (f:=55) rfl ?_);refine gL (some 54) Tryz.func55 #[.slice fb cp.length fc,.int .i32 aq] ?_;(with_reducible refine (shape_cut.calls kj3 (fun k_=>((P2_ k_∨w.heap.size≤k_)∧(k_≠ae∧(k_≠af∧k_≠ad)))) _ _ cp aq dA cN cO _ ?side1 A41.out).mono ?_);(case side1=>exact HO_2.out);rintro e w49 ⟨hx,hy,rfl,ho0,ho1,hb⟩;refine ⟨_,rfl,?_⟩;replace HO_2:=vb HO_2 hb;have bC:=zS (Kd.V_lower (Kd.V_mono (ok':=fun k_=>(P2_ k_∨w.heap.size≤k_)∧k_≠ae∧k_≠af∧k_≠ad) ho0 (fun k_ hk_=>⟨Or.elim hk_ (fun hs_=>hs_.1) (fun hn_=>(.inr (Nat.le_trans (bz HB) hn_))),Or.elim hk_ (fun hs_=>hs_.2.1) (fun hn_=>(Kd.freshB (ko aa) k_ hn_)),Or.elim hk_ (fun hs_=>hs_.2.2.1) (fun hn_=>(Kd.freshB (ko ac) k_ hn_)),Or.elim hk_ (fun hs_=>hs_.2.2.2) (fun hn_=>(Kd.freshB (ko ab) k_ hn_))⟩)) (bz HB));have bD:=zS (Kd.V_lower (Kd.V_mono (ok':=fun k_=>(P2_ k_∨w.heap.size≤k_)∧k_≠ae∧k_≠af∧k_≠ad) ho1 (fun k_ hk_=>⟨Or.elim hk_ (fun hs_=>hs_.1) (fun hn_=>(.inr (Nat.le_trans (bz HB) hn_))),Or.elim hk_ (fun hs_=>hs_.2.1) (fun hn_=>(Kd.freshB (ko aa) k_ hn_)),Or.elim hk_ (fun hs_=>hs_.2.2.1) (fun hn_=>(Kd.freshB (ko ac) k_ hn_)),Or.elim hk_ (fun hs_=>hs_.2.2.2) (fun hn_=>(Kd.freshB (ko ab) k_ hn_))⟩)) (bz HB));replace aa:=kb aa hb;replace ac:=kb ac hb;replace ab:=kb ab hb;replace HB:=bs HB hb;(try clear hb);(try clear ho0);(try clear ho1);have dY:=blkc7 aa.out;have dZ:=blkf7 aa.out;have gh:=ao.out;have gi:=ap.out;have d0:=blkc17 ac.out;have d1:=blkf17 ac.out;obtain ⟨fe,ff,fg⟩:=Kd.V_slice bC.out;subst fg)|((with_reducible refine gate_callee (f:=57) rfl ?_);refine gL (some 65) Tryz.func57 #[.agg #[.int .i32 ah,.int .i32 aq,.int .i32 ag,.int .i32 au,.int .i32 av,.int .i32 aw,.int .i32 aj],.slice fe dA.length ff,.int .i64 bb,.int .i64 aD] ?_;(with_reducible refine (sym_Ungrouped.calls kj3 ah aq ag au av aw aj _ _ dA bb aD bp e9 ce _ (vc bC) (vl bC) A42.out).mono ?_);rintro e w54 ⟨d2,rfl,ho0,hb⟩;refine ⟨_,rfl,?_⟩;replace HO_2:=zS (Kd.V_elder' (vo HO_2) (Kd.R_base ho0) hb);replace bC:=zS (Kd.V_elder' (vo bC) (Kd.R_base ho0) hb);replace bD:=zS (Kd.V_elder' (vo bD) (Kd.R_base ho0) hb);have bE:=zS (Kd.R_lower (Kd.R_newM (M:=fun k_=>(w.heap.size≤k_)) ho0 (bz HB) (fun k_ h_=>h_)) (bz HB));replace aa:=kb aa hb;replace ac:=kb ac hb;replace ab:=kb ab hb;replace HB:=bs HB hb;(try clear hb);(try clear ho0);have d3:=blkc7 aa.out;have d4:=blkf7 aa.out;obtain ⟨fh,fi,fj⟩:=Kd.V_slice bD.out;subst fj)|((with_reducible refine gate_callee (f:=57) rfl ?_);refine gL (some 72) Tryz.func57 #[.agg #[.int .i32 ah,.int .i32 aq,.int .i32 ag,.int .i32 au,.int .i32 av,.int .i32 aw,.int .i32 aj],.slice fh cN.length fi,.int .i64 0,.int .i64 0] ?_;(with_reducible refine (sym_Ungrouped.calls kj3 ah aq ag au av aw aj _ _ cN 0 0 aP fa cf _ (vc bD) (vl bD) A43.out).mono ?_);rintro e w57 ⟨d5,rfl,ho0,hb⟩;refine ⟨_,rfl,?_⟩;replace HO_2:=zS (Kd.V_elder' (vo HO_2) (Kd.R_base ho0) hb);replace bC:=zS (Kd.V_elder' (vo bC) (Kd.R_base ho0) hb);replace bD:=zS (Kd.V_elder' (vo bD) (Kd.R_base ho0) hb);have ct:=zS (Kd.R_lower (Kd.R_new' (Kd.R_newM (M:=fun k_=>(w.heap.size≤k_)) ho0 (bz HB) (fun k_ h_=>h_)) (Kd.R_lt (ro bE))) (bz HB));replace bE:=zS (Kd.R_elder' (ro bE) (Kd.R_base ho0) hb);replace aa:=kb aa hb;replace ac:=kb ac hb;replace ab:=kb ab hb;replace HB:=bs HB hb;(try clear hb);(try clear ho0)))
   (try simp only [Act.put,sA,sB,sC])
   go_cut [88] (fun v88 wc=>∃ (kq:Nat) (bM:Bool),v88 = .bool bM∧Sd (shape_Read.j1 kq bK bp aP bM=some (r1,r2,r3,r4))∧Sd (kq≤kj3)∧Sd (Kd.R (Kd.int .u8) 5 wc w.heap.size (fun k_=>(w.heap.size≤k_)∧some k_≠(d5:Value).ownBlock) d2 bp)∧Sd (Kd.R (Kd.int .u8) 5 wc w.heap.size (fun k_=>(w.heap.size≤k_)∧some k_≠(d2:Value).ownBlock) d5 aP)∧Sd (wc.heap[ae]?=some (.cells #[.int .i32 ah,.int .i32 aq,.int .i32 ag,.int .i32 au,.int .i32 av,.int .i32 aw,.int .i32 aj] 23 (0,0)))∧Sd (wc.heap[af]?=some (.cells #[(.slice ch aV.length ci),(.slice cj aW.length ck),(.slice cl aX.length cm),(.slice cn aY.length co),.bool br,.int .i64 bu,.int .i64 bv,.int .i64 bw,.int .i64 bx,.int .i64 bb,.int .i64 aD,.int .i64 aI,.int .i64 aJ,.int .i64 ar,.bool aK,.int .i32 aM,.int .i64 aN] 26 (0,0)))∧Sd (wc.heap[ad]?=some (.cells #[.bool bc,(.slice none 0 0),.int .i64 bd] 29 (0,0)))∧Sd (Below w.heap.size w wc))
   case first=>
    have H:=dB.out
    clear dB
    by_cases c58:ce=0
    rotate_left
    ·rw [if_neg c58] at H
     have bF:(ce == 0)=false:=zF c58
     have ca:(ce != 0)=true:=zI c58
     (first|rw [bF]|(simp only [i64_w,i32_w];rw [bF])|rw [ca]|skip)
     have H':=zS H
     clear H
     go_wp2
     go_meet
     case rel=>exact ⟨_,(true),(by first|rfl|(simp;done)|(simp [*];done)),H',⟨by have:=HJ3.out;first|omega|exact Nat.le_refl _⟩,⟨by (with_reducible repeat (first|apply Kd.R_alloc|apply Kd.R_drewN|apply Kd.R_drew));exact Kd.R_mono bE.out (fun _ hk=>⟨hk.1.1,hk.2⟩)⟩,⟨by (with_reducible repeat (first|apply Kd.R_alloc|apply Kd.R_drewN|apply Kd.R_drew));exact Kd.R_mono ct.out (fun _ hk=>⟨hk.1.1,hk.2⟩)⟩,⟨ko aa⟩,⟨ko ac⟩,⟨ko ab⟩,⟨bl HB⟩⟩
    rw [if_pos c58] at H
    have bF:(ce == 0)=true:=zH c58
    have ca:(ce != 0)=false:=zG c58
    clear c58
    (first|rw [bF]|(simp only [i64_w,i32_w];rw [bF])|rw [ca]|skip)
    by_cases c59:cf=0
    ·rw [if_pos c59] at H
     have dn:(cf == 0)=true:=zH c59
     have dp:(cf != 0)=false:=zG c59
     clear c59
     have H':=zS H
     clear H
     go_wp2
     go_meet
     case rel=>exact ⟨_,((cO != (decide ((cN.length:Int)>0)))),(by first|rfl|(simp;done)|(simp [*];done)|(cases cO <;> simp;done)|(cases cO <;> simp [*];done)),H',⟨by have:=HJ3.out;first|omega|exact Nat.le_refl _⟩,⟨by (with_reducible repeat (first|apply Kd.R_alloc|apply Kd.R_drewN|apply Kd.R_drew));exact Kd.R_mono bE.out (fun _ hk=>⟨hk.1.1,hk.2⟩)⟩,⟨by (with_reducible repeat (first|apply Kd.R_alloc|apply Kd.R_drewN|apply Kd.R_drew));exact Kd.R_mono ct.out (fun _ hk=>⟨hk.1.1,hk.2⟩)⟩,⟨ko aa⟩,⟨ko ac⟩,⟨ko ab⟩,⟨bl HB⟩⟩
    rw [if_neg c59] at H
    have dn:(cf == 0)=false:=zF c59
    have dp:(cf != 0)=true:=zI c59
    have H':=zS H
    clear H
    go_wp2
    go_meet
    case rel=>exact ⟨_,(true),(by first|rfl|(simp;done)|(simp [*];done)),H',⟨by have:=HJ3.out;first|omega|exact Nat.le_refl _⟩,⟨by (with_reducible repeat (first|apply Kd.R_alloc|apply Kd.R_drewN|apply Kd.R_drew));exact Kd.R_mono bE.out (fun _ hk=>⟨hk.1.1,hk.2⟩)⟩,⟨by (with_reducible repeat (first|apply Kd.R_alloc|apply Kd.R_drewN|apply Kd.R_drew));exact Kd.R_mono ct.out (fun _ hk=>⟨hk.1.1,hk.2⟩)⟩,⟨ko aa⟩,⟨ko ac⟩,⟨ko ab⟩,⟨bl HB⟩⟩
   case rest=>
    clear dB
    try clear c1
    try clear c2
    try clear p2
    try clear c3
    try clear c4
    try clear c5
    try clear c8
    try clear c9
    try clear c11
    try clear bB
    try clear c14
    try clear c15
    try clear c16
    try clear c17
    try clear c23
    try clear c24
    try clear c30
    try clear c32
    try clear c33
    try clear c39
    try clear c45
    try clear c46
    try clear c51
    try clear c55
    try clear c56
    try clear c57
    try clear c58
    try clear bF
    try clear ca
    try clear c59
    try clear dn
    try clear dp
    try clear cX
    try clear cq
    try clear df
    try clear dh
    try clear dj
    try clear dl
    try clear cZ
    try clear db
    try clear dd
    try clear dW
    try clear dY
    try clear d0
    try clear d3
    try clear cY
    try clear cr
    try clear dg
    try clear di
    try clear dk
    try clear dm
    try clear da
    try clear dc
    try clear de
    try clear dX
    try clear dZ
    try clear d1
    try clear d4
    try clear p2
    obtain ⟨kq,bM,rfl,HA,HJ43,HO_17,HO_20,aa,ac,ab,HB⟩:=hcut
    cases kq with
    | zero=>exact absurd HA.out (by simp [shape_Read.j1])
    | succ kj43=>
     have H:=HA.out
     clear HA
     simp only [shape_Read.j1] at H
     by_cases c60:bM=true
     ·subst c60
      rw [if_pos rfl] at H
      simp only [Option.some.injEq,Prod.mk.injEq] at H
      obtain ⟨rfl,rfl,rfl,rfl⟩:=H
      have gj:=an.out
      have gl:=am.out
      have gm:=ap.out
      have gn:=ao.out
      have go:=blkc3 ab.out
      have gp:=blkf3 ab.out
      go_wp2
      refine bodyPost_ret (results_ct rfl _ _ ad 29 #[.bool false,.slice none 0 0,.int .i64 0] (0,0) _ rfl (kp ab rfl) Tryz.underlying29 rfl (by kernel_rfl)) rfl ?_
      exact ⟨_,by first|rfl|(simp <;> rfl)|(simp [*] <;> rfl),by first|exact Kd.R_nil _ _ _ _ _|exact Kd.N_nil _ _ _ _ _|exact Kd.V_nil _ _ _ _ _|exact Kd.Q_nil _ _ _ _ _|exact Kd.S_nil _ _ _ _ _,bl HB⟩
     replace c60:=Bool.eq_false_iff.mpr c60
     subst c60
     rw [if_neg (show ¬ (false=true) by decide)] at H
     obtain ⟨cu,bS⟩:∃ y_:List (List Int),y_=(([bp,aP]:List (List Int))):=⟨_,rfl⟩
     replace H:((slices_Concat_byte_byte.f kj43 cu).bind fun bo=>((dec_Norm.f kj43 false bo (wrap64 (bK - (aP.length:Int)))).bind fun aU=>(if aU.2.2.2=0 then (some (aU.1,aU.2.1,aU.2.2.1,0)) else (some (false,([]:List Int),0,10)))))=some (r1,r2,r3,r4):=by first|(rw [bS];with_reducible exact H)|(have H2_:=(Option.bind_some _ _).symm.trans H;rw [bS];with_reducible exact H2_)|(have H2_:=(Option.bind_some _ _).symm.trans H;with_reducible exact H2_)|with_reducible exact H|(rw [bS];exact H)|exact H
     have cc:=zS bS
     clear bS
     replace H:=Option.bind_eq_some_iff.mp H
     obtain ⟨bo,d6,H⟩:=H
     try dsimp only at H
     have A64:=zS d6
     clear d6
     replace H:=Option.bind_eq_some_iff.mp H
     obtain ⟨⟨cv,cw,cx,bY⟩,d7,H⟩:=H
     try dsimp only at H
     have A65:=zS d7
     clear d7
     by_cases c66:bY=0
     ·rw [if_pos c66] at H
      have d8:(bY == 0)=true:=zH c66
      have d9:(bY != 0)=false:=zG c66
      clear c66
      simp only [Option.some.injEq,Prod.mk.injEq] at H
      obtain ⟨rfl,rfl,rfl,rfl⟩:=H
      obtain ⟨ea,eb,fk⟩:=Kd.R_slice HO_17.out
      subst fk
      obtain ⟨ec,ed,fl⟩:=Kd.R_slice HO_20.out
      subst fl
      go_wp2_with (first|((with_reducible refine gate_dst (N:=93) rfl ?_);(try (refine gate_guard (by rfl) ?_;dsimp only));refine Kd.N_lit (Kd.slice 5 (Kd.int .u8)) _ 27 ?hg (N':=93) ?hd (xs:=([bp,aP]:List (List Int))) (inner:=[.slice ea bp.length eb,.slice ec aP.length ed]) (ok:=(fun k_=>(P2_ k_∨w.heap.size≤k_)∧k_≠ae∧k_≠af∧k_≠ad)) (okp:=(fun k_=>(P2_ k_∨w.heap.size≤k_)∧k_≠ae∧k_≠af∧k_≠ad)) ?hr ?hp (fun _ hk=>hk) ((show ∀ k_,wc.heap.size≤k_→(fun k_=>(P2_ k_∨w.heap.size≤k_)∧k_≠ae∧k_≠af∧k_≠ad) k_ from fun k_ hk=>⟨(.inr (Nat.le_trans (bz HB) hk)),Kd.freshB (ko aa) k_ hk,Kd.freshB (ko ac) k_ hk,Kd.freshB (ko ab) k_ hk⟩) _ (Nat.le_refl _)) (Below.refl _ _) (Nat.le_refl _) (by simp) ?_;(case hd=>rfl);(case hg=>rfl);(case hr=>first|(go_simp;done)|(go_simp;rfl));(case hp=>exact (Reps.one (show Kd.FK (Kd.slice 5 (Kd.int .u8)) _ _ bp [.slice ea bp.length eb] from (Kd.FK_slice_mk (Kd.R_reads' (Kd.R_mono (ok':=(fun k_=>(P2_ k_∨w.heap.size≤k_)∧k_≠ae∧k_≠af∧k_≠ad)) (Kd.R_types (Kd.R_types (Kd.R_types (HO_17.out) aa.out (by decide)) ac.out (by decide)) ab.out (by decide)) (fun k_ hk=>⟨(.inr (hk.1.1.1.1)),⟨hk.1.1.2,⟨hk.1.2,hk.2⟩⟩⟩))).2.1 (Kd.R_F (Kd.R_mono (ok':=(fun k_=>(P2_ k_∨w.heap.size≤k_)∧k_≠ae∧k_≠af∧k_≠ad)) (Kd.R_types (Kd.R_types (Kd.R_types (HO_17.out) aa.out (by decide)) ac.out (by decide)) ab.out (by decide)) (fun k_ hk=>⟨(.inr (hk.1.1.1.1)),⟨hk.1.1.2,⟨hk.1.2,hk.2⟩⟩⟩))))) (Reps.one (show Kd.FK (Kd.slice 5 (Kd.int .u8)) _ _ aP [.slice ec aP.length ed] from (Kd.FK_slice_mk (Kd.R_reads' (Kd.R_mono (ok':=(fun k_=>(P2_ k_∨w.heap.size≤k_)∧k_≠ae∧k_≠af∧k_≠ad)) (Kd.R_types (Kd.R_types (Kd.R_types (HO_20.out) aa.out (by decide)) ac.out (by decide)) ab.out (by decide)) (fun k_ hk=>⟨(.inr (hk.1.1.1.1)),⟨hk.1.1.2,⟨hk.1.2,hk.2⟩⟩⟩))).2.1 (Kd.R_F (Kd.R_mono (ok':=(fun k_=>(P2_ k_∨w.heap.size≤k_)∧k_≠ae∧k_≠af∧k_≠ad)) (Kd.R_types (Kd.R_types (Kd.R_types (HO_20.out) aa.out (by decide)) ac.out (by decide)) ab.out (by decide)) (fun k_ hk=>⟨(.inr (hk.1.1.1.1)),⟨hk.1.1.2,⟨hk.1.2,hk.2⟩⟩⟩))))) (Reps.none _ _))));intro fm w69 cy hb hg_ hnew_;clear hg_ hnew_;(first|rw [← cc.out] at cy|(simp only [Int.reduceToNat] at cy;rw [← cc.out] at cy));have ai:=zS (Kd.N_lower cy (bz HB));replace aa:=kb aa hb;replace ac:=kb ac hb;replace ab:=kb ab hb;replace HB:=bs HB hb;clear HO_17 HO_20;clear hb cy;obtain ⟨fn,fo,fp⟩:=Kd.N_slice ai.out;subst fp)|((with_reducible refine gate_callee (f:=59) rfl ?_);refine gL (some 94) Tryz.func59 #[.slice fn cu.length fo] ?_;(with_reducible refine (slices_Concat_byte_byte.calls kj43 _ _ cu bo _ ?side1 ?side2 A64.out).mono ?_);(case side1=>repeat (first|exact (Kd.N_reads' ai.out).2.2|(with_reducible refine Kd.C_alloc ?_ _)|(with_reducible refine Kd.C_drewN ?_ _)|(with_reducible refine Kd.C_drew ?_)));(case side2=>exact (Kd.N_reads' ai.out).2.1);rintro e w72 ⟨fq,rfl,ho0,hb⟩;refine ⟨_,rfl,?_⟩;replace ai:=zS (Kd.N_elder' (by (with_reducible repeat (first|apply Kd.N_alloc|apply Kd.N_drewN|apply Kd.N_drew));exact ai.out) (Kd.R_base ho0) hb);have ax:=zS (Kd.R_lower (Kd.R_newM (M:=fun k_=>(w.heap.size≤k_)) ho0 (bz HB) (fun k_ h_=>h_)) (bz HB));replace aa:=kb aa hb;replace ac:=kb ac hb;replace ab:=kb ab hb;replace HB:=bs HB hb;(try clear hb);(try clear ho0);obtain ⟨ee,ef,fs⟩:=Kd.R_slice ax.out;subst fs)|((with_reducible refine gate_callee (f:=58) rfl ?_);refine gL (some 99) Tryz.func58 #[.bool false,.slice ee bo.length ef,.int .i64 (wrap64 (bK - (aP.length:Int)))] ?_;(with_reducible refine (dec_Norm.calls kj43 false (fun k_=>some k_=(.slice ee bo.length ef:Value).ownBlock) _ _ bo (wrap64 (bK - (aP.length:Int))) cv cw cx bY _ ?side1 A65.out).mono ?_);(case side1=>exact Kd.R_V (Kd.R_tight rfl (Kd.R_types (Kd.R_types (Kd.R_types (Kd.R_apart' (ax.out) (Kd.N_typed ai.out) (by decide)) aa.out (by decide)) ac.out (by decide)) ab.out (by decide))));rintro e w74 ⟨ft,rfl,ho0,hb⟩;refine ⟨_,rfl,?_⟩;replace ai:=zS (Kd.N_elder' (by (with_reducible repeat (first|apply Kd.N_alloc|apply Kd.N_drewN|apply Kd.N_drew));exact ai.out) (Kd.R_base ho0) hb);have bn:=zS (Kd.R_lower (Kd.R_new' (Kd.R_newM (M:=fun k_=>(w.heap.size≤k_)) (Kd.R_mono (ok':=fun k_=>True) ho0 (fun _ hk_=>trivial)) (bz HB) (fun k_ h_=>h_)) (Kd.R_lt (ro ax))) (bz HB));replace ax:=zS (Kd.R_elder' (ro ax) (Kd.R_base ho0) hb);replace aa:=kb aa hb;replace ac:=kb ac hb;replace ab:=kb ab hb;replace HB:=bs HB hb;(try clear hb);(try clear ho0))|((with_reducible refine gate_dst (N:=23) rfl ?_);(try (refine gate_guard (by rfl) ?_;dsimp only));refine box_event ?hg (N:=23) ?hd (cs:=#[.bool false,.slice none 0 0,.int .i64 0]) (t:=29) ?hr ?_;(case hd=>rfl);(case hg=>rfl);(case hr=>first|(go_simp;done)|(go_simp;rfl));intro bG hg w75 hbox hb;replace ai:=zS (Kd.N_below (Kd.N_elderB (by (with_reducible repeat (first|apply Kd.N_alloc|apply Kd.N_drewN|apply Kd.N_drew));exact ai.out) bG (Nat.le_of_eq hg.symm)) hb);replace ax:=rb ax hb;replace bn:=rb bn hb;have bH:=zS (hbox);have eg:=bg HB hg;replace HB:=bs HB hb;have be:=kn aa hg;have bf:=km aa hg;replace aa:=kb aa hb;have bh:=kn ac hg;have bi:=km ac hg;replace ac:=kb ac hb;have bj:=kn ab hg;have bk:=km ab hg;replace ab:=kb ab hb;clear hb hbox hg;have gq:=bf.out;have gr:=be.out;have gs:=bi.out;have gt:=bh.out;have gu:=bk.out;have gv:=bj.out;have gw:=blkc3 bH.out;have gx:=blkf3 bH.out;obtain ⟨dC,dD,fu⟩:=Kd.R_slice bn.out;subst fu;have gy:=an.out;have gz:=am.out;have gA:=ap.out;have gB:=ao.out;have gC:=blkc3 ab.out;have gD:=blkf3 ab.out))
      refine bodyPost_ret (results_ct rfl _ _ ad 29 #[.bool cv,.slice dC cw.length dD,.int .i64 cx] (0,0) _ rfl (kp ab rfl) Tryz.underlying29 rfl (by kernel_rfl)) rfl ?_
      exact ⟨_,by first|rfl|(simp <;> rfl)|(simp [*] <;> rfl),by (with_reducible repeat (first|apply Kd.R_alloc|apply Kd.R_drewN|apply Kd.R_drew));exact Kd.R_mono (Kd.R_far (p:=⟨ad,2,none⟩) (Kd.R_far (p:=⟨ad,1,none⟩) (Kd.R_far (p:=⟨ad,0,none⟩) (Kd.R_far (p:=⟨bG,2,none⟩) (Kd.R_far (p:=⟨bG,1,none⟩) (Kd.R_far (p:=⟨bG,0,none⟩) (Kd.R_types (Kd.R_types bn.out bH.out (by decide)) ab.out (by decide)) (fun _ hk=>hk.1.2) (.bool cv)) (fun _ hk=>hk.1.2) (.slice dC cw.length dD)) (fun _ hk=>hk.1.2) (.int .i64 cx)) (fun _ hk=>hk.2) (.bool cv)) (fun _ hk=>hk.2) (.slice dC cw.length dD)) (fun _ hk=>hk.2) (.int .i64 cx)) (fun _ hk=>hk.1.1.1.1),bl HB⟩
     rw [if_neg c66] at H
     have d8:(bY == 0)=false:=zF c66
     have d9:(bY != 0)=true:=zI c66
     simp only [Option.some.injEq,Prod.mk.injEq] at H
     obtain ⟨rfl,rfl,rfl,rfl⟩:=H
     obtain ⟨eh,ei,fv⟩:=Kd.R_slice HO_17.out
     subst fv
     obtain ⟨ej,ek,fw⟩:=Kd.R_slice HO_20.out
     subst fw
     go_wp2_with (first|((with_reducible refine gate_dst (N:=93) rfl ?_);(try (refine gate_guard (by rfl) ?_;dsimp only));refine Kd.N_lit (Kd.slice 5 (Kd.int .u8)) _ 27 ?hg (N':=93) ?hd (xs:=([bp,aP]:List (List Int))) (inner:=[.slice eh bp.length ei,.slice ej aP.length ek]) (ok:=(fun k_=>(P2_ k_∨w.heap.size≤k_)∧k_≠ae∧k_≠af∧k_≠ad)) (okp:=(fun k_=>(P2_ k_∨w.heap.size≤k_)∧k_≠ae∧k_≠af∧k_≠ad)) ?hr ?hp (fun _ hk=>hk) ((show ∀ k_,wc.heap.size≤k_→(fun k_=>(P2_ k_∨w.heap.size≤k_)∧k_≠ae∧k_≠af∧k_≠ad) k_ from fun k_ hk=>⟨(.inr (Nat.le_trans (bz HB) hk)),Kd.freshB (ko aa) k_ hk,Kd.freshB (ko ac) k_ hk,Kd.freshB (ko ab) k_ hk⟩) _ (Nat.le_refl _)) (Below.refl _ _) (Nat.le_refl _) (by simp) ?_;(case hd=>rfl);(case hg=>rfl);(case hr=>first|(go_simp;done)|(go_simp;rfl));(case hp=>exact (Reps.one (show Kd.FK (Kd.slice 5 (Kd.int .u8)) _ _ bp [.slice eh bp.length ei] from (Kd.FK_slice_mk (Kd.R_reads' (Kd.R_mono (ok':=(fun k_=>(P2_ k_∨w.heap.size≤k_)∧k_≠ae∧k_≠af∧k_≠ad)) (Kd.R_types (Kd.R_types (Kd.R_types (HO_17.out) aa.out (by decide)) ac.out (by decide)) ab.out (by decide)) (fun k_ hk=>⟨(.inr (hk.1.1.1.1)),⟨hk.1.1.2,⟨hk.1.2,hk.2⟩⟩⟩))).2.1 (Kd.R_F (Kd.R_mono (ok':=(fun k_=>(P2_ k_∨w.heap.size≤k_)∧k_≠ae∧k_≠af∧k_≠ad)) (Kd.R_types (Kd.R_types (Kd.R_types (HO_17.out) aa.out (by decide)) ac.out (by decide)) ab.out (by decide)) (fun k_ hk=>⟨(.inr (hk.1.1.1.1)),⟨hk.1.1.2,⟨hk.1.2,hk.2⟩⟩⟩))))) (Reps.one (show Kd.FK (Kd.slice 5 (Kd.int .u8)) _ _ aP [.slice ej aP.length ek] from (Kd.FK_slice_mk (Kd.R_reads' (Kd.R_mono (ok':=(fun k_=>(P2_ k_∨w.heap.size≤k_)∧k_≠ae∧k_≠af∧k_≠ad)) (Kd.R_types (Kd.R_types (Kd.R_types (HO_20.out) aa.out (by decide)) ac.out (by decide)) ab.out (by decide)) (fun k_ hk=>⟨(.inr (hk.1.1.1.1)),⟨hk.1.1.2,⟨hk.1.2,hk.2⟩⟩⟩))).2.1 (Kd.R_F (Kd.R_mono (ok':=(fun k_=>(P2_ k_∨w.heap.size≤k_)∧k_≠ae∧k_≠af∧k_≠ad)) (Kd.R_types (Kd.R_types (Kd.R_types (HO_20.out) aa.out (by decide)) ac.out (by decide)) ab.out (by decide)) (fun k_ hk=>⟨(.inr (hk.1.1.1.1)),⟨hk.1.1.2,⟨hk.1.2,hk.2⟩⟩⟩))))) (Reps.none _ _))));intro fm w86 cz hb hg_ hnew_;clear hg_ hnew_;(first|rw [← cc.out] at cz|(simp only [Int.reduceToNat] at cz;rw [← cc.out] at cz));have ai:=zS (Kd.N_lower cz (bz HB));replace aa:=kb aa hb;replace ac:=kb ac hb;replace ab:=kb ab hb;replace HB:=bs HB hb;clear HO_17 HO_20;clear hb cz;obtain ⟨fx,fy,fz⟩:=Kd.N_slice ai.out;subst fz)|((with_reducible refine gate_callee (f:=59) rfl ?_);refine gL (some 94) Tryz.func59 #[.slice fx cu.length fy] ?_;(with_reducible refine (slices_Concat_byte_byte.calls kj43 _ _ cu bo _ ?side1 ?side2 A64.out).mono ?_);(case side1=>repeat (first|exact (Kd.N_reads' ai.out).2.2|(with_reducible refine Kd.C_alloc ?_ _)|(with_reducible refine Kd.C_drewN ?_ _)|(with_reducible refine Kd.C_drew ?_)));(case side2=>exact (Kd.N_reads' ai.out).2.1);rintro e w89 ⟨fq,rfl,ho0,hb⟩;refine ⟨_,rfl,?_⟩;replace ai:=zS (Kd.N_elder' (by (with_reducible repeat (first|apply Kd.N_alloc|apply Kd.N_drewN|apply Kd.N_drew));exact ai.out) (Kd.R_base ho0) hb);have ax:=zS (Kd.R_lower (Kd.R_newM (M:=fun k_=>(w.heap.size≤k_)) ho0 (bz HB) (fun k_ h_=>h_)) (bz HB));replace aa:=kb aa hb;replace ac:=kb ac hb;replace ab:=kb ab hb;replace HB:=bs HB hb;(try clear hb);(try clear ho0);obtain ⟨el,em,fA⟩:=Kd.R_slice ax.out;subst fA)|((with_reducible refine gate_callee (f:=58) rfl ?_);refine gL (some 99) Tryz.func58 #[.bool false,.slice el bo.length em,.int .i64 (wrap64 (bK - (aP.length:Int)))] ?_;(with_reducible refine (dec_Norm.calls kj43 false (fun k_=>some k_=(.slice el bo.length em:Value).ownBlock) _ _ bo (wrap64 (bK - (aP.length:Int))) cv cw cx bY _ ?side1 A65.out).mono ?_);(case side1=>exact Kd.R_V (Kd.R_tight rfl (Kd.R_types (Kd.R_types (Kd.R_types (Kd.R_apart' (ax.out) (Kd.N_typed ai.out) (by decide)) aa.out (by decide)) ac.out (by decide)) ab.out (by decide))));rintro e w91 ⟨ft,rfl,ho0,hb⟩;refine ⟨_,rfl,?_⟩;replace ai:=zS (Kd.N_elder' (by (with_reducible repeat (first|apply Kd.N_alloc|apply Kd.N_drewN|apply Kd.N_drew));exact ai.out) (Kd.R_base ho0) hb);have bn:=zS (Kd.R_lower (Kd.R_new' (Kd.R_newM (M:=fun k_=>(w.heap.size≤k_)) (Kd.R_mono (ok':=fun k_=>True) ho0 (fun _ hk_=>trivial)) (bz HB) (fun k_ h_=>h_)) (Kd.R_lt (ro ax))) (bz HB));replace ax:=zS (Kd.R_elder' (ro ax) (Kd.R_base ho0) hb);replace aa:=kb aa hb;replace ac:=kb ac hb;replace ab:=kb ab hb;replace HB:=bs HB hb;(try clear hb);(try clear ho0))|((with_reducible refine gate_dst (N:=23) rfl ?_);(try (refine gate_guard (by rfl) ?_;dsimp only));refine box_event ?hg (N:=23) ?hd (cs:=#[.bool false,.slice none 0 0,.int .i64 0]) (t:=29) ?hr ?_;(case hd=>rfl);(case hg=>rfl);(case hr=>first|(go_simp;done)|(go_simp;rfl));intro bG hg w92 hbox hb;replace ai:=zS (Kd.N_below (Kd.N_elderB (by (with_reducible repeat (first|apply Kd.N_alloc|apply Kd.N_drewN|apply Kd.N_drew));exact ai.out) bG (Nat.le_of_eq hg.symm)) hb);replace ax:=rb ax hb;replace bn:=rb bn hb;have bH:=zS (hbox);have eg:=bg HB hg;replace HB:=bs HB hb;have be:=kn aa hg;have bf:=km aa hg;replace aa:=kb aa hb;have bh:=kn ac hg;have bi:=km ac hg;replace ac:=kb ac hb;have bj:=kn ab hg;have bk:=km ab hg;replace ab:=kb ab hb;clear hb hbox hg;have gE:=bf.out;have gF:=be.out;have gG:=bi.out;have gH:=bh.out;have gI:=bk.out;have gJ:=bj.out;have gK:=blkc3 bH.out;have gM:=blkf3 bH.out;obtain ⟨hz,hA,fB⟩:=Kd.R_slice bn.out;subst fB;have gN:=an.out;have gO:=am.out;have gP:=ap.out;have gQ:=ao.out;have fC:=blkc3 ab.out;have fD:=blkf3 ab.out))
     refine bodyPost_ret (results_ct rfl _ _ ad 29 #[.bool false,.slice none 0 0,.int .i64 0] (0,0) _ rfl (kp ab rfl) Tryz.underlying29 rfl (by kernel_rfl)) rfl ?_
     exact ⟨_,by first|rfl|(simp <;> rfl)|(simp [*] <;> rfl),by first|exact Kd.R_nil _ _ _ _ _|exact Kd.N_nil _ _ _ _ _|exact Kd.V_nil _ _ _ _ _|exact Kd.Q_nil _ _ _ _ _|exact Kd.S_nil _ _ _ _ _,bl HB⟩
def exerguelaw17_latin.f  : Option (Int×Int×Int×Int×Int×Int×Int):=some (48,46,44,45,43,37,69)
set_option maxHeartbeats 8000000 in
set_option maxRecDepth 100000 in
theorem exerguelaw17_latin.calls  (r1:Int)(r2:Int)(r3:Int)(r4:Int)(r5:Int)(r6:Int)(r7:Int)(w:World)(h:exerguelaw17_latin.f  = some (r1,r2,r3,r4,r5,r6,r7)) :
  Calls Tryz.prog 34 #[] w fun e w'=>e = .returned (.agg #[.int .i32 r1,.int .i32 r2,.int .i32 r3,.int .i32 r4,.int .i32 r5,.int .i32 r6,.int .i32 r7])∧Below w.heap.size w w':=by
 have hu23:=Tryz.underlying23
 have HB:=zS (Below.refl w.heap.size w)
 have H:(some (48,46,44,45,43,37,69))=some (r1,r2,r3,r4,r5,r6,r7):=h
 clear h
 simp only [Option.some.injEq,Prod.mk.injEq] at H
 obtain ⟨rfl,rfl,rfl,rfl,rfl,rfl,rfl⟩:=H
 go_enter Tryz.func34,Tryz.ntmps34
 go_wp2_with (first|((with_reducible refine gate_dst (N:=0) rfl ?_);refine box_event ?hg (N:=0) ?hd (cs:=#[.int .i32 0,.int .i32 0,.int .i32 0,.int .i32 0,.int .i32 0,.int .i32 0,.int .i32 0]) (t:=23) ?hr ?_;(case hd=>rfl);(case hg=>rfl);(case hr=>first|(go_simp;done)|(go_simp;rfl));intro en hg w1 hbox hb;have cA:=zS (hbox);have gR:=bg HB hg;replace HB:=bs HB hb;clear hb hbox hg;have hB:=blkc7 cA.out;have hC:=blkf7 cA.out))
 refine bodyPost_ret (results_cell_row rfl _ _ en 23 #[.int .i32 48,.int .i32 46,.int .i32 44,.int .i32 45,.int .i32 43,.int .i32 37,.int .i32 69] (0,0) _ rfl (kp cA rfl) Tryz.underlying23 rfl (by kernel_rfl)) rfl ?_
 exact ⟨by first|rfl|(simp <;> rfl)|(simp [*] <;> rfl),bl HB⟩
mutual
def exergueref05_Number.l0:Nat→Int→ByteArray→Option (ByteArray)
 | 0,_,_=>none
 | k+1,x0,x3=>if x0≥10 then ((some (([(wrap64 (48+(Int.tmod (wrap64 (Int.tdiv x0 10)) 10))) % 256]:List Int):List Int)).bind fun bT=>(if (strOfNums bT).size+x3.size≤9223372036854775807 then (exergueref05_Number.l0 k (wrap64 (Int.tdiv x0 10)) ((strOfNums bT) ++ x3)) else (none))) else (some x3)
def exergueref05_Number.f:Nat→Int→Option (ByteArray)
 | 0,_=>none
 | k+1,a0=>if a0<0 then ((exergueref05_Number.f k (wrap64 (-a0))).bind fun bN=>(if 1+bN.size≤9223372036854775807 then (some ((⟨#[45]⟩:ByteArray) ++ bN)) else (none))) else (exergueref05_Number.l0 k a0 (strOfNums (([(wrap64 (48+(Int.tmod a0 10))) % 256]:List Int))))
end
theorem exergueref05_Number.mono_l:∀ k,(∀ y0,LeO (exergueref05_Number.f k y0) (exergueref05_Number.f (k+1) y0))∧(∀ y0 y1,LeO (exergueref05_Number.l0 k y0 y1) (exergueref05_Number.l0 (k+1) y0 y1))
 | 0=>⟨fun _ r h=>by simp [exergueref05_Number.f] at h,fun _ _ r h=>by simp [exergueref05_Number.l0] at h⟩
 | k+1=>by
  obtain ⟨ih0,ih1⟩:=exergueref05_Number.mono_l k
  refine ⟨?_,?_⟩
  ·intro y0
   unfold exergueref05_Number.f
   repeat' first|(with_reducible first|apply ih0|apply ih1|apply LeO.refl|apply LeO.none|refine LeO.ite ?_ ?_|refine LeO.bind ?_ (fun _=>?_))|apply ih0|apply ih1|apply LeO.none
  ·intro y0 y1
   unfold exergueref05_Number.l0
   repeat' first|(with_reducible first|apply ih0|apply ih1|apply LeO.refl|apply LeO.none|refine LeO.ite ?_ ?_|refine LeO.bind ?_ (fun _=>?_))|apply ih0|apply ih1|apply LeO.none
theorem exergueref05_Number.mono:∀ a0 k,LeO (exergueref05_Number.f k a0) (exergueref05_Number.f (k+1) a0):=by
 intro a0 k
 obtain ⟨ih0,ih1⟩:=exergueref05_Number.mono_l k
 exact ih0 a0
set_option maxHeartbeats 8000000 in
set_option maxRecDepth 100000 in
theorem exergueref05_Number.calls (k:Nat):∀ (a0:Int)(r:ByteArray)(w:World)(h:exergueref05_Number.f k a0=some r),
  Calls Tryz.prog 54 #[.int .i64 a0] w fun e w'=>e = .returned (.string r)∧Below w.heap.size w w':=by
 induction k using Nat.strongRecOn with
 | _ k ih=>
 intro a0 r w h
 cases k with
 | zero=>exact absurd h (by simp [exergueref05_Number.f])
 | succ k=>
 simp only [exergueref05_Number.f] at h
 have HB:=zS (Below.refl w.heap.size w)
 have H:(if a0<0 then ((exergueref05_Number.f k (wrap64 (-a0))).bind fun bN=>(if 1+bN.size≤9223372036854775807 then (some ((⟨#[45]⟩:ByteArray) ++ bN)) else (none))) else (exergueref05_Number.l0 k a0 (strOfNums (([(wrap64 (48+(Int.tmod a0 10))) % 256]:List Int)))))=some r:=h
 clear h
 by_cases c2:a0<0
 ·rw [if_pos c2] at H
  have cg:=zC c2
  clear c2
  replace H:=Option.bind_eq_some_iff.mp H
  obtain ⟨bN,A30,H⟩:=H
  try dsimp only at H
  have A3:=zS A30
  clear A30
  by_cases c4:1+bN.size≤9223372036854775807
  ·rw [if_pos c4] at H
   have dx:=eq_true c4
   have fE:=zC c4
   try have fF:(9223372036854775807<1+bN.size)=False:=eq_false (Nat.not_lt.2 c4)
   obtain rfl:=zE H
   go_enter Tryz.func54,Tryz.ntmps54
   go_wp2_with (first|((with_reducible refine gate_callee (f:=54) rfl ?_);refine gL (some 8) Tryz.func54 #[.int .i64 (wrap64 (-a0))] ?_;(with_reducible refine (ih k (by omega) (wrap64 (-a0)) bN _ A3.out).mono ?_);rintro e w5 ⟨rfl,hb⟩;refine ⟨_,rfl,?_⟩;replace HB:=bs HB hb;(try clear hb)))
   go_ret
   exact ⟨by first|rfl|(simp <;> rfl)|(simp [*] <;> rfl),bl HB⟩
  rw [if_neg c4] at H
  exact absurd H (by simp)
 rw [if_neg c2] at H
 have cg:=zD c2
 clear c2
 obtain ⟨eo,bU⟩:∃ y_:List Int,y_=(([(wrap64 (48+(Int.tmod a0 10))) % 256]:List Int)):=⟨_,rfl⟩
 replace H:(exergueref05_Number.l0 k a0 (strOfNums eo))=some r:=by first|(rw [bU];with_reducible exact H)|(have H2_:=(Option.bind_some _ _).symm.trans H;rw [bU];with_reducible exact H2_)|(have H2_:=(Option.bind_some _ _).symm.trans H;with_reducible exact H2_)|with_reducible exact H|(rw [bU];exact H)|exact H
 have dq:=zS bU
 clear bU
 have H':=zS H
 clear H
 go_enter Tryz.func54,Tryz.ntmps54
 go_wp2_with (first|((with_reducible refine gate_dst (N:=14) rfl ?_);refine Kd.R_lit (Kd.int .u8) _ 5 ?hg (N:=14) ?hd (xs:=([(wrap64 (48+(Int.tmod a0 10))) % 256]:List Int)) (inner:=[.int .u8 ((wrap64 (48+(Int.tmod a0 10))) % 256)]) (ok:=fun _=>True) (okp:=fun _=>True) ?hr ?hp (fun _ hk=>hk) trivial (Below.refl _ _) (Nat.le_refl _) (by simp) ?_;(case hd=>rfl);(case hg=>rfl);(case hr=>first|(go_simp;done)|(go_simp;rfl));(case hp=>exact (Reps.one (show Kd.M (Kd.int .u8) _ _ _ ((wrap64 (48+(Int.tmod a0 10))) % 256) [.int .u8 ((wrap64 (48+(Int.tmod a0 10))) % 256)] from rfl) (Reps.none _ _)));intro hD w6 ho7 hb hg_ hnew_;clear hg_ hnew_;(first|rw [← dq.out] at ho7|(simp only [Int.reduceToNat] at ho7;rw [← dq.out] at ho7));have ep:=zS (Kd.R_lower ho7 (bz HB));replace HB:=bs HB hb;clear hb ho7;have hcv8:=own_string (P:=Tryz.prog) Tryz.underlying27 Tryz.underlying5 Tryz.underlying9 (Kd.own_of_R ep.out)))
 go_loopg [0,3] k (fun kq v0 v3 w'=>∃ (bm:Int) (aA:ByteArray),v0 = .int .i64 bm∧v3 = .string aA∧Sd (exergueref05_Number.l0 kq bm aA=some r)∧Sd (kq≤k)∧Sd (Below w.heap.size w w'))
 case atStart=>exact ⟨(a0),(strOfNums eo),(by first|rfl|(simp;done)|(simp [*];done)),(by first|rfl|(simp;done)|(simp [*];done)),H',⟨Nat.le_refl _⟩,⟨bl HB⟩⟩
 case round=>
  clear H'
  try clear c2
  try clear cg
  try clear p2
  try clear c4
  try clear dx
  try clear fE
  try clear fF
  try clear c5
  try clear p6
  try clear hcv8
  obtain ⟨bm,aA,rfl,rfl,HA,HK1,HB⟩:=hrel
  cases gk with
  | zero=>exact absurd HA.out (by simp [exergueref05_Number.l0])
  | succ k1=>
   have H:=HA.out
   clear HA
   simp only [exergueref05_Number.l0] at H
   by_cases c9:bm≥10
   rotate_left
   ·rw [if_neg c9] at H
    have dI:decide (10≤bm)=false:=zD c9
    clear c9
    obtain rfl:=zE H
    go_wp2
    go_ret
    exact ⟨by first|rfl|(simp <;> rfl)|(simp [*] <;> rfl),bl HB⟩
   rw [if_pos c9] at H
   have dI:decide (10≤bm)=true:=zC c9
   clear c9
   obtain ⟨bT,bV⟩:∃ y_:List Int,y_=(([(wrap64 (48+(Int.tmod (wrap64 (Int.tdiv bm 10)) 10))) % 256]:List Int)):=⟨_,rfl⟩
   replace H:(if (strOfNums bT).size+aA.size≤9223372036854775807 then (exergueref05_Number.l0 k1 (wrap64 (Int.tdiv bm 10)) ((strOfNums bT) ++ aA)) else (none))=some r:=by first|(rw [bV];with_reducible exact H)|(have H2_:=(Option.bind_some _ _).symm.trans H;rw [bV];with_reducible exact H2_)|(have H2_:=(Option.bind_some _ _).symm.trans H;with_reducible exact H2_)|with_reducible exact H|(rw [bV];exact H)|exact H
   have dr:=zS bV
   clear bV
   by_cases c10:(strOfNums bT).size+aA.size≤9223372036854775807
   ·rw [if_pos c10] at H
    have dJ:=eq_true c10
    have gS:=zC c10
    try have gT:(9223372036854775807<(strOfNums bT).size+aA.size)=False:=eq_false (Nat.not_lt.2 c10)
    have H':=zS H
    clear H
    go_wp2_with (first|((with_reducible refine gate_dst (N:=24) rfl ?_);refine Kd.R_lit (Kd.int .u8) _ 5 ?hg (N:=24) ?hd (xs:=([(wrap64 (48+(Int.tmod (wrap64 (Int.tdiv bm 10)) 10))) % 256]:List Int)) (inner:=[.int .u8 ((wrap64 (48+(Int.tmod (wrap64 (Int.tdiv bm 10)) 10))) % 256)]) (ok:=fun _=>True) (okp:=fun _=>True) ?hr ?hp (fun _ hk=>hk) trivial (Below.refl _ _) (Nat.le_refl _) (by simp) ?_;(case hd=>rfl);(case hg=>rfl);(case hr=>first|(go_simp;done)|(go_simp;rfl));(case hp=>exact (Reps.one (show Kd.M (Kd.int .u8) _ _ _ ((wrap64 (48+(Int.tmod (wrap64 (Int.tdiv bm 10)) 10))) % 256) [.int .u8 ((wrap64 (48+(Int.tmod (wrap64 (Int.tdiv bm 10)) 10))) % 256)] from rfl) (Reps.none _ _)));intro hE w11 cB hb hg_ hnew_;clear hg_ hnew_;(first|rw [← dr.out] at cB|(simp only [Int.reduceToNat] at cB;rw [← dr.out] at cB));have eq:=zS (Kd.R_lower cB (bz HB));replace HB:=bs HB hb;clear hb cB;have hcv13:=own_string (P:=Tryz.prog) Tryz.underlying27 Tryz.underlying5 Tryz.underlying9 (Kd.own_of_R eq.out)))
    go_roundg k1
    case measure=>have:=HK1.out;omega
    case rel=>exact ⟨(wrap64 (Int.tdiv bm 10)),((strOfNums bT) ++ aA),(by first|rfl|(simp;done)|(simp [*];done)),(by first|rfl|(simp;done)|(simp [*];done)),H',⟨by have:=HK1.out;omega⟩,⟨bl HB⟩⟩
   rw [if_neg c10] at H
   exact absurd H (by simp)
mutual
def exergueref05_Text.j0:Nat→ByteArray→Bool→List Int→Int→Option (ByteArray)
 | 0,_,_,_,_=>none
 | k+1,x3,bO,aQ,ba=>exergueref05_Text.l0 k x3 0 bO aQ ba
def exergueref05_Text.l0:Nat→ByteArray→Int→Bool→List Int→Int→Option (ByteArray)
 | 0,_,_,_,_,_=>none
 | k+1,x3,x4,bO,aQ,ba=>if x4<(aQ.length:Int) then (if 0≤x4 then ((some (([(48+(rd aQ x4)) % 256]:List Int):List Int)).bind fun bW=>(if x3.size+(strOfNums bW).size≤9223372036854775807 then (exergueref05_Text.l0 k (x3 ++ (strOfNums bW)) (wrap64 (x4+1)) bO aQ ba) else (none))) else (none)) else (if (aQ.length:Int)=0 then (if x3.size+1≤9223372036854775807 then (if (x3 ++ (⟨#[48]⟩:ByteArray)).size+1≤9223372036854775807 then ((exergueref05_Number.f k ba).bind fun bZ=>(if ((x3 ++ (⟨#[48]⟩:ByteArray)) ++ (⟨#[101]⟩:ByteArray)).size+bZ.size≤9223372036854775807 then (some (((x3 ++ (⟨#[48]⟩:ByteArray)) ++ (⟨#[101]⟩:ByteArray)) ++ bZ)) else (none))) else (none)) else (none)) else (if x3.size+1≤9223372036854775807 then ((exergueref05_Number.f k ba).bind fun b0=>(if (x3 ++ (⟨#[101]⟩:ByteArray)).size+b0.size≤9223372036854775807 then (some ((x3 ++ (⟨#[101]⟩:ByteArray)) ++ b0)) else (none))) else (none)))
end
def exergueref05_Text.f (k:Nat)(ah:Bool)(al:List Int)(ag:Int):Option (ByteArray):=if ah=true then (exergueref05_Text.j0 k (⟨#[45]⟩:ByteArray) ah al ag) else (exergueref05_Text.j0 k (⟨#[]⟩:ByteArray) ah al ag)
theorem exergueref05_Text.mono_l:∀ k,(∀ y0 y1 y2 y3,LeO (exergueref05_Text.j0 k y0 y1 y2 y3) (exergueref05_Text.j0 (k+1) y0 y1 y2 y3))∧(∀ y0 y1 y2 y3 y4,LeO (exergueref05_Text.l0 k y0 y1 y2 y3 y4) (exergueref05_Text.l0 (k+1) y0 y1 y2 y3 y4))
 | 0=>⟨fun _ _ _ _ r h=>by simp [exergueref05_Text.j0] at h,fun _ _ _ _ _ r h=>by simp [exergueref05_Text.l0] at h⟩
 | k+1=>by
  obtain ⟨ih0,ih1⟩:=exergueref05_Text.mono_l k
  refine ⟨?_,?_⟩
  ·intro y0 y1 y2 y3
   unfold exergueref05_Text.j0
   repeat' first|(with_reducible first|apply ih0|apply ih1|apply exergueref05_Number.mono|apply LeO.refl|apply LeO.none|refine LeO.ite ?_ ?_|refine LeO.bind ?_ (fun _=>?_))|apply ih0|apply ih1|apply exergueref05_Number.mono|apply LeO.none
  ·intro y0 y1 y2 y3 y4
   unfold exergueref05_Text.l0
   repeat' first|(with_reducible first|apply ih0|apply ih1|apply exergueref05_Number.mono|apply LeO.refl|apply LeO.none|refine LeO.ite ?_ ?_|refine LeO.bind ?_ (fun _=>?_))|apply ih0|apply ih1|apply exergueref05_Number.mono|apply LeO.none
theorem exergueref05_Text.mono:∀ a0 a1 a2 k,LeO (exergueref05_Text.f k a0 a1 a2) (exergueref05_Text.f (k+1) a0 a1 a2):=by
 intro a0 a1 a2 k
 obtain ⟨ih0,ih1⟩:=exergueref05_Text.mono_l k
 unfold exergueref05_Text.f
 repeat' first|(with_reducible first|apply ih0|apply ih1|apply exergueref05_Number.mono|apply LeO.refl|apply LeO.none|refine LeO.ite ?_ ?_|refine LeO.bind ?_ (fun _=>?_))|apply ih0|apply ih1|apply exergueref05_Number.mono|apply LeO.none
set_option maxHeartbeats 8000000 in
set_option maxRecDepth 100000 in
theorem exergueref05_Text.calls (k:Nat)(ah:Bool)(cC:Option Addr)(cD:Nat)(al:List Int)(ag:Int)(r:ByteArray)(w:World)(dt:Kd.C (Kd.int .u8) w cC al.length al)(du:al.length≤cD)(h:exergueref05_Text.f k ah al ag=some r) :
  Calls Tryz.prog 35 #[.agg #[.bool ah,.slice cC al.length cD,.int .i64 ag]] w fun e w'=>e = .returned (.string r)∧Below w.heap.size w w':=by
 have hu29:=Tryz.underlying29
 have er:=zS dt
 have gU:=zS du
 clear dt du
 have HB:=zS (Below.refl w.heap.size w)
 have H:(if ah=true then (exergueref05_Text.j0 k (⟨#[45]⟩:ByteArray) ah al ag) else (exergueref05_Text.j0 k (⟨#[]⟩:ByteArray) ah al ag))=some r:=h
 clear h
 have HC2:=zS H
 clear H
 go_enter Tryz.func35,Tryz.ntmps35
 go_upto_if 6 with (first|((with_reducible refine gate_dst (N:=1) rfl ?_);refine box_event ?hg (N:=1) ?hd (cs:=#[.bool ah,.slice cC al.length cD,.int .i64 ag]) (t:=29) ?hr ?_;(case hd=>rfl);(case hg=>rfl);(case hr=>first|(go_simp;done)|(go_simp;rfl));intro dv hg w3 hbox hb;have ak:=zS (hbox);have gV:=bg HB hg;replace HB:=bs HB hb;clear hb hbox hg;have es:=blkc3 ak.out;have et:=blkf3 ak.out))
 (try simp only [Act.put,sA,sB,sC])
 go_cut [3] (fun v3 wc=>∃ (kq:Nat) (aA:ByteArray),v3 = .string aA∧Sd (exergueref05_Text.j0 kq aA ah al ag=some r)∧Sd (kq≤k)∧Sd (wc.heap[dv]?=some (.cells #[.bool ah,(.slice cC al.length cD),.int .i64 ag] 29 (0,0)))∧Sd (Below w.heap.size w wc))
 case first=>
  have H:=HC2.out
  clear HC2
  by_cases c5:ah=true
  ·subst c5
   rw [if_pos rfl] at H
   have H':=zS H
   clear H
   go_wp2
   go_meet
   case rel=>exact ⟨_,((⟨#[45]⟩:ByteArray)),(by first|rfl|(simp;done)|(simp [*];done)),H',⟨by first|omega|exact Nat.le_refl _⟩,⟨ko ak⟩,⟨bl HB⟩⟩
  replace c5:=Bool.eq_false_iff.mpr c5
  subst c5
  rw [if_neg (show ¬ (false=true) by decide)] at H
  have H':=zS H
  clear H
  go_wp2
  go_meet
  case rel=>exact ⟨_,((⟨#[]⟩:ByteArray)),(by first|rfl|(simp;done)|(simp [*];done)),H',⟨by first|omega|exact Nat.le_refl _⟩,⟨ko ak⟩,⟨bl HB⟩⟩
 case rest=>
  clear HC2
  try clear p2
  try clear c3
  try clear c5
  try clear es
  try clear et
  obtain ⟨kq,aA,rfl,HA,HJ1,ak,HB⟩:=hcut
  cases kq with
  | zero=>exact absurd HA.out (by simp [exergueref05_Text.j0])
  | succ kj1=>
   have H:=HA.out
   clear HA
   simp only [exergueref05_Text.j0] at H
   have H':=zS H
   clear H
   go_wp2
   go_loopg [3,4] kj1 (fun kq v3 v4 w'=>∃ (aC:ByteArray) (aT:Int),v3 = .string aC∧v4 = .int .i64 aT∧Sd (exergueref05_Text.l0 kq aC aT ah al ag=some r)∧Sd (kq≤kj1)∧Sd (w'.heap[dv]?=some (.cells #[.bool ah,(.slice cC al.length cD),.int .i64 ag] 29 (0,0)))∧Sd (Below w.heap.size w w'))
   case atStart=>exact ⟨(aA),(0),(by first|rfl|(simp;done)|(simp [*];done)),(by first|rfl|(simp;done)|(simp [*];done)),H',⟨Nat.le_refl _⟩,⟨ko ak⟩,⟨bl HB⟩⟩
   case round=>
    clear H'
    try clear p2
    try clear c3
    try clear c5
    try clear es
    try clear et
    try clear p2
    obtain ⟨aC,aT,rfl,rfl,HA,HK2,ak,HB⟩:=hrel
    cases gk with
    | zero=>exact absurd HA.out (by simp [exergueref05_Text.l0])
    | succ k2=>
     have H:=HA.out
     clear HA
     simp only [exergueref05_Text.l0] at H
     by_cases c6:aT<(al.length:Int)
     ·rw [if_pos c6] at H
      have fG:=zC c6
      clear c6
      by_cases c7:0≤aT
      rotate_left
      ·rw [if_neg c7] at H
       exact absurd H (by simp)
      rw [if_pos c7] at H
      have hF:=zC c7
      clear c7
      obtain ⟨bW,bX⟩:∃ y_:List Int,y_=(([(48+(rd al aT)) % 256]:List Int)):=⟨_,rfl⟩
      replace H:(if aC.size+(strOfNums bW).size≤9223372036854775807 then (exergueref05_Text.l0 k2 (aC ++ (strOfNums bW)) (wrap64 (aT+1)) ah al ag) else (none))=some r:=by first|(rw [bX];with_reducible exact H)|(have H2_:=(Option.bind_some _ _).symm.trans H;rw [bX];with_reducible exact H2_)|(have H2_:=(Option.bind_some _ _).symm.trans H;with_reducible exact H2_)|with_reducible exact H|(rw [bX];exact H)|exact H
      have dw:=zS bX
      clear bX
      by_cases c8:aC.size+(strOfNums bW).size≤9223372036854775807
      rotate_left
      ·rw [if_neg c8] at H
       exact absurd H (by simp)
      rw [if_pos c8] at H
      have dH:=eq_true c8
      have hG:=zC c8
      try have hH:(9223372036854775807<aC.size+(strOfNums bW).size)=False:=eq_false (Nat.not_lt.2 c8)
      have H':=zS H
      clear H
      have hI:=blkc3 ak.out
      have hJ:=blkf3 ak.out
      have dE:0≤(aT:Int):=zB (by first|(with_reducible assumption)|assumption)
      have dF:aT<(al.length:Int):=zB (by first|(with_reducible assumption)|assumption)
      obtain ⟨gW,fH,bP⟩:=Kd.at_int er.out aT dE dF
      cases fH
      replace bP:=(HB.out.cell (World.block_lt_of_cell? w _ bP)).trans bP
      replace dE:=eq_true dE
      replace dF:=eq_true dF
      go_wp2_with (first|((with_reducible refine gate_dst (N:=21) rfl ?_);refine Kd.R_lit (Kd.int .u8) _ 5 ?hg (N:=21) ?hd (xs:=([(48+(rd al aT)) % 256]:List Int)) (inner:=[.int .u8 ((48+(rd al aT)) % 256)]) (ok:=fun _=>True) (okp:=fun _=>True) ?hr ?hp (fun _ hk=>hk) trivial (Below.refl _ _) (Nat.le_refl _) (by simp) ?_;(case hd=>rfl);(case hg=>rfl);(case hr=>first|(go_simp;done)|(go_simp;rfl));(case hp=>exact (Reps.one (show Kd.M (Kd.int .u8) _ _ _ ((48+(rd al aT)) % 256) [.int .u8 ((48+(rd al aT)) % 256)] from rfl) (Reps.none _ _)));intro hK w10 cE hb hg_ hnew_;clear hg_ hnew_;(first|rw [← dw.out] at cE|(simp only [Int.reduceToNat] at cE;rw [← dw.out] at cE));have eu:=zS (Kd.R_lower cE (bz HB));replace ak:=kb ak hb;replace HB:=bs HB hb;clear hb cE;have hcv12:=own_string (P:=Tryz.prog) Tryz.underlying27 Tryz.underlying5 Tryz.underlying9 (Kd.own_of_R eu.out)))
      go_roundg k2
      case measure=>have:=HJ1.out;have:=HK2.out;omega
      case rel=>exact ⟨(aC ++ (strOfNums bW)),(wrap64 (aT+1)),(by first|rfl|(simp;done)|(simp [*];done)),(by first|rfl|(simp;done)|(simp [*];done)),H',⟨by have:=HJ1.out;have:=HK2.out;omega⟩,⟨ko ak⟩,⟨bl HB⟩⟩
     rw [if_neg c6] at H
     have fG:=zD c6
     clear c6
     by_cases c13:(al.length:Int)=0
     ·rw [if_pos c13] at H
      have ev:((al.length:Int) == 0)=true:=zH c13
      have ew:((al.length:Int) != 0)=false:=zG c13
      clear c13
      by_cases c14:aC.size+1≤9223372036854775807
      rotate_left
      ·rw [if_neg c14] at H
       exact absurd H (by simp)
      rw [if_pos c14] at H
      have gX:=eq_true c14
      have gY:=zC c14
      try have gZ:(9223372036854775807<aC.size+1)=False:=eq_false (Nat.not_lt.2 c14)
      by_cases c15:(aC ++ (⟨#[48]⟩:ByteArray)).size+1≤9223372036854775807
      rotate_left
      ·rw [if_neg c15] at H
       exact absurd H (by simp)
      rw [if_pos c15] at H
      have g0:=eq_true c15
      have g1:=zC c15
      try have g2:(9223372036854775807<(aC ++ (⟨#[48]⟩:ByteArray)).size+1)=False:=eq_false (Nat.not_lt.2 c15)
      try have g3:(9223372036854775807<aC.size+1+1)=False:=eq_false (by have h_:=c15;simp only [ByteArray.size_append,show (⟨#[48]⟩:ByteArray).size=1 from rfl] at h_;omega)
      replace H:=Option.bind_eq_some_iff.mp H
      obtain ⟨bZ,ex,H⟩:=H
      try dsimp only at H
      have A16:=zS ex
      clear ex
      by_cases c17:((aC ++ (⟨#[48]⟩:ByteArray)) ++ (⟨#[101]⟩:ByteArray)).size+bZ.size≤9223372036854775807
      ·rw [if_pos c17] at H
       have g4:=eq_true c17
       have g5:=zC c17
       try have g6:(9223372036854775807<((aC ++ (⟨#[48]⟩:ByteArray)) ++ (⟨#[101]⟩:ByteArray)).size+bZ.size)=False:=eq_false (Nat.not_lt.2 c17)
       try have g7:(9223372036854775807<aC.size+1+1+bZ.size)=False:=eq_false (by have h_:=c17;simp only [ByteArray.size_append,show (⟨#[101]⟩:ByteArray).size=1 from rfl,show (⟨#[48]⟩:ByteArray).size=1 from rfl] at h_;omega)
       obtain rfl:=zE H
       have cq:=blkc3 ak.out
       have cr:=blkf3 ak.out
       go_wp2_with (first|((with_reducible refine gate_callee (f:=54) rfl ?_);refine gL (some 34) Tryz.func54 #[.int .i64 ag] ?_;(with_reducible refine (exergueref05_Number.calls k2 ag bZ _ A16.out).mono ?_);rintro e w19 ⟨rfl,hb⟩;refine ⟨_,rfl,?_⟩;replace ak:=kb ak hb;replace HB:=bs HB hb;(try clear hb)))
       go_ret
       exact ⟨by first|rfl|(simp <;> rfl)|(simp [*] <;> rfl),bl HB⟩
      rw [if_neg c17] at H
      exact absurd H (by simp)
     rw [if_neg c13] at H
     have ev:((al.length:Int) == 0)=false:=zF c13
     have ew:((al.length:Int) != 0)=true:=zI c13
     have g8:¬ (al=[]):=fun h_=>c13 (by rw [h_];rfl)
     by_cases c20:aC.size+1≤9223372036854775807
     rotate_left
     ·rw [if_neg c20] at H
      exact absurd H (by simp)
     rw [if_pos c20] at H
     have g9:=eq_true c20
     have ha:=zC c20
     try have hc:(9223372036854775807<aC.size+1)=False:=eq_false (Nat.not_lt.2 c20)
     replace H:=Option.bind_eq_some_iff.mp H
     obtain ⟨b0,ey,H⟩:=H
     try dsimp only at H
     have A21:=zS ey
     clear ey
     by_cases c22:(aC ++ (⟨#[101]⟩:ByteArray)).size+b0.size≤9223372036854775807
     ·rw [if_pos c22] at H
      have hf:=eq_true c22
      have hh:=zC c22
      try have hj:(9223372036854775807<(aC ++ (⟨#[101]⟩:ByteArray)).size+b0.size)=False:=eq_false (Nat.not_lt.2 c22)
      try have hl:(9223372036854775807<aC.size+1+b0.size)=False:=eq_false (by have h_:=c22;simp only [ByteArray.size_append,show (⟨#[101]⟩:ByteArray).size=1 from rfl] at h_;omega)
      obtain rfl:=zE H
      have hm:=blkc3 ak.out
      have hn:=blkf3 ak.out
      go_wp2_with (first|((with_reducible refine gate_callee (f:=54) rfl ?_);refine gL (some 34) Tryz.func54 #[.int .i64 ag] ?_;(with_reducible refine (exergueref05_Number.calls k2 ag b0 _ A21.out).mono ?_);rintro e w24 ⟨rfl,hb⟩;refine ⟨_,rfl,?_⟩;replace ak:=kb ak hb;replace HB:=bs HB hb;(try clear hb)))
      go_ret
      exact ⟨by first|rfl|(simp <;> rfl)|(simp [*] <;> rfl),bl HB⟩
     rw [if_neg c22] at H
     exact absurd H (by simp)
end Go.Proofs.YtklebhlanidloaaGreatDoor.PZ
end
end
