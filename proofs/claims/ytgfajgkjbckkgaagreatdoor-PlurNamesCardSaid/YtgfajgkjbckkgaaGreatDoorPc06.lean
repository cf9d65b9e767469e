/- Texts of this seat, joined. Conditions: none beyond each statement's own. -/
import Derived.Test.YtgfajgkjbckkgaaGreatDoorPc04
set_option linter.all false
section
noncomputable section
namespace Go.Proofs.YtgfajgkjbckkgaaGreatDoor.PZ
open Go.RowKit Go.Proofs.YtgfajgkjbckkgaaGreatDoorW.PrintWords Go.Proofs.YtgfajgkjbckkgaaGreatDoorW.PrintLast Go.Proofs.YtgfajgkjbckkgaaGreatDoorW.PrintMore
attribute [local go_sem] max2_int min2_int max_two min_two max_three min_three max_four min_four   -- for this text's walks alone
mutual
def exergueref11_Short.l0:Nat→List (List (S60))→Int→Int→Option (Bool)
 | 0,_,_,_=>none
 | k+1,x0,x3,x4=>if x4<(x0.length:Int) then (exergueref11_Short.l1 k x0 (wrap64 (x3+1)) x4 0) else (some true)
def exergueref11_Short.l1:Nat→List (List (S60))→Int→Int→Int→Option (Bool)
 | 0,_,_,_,_=>none
 | k+1,x0,x3,x4,x5=>if 0≤x4 then (if x4<(x0.length:Int) then (if x5<((rd_L7 x0 x4).length:Int) then (if 0≤x5 then (exergueref11_Short.l2 k x0 (wrap64 ((wrap64 (x3+1))+(((rd_T60 (rd_L7 x0 x4) x5).f3).length:Int))) x4 x5 0) else (none)) else (if x3>200 then (some false) else (exergueref11_Short.l0 k x0 x3 (wrap64 (x4+1))))) else (none)) else (none)
def exergueref11_Short.l2:Nat→List (List (S60))→Int→Int→Int→Int→Option (Bool)
 | 0,_,_,_,_,_=>none
 | k+1,x0,x3,x4,x5,x6=>if 0≤x4 then (if x4<(x0.length:Int) then (if 0≤x5 then (if x5<((rd_L7 x0 x4).length:Int) then (if x6<(((rd_T60 (rd_L7 x0 x4) x5).f3).length:Int) then (if 0≤x6 then (if ((rd_T57 ((rd_T60 (rd_L7 x0 x4) x5).f3) x6).f0)<(-1000000000000) then (some false) else (if ((rd_T57 ((rd_T60 (rd_L7 x0 x4) x5).f3) x6).f1)<(-1000000000000) then (some false) else (exergueref11_Short.l2 k x0 x3 x4 x5 (wrap64 (x6+1))))) else (none)) else (if ((rd_T60 (rd_L7 x0 x4) x5).f1)<(-1000000000000) then (some false) else (if x3>200 then (some false) else (exergueref11_Short.l1 k x0 x3 x4 (wrap64 (x5+1)))))) else (none)) else (none)) else (none)) else (none)
end
def exergueref11_Short.f (k:Nat)(l0:List (List (S60))):Option (Bool):=exergueref11_Short.l0 k l0 0 0
theorem exergueref11_Short.mono_l:∀ k,(∀ y0 y1 y2,LeO (exergueref11_Short.l0 k y0 y1 y2) (exergueref11_Short.l0 (k+1) y0 y1 y2))∧(∀ y0 y1 y2 y3,LeO (exergueref11_Short.l1 k y0 y1 y2 y3) (exergueref11_Short.l1 (k+1) y0 y1 y2 y3))∧(∀ y0 y1 y2 y3 y4,LeO (exergueref11_Short.l2 k y0 y1 y2 y3 y4) (exergueref11_Short.l2 (k+1) y0 y1 y2 y3 y4))
 | 0=>⟨fun _ _ _ r h=>by simp [exergueref11_Short.l0] at h,fun _ _ _ _ r h=>by simp [exergueref11_Short.l1] at h,fun _ _ _ _ _ r h=>by simp [exergueref11_Short.l2] at h⟩
 | k+1=>by
  obtain ⟨ih0,ih1,ih2⟩:=exergueref11_Short.mono_l k
  refine ⟨?_,?_,?_⟩
  ·intro y0 y1 y2
   unfold exergueref11_Short.l0
   repeat' first|(with_reducible first|apply ih0|apply ih1|apply ih2|apply LeO.refl|apply LeO.none|refine LeO.ite ?_ ?_|refine LeO.bind ?_ (fun _=>?_))|apply ih0|apply ih1|apply ih2|apply LeO.none
  ·intro y0 y1 y2 y3
   unfold exergueref11_Short.l1
   repeat' first|(with_reducible first|apply ih0|apply ih1|apply ih2|apply LeO.refl|apply LeO.none|refine LeO.ite ?_ ?_|refine LeO.bind ?_ (fun _=>?_))|apply ih0|apply ih1|apply ih2|apply LeO.none
  ·intro y0 y1 y2 y3 y4
   unfold exergueref11_Short.l2
   repeat' first|(with_reducible first|apply ih0|apply ih1|apply ih2|apply LeO.refl|apply LeO.none|refine LeO.ite ?_ ?_|refine LeO.bind ?_ (fun _=>?_))|apply ih0|apply ih1|apply ih2|apply LeO.none
theorem exergueref11_Short.mono:∀ a0 k,LeO (exergueref11_Short.f k a0) (exergueref11_Short.f (k+1) a0):=by
 intro a0 k
 obtain ⟨ih0,ih1,ih2⟩:=exergueref11_Short.mono_l k
 unfold exergueref11_Short.f
 repeat' first|(with_reducible first|apply ih0|apply ih1|apply ih2|apply LeO.refl|apply LeO.none|refine LeO.ite ?_ ?_|refine LeO.bind ?_ (fun _=>?_))|apply ih0|apply ih1|apply ih2|apply LeO.none
set_option maxHeartbeats 8000000 in
set_option maxRecDepth 100000 in
theorem exergueref11_Short.calls (k:Nat)(A0:Option Addr)(c0:Nat)(l0:List (List (S60)))(r:Bool)(w:World)(hr0:Kd.C (Kd.slice 60 k60) w A0 l0.length l0)(hc0:l0.length≤c0)(h:exergueref11_Short.f k l0=some r) :
  Calls Tryz.prog 30 #[.slice A0 l0.length c0] w fun e w'=>e = .returned (.bool r)∧Drawn0 w w':=by
 have HR0:=zS hr0
 have HC0:=zS hc0
 clear hr0 hc0
 have H:(exergueref11_Short.l0 k l0 0 0)=some r:=h
 clear h
 have H':=zS H
 clear H
 go_enter Tryz.func30,Tryz.ntmps30
 go_wp2
 go_loopg [3,4] k (fun kq v3 v4 w'=>∃ (bN:Int) (aa:Int),v3 = .int .i64 bN∧v4 = .int .i64 aa∧Sd (exergueref11_Short.l0 kq l0 bN aa=some r)∧Sd (kq≤k)∧Drawn0 w w')
 case atStart=>exact ⟨(0),(0),(by first|rfl|(simp;done)|(simp [*];done)),(by first|rfl|(simp;done)|(simp [*];done)),H',⟨Nat.le_refl _⟩,by repeat (first|exact Drawn0.refl _|apply Drawn0.step)⟩
 case round=>
  clear H'
  obtain ⟨bN,aa,rfl,rfl,HA,HK1,⟨m1,rfl⟩⟩:=hrel
  cases gk with
  | zero=>exact absurd HA.out (by simp [exergueref11_Short.l0])
  | succ k1=>
   have H:=HA.out
   clear HA
   simp only [exergueref11_Short.l0] at H
   by_cases c2:aa<(l0.length:Int)
   rotate_left
   ·rw [if_neg c2] at H
    have b7:=zD c2
    clear c2
    obtain rfl:=zE H
    go_wp2
    go_ret
    exact ⟨by first|rfl|(simp;done)|(simp [*];done),by repeat (first|exact Drawn0.refl _|apply Drawn0.step)⟩
   rw [if_pos c2] at H
   have b7:=zC c2
   clear c2
   have H':=zS H
   clear H
   go_wp2
   go_loopg [3,5] k1 (fun kq v3 v5 w'=>∃ (aG:Int) (ab:Int),v3 = .int .i64 aG∧v5 = .int .i64 ab∧Sd (exergueref11_Short.l1 kq l0 aG aa ab=some r)∧Sd (kq≤k1)∧Drawn0 w w')
   case atStart=>exact ⟨(wrap64 (bN+1)),(0),(by first|rfl|(simp;done)|(simp [*];done)),(by first|rfl|(simp;done)|(simp [*];done)),H',⟨Nat.le_refl _⟩,by repeat (first|exact Drawn0.refl _|apply Drawn0.step)⟩
   case round=>
    clear H'
    try clear c2
    try clear b7
    try clear p2
    obtain ⟨aG,ab,rfl,rfl,HA,HK2,⟨m2,rfl⟩⟩:=hrel
    cases gk with
    | zero=>exact absurd HA.out (by simp [exergueref11_Short.l1])
    | succ k2=>
     have H:=HA.out
     clear HA
     simp only [exergueref11_Short.l1] at H
     by_cases c3:0≤aa
     rotate_left
     ·rw [if_neg c3] at H
      exact absurd H (by simp)
     rw [if_pos c3] at H
     have cu:=zC c3
     clear c3
     by_cases c4:aa<(l0.length:Int)
     rotate_left
     ·rw [if_neg c4] at H
      exact absurd H (by simp)
     rw [if_pos c4] at H
     have cv:=zC c4
     clear c4
     by_cases c5:ab<((rd_L7 l0 aa).length:Int)
     rotate_left
     ·rw [if_neg c5] at H
      have cg:=zD c5
      clear c5
      by_cases c17:aG>200
      ·rw [if_pos c17] at H
       have ch:decide (200<aG)=true:=zC c17
       clear c17
       obtain rfl:=zE H
       have aH:0≤(aa:Int):=zB (by first|(with_reducible assumption)|assumption)
       have aI:aa<(l0.length:Int):=zB (by first|(with_reducible assumption)|assumption)
       obtain ⟨al,bu,bv,bw,ae,hl193_0,hi193_0⟩:=at_L7 HR0.out aa aH aI
       cases bw
       have bb:=zS hi193_0
       have bc:=zS hl193_0
       clear hi193_0 hl193_0
       replace aH:=eq_true aH
       replace aI:=eq_true aI
       go_wp2
       go_ret
       exact ⟨by first|rfl|(simp;done)|(simp [*];done),by repeat (first|exact Drawn0.refl _|apply Drawn0.step)⟩
      rw [if_neg c17] at H
      have ch:decide (200<aG)=false:=zD c17
      clear c17
      have H':=zS H
      clear H
      have aH:0≤(aa:Int):=zB (by first|(with_reducible assumption)|assumption)
      have aI:aa<(l0.length:Int):=zB (by first|(with_reducible assumption)|assumption)
      obtain ⟨al,bu,bv,bw,ae,hl193_0,hi193_0⟩:=at_L7 HR0.out aa aH aI
      cases bw
      have bb:=zS hi193_0
      have bc:=zS hl193_0
      clear hi193_0 hl193_0
      replace aH:=eq_true aH
      replace aI:=eq_true aI
      go_wp2
      go_roundg k2
      case measure=>have:=HK1.out;have:=HK2.out;omega
      case rel=>exact ⟨(aG),(wrap64 (aa+1)),(by first|rfl|(simp;done)|(simp [*];done)),(by first|rfl|(simp;done)|(simp [*];done)),H',⟨by have:=HK1.out;have:=HK2.out;omega⟩,by repeat (first|exact Drawn0.refl _|apply Drawn0.step)⟩
     rw [if_pos c5] at H
     have cg:=zC c5
     clear c5
     by_cases c6:0≤ab
     rotate_left
     ·rw [if_neg c6] at H
      exact absurd H (by simp)
     rw [if_pos c6] at H
     have cw:=zC c6
     clear c6
     have H':=zS H
     clear H
     have aH:0≤(aa:Int):=zB (by first|(with_reducible assumption)|assumption)
     have aI:aa<(l0.length:Int):=zB (by first|(with_reducible assumption)|assumption)
     obtain ⟨al,bu,bv,bw,ae,hl193_0,hi193_0⟩:=at_L7 HR0.out aa aH aI
     cases bw
     have bb:=zS hi193_0
     have bc:=zS hl193_0
     clear hi193_0 hl193_0
     replace aH:=eq_true aH
     replace aI:=eq_true aI
     have bO:0≤(aa:Int):=zB (by first|(with_reducible assumption)|assumption)
     have bP:aa<(l0.length:Int):=zB (by first|(with_reducible assumption)|assumption)
     obtain ⟨ci,cx,cy,cz,af,hl194_0,hi194_0⟩:=at_L7 HR0.out aa bO bP
     obtain rfl:al=ci:=(by injection cz)
     have bR:=zS hi194_0
     have cq:=zS hl194_0
     clear hi194_0 hl194_0
     replace bO:=eq_true bO
     replace bP:=eq_true bP
     try (have ea_:=zE (ae.symm.trans af);injection ea_ with ea_ en_ ec_;subst ea_;subst ec_;clear en_)
     have bS:0≤(ab:Int):=zB (by first|(with_reducible assumption)|assumption)
     have bT:ab<((rd_L7 l0 aa).length:Int):=zB (by first|(with_reducible assumption)|assumption)
     obtain ⟨cD,cA,cB,cC,bU,bV,bW,ag,hl195_3,hi195_3⟩:=at_T60 bR.out ab bS bT
     cases cC
     have cr:=zS hi195_3
     have ct:=zS hl195_3
     clear hi195_3 hl195_3
     replace bS:=eq_true bS
     replace bT:=eq_true bT
     go_wp2
     go_loopg [6] k2 (fun kq v6 w'=>∃ (an:Int),v6 = .int .i64 an∧Sd (exergueref11_Short.l2 kq l0 (wrap64 ((wrap64 (aG+1))+(((rd_T60 (rd_L7 l0 aa) ab).f3).length:Int))) aa ab an=some r)∧Sd (kq≤k2)∧Drawn0 w w')
     case atStart=>exact ⟨(0),(by first|rfl|(simp;done)|(simp [*];done)),H',⟨Nat.le_refl _⟩,by repeat (first|exact Drawn0.refl _|apply Drawn0.step)⟩
     case round=>
      clear H'
      try clear c1
      try clear p1
      try clear q1
      try clear hx1
      try clear c2
      try clear b7
      try clear p2
      try clear c3
      try clear cu
      try clear c4
      try clear cv
      try clear c5
      try clear cg
      try clear c6
      try clear cw
      try clear p6
      try clear ae
      try clear af
      try clear bU
      try clear bV
      try clear bW
      try clear ag
      try clear aH
      try clear bO
      try clear bS
      try clear p2
      try clear aI
      try clear bP
      try clear bT
      obtain ⟨an,rfl,HA,HK3,⟨m3,rfl⟩⟩:=hrel
      cases gk with
      | zero=>exact absurd HA.out (by simp [exergueref11_Short.l2])
      | succ k3=>
       have H:=HA.out
       clear HA
       simp only [exergueref11_Short.l2] at H
       by_cases c7:0≤aa
       rotate_left
       ·rw [if_neg c7] at H
        exact absurd H (by simp)
       rw [if_pos c7] at H
       have cG:=zC c7
       clear c7
       by_cases c8:aa<(l0.length:Int)
       rotate_left
       ·rw [if_neg c8] at H
        exact absurd H (by simp)
       rw [if_pos c8] at H
       have cH:=zC c8
       clear c8
       by_cases c9:0≤ab
       rotate_left
       ·rw [if_neg c9] at H
        exact absurd H (by simp)
       rw [if_pos c9] at H
       have cI:=zC c9
       clear c9
       by_cases c10:ab<((rd_L7 l0 aa).length:Int)
       rotate_left
       ·rw [if_neg c10] at H
        exact absurd H (by simp)
       rw [if_pos c10] at H
       have cE:=zC c10
       clear c10
       by_cases c11:an<(((rd_T60 (rd_L7 l0 aa) ab).f3).length:Int)
       rotate_left
       ·rw [if_neg c11] at H
        have cj:=zD c11
        clear c11
        by_cases c15:((rd_T60 (rd_L7 l0 aa) ab).f1)<(-1000000000000)
        ·rw [if_pos c15] at H
         have ck:=zC c15
         clear c15
         obtain rfl:=zE H
         have ao:0≤(aa:Int):=zB (by first|(with_reducible assumption)|assumption)
         have ap:aa<(l0.length:Int):=zB (by first|(with_reducible assumption)|assumption)
         obtain ⟨aw,aJ,aK,aL,ac,hl196_0,hi196_0⟩:=at_L7 HR0.out aa ao ap
         obtain rfl:al=aw:=(by injection aL)
         try (have ea_:=zE (af.symm.trans ac);injection ea_ with ea_ en_ ec_;subst ea_;subst ec_;clear en_)
         try (have ea_:=zE (ae.symm.trans ac);injection ea_ with ea_ en_ ec_;subst ea_;subst ec_;clear en_)
         have ai:=zS hi196_0
         have ax:=zS hl196_0
         clear hi196_0 hl196_0
         replace ao:=eq_true ao
         replace ap:=eq_true ap
         have aq:0≤(ab:Int):=zB (by first|(with_reducible assumption)|assumption)
         have ar:ab<((rd_L7 l0 aa).length:Int):=zB (by first|(with_reducible assumption)|assumption)
         obtain ⟨a2,aM,aN,aO,ay,az,aA,ad,hl197_3,hi197_3⟩:=at_T60 ai.out ab aq ar
         cases aO
         try (have ea_:=zE (ag.symm.trans ad);injection ea_ with ea_ en_ ec_;subst ea_;subst ec_;clear en_)
         have aB:=zS hi197_3
         have aC:=zS hl197_3
         clear hi197_3 hl197_3
         replace aq:=eq_true aq
         replace ar:=eq_true ar
         have aP:0≤(aa:Int):=zB (by first|(with_reducible assumption)|assumption)
         have aQ:aa<(l0.length:Int):=zB (by first|(with_reducible assumption)|assumption)
         obtain ⟨a3,bx,bA,bB,aj,hl204_0,hi204_0⟩:=at_L7 HR0.out aa aP aQ
         obtain rfl:al=a3:=(by injection bB)
         try (have ea_:=zE (af.symm.trans aj);injection ea_ with ea_ en_ ec_;subst ea_;subst ec_;clear en_)
         try (have ea_:=zE (ae.symm.trans aj);injection ea_ with ea_ en_ ec_;subst ea_;subst ec_;clear en_)
         have aD:=zS hi204_0
         have bd:=zS hl204_0
         clear hi204_0 hl204_0
         replace aP:=eq_true aP
         replace aQ:=eq_true aQ
         try (have ea_:=zE (ac.symm.trans aj);injection ea_ with ea_ en_ ec_;subst ea_;subst ec_;clear en_)
         have aR:0≤(ab:Int):=zB (by first|(with_reducible assumption)|assumption)
         have aS:ab<((rd_L7 l0 aa).length:Int):=zB (by first|(with_reducible assumption)|assumption)
         obtain ⟨b4,bC,bD,bE,be,bf,bh,au,hl205_3,hi205_3⟩:=at_T60 aD.out ab aR aS
         cases bE
         try (have ea_:=zE (ad.symm.trans au);injection ea_ with ea_ en_ ec_;subst ea_;subst ec_;clear en_)
         try (have ea_:=zE (ag.symm.trans au);injection ea_ with ea_ en_ ec_;subst ea_;subst ec_;clear en_)
         have bi:=zS hi205_3
         have bj:=zS hl205_3
         clear hi205_3 hl205_3
         replace aR:=eq_true aR
         replace aS:=eq_true aS
         go_wp2
         go_ret
         exact ⟨by first|rfl|(simp;done)|(simp [*];done),by repeat (first|exact Drawn0.refl _|apply Drawn0.step)⟩
        rw [if_neg c15] at H
        have ck:=zD c15
        clear c15
        by_cases c16:(wrap64 ((wrap64 (aG+1))+(((rd_T60 (rd_L7 l0 aa) ab).f3).length:Int)))>200
        ·rw [if_pos c16] at H
         have cl:decide (200<(wrap64 ((wrap64 (aG+1))+(((rd_T60 (rd_L7 l0 aa) ab).f3).length:Int))))=true:=zC c16
         clear c16
         obtain rfl:=zE H
         have ao:0≤(aa:Int):=zB (by first|(with_reducible assumption)|assumption)
         have ap:aa<(l0.length:Int):=zB (by first|(with_reducible assumption)|assumption)
         obtain ⟨aw,aJ,aK,aL,ac,hl196_0,hi196_0⟩:=at_L7 HR0.out aa ao ap
         obtain rfl:al=aw:=(by injection aL)
         try (have ea_:=zE (af.symm.trans ac);injection ea_ with ea_ en_ ec_;subst ea_;subst ec_;clear en_)
         try (have ea_:=zE (ae.symm.trans ac);injection ea_ with ea_ en_ ec_;subst ea_;subst ec_;clear en_)
         have ai:=zS hi196_0
         have ax:=zS hl196_0
         clear hi196_0 hl196_0
         replace ao:=eq_true ao
         replace ap:=eq_true ap
         have aq:0≤(ab:Int):=zB (by first|(with_reducible assumption)|assumption)
         have ar:ab<((rd_L7 l0 aa).length:Int):=zB (by first|(with_reducible assumption)|assumption)
         obtain ⟨a2,aM,aN,aO,ay,az,aA,ad,hl197_3,hi197_3⟩:=at_T60 ai.out ab aq ar
         cases aO
         try (have ea_:=zE (ag.symm.trans ad);injection ea_ with ea_ en_ ec_;subst ea_;subst ec_;clear en_)
         have aB:=zS hi197_3
         have aC:=zS hl197_3
         clear hi197_3 hl197_3
         replace aq:=eq_true aq
         replace ar:=eq_true ar
         have aP:0≤(aa:Int):=zB (by first|(with_reducible assumption)|assumption)
         have aQ:aa<(l0.length:Int):=zB (by first|(with_reducible assumption)|assumption)
         obtain ⟨a3,bx,bA,bB,aj,hl204_0,hi204_0⟩:=at_L7 HR0.out aa aP aQ
         obtain rfl:al=a3:=(by injection bB)
         try (have ea_:=zE (af.symm.trans aj);injection ea_ with ea_ en_ ec_;subst ea_;subst ec_;clear en_)
         try (have ea_:=zE (ae.symm.trans aj);injection ea_ with ea_ en_ ec_;subst ea_;subst ec_;clear en_)
         have aD:=zS hi204_0
         have bd:=zS hl204_0
         clear hi204_0 hl204_0
         replace aP:=eq_true aP
         replace aQ:=eq_true aQ
         try (have ea_:=zE (ac.symm.trans aj);injection ea_ with ea_ en_ ec_;subst ea_;subst ec_;clear en_)
         have aR:0≤(ab:Int):=zB (by first|(with_reducible assumption)|assumption)
         have aS:ab<((rd_L7 l0 aa).length:Int):=zB (by first|(with_reducible assumption)|assumption)
         obtain ⟨b4,bC,bD,bE,be,bf,bh,au,hl205_3,hi205_3⟩:=at_T60 aD.out ab aR aS
         cases bE
         try (have ea_:=zE (ad.symm.trans au);injection ea_ with ea_ en_ ec_;subst ea_;subst ec_;clear en_)
         try (have ea_:=zE (ag.symm.trans au);injection ea_ with ea_ en_ ec_;subst ea_;subst ec_;clear en_)
         have bi:=zS hi205_3
         have bj:=zS hl205_3
         clear hi205_3 hl205_3
         replace aR:=eq_true aR
         replace aS:=eq_true aS
         go_wp2
         go_ret
         exact ⟨by first|rfl|(simp;done)|(simp [*];done),by repeat (first|exact Drawn0.refl _|apply Drawn0.step)⟩
        rw [if_neg c16] at H
        have cl:decide (200<(wrap64 ((wrap64 (aG+1))+(((rd_T60 (rd_L7 l0 aa) ab).f3).length:Int))))=false:=zD c16
        clear c16
        have H':=zS H
        clear H
        have ao:0≤(aa:Int):=zB (by first|(with_reducible assumption)|assumption)
        have ap:aa<(l0.length:Int):=zB (by first|(with_reducible assumption)|assumption)
        obtain ⟨aw,aJ,aK,aL,ac,hl196_0,hi196_0⟩:=at_L7 HR0.out aa ao ap
        obtain rfl:al=aw:=(by injection aL)
        try (have ea_:=zE (af.symm.trans ac);injection ea_ with ea_ en_ ec_;subst ea_;subst ec_;clear en_)
        try (have ea_:=zE (ae.symm.trans ac);injection ea_ with ea_ en_ ec_;subst ea_;subst ec_;clear en_)
        have ai:=zS hi196_0
        have ax:=zS hl196_0
        clear hi196_0 hl196_0
        replace ao:=eq_true ao
        replace ap:=eq_true ap
        have aq:0≤(ab:Int):=zB (by first|(with_reducible assumption)|assumption)
        have ar:ab<((rd_L7 l0 aa).length:Int):=zB (by first|(with_reducible assumption)|assumption)
        obtain ⟨a2,aM,aN,aO,ay,az,aA,ad,hl197_3,hi197_3⟩:=at_T60 ai.out ab aq ar
        cases aO
        try (have ea_:=zE (ag.symm.trans ad);injection ea_ with ea_ en_ ec_;subst ea_;subst ec_;clear en_)
        have aB:=zS hi197_3
        have aC:=zS hl197_3
        clear hi197_3 hl197_3
        replace aq:=eq_true aq
        replace ar:=eq_true ar
        have aP:0≤(aa:Int):=zB (by first|(with_reducible assumption)|assumption)
        have aQ:aa<(l0.length:Int):=zB (by first|(with_reducible assumption)|assumption)
        obtain ⟨a3,bx,bA,bB,aj,hl204_0,hi204_0⟩:=at_L7 HR0.out aa aP aQ
        obtain rfl:al=a3:=(by injection bB)
        try (have ea_:=zE (af.symm.trans aj);injection ea_ with ea_ en_ ec_;subst ea_;subst ec_;clear en_)
        try (have ea_:=zE (ae.symm.trans aj);injection ea_ with ea_ en_ ec_;subst ea_;subst ec_;clear en_)
        have aD:=zS hi204_0
        have bd:=zS hl204_0
        clear hi204_0 hl204_0
        replace aP:=eq_true aP
        replace aQ:=eq_true aQ
        try (have ea_:=zE (ac.symm.trans aj);injection ea_ with ea_ en_ ec_;subst ea_;subst ec_;clear en_)
        have aR:0≤(ab:Int):=zB (by first|(with_reducible assumption)|assumption)
        have aS:ab<((rd_L7 l0 aa).length:Int):=zB (by first|(with_reducible assumption)|assumption)
        obtain ⟨b4,bC,bD,bE,be,bf,bh,au,hl205_3,hi205_3⟩:=at_T60 aD.out ab aR aS
        cases bE
        try (have ea_:=zE (ad.symm.trans au);injection ea_ with ea_ en_ ec_;subst ea_;subst ec_;clear en_)
        try (have ea_:=zE (ag.symm.trans au);injection ea_ with ea_ en_ ec_;subst ea_;subst ec_;clear en_)
        have bi:=zS hi205_3
        have bj:=zS hl205_3
        clear hi205_3 hl205_3
        replace aR:=eq_true aR
        replace aS:=eq_true aS
        go_wp2
        go_roundg k3
        case measure=>have:=HK1.out;have:=HK2.out;have:=HK3.out;omega
        case rel=>exact ⟨((wrap64 ((wrap64 (aG+1))+(((rd_T60 (rd_L7 l0 aa) ab).f3).length:Int)))),(wrap64 (ab+1)),(by first|rfl|(simp;done)|(simp [*];done)),(by first|rfl|(simp;done)|(simp [*];done)),H',⟨by have:=HK1.out;have:=HK2.out;have:=HK3.out;omega⟩,by repeat (first|exact Drawn0.refl _|apply Drawn0.step)⟩
       rw [if_pos c11] at H
       have cj:=zC c11
       clear c11
       by_cases c12:0≤an
       rotate_left
       ·rw [if_neg c12] at H
        exact absurd H (by simp)
       rw [if_pos c12] at H
       have cF:=zC c12
       clear c12
       by_cases c13:((rd_T57 ((rd_T60 (rd_L7 l0 aa) ab).f3) an).f0)<(-1000000000000)
       ·rw [if_pos c13] at H
        have cm:=zC c13
        clear c13
        obtain rfl:=zE H
        have ao:0≤(aa:Int):=zB (by first|(with_reducible assumption)|assumption)
        have ap:aa<(l0.length:Int):=zB (by first|(with_reducible assumption)|assumption)
        obtain ⟨aw,aJ,aK,aL,ac,hl196_0,hi196_0⟩:=at_L7 HR0.out aa ao ap
        obtain rfl:al=aw:=(by injection aL)
        try (have ea_:=zE (af.symm.trans ac);injection ea_ with ea_ en_ ec_;subst ea_;subst ec_;clear en_)
        try (have ea_:=zE (ae.symm.trans ac);injection ea_ with ea_ en_ ec_;subst ea_;subst ec_;clear en_)
        have ai:=zS hi196_0
        have ax:=zS hl196_0
        clear hi196_0 hl196_0
        replace ao:=eq_true ao
        replace ap:=eq_true ap
        have aq:0≤(ab:Int):=zB (by first|(with_reducible assumption)|assumption)
        have ar:ab<((rd_L7 l0 aa).length:Int):=zB (by first|(with_reducible assumption)|assumption)
        obtain ⟨a2,aM,aN,aO,ay,az,aA,ad,hl197_3,hi197_3⟩:=at_T60 ai.out ab aq ar
        cases aO
        try (have ea_:=zE (ag.symm.trans ad);injection ea_ with ea_ en_ ec_;subst ea_;subst ec_;clear en_)
        have aB:=zS hi197_3
        have aC:=zS hl197_3
        clear hi197_3 hl197_3
        replace aq:=eq_true aq
        replace ar:=eq_true ar
        have aT:0≤(aa:Int):=zB (by first|(with_reducible assumption)|assumption)
        have aU:aa<(l0.length:Int):=zB (by first|(with_reducible assumption)|assumption)
        obtain ⟨a4,bF,bG,bH,ah,hl198_0,hi198_0⟩:=at_L7 HR0.out aa aT aU
        obtain rfl:al=a4:=(by injection bH)
        try (have ea_:=zE (af.symm.trans ah);injection ea_ with ea_ en_ ec_;subst ea_;subst ec_;clear en_)
        try (have ea_:=zE (ae.symm.trans ah);injection ea_ with ea_ en_ ec_;subst ea_;subst ec_;clear en_)
        have aE:=zS hi198_0
        have bk:=zS hl198_0
        clear hi198_0 hl198_0
        replace aT:=eq_true aT
        replace aU:=eq_true aU
        try (have ea_:=zE (ac.symm.trans ah);injection ea_ with ea_ en_ ec_;subst ea_;subst ec_;clear en_)
        have aV:0≤(ab:Int):=zB (by first|(with_reducible assumption)|assumption)
        have aW:ab<((rd_L7 l0 aa).length:Int):=zB (by first|(with_reducible assumption)|assumption)
        obtain ⟨b5,bI,bJ,bK,bm,bn,bo,ak,hl199_3,hi199_3⟩:=at_T60 aE.out ab aV aW
        cases bK
        try (have ea_:=zE (ad.symm.trans ak);injection ea_ with ea_ en_ ec_;subst ea_;subst ec_;clear en_)
        try (have ea_:=zE (ag.symm.trans ak);injection ea_ with ea_ en_ ec_;subst ea_;subst ec_;clear en_)
        have aF:=zS hi199_3
        have bp:=zS hl199_3
        clear hi199_3 hl199_3
        replace aV:=eq_true aV
        replace aW:=eq_true aW
        have aX:0≤(an:Int):=zB (by first|(with_reducible assumption)|assumption)
        have aY:an<(((rd_T60 (rd_L7 l0 aa) ab).f3).length:Int):=zB (by first|(with_reducible assumption)|assumption)
        obtain ⟨b6,bL,bq,br⟩:=at_T57 aF.out an aX aY
        cases bL
        replace aX:=eq_true aX
        replace aY:=eq_true aY
        go_wp2
        go_ret
        exact ⟨by first|rfl|(simp;done)|(simp [*];done),by repeat (first|exact Drawn0.refl _|apply Drawn0.step)⟩
       rw [if_neg c13] at H
       have cm:=zD c13
       clear c13
       by_cases c14:((rd_T57 ((rd_T60 (rd_L7 l0 aa) ab).f3) an).f1)<(-1000000000000)
       ·rw [if_pos c14] at H
        have cn:=zC c14
        clear c14
        obtain rfl:=zE H
        have ao:0≤(aa:Int):=zB (by first|(with_reducible assumption)|assumption)
        have ap:aa<(l0.length:Int):=zB (by first|(with_reducible assumption)|assumption)
        obtain ⟨aw,aJ,aK,aL,ac,hl196_0,hi196_0⟩:=at_L7 HR0.out aa ao ap
        obtain rfl:al=aw:=(by injection aL)
        try (have ea_:=zE (af.symm.trans ac);injection ea_ with ea_ en_ ec_;subst ea_;subst ec_;clear en_)
        try (have ea_:=zE (ae.symm.trans ac);injection ea_ with ea_ en_ ec_;subst ea_;subst ec_;clear en_)
        have ai:=zS hi196_0
        have ax:=zS hl196_0
        clear hi196_0 hl196_0
        replace ao:=eq_true ao
        replace ap:=eq_true ap
        have aq:0≤(ab:Int):=zB (by first|(with_reducible assumption)|assumption)
        have ar:ab<((rd_L7 l0 aa).length:Int):=zB (by first|(with_reducible assumption)|assumption)
        obtain ⟨a2,aM,aN,aO,ay,az,aA,ad,hl197_3,hi197_3⟩:=at_T60 ai.out ab aq ar
        cases aO
        try (have ea_:=zE (ag.symm.trans ad);injection ea_ with ea_ en_ ec_;subst ea_;subst ec_;clear en_)
        have aB:=zS hi197_3
        have aC:=zS hl197_3
        clear hi197_3 hl197_3
        replace aq:=eq_true aq
        replace ar:=eq_true ar
        have aT:0≤(aa:Int):=zB (by first|(with_reducible assumption)|assumption)
        have aU:aa<(l0.length:Int):=zB (by first|(with_reducible assumption)|assumption)
        obtain ⟨a4,bF,bG,bH,ah,hl198_0,hi198_0⟩:=at_L7 HR0.out aa aT aU
        obtain rfl:al=a4:=(by injection bH)
        try (have ea_:=zE (af.symm.trans ah);injection ea_ with ea_ en_ ec_;subst ea_;subst ec_;clear en_)
        try (have ea_:=zE (ae.symm.trans ah);injection ea_ with ea_ en_ ec_;subst ea_;subst ec_;clear en_)
        have aE:=zS hi198_0
        have bk:=zS hl198_0
        clear hi198_0 hl198_0
        replace aT:=eq_true aT
        replace aU:=eq_true aU
        try (have ea_:=zE (ac.symm.trans ah);injection ea_ with ea_ en_ ec_;subst ea_;subst ec_;clear en_)
        have aV:0≤(ab:Int):=zB (by first|(with_reducible assumption)|assumption)
        have aW:ab<((rd_L7 l0 aa).length:Int):=zB (by first|(with_reducible assumption)|assumption)
        obtain ⟨b5,bI,bJ,bK,bm,bn,bo,ak,hl199_3,hi199_3⟩:=at_T60 aE.out ab aV aW
        cases bK
        try (have ea_:=zE (ad.symm.trans ak);injection ea_ with ea_ en_ ec_;subst ea_;subst ec_;clear en_)
        try (have ea_:=zE (ag.symm.trans ak);injection ea_ with ea_ en_ ec_;subst ea_;subst ec_;clear en_)
        have aF:=zS hi199_3
        have bp:=zS hl199_3
        clear hi199_3 hl199_3
        replace aV:=eq_true aV
        replace aW:=eq_true aW
        have aX:0≤(an:Int):=zB (by first|(with_reducible assumption)|assumption)
        have aY:an<(((rd_T60 (rd_L7 l0 aa) ab).f3).length:Int):=zB (by first|(with_reducible assumption)|assumption)
        obtain ⟨b6,bL,bq,br⟩:=at_T57 aF.out an aX aY
        cases bL
        replace aX:=eq_true aX
        replace aY:=eq_true aY
        have a5:0≤(aa:Int):=zB (by first|(with_reducible assumption)|assumption)
        have a6:aa<(l0.length:Int):=zB (by first|(with_reducible assumption)|assumption)
        obtain ⟨bM,b8,b9,ca,am,hl201_0,hi201_0⟩:=at_L7 HR0.out aa a5 a6
        obtain rfl:al=bM:=(by injection ca)
        try (have ea_:=zE (ah.symm.trans am);injection ea_ with ea_ en_ ec_;subst ea_;subst ec_;clear en_)
        try (have ea_:=zE (af.symm.trans am);injection ea_ with ea_ en_ ec_;subst ea_;subst ec_;clear en_)
        try (have ea_:=zE (ae.symm.trans am);injection ea_ with ea_ en_ ec_;subst ea_;subst ec_;clear en_)
        have aZ:=zS hi201_0
        have bX:=zS hl201_0
        clear hi201_0 hl201_0
        replace a5:=eq_true a5
        replace a6:=eq_true a6
        try (have ea_:=zE (ac.symm.trans am);injection ea_ with ea_ en_ ec_;subst ea_;subst ec_;clear en_)
        have a7:0≤(ab:Int):=zB (by first|(with_reducible assumption)|assumption)
        have a8:ab<((rd_L7 l0 aa).length:Int):=zB (by first|(with_reducible assumption)|assumption)
        obtain ⟨co,cc,cd,ce,bY,bZ,b0,av,hl202_3,hi202_3⟩:=at_T60 aZ.out ab a7 a8
        cases ce
        try (have ea_:=zE (ak.symm.trans av);injection ea_ with ea_ en_ ec_;subst ea_;subst ec_;clear en_)
        try (have ea_:=zE (ad.symm.trans av);injection ea_ with ea_ en_ ec_;subst ea_;subst ec_;clear en_)
        try (have ea_:=zE (ag.symm.trans av);injection ea_ with ea_ en_ ec_;subst ea_;subst ec_;clear en_)
        have a1:=zS hi202_3
        have b1:=zS hl202_3
        clear hi202_3 hl202_3
        replace a7:=eq_true a7
        replace a8:=eq_true a8
        have a9:0≤(an:Int):=zB (by first|(with_reducible assumption)|assumption)
        have ba:an<(((rd_T60 (rd_L7 l0 aa) ab).f3).length:Int):=zB (by first|(with_reducible assumption)|assumption)
        obtain ⟨cp,cf,b2,b3⟩:=at_T57 a1.out an a9 ba
        cases cf
        replace a9:=eq_true a9
        replace ba:=eq_true ba
        go_wp2
        go_ret
        exact ⟨by first|rfl|(simp;done)|(simp [*];done),by repeat (first|exact Drawn0.refl _|apply Drawn0.step)⟩
       rw [if_neg c14] at H
       have cn:=zD c14
       clear c14
       have H':=zS H
       clear H
       have ao:0≤(aa:Int):=zB (by first|(with_reducible assumption)|assumption)
       have ap:aa<(l0.length:Int):=zB (by first|(with_reducible assumption)|assumption)
       obtain ⟨aw,aJ,aK,aL,ac,hl196_0,hi196_0⟩:=at_L7 HR0.out aa ao ap
       obtain rfl:al=aw:=(by injection aL)
       try (have ea_:=zE (af.symm.trans ac);injection ea_ with ea_ en_ ec_;subst ea_;subst ec_;clear en_)
       try (have ea_:=zE (ae.symm.trans ac);injection ea_ with ea_ en_ ec_;subst ea_;subst ec_;clear en_)
       have ai:=zS hi196_0
       have ax:=zS hl196_0
       clear hi196_0 hl196_0
       replace ao:=eq_true ao
       replace ap:=eq_true ap
       have aq:0≤(ab:Int):=zB (by first|(with_reducible assumption)|assumption)
       have ar:ab<((rd_L7 l0 aa).length:Int):=zB (by first|(with_reducible assumption)|assumption)
       obtain ⟨a2,aM,aN,aO,ay,az,aA,ad,hl197_3,hi197_3⟩:=at_T60 ai.out ab aq ar
       cases aO
       try (have ea_:=zE (ag.symm.trans ad);injection ea_ with ea_ en_ ec_;subst ea_;subst ec_;clear en_)
       have aB:=zS hi197_3
       have aC:=zS hl197_3
       clear hi197_3 hl197_3
       replace aq:=eq_true aq
       replace ar:=eq_true ar
       have aT:0≤(aa:Int):=zB (by first|(with_reducible assumption)|assumption)
       have aU:aa<(l0.length:Int):=zB (by first|(with_reducible assumption)|assumption)
       obtain ⟨a4,bF,bG,bH,ah,hl198_0,hi198_0⟩:=at_L7 HR0.out aa aT aU
       obtain rfl:al=a4:=(by injection bH)
       try (have ea_:=zE (af.symm.trans ah);injection ea_ with ea_ en_ ec_;subst ea_;subst ec_;clear en_)
       try (have ea_:=zE (ae.symm.trans ah);injection ea_ with ea_ en_ ec_;subst ea_;subst ec_;clear en_)
       have aE:=zS hi198_0
       have bk:=zS hl198_0
       clear hi198_0 hl198_0
       replace aT:=eq_true aT
       replace aU:=eq_true aU
       try (have ea_:=zE (ac.symm.trans ah);injection ea_ with ea_ en_ ec_;subst ea_;subst ec_;clear en_)
       have aV:0≤(ab:Int):=zB (by first|(with_reducible assumption)|assumption)
       have aW:ab<((rd_L7 l0 aa).length:Int):=zB (by first|(with_reducible assumption)|assumption)
       obtain ⟨b5,bI,bJ,bK,bm,bn,bo,ak,hl199_3,hi199_3⟩:=at_T60 aE.out ab aV aW
       cases bK
       try (have ea_:=zE (ad.symm.trans ak);injection ea_ with ea_ en_ ec_;subst ea_;subst ec_;clear en_)
       try (have ea_:=zE (ag.symm.trans ak);injection ea_ with ea_ en_ ec_;subst ea_;subst ec_;clear en_)
       have aF:=zS hi199_3
       have bp:=zS hl199_3
       clear hi199_3 hl199_3
       replace aV:=eq_true aV
       replace aW:=eq_true aW
       have aX:0≤(an:Int):=zB (by first|(with_reducible assumption)|assumption)
       have aY:an<(((rd_T60 (rd_L7 l0 aa) ab).f3).length:Int):=zB (by first|(with_reducible assumption)|assumption)
       obtain ⟨b6,bL,bq,br⟩:=at_T57 aF.out an aX aY
       cases bL
       replace aX:=eq_true aX
       replace aY:=eq_true aY
       have a5:0≤(aa:Int):=zB (by first|(with_reducible assumption)|assumption)
       have a6:aa<(l0.length:Int):=zB (by first|(with_reducible assumption)|assumption)
       obtain ⟨bM,b8,b9,ca,am,hl201_0,hi201_0⟩:=at_L7 HR0.out aa a5 a6
       obtain rfl:al=bM:=(by injection ca)
       try (have ea_:=zE (ah.symm.trans am);injection ea_ with ea_ en_ ec_;subst ea_;subst ec_;clear en_)
       try (have ea_:=zE (af.symm.trans am);injection ea_ with ea_ en_ ec_;subst ea_;subst ec_;clear en_)
       try (have ea_:=zE (ae.symm.trans am);injection ea_ with ea_ en_ ec_;subst ea_;subst ec_;clear en_)
       have aZ:=zS hi201_0
       have bX:=zS hl201_0
       clear hi201_0 hl201_0
       replace a5:=eq_true a5
       replace a6:=eq_true a6
       try (have ea_:=zE (ac.symm.trans am);injection ea_ with ea_ en_ ec_;subst ea_;subst ec_;clear en_)
       have a7:0≤(ab:Int):=zB (by first|(with_reducible assumption)|assumption)
       have a8:ab<((rd_L7 l0 aa).length:Int):=zB (by first|(with_reducible assumption)|assumption)
       obtain ⟨co,cc,cd,ce,bY,bZ,b0,av,hl202_3,hi202_3⟩:=at_T60 aZ.out ab a7 a8
       cases ce
       try (have ea_:=zE (ak.symm.trans av);injection ea_ with ea_ en_ ec_;subst ea_;subst ec_;clear en_)
       try (have ea_:=zE (ad.symm.trans av);injection ea_ with ea_ en_ ec_;subst ea_;subst ec_;clear en_)
       try (have ea_:=zE (ag.symm.trans av);injection ea_ with ea_ en_ ec_;subst ea_;subst ec_;clear en_)
       have a1:=zS hi202_3
       have b1:=zS hl202_3
       clear hi202_3 hl202_3
       replace a7:=eq_true a7
       replace a8:=eq_true a8
       have a9:0≤(an:Int):=zB (by first|(with_reducible assumption)|assumption)
       have ba:an<(((rd_T60 (rd_L7 l0 aa) ab).f3).length:Int):=zB (by first|(with_reducible assumption)|assumption)
       obtain ⟨cp,cf,b2,b3⟩:=at_T57 a1.out an a9 ba
       cases cf
       replace a9:=eq_true a9
       replace ba:=eq_true ba
       go_wp2
       go_roundg k3
       case measure=>have:=HK1.out;have:=HK2.out;have:=HK3.out;omega
       case rel=>exact ⟨(wrap64 (an+1)),(by first|rfl|(simp;done)|(simp [*];done)),H',⟨by have:=HK1.out;have:=HK2.out;have:=HK3.out;omega⟩,by repeat (first|exact Drawn0.refl _|apply Drawn0.step)⟩
end Go.Proofs.YtgfajgkjbckkgaaGreatDoor.PZ
end
end
section
noncomputable section
namespace Go.Proofs.YtgfajgkjbckkgaaGreatDoor.PZ
open Go.RowKit Go.Proofs.YtgfajgkjbckkgaaGreatDoorW.PrintWords Go.Proofs.YtgfajgkjbckkgaaGreatDoorW.PrintLast Go.Proofs.YtgfajgkjbckkgaaGreatDoorW.PrintMore
attribute [local go_sem] max2_int min2_int max_two min_two max_three min_three max_four min_four   -- for this text's walks alone
def exergueref07_Bare.l0:Nat→List Int→Int→Option (List Int)
 | 0,_,_=>none
 | k+1,x0,x3=>if x3<(x0.length:Int) then (if 0≤x3 then (if (rd x0 x3)=0 then (exergueref07_Bare.l0 k x0 (wrap64 (x3+1))) else (if x3≤(x0.length:Int) then (some (x0.drop (x3:Int).toNat)) else (none))) else (none)) else (if 0≤x3 then (if x3≤(x0.length:Int) then (some (x0.drop (x3:Int).toNat)) else (none)) else (none))
def exergueref07_Bare.f (k:Nat)(l0:List Int):Option (List Int):=exergueref07_Bare.l0 k l0 0
theorem exergueref07_Bare.mono_l:∀ k,(∀ y0 y1,LeO (exergueref07_Bare.l0 k y0 y1) (exergueref07_Bare.l0 (k+1) y0 y1))
 | 0=>fun _ _ r h=>by simp [exergueref07_Bare.l0] at h
 | k+1=>by
  have ih0:=exergueref07_Bare.mono_l k
  ·intro y0 y1
   unfold exergueref07_Bare.l0
   repeat' first|(with_reducible first|apply ih0|apply LeO.refl|apply LeO.none|refine LeO.ite ?_ ?_|refine LeO.bind ?_ (fun _=>?_))|apply ih0|apply LeO.none
theorem exergueref07_Bare.mono:∀ a0 k,LeO (exergueref07_Bare.f k a0) (exergueref07_Bare.f (k+1) a0):=by
 intro a0 k
 have ih0:=exergueref07_Bare.mono_l k
 unfold exergueref07_Bare.f
 repeat' first|(with_reducible first|apply ih0|apply LeO.refl|apply LeO.none|refine LeO.ite ?_ ?_|refine LeO.bind ?_ (fun _=>?_))|apply ih0|apply LeO.none
set_option maxHeartbeats 8000000 in
set_option maxRecDepth 100000 in
theorem exergueref07_Bare.calls (k:Nat)(P0_:Nat→Prop)(A0:Option Addr)(c0:Nat)(l0:List Int)(r:List Int)(w:World)(hs0:Kd.V (Kd.int .u8) 5 w w.heap.size (fun k_=>P0_ k_) (.slice A0 l0.length c0) l0)(h:exergueref07_Bare.f k l0=some r) :
  Calls Tryz.prog 69 #[.slice A0 l0.length c0] w fun e w'=>∃ v0_:Value,e = .returned (v0_)∧Kd.V (Kd.int .u8) 5 w' w.heap.size (fun k_=>(P0_ k_∨w.heap.size≤k_)) v0_ r∧Below w.heap.size w w':=by
 have HO0:=zS (show Kd.V (Kd.int .u8) 5 w w.heap.size (fun k_=>(P0_ k_∨w.heap.size≤k_)) (.slice A0 l0.length c0) l0 from Kd.V_mono hs0 (fun k_ hk=>.inl hk))
 have HB:=zS (Below.refl w.heap.size w)
 have H:(exergueref07_Bare.l0 k l0 0)=some r:=h
 clear h
 have H':=zS H
 clear H
 go_enter Tryz.func69,Tryz.ntmps69
 go_wp2
 go_loopg [3] k (fun kq v3 w'=>∃ (aa:Int),v3 = .int .i64 aa∧Sd (exergueref07_Bare.l0 kq l0 aa=some r)∧Sd (kq≤k)∧Sd (Kd.V (Kd.int .u8) 5 w' w.heap.size (fun k_=>(P0_ k_∨w.heap.size≤k_)) (.slice A0 l0.length c0) l0)∧Sd (Below w.heap.size w w'))
 case atStart=>exact ⟨(0),(by first|rfl|(simp;done)|(simp [*];done)),H',⟨Nat.le_refl _⟩,⟨vo HO0⟩,⟨bQ HB⟩⟩
 case round=>
  clear H'
  obtain ⟨aa,rfl,HA,HK1,HO_0,HB⟩:=hrel
  cases gk with
  | zero=>exact absurd HA.out (by simp [exergueref07_Bare.l0])
  | succ k1=>
   have H:=HA.out
   clear HA
   simp only [exergueref07_Bare.l0] at H
   by_cases c2:aa<(l0.length:Int)
   rotate_left
   ·rw [if_neg c2] at H
    have ar:=zD c2
    clear c2
    by_cases c8:0≤aa
    rotate_left
    ·rw [if_neg c8] at H
     exact absurd H (by simp)
    rw [if_pos c8] at H
    have az:=eq_true c8
    have aA:=zC c8
    clear c8
    by_cases c9:aa≤(l0.length:Int)
    rotate_left
    ·rw [if_neg c9] at H
     exact absurd H (by simp)
    rw [if_pos c9] at H
    have aB:=eq_true c9
    have aC:=zC c9
    clear c9
    obtain ⟨ab,ac⟩:∃ y_:List Int,y_=(l0.drop (aa:Int).toNat):=⟨_,rfl⟩
    replace H:(some ab)=some r:=by first|(rw [ac];with_reducible exact H)|(have H2_:=(Option.bind_some _ _).symm.trans H;rw [ac];with_reducible exact H2_)|(have H2_:=(Option.bind_some _ _).symm.trans H;with_reducible exact H2_)|with_reducible exact H|(rw [ac];exact H)|exact H
    have am:=zS ac
    clear ac
    obtain rfl:=zE H
    have q10:(aa:Int)≤((l0.length:Int):Int):=zB (by first|(with_reducible assumption)|assumption)
    obtain ⟨i010,hi010,_,hsz10,_⟩:=info_parts info5
    have hroom10:l0.length≤c0:=(Kd.V_reads' HO_0.out).2.1
    have hC10:Kd.F (Kd.int .u8) _ _ A0 l0.length l0:=(Kd.V_at (base:=w.heap.size) HO_0.out).2.2
    have au:(0:Int)≤(aa:Int):=zB (by first|(with_reducible assumption)|assumption)
    have hcut10:=cut_from (P:=Tryz.prog) 34 5 .i64 Tryz.underlying34 hi010 1 hsz10 A0 l0.length c0 aa au q10
    have ai:=Kd.F_cut (m:=(aa:Int).toNat) (c:=c0) hC10 (by omega) hroom10
    obtain ⟨A10,hA10⟩:∃ Az_,Az_=(if c0=(aa:Int).toNat then A0 else (A0:Option Addr).map (·.add ((aa:Int).toNat * 1))):=⟨_,rfl⟩
    obtain ⟨c10,ak⟩:∃ cz_,cz_=c0 - (aa:Int).toNat:=⟨_,rfl⟩
    have aj:ab.length=l0.length - (aa:Int).toNat:=(by rw [am.out,List.length_drop] <;> omega)
    rw [show (l0).drop (aa:Int).toNat=ab from am.out.symm] at ai
    replace ai:Kd.F (Kd.int .u8) _ _ A10 ab.length ab:=(by rw [hA10];exact ai)
    rw [← aj,← hA10,← ak] at hcut10
    have ap:=zS (show Kd.V (Kd.int .u8) 5 _ w.heap.size _ (.slice A10 ab.length c10) ab from Kd.V_mk (by rw [aj,ak];exact Nat.sub_le_sub_right hroom10 _) ai)
    have ax:=zS (show ab.length≤c10 from by rw [aj,ak];exact Nat.sub_le_sub_right hroom10 _)
    clear ai hC10 hroom10 hi010 hsz10 ak
    have KY10:=zS aj
    have KA10:=zS hA10
    clear aj hA10
    replace q10:=eq_true q10
    go_wp2
    go_ret
    exact ⟨_,by first|rfl|(simp <;> rfl)|(simp [*] <;> rfl),by (with_reducible repeat (first|apply Kd.V_alloc|apply Kd.V_drewN|apply Kd.V_drew));exact ap.out,bQ HB⟩
   rw [if_pos c2] at H
   have ar:=zC c2
   clear c2
   by_cases c3:0≤aa
   rotate_left
   ·rw [if_neg c3] at H
    exact absurd H (by simp)
   rw [if_pos c3] at H
   have aD:=zC c3
   clear c3
   by_cases c4:(rd l0 aa)=0
   ·rw [if_pos c4] at H
    have av:((rd l0 aa) == 0)=true:=zH c4
    have aw:((rd l0 aa) != 0)=false:=zG c4
    clear c4
    have H':=zS H
    clear H
    have ag:0≤(aa:Int):=zB (by first|(with_reducible assumption)|assumption)
    have ah:aa<(l0.length:Int):=zB (by first|(with_reducible assumption)|assumption)
    obtain ⟨ad,ao,al⟩:=Kd.at_int (Kd.V_reads' HO_0.out).2.2 aa ag ah
    cases ao
    replace ag:=eq_true ag
    replace ah:=eq_true ah
    go_wp2
    go_roundg k1
    case measure=>have:=HK1.out;omega
    case rel=>exact ⟨(wrap64 (aa+1)),(by first|rfl|(simp;done)|(simp [*];done)),H',⟨by have:=HK1.out;omega⟩,⟨vo HO_0⟩,⟨bQ HB⟩⟩
   rw [if_neg c4] at H
   have av:((rd l0 aa) == 0)=false:=zF c4
   have aw:((rd l0 aa) != 0)=true:=zI c4
   have aE:=eq_true (zB (by first|(with_reducible assumption)|assumption):0≤aa)
   by_cases c6:aa≤(l0.length:Int)
   rotate_left
   ·rw [if_neg c6] at H
    exact absurd H (by simp)
   rw [if_pos c6] at H
   have aF:=eq_true c6
   have aG:=zC c6
   clear c6
   obtain ⟨ae,af⟩:∃ y_:List Int,y_=(l0.drop (aa:Int).toNat):=⟨_,rfl⟩
   replace H:(some ae)=some r:=by first|(rw [af];with_reducible exact H)|(have H2_:=(Option.bind_some _ _).symm.trans H;rw [af];with_reducible exact H2_)|(have H2_:=(Option.bind_some _ _).symm.trans H;with_reducible exact H2_)|with_reducible exact H|(rw [af];exact H)|exact H
   have an:=zS af
   clear af
   obtain rfl:=zE H
   have ag:0≤(aa:Int):=zB (by first|(with_reducible assumption)|assumption)
   have ah:aa<(l0.length:Int):=zB (by first|(with_reducible assumption)|assumption)
   obtain ⟨ad,ao,al⟩:=Kd.at_int (Kd.V_reads' HO_0.out).2.2 aa ag ah
   cases ao
   replace ag:=eq_true ag
   replace ah:=eq_true ah
   have q7:(aa:Int)≤((l0.length:Int):Int):=zB (by first|(with_reducible assumption)|assumption)
   obtain ⟨i07,hi07,_,hsz7,_⟩:=info_parts info5
   have hroom7:l0.length≤c0:=(Kd.V_reads' HO_0.out).2.1
   have hC7:Kd.F (Kd.int .u8) _ _ (some ad) l0.length l0:=(Kd.V_at (base:=w.heap.size) HO_0.out).2.2
   have q07:(0:Int)≤(aa:Int):=zB (by first|(with_reducible assumption)|assumption)
   have hcut7:=cut_from (P:=Tryz.prog) 34 5 .i64 Tryz.underlying34 hi07 1 hsz7 (some ad) l0.length c0 aa q07 q7
   have hr7:=Kd.F_cut (m:=(aa:Int).toNat) (c:=c0) hC7 (by omega) hroom7
   obtain ⟨A7,hA7⟩:∃ Az_,Az_=(if c0=(aa:Int).toNat then (some ad) else ((some ad):Option Addr).map (·.add ((aa:Int).toNat * 1))):=⟨_,rfl⟩
   obtain ⟨c7,hc7⟩:∃ cz_,cz_=c0 - (aa:Int).toNat:=⟨_,rfl⟩
   have hy7:ae.length=l0.length - (aa:Int).toNat:=(by rw [an.out,List.length_drop] <;> omega)
   rw [show (l0).drop (aa:Int).toNat=ae from an.out.symm] at hr7
   replace hr7:Kd.F (Kd.int .u8) _ _ A7 ae.length ae:=(by rw [hA7];exact hr7)
   rw [← hy7,← hA7,← hc7] at hcut7
   have aq:=zS (show Kd.V (Kd.int .u8) 5 _ w.heap.size _ (.slice A7 ae.length c7) ae from Kd.V_mk (by rw [hy7,hc7];exact Nat.sub_le_sub_right hroom7 _) hr7)
   have ay:=zS (show ae.length≤c7 from by rw [hy7,hc7];exact Nat.sub_le_sub_right hroom7 _)
   clear hr7 hC7 hroom7 hi07 hsz7 hc7
   have KY7:=zS hy7
   have KA7:=zS hA7
   clear hy7 hA7
   replace q7:=eq_true q7
   go_wp2
   go_ret
   exact ⟨_,by first|rfl|(simp <;> rfl)|(simp [*] <;> rfl),by (with_reducible repeat (first|apply Kd.V_alloc|apply Kd.V_drewN|apply Kd.V_drew));exact aq.out,bQ HB⟩
end Go.Proofs.YtgfajgkjbckkgaaGreatDoor.PZ
end
end
section
noncomputable section
namespace Go.Proofs.YtgfajgkjbckkgaaGreatDoor.PZ
open Go.RowKit Go.Proofs.YtgfajgkjbckkgaaGreatDoorW.PrintWords Go.Proofs.YtgfajgkjbckkgaaGreatDoorW.PrintLast Go.Proofs.YtgfajgkjbckkgaaGreatDoorW.PrintMore
attribute [local go_sem] max2_int min2_int max_two min_two max_three min_three max_four min_four   -- for this text's walks alone
def exergueref07_number.l0:Nat→Int→List Int→Option (List Int)
 | 0,_,_=>none
 | k+1,x0,x3=>if x0>0 then ((some (([(Int.tmod x0 10) % 256]:List Int):List Int)).bind fun ac=>(if ac.length+x3.length<140737488355328 then (exergueref07_number.l0 k (wrap64 (Int.tdiv x0 10)) (ac ++ x3)) else (none))) else (some x3)
def exergueref07_number.f (k:Nat)(a0:Int):Option (List Int):=exergueref07_number.l0 k a0 ([]:List Int)
theorem exergueref07_number.mono_l:∀ k,(∀ y0 y1,LeO (exergueref07_number.l0 k y0 y1) (exergueref07_number.l0 (k+1) y0 y1))
 | 0=>fun _ _ r h=>by simp [exergueref07_number.l0] at h
 | k+1=>by
  have ih0:=exergueref07_number.mono_l k
  ·intro y0 y1
   unfold exergueref07_number.l0
   repeat' first|(with_reducible first|apply ih0|apply LeO.refl|apply LeO.none|refine LeO.ite ?_ ?_|refine LeO.bind ?_ (fun _=>?_))|apply ih0|apply LeO.none
theorem exergueref07_number.mono:∀ a0 k,LeO (exergueref07_number.f k a0) (exergueref07_number.f (k+1) a0):=by
 intro a0 k
 have ih0:=exergueref07_number.mono_l k
 unfold exergueref07_number.f
 repeat' first|(with_reducible first|apply ih0|apply LeO.refl|apply LeO.none|refine LeO.ite ?_ ?_|refine LeO.bind ?_ (fun _=>?_))|apply ih0|apply LeO.none
set_option maxHeartbeats 8000000 in
set_option maxRecDepth 100000 in
theorem exergueref07_number.calls (k:Nat)(a0:Int)(r:List Int)(w:World)(h:exergueref07_number.f k a0=some r) :
  Calls Tryz.prog 68 #[.int .i64 a0] w fun e w'=>∃ v0_:Value,e = .returned (v0_)∧Kd.R (Kd.int .u8) 5 w' w.heap.size (fun _=>True) v0_ r∧Below w.heap.size w w':=by
 have HB:=zS (Below.refl w.heap.size w)
 have H:(exergueref07_number.l0 k a0 ([]:List Int))=some r:=h
 clear h
 have H':=zS H
 clear H
 go_enter Tryz.func68,Tryz.ntmps68
 go_wp2
 go_loopg [0,3] k (fun kq v0 v3 w'=>∃ (aa:Int) (ab:List Int),v0 = .int .i64 aa∧Sd (exergueref07_number.l0 kq aa ab=some r)∧Sd (kq≤k)∧Sd (Kd.R (Kd.int .u8) 5 w' w.heap.size (fun _=>True) v3 ab)∧Sd (Below w.heap.size w w'))
 case atStart=>exact ⟨(a0),(([]:List Int)),(by first|rfl|(simp;done)|(simp [*];done)),H',⟨Nat.le_refl _⟩,⟨by first|exact Kd.R_nil _ _ _ _ _|exact Kd.N_nil _ _ _ _ _|exact Kd.V_nil _ _ _ _ _|exact Kd.Q_nil _ _ _ _ _|exact Kd.S_nil _ _ _ _ _⟩,⟨bQ HB⟩⟩
 case round=>
  clear H'
  obtain ⟨aa,ab,rfl,HA,HK1,HO_3,HB⟩:=hrel
  cases gk with
  | zero=>exact absurd HA.out (by simp [exergueref07_number.l0])
  | succ k1=>
   have H:=HA.out
   clear HA
   simp only [exergueref07_number.l0] at H
   by_cases c2:aa>0
   rotate_left
   ·rw [if_neg c2] at H
    have ak:decide (0<aa)=false:=zD c2
    clear c2
    obtain rfl:=zE H
    go_wp2
    go_ret
    exact ⟨_,by first|rfl|(simp <;> rfl)|(simp [*] <;> rfl),by (with_reducible repeat (first|apply Kd.R_alloc|apply Kd.R_drewN|apply Kd.R_drew));exact HO_3.out,bQ HB⟩
   rw [if_pos c2] at H
   have ak:decide (0<aa)=true:=zC c2
   clear c2
   obtain ⟨ac,ad⟩:∃ y_:List Int,y_=(([(Int.tmod aa 10) % 256]:List Int)):=⟨_,rfl⟩
   replace H:(if ac.length+ab.length<140737488355328 then (exergueref07_number.l0 k1 (wrap64 (Int.tdiv aa 10)) (ac ++ ab)) else (none))=some r:=by first|(rw [ad];with_reducible exact H)|(have H2_:=(Option.bind_some _ _).symm.trans H;rw [ad];with_reducible exact H2_)|(have H2_:=(Option.bind_some _ _).symm.trans H;with_reducible exact H2_)|with_reducible exact H|(rw [ad];exact H)|exact H
   have af:=zS ad
   clear ad
   by_cases c3:ac.length+ab.length<140737488355328
   ·rw [if_pos c3] at H
    have LMc3:=zS c3
    clear c3
    obtain ⟨ah,ae⟩:∃ y_:List Int,y_=(ac ++ ab):=⟨_,rfl⟩
    replace H:(exergueref07_number.l0 k1 (wrap64 (Int.tdiv aa 10)) ah)=some r:=by first|(rw [ae];with_reducible exact H)|(have H2_:=(Option.bind_some _ _).symm.trans H;rw [ae];with_reducible exact H2_)|(have H2_:=(Option.bind_some _ _).symm.trans H;with_reducible exact H2_)|with_reducible exact H|(rw [ae];exact H)|exact H
    have ai:=zS ae
    clear ae
    have H':=zS H
    clear H
    go_wp2_with (first|((with_reducible refine gate_dst (N:=9) rfl ?_);refine Kd.R_lit (Kd.int .u8) _ 5 ?hg (N:=9) ?hd (xs:=([(Int.tmod aa 10) % 256]:List Int)) (inner:=[.int .u8 ((Int.tmod aa 10) % 256)]) (ok:=fun _=>True) (okp:=fun _=>True) ?hr ?hp (fun _ hk=>hk) trivial (Below.refl _ _) (Nat.le_refl _) (by simp) ?_;(case hd=>rfl);(case hg=>rfl);(case hr=>first|(go_simp;done)|(go_simp;rfl));(case hp=>exact (Reps.one (show Kd.M (Kd.int .u8) _ _ _ ((Int.tmod aa 10) % 256) [.int .u8 ((Int.tmod aa 10) % 256)] from rfl) (Reps.none _ _)));intro al w4 ho5 hb hg_ hnew_;clear hg_ hnew_;(first|rw [← af.out] at ho5|(simp only [Int.reduceToNat] at ho5;rw [← af.out] at ho5));have ag:=zS (Kd.R_lower (Kd.R_new' ho5 (Kd.R_lt (ro HO_3))) (bz HB));replace HO_3:=zS (Kd.R_elder' (ro HO_3) (Kd.R_base ho5) hb);replace HB:=bs HB hb;clear hb ho5;obtain ⟨Ao7,co7,eo7⟩:=Kd.R_slice HO_3.out;subst eo7)|((with_reducible refine gate_builtin (b:=.append) (xs:=#[.tmp 9,.tmp 10]) rfl ?_);at_builtin;refine Kd.R_append_rows (Kd.int .u8) (w0:=w) w.heap.size rfl (.tmp 9) (.tmp 10) 34 5 (.int .u8 0) 1 rfl Tryz.underlying34 info5 rfl (by decide) (by omega) al ac ab _ _ _ (fun k_=>some k_≠(.slice Ao7 ab.length co7:Value).ownBlock) (fun _=>False) rfl rfl ?aO ?aR (fun _ _ h=>h) (fun _ h=>h.elim) ?aF ?aB ?aS ?aL ?_;(case aR=>exact (Kd.R_reads' HO_3.out).2.2);(case aB=>exact (bQ HB));(case aF=>exact (fun k_ hk=>Kd.fresh' (Kd.R_lt (ro HO_3)) k_ hk));(case aO=>exact (by (with_reducible repeat (first|apply Kd.R_alloc|apply Kd.R_drewN|apply Kd.R_drew));exact Kd.R_mono ag.out (fun _ hk=>hk.2)));(case aS=>exact (bz HB));(case aL=>have:=LMc3.out;omega);intro am w6 ho hb hg hat;rw [← ai.out] at ho;replace HO_3:=zS (Kd.R_after (ok:=(fun _=>True)) (ro HO_3) hg hat);replace HB:=zS (hb);have aj:=zS (ho);clear ag;clear ho hb hg hat))
    go_roundg k1
    case measure=>have:=HK1.out;omega
    case rel=>exact ⟨(wrap64 (Int.tdiv aa 10)),(ah),(by first|rfl|(simp;done)|(simp [*];done)),H',⟨by have:=HK1.out;omega⟩,⟨by (with_reducible repeat (first|apply Kd.R_alloc|apply Kd.R_drewN|apply Kd.R_drew));exact Kd.R_mono aj.out (fun _ hk=>trivial)⟩,⟨bQ HB⟩⟩
   rw [if_neg c3] at H
   exact absurd H (by simp)
end Go.Proofs.YtgfajgkjbckkgaaGreatDoor.PZ
end
end
section
noncomputable section
namespace Go.Proofs.YtgfajgkjbckkgaaGreatDoor.PZ
open Go.RowKit Go.Proofs.YtgfajgkjbckkgaaGreatDoorW.PrintWords Go.Proofs.YtgfajgkjbckkgaaGreatDoorW.PrintLast Go.Proofs.YtgfajgkjbckkgaaGreatDoorW.PrintMore
attribute [local go_sem] max2_int min2_int max_two min_two max_three min_three max_four min_four   -- for this text's walks alone
def exergueref11_word.l0:Nat→ByteArray→Int→Option (Int)
 | 0,_,_=>none
 | k+1,x0,x1=>if x1<(x0.size:Int) then (if 0≤x1 then (if (bt x0 x1)≥97 then (if (bt x0 x1)≤122 then (exergueref11_word.l0 k x0 (wrap64 (x1+1))) else (some x1)) else (some x1)) else (none)) else (some x1)
def exergueref11_word.f (k:Nat)(a0:ByteArray)(a1:Int):Option (Int):=exergueref11_word.l0 k a0 a1
theorem exergueref11_word.mono_l:∀ k,(∀ y0 y1,LeO (exergueref11_word.l0 k y0 y1) (exergueref11_word.l0 (k+1) y0 y1))
 | 0=>fun _ _ r h=>by simp [exergueref11_word.l0] at h
 | k+1=>by
  have ih0:=exergueref11_word.mono_l k
  ·intro y0 y1
   unfold exergueref11_word.l0
   repeat' first|(with_reducible first|apply ih0|apply LeO.refl|apply LeO.none|refine LeO.ite ?_ ?_|refine LeO.bind ?_ (fun _=>?_))|apply ih0|apply LeO.none
theorem exergueref11_word.mono:∀ a0 a1 k,LeO (exergueref11_word.f k a0 a1) (exergueref11_word.f (k+1) a0 a1):=by
 intro a0 a1 k
 have ih0:=exergueref11_word.mono_l k
 unfold exergueref11_word.f
 repeat' first|(with_reducible first|apply ih0|apply LeO.refl|apply LeO.none|refine LeO.ite ?_ ?_|refine LeO.bind ?_ (fun _=>?_))|apply ih0|apply LeO.none
set_option maxHeartbeats 8000000 in
set_option maxRecDepth 100000 in
theorem exergueref11_word.calls (k:Nat)(a0:ByteArray)(a1:Int)(r:Int)(w:World)(h:exergueref11_word.f k a0 a1=some r) :
  Calls Tryz.prog 73 #[.string a0,.int .i64 a1] w fun e w'=>e = .returned (.int .i64 r)∧Drawn0 w w':=by
 have H:(exergueref11_word.l0 k a0 a1)=some r:=h
 clear h
 have H':=zS H
 clear H
 go_enter Tryz.func73,Tryz.ntmps73
 go_wp2
 go_loopg [1] k (fun kq v1 w'=>∃ (aa:Int),v1 = .int .i64 aa∧Sd (exergueref11_word.l0 kq a0 aa=some r)∧Sd (kq≤k)∧Drawn0 w w')
 case atStart=>exact ⟨(a1),(by first|rfl|(simp;done)|(simp [*];done)),H',⟨Nat.le_refl _⟩,by repeat (first|exact Drawn0.refl _|apply Drawn0.step)⟩
 case round=>
  clear H'
  try clear p2
  obtain ⟨aa,rfl,HA,HK1,⟨m1,rfl⟩⟩:=hrel
  cases gk with
  | zero=>exact absurd HA.out (by simp [exergueref11_word.l0])
  | succ k1=>
   have H:=HA.out
   clear HA
   simp only [exergueref11_word.l0] at H
   by_cases c3:aa<(a0.size:Int)
   rotate_left
   ·rw [if_neg c3] at H
    have ab:=zD c3
    clear c3
    obtain rfl:=zE H
    go_wp2
    go_ret
    exact ⟨by first|rfl|(simp;done)|(simp [*];done),by repeat (first|exact Drawn0.refl _|apply Drawn0.step)⟩
   rw [if_pos c3] at H
   have ab:=zC c3
   clear c3
   by_cases c4:0≤aa
   rotate_left
   ·rw [if_neg c4] at H
    exact absurd H (by simp)
   rw [if_pos c4] at H
   have ae:=zC c4
   clear c4
   by_cases c6:(bt a0 aa)≥97
   rotate_left
   ·rw [if_neg c6] at H
    have ac:decide (97≤(bt a0 aa))=false:=zD c6
    clear c6
    obtain rfl:=zE H
    have p5:0≤(aa:Int):=zB (by first|(with_reducible assumption)|assumption)
    have q5:aa<(a0.size:Int):=zB (by first|(with_reducible assumption)|assumption)
    have hx5:=bt_at a0 aa
    replace p5:=eq_true p5
    replace q5:=eq_true q5
    go_wp2
    go_ret
    exact ⟨by first|rfl|(simp;done)|(simp [*];done),by repeat (first|exact Drawn0.refl _|apply Drawn0.step)⟩
   rw [if_pos c6] at H
   have ac:decide (97≤(bt a0 aa))=true:=zC c6
   clear c6
   by_cases c8:(bt a0 aa)≤122
   ·rw [if_pos c8] at H
    have ad:=zC c8
    clear c8
    have H':=zS H
    clear H
    have p5:0≤(aa:Int):=zB (by first|(with_reducible assumption)|assumption)
    have q5:aa<(a0.size:Int):=zB (by first|(with_reducible assumption)|assumption)
    have hx5:=bt_at a0 aa
    replace p5:=eq_true p5
    replace q5:=eq_true q5
    have p7:0≤(aa:Int):=zB (by first|(with_reducible assumption)|assumption)
    have q7:aa<(a0.size:Int):=zB (by first|(with_reducible assumption)|assumption)
    have hx7:=bt_at a0 aa
    replace p7:=eq_true p7
    replace q7:=eq_true q7
    go_wp2
    go_roundg k1
    case measure=>have:=HK1.out;omega
    case rel=>exact ⟨(wrap64 (aa+1)),(by first|rfl|(simp;done)|(simp [*];done)),H',⟨by have:=HK1.out;omega⟩,by repeat (first|exact Drawn0.refl _|apply Drawn0.step)⟩
   rw [if_neg c8] at H
   have ad:=zD c8
   clear c8
   obtain rfl:=zE H
   have p5:0≤(aa:Int):=zB (by first|(with_reducible assumption)|assumption)
   have q5:aa<(a0.size:Int):=zB (by first|(with_reducible assumption)|assumption)
   have hx5:=bt_at a0 aa
   replace p5:=eq_true p5
   replace q5:=eq_true q5
   have p7:0≤(aa:Int):=zB (by first|(with_reducible assumption)|assumption)
   have q7:aa<(a0.size:Int):=zB (by first|(with_reducible assumption)|assumption)
   have hx7:=bt_at a0 aa
   replace p7:=eq_true p7
   replace q7:=eq_true q7
   go_wp2
   go_ret
   exact ⟨by first|rfl|(simp;done)|(simp [*];done),by repeat (first|exact Drawn0.refl _|apply Drawn0.step)⟩
end Go.Proofs.YtgfajgkjbckkgaaGreatDoor.PZ
end
end
section
set_option maxRecDepth 100000
namespace Go.Proofs.YtgfajgkjbckkgaaGreatDoor.PZ
open Go.RowKit Go.Proofs.YtgfajgkjbckkgaaGreatDoorW.PrintWords Go.Proofs.YtgfajgkjbckkgaaGreatDoorW.PrintLast
def lessB (c:Int):Int:=(c - 48) % 256
def numText (n:Int):ByteArray:=⟨(Lib.itoa n).toArray⟩
theorem numText_size (n:Int)(h0 : -9223372036854775808≤n)(h1:n≤9223372036854775807):(numText n).size≤21:=by
 have:=Lib.itoa_length_le n h0 h1
 show (Lib.itoa n).toArray.size≤21
 simpa using this
def MixSt (g:Nat)(L:List Int)(k:Nat)(W:World):Prop:=g<W.heap.size∧∀ j,j<L.length→W.cell? ⟨g,j,none⟩=some (.int .u8 (if j<k then lessB (rd L j) else rd L j))∧W.frozen? ⟨g,j,none⟩=false
theorem MixSt.put {g:Nat}{L:List Int}{k:Nat}{W:World}(h:MixSt g L k W)(hk:k<L.length):MixSt g L (k+1) (W.setCell ⟨g,k,none⟩ (.int .u8 (lessB (rd L k)))):=by
 refine ⟨by simpa using h.1,fun j hj=>?_⟩
 obtain ⟨h1,h2⟩:=h.2 j hj
 by_cases e:j=k
 ·subst e
  rw [if_pos (by omega)]
  exact ⟨World.cell?_setCell_same _ _ _ h1,by rw [World.frozen?_setCell];exact h2⟩
 rw [World.cell?_setCell_other _ _ _ _ (by intro z;injection z with _ z2;omega),h1,World.frozen?_setCell]
 refine ⟨?_,h2⟩
 by_cases hj2:j<k
 · rw [if_pos hj2,if_pos (by omega)]
 rw [if_neg hj2,if_neg (by omega)]
theorem MixSt.done {g:Nat}{L:List Int}{W:World}(h:MixSt g L L.length W)(base:Nat)(hb:base≤g)(c:Nat)(hc:L.length≤c)(hl:L.length≤100):Kd.V (Kd.int .u8) 5 W base (fun k_=>base≤k_) (.slice (some ⟨g,0,none⟩) L.length c) (L.map lessB):=by
 have hF:Kd.F (Kd.int .u8) W (fun k_=>base≤k_) (some ⟨g,0,none⟩) (L.map lessB).length (L.map lessB):=by
  intro W' hW
  have hg:=hW g hb h.1
  refine Kd.C_of_reads (d:=(0:Int)) (h1:=fun _=>rfl) ⟨rfl,by rw [List.length_map];omega,fun _=>⟨_,rfl,fun j hj=>?_⟩⟩
  rw [List.length_map] at hj
  rw [add_plain,World.cell?_of_block (w:=W) hg,(h.2 j hj).1,if_pos hj]
  simp [rd,List.getD_eq_getElem?_getD,List.getElem?_eq_getElem hj]
 have:=Kd.V_mk (e:=5) (base:=base) (by rw [List.length_map];exact hc) hF
 rwa [List.length_map] at this
theorem bytes_frozen (W:World)(s:ByteArray)(j:Nat)(hj:j<s.size):(Lib.bytesWorld W 5 s).frozen? ⟨W.heap.size,j,none⟩=false:=by
 have h1:=Lib.bytesWorld_at_new W 5 s
 have h2:=Lib.bytesWorld_cell W 5 s j hj
 have h3:j<(Lib.bytesCells W 5 s).size:=by
  have h4:(Lib.bytesWorld W 5 s).cell? ⟨W.heap.size,j,none⟩=(Lib.bytesCells W 5 s)[j]?:=cell_of_row _ _ _ _ _ _ h1
  rw [h4] at h2
  exact (Array.getElem?_eq_some_iff.1 h2).1
 unfold World.frozen?
 simp only [h1]
 simp
 omega
theorem MixSt.start (W:World)(s:ByteArray):MixSt W.heap.size (bytesOf s) 0 (Lib.bytesWorld W 5 s):=by
 refine ⟨by rw [Lib.bytesWorld_size];omega,fun j hj=>?_⟩
 rw [bytesOf_length] at hj
 rw [if_neg (by omega),Lib.bytesWorld_cell W 5 s j hj,rd_bytesOf]
 refine ⟨?_,bytes_frozen W s j hj⟩
 simp [bt,hj,List.getD_eq_getElem?_getD]
 rfl
end Go.Proofs.YtgfajgkjbckkgaaGreatDoor.PZ
end
