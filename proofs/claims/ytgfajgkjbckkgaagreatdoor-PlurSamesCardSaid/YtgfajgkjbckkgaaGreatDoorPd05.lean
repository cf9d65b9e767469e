/- Texts of this seat, joined. Conditions: none beyond each statement's own. -/
import Derived.Test.YtgfajgkjbckkgaaGreatDoorPd04
set_option linter.all false
section
noncomputable section
namespace Go.Proofs.YtgfajgkjbckkgaaGreatDoor.PZ
open Go.RowKit Go.Proofs.YtgfajgkjbckkgaaGreatDoorW.PrintWords Go.Proofs.YtgfajgkjbckkgaaGreatDoorW.PrintLast Go.Proofs.YtgfajgkjbckkgaaGreatDoorW.PrintMore
attribute [local go_sem] max2_int min2_int max_two min_two max_three min_three max_four min_four   -- for this text's walks alone
mutual
def exergueref11_Short.l0:Nat→List (List (S60))→Int→Int→Option (Bool)
 | 0,_,_,_=>none
 | k+1,x0,x3,x4=>if x4<(x0.length:Int) then (exergueref11_Short.l1 k x0 (wrap64 (x3+1)) x4 0) else (some true)
def exergueref11_Short.l1:Nat→List (List (S60))→Int→Int→Int→Option (Bool)
 | 0,_,_,_,_=>none
 | k+1,x0,x3,x4,x5=>if 0≤x4 then (if x4<(x0.length:Int) then (if x5<((rd_L7 x0 x4).length:Int) then (if 0≤x5 then (exergueref11_Short.l2 k x0 (wrap64 ((wrap64 (x3+1))+(((rd_T60 (rd_L7 x0 x4) x5).f3).length:Int))) x4 x5 0) else (none)) else (if x3>200 then (some false) else (exergueref11_Short.l0 k x0 x3 (wrap64 (x4+1))))) else (none)) else (none)
def exergueref11_Short.l2:Nat→List (List (S60))→Int→Int→Int→Int→Option (Bool)
 | 0,_,_,_,_,_=>none
 | k+1,x0,x3,x4,x5,x6=>if 0≤x4 then (if x4<(x0.length:Int) then (if 0≤x5 then (if x5<((rd_L7 x0 x4).length:Int) then (if x6<(((rd_T60 (rd_L7 x0 x4) x5).f3).length:Int) then (if 0≤x6 then (if ((rd_T57 ((rd_T60 (rd_L7 x0 x4) x5).f3) x6).f0)<(-1000000000000) then (some false) else (if ((rd_T57 ((rd_T60 (rd_L7 x0 x4) x5).f3) x6).f1)<(-1000000000000) then (some false) else (exergueref11_Short.l2 k x0 x3 x4 x5 (wrap64 (x6+1))))) else (none)) else (if ((rd_T60 (rd_L7 x0 x4) x5).f1)<(-1000000000000) then (some false) else (if x3>200 then (some false) else (exergueref11_Short.l1 k x0 x3 x4 (wrap64 (x5+1)))))) else (none)) else (none)) else (none)) else (none)
end
def exergueref11_Short.f (k:Nat)(l0:List (List (S60))):Option (Bool):=exergueref11_Short.l0 k l0 0 0
theorem exergueref11_Short.mono_l:∀ k,(∀ y0 y1 y2,LeO (exergueref11_Short.l0 k y0 y1 y2) (exergueref11_Short.l0 (k+1) y0 y1 y2))∧(∀ y0 y1 y2 y3,LeO (exergueref11_Short.l1 k y0 y1 y2 y3) (exergueref11_Short.l1 (k+1) y0 y1 y2 y3))∧(∀ y0 y1 y2 y3 y4,LeO (exergueref11_Short.l2 k y0 y1 y2 y3 y4) (exergueref11_Short.l2 (k+1) y0 y1 y2 y3 y4))
 | 0=>⟨fun _ _ _ r h=>by simp [exergueref11_Short.l0] at h,fun _ _ _ _ r h=>by simp [exergueref11_Short.l1] at h,fun _ _ _ _ _ r h=>by simp [exergueref11_Short.l2] at h⟩
 | k+1=>by
  obtain ⟨ih0,ih1,ih2⟩:=exergueref11_Short.mono_l k
  refine ⟨?_,?_,?_⟩
  ·intro y0 y1 y2
   unfold exergueref11_Short.l0
   repeat' first|(with_reducible first|apply ih0|apply ih1|apply ih2|apply LeO.refl|apply LeO.none|refine LeO.ite ?_ ?_|refine LeO.bind ?_ (fun _=>?_))|apply ih0|apply ih1|apply ih2|apply LeO.none
  ·intro y0 y1 y2 y3
   unfold exergueref11_Short.l1
   repeat' first|(with_reducible first|apply ih0|apply ih1|apply ih2|apply LeO.refl|apply LeO.none|refine LeO.ite ?_ ?_|refine LeO.bind ?_ (fun _=>?_))|apply ih0|apply ih1|apply ih2|apply LeO.none
  ·intro y0 y1 y2 y3 y4
   unfold exergueref11_Short.l2
   repeat' first|(with_reducible first|apply ih0|apply ih1|apply ih2|apply LeO.refl|apply LeO.none|refine LeO.ite ?_ ?_|refine LeO.bind ?_ (fun _=>?_))|apply ih0|apply ih1|apply ih2|apply LeO.none
theorem exergueref11_Short.mono:∀ a0 k,LeO (exergueref11_Short.f k a0) (exergueref11_Short.f (k+1) a0):=by
 intro a0 k
 obtain ⟨ih0,ih1,ih2⟩:=exergueref11_Short.mono_l k
 unfold exergueref11_Short.f
 repeat' first|(with_reducible first|apply ih0|apply ih1|apply ih2|apply LeO.refl|apply LeO.none|refine LeO.ite ?_ ?_|refine LeO.bind ?_ (fun _=>?_))|apply ih0|apply ih1|apply ih2|apply LeO.none
set_option maxHeartbeats 8000000 in
set_option maxRecDepth 100000 in
theorem exergueref11_Short.calls (k:Nat)(A0:Option Addr)(c0:Nat)(l0:List (List (S60)))(r:Bool)(w:World)(hr0:Kd.C (Kd.slice 60 k60) w A0 l0.length l0)(hc0:l0.length≤c0)(h:exergueref11_Short.f k l0=some r) :
  Calls Tryz.prog 30 #[.slice A0 l0.length c0] w fun e w'=>e = .returned (.bool r)∧Drawn0 w w':=by
 have HR0:=zS hr0
 have HC0:=zS hc0
 clear hr0 hc0
 have H:(exergueref11_Short.l0 k l0 0 0)=some r:=h
 clear h
 have H':=zS H
 clear H
 go_enter Tryz.func30,Tryz.ntmps30
 go_wp2
 go_loopg [3,4] k (fun kq v3 v4 w'=>∃ (bN:Int) (aa:Int),v3 = .int .i64 bN∧v4 = .int .i64 aa∧Sd (exergueref11_Short.l0 kq l0 bN aa=some r)∧Sd (kq≤k)∧Drawn0 w w')
 case atStart=>exact ⟨(0),(0),(by first|rfl|(simp;done)|(simp [*];done)),(by first|rfl|(simp;done)|(simp [*];done)),H',⟨Nat.le_refl _⟩,by repeat (first|exact Drawn0.refl _|apply Drawn0.step)⟩
 case round=>
  clear H'
  obtain ⟨bN,aa,rfl,rfl,HA,HK1,⟨m1,rfl⟩⟩:=hrel
  cases gk with
  | zero=>exact absurd HA.out (by simp [exergueref11_Short.l0])
  | succ k1=>
   have H:=HA.out
   clear HA
   simp only [exergueref11_Short.l0] at H
   by_cases c2:aa<(l0.length:Int)
   rotate_left
   ·rw [if_neg c2] at H
    have b7:=zD c2
    clear c2
    obtain rfl:=zE H
    go_wp2
    go_ret
    exact ⟨by first|rfl|(simp;done)|(simp [*];done),by repeat (first|exact Drawn0.refl _|apply Drawn0.step)⟩
   rw [if_pos c2] at H
   have b7:=zC c2
   clear c2
   have H':=zS H
   clear H
   go_wp2
   go_loopg [3,5] k1 (fun kq v3 v5 w'=>∃ (aG:Int) (ab:Int),v3 = .int .i64 aG∧v5 = .int .i64 ab∧Sd (exergueref11_Short.l1 kq l0 aG aa ab=some r)∧Sd (kq≤k1)∧Drawn0 w w')
   case atStart=>exact ⟨(wrap64 (bN+1)),(0),(by first|rfl|(simp;done)|(simp [*];done)),(by first|rfl|(simp;done)|(simp [*];done)),H',⟨Nat.le_refl _⟩,by repeat (first|exact Drawn0.refl _|apply Drawn0.step)⟩
   case round=>
    clear H'
    try clear c2
    try clear b7
    try clear p2
    obtain ⟨aG,ab,rfl,rfl,HA,HK2,⟨m2,rfl⟩⟩:=hrel
    cases gk with
    | zero=>exact absurd HA.out (by simp [exergueref11_Short.l1])
    | succ k2=>
     have H:=HA.out
     clear HA
     simp only [exergueref11_Short.l1] at H
     by_cases c3:0≤aa
     rotate_left
     ·rw [if_neg c3] at H
      exact absurd H (by simp)
     rw [if_pos c3] at H
     have cu:=zC c3
     clear c3
     by_cases c4:aa<(l0.length:Int)
     rotate_left
     ·rw [if_neg c4] at H
      exact absurd H (by simp)
     rw [if_pos c4] at H
     have cv:=zC c4
     clear c4
     by_cases c5:ab<((rd_L7 l0 aa).length:Int)
     rotate_left
     ·rw [if_neg c5] at H
      have cg:=zD c5
      clear c5
      by_cases c17:aG>200
      ·rw [if_pos c17] at H
       have ch:decide (200<aG)=true:=zC c17
       clear c17
       obtain rfl:=zE H
       have aH:0≤(aa:Int):=zB (by first|(with_reducible assumption)|assumption)
       have aI:aa<(l0.length:Int):=zB (by first|(with_reducible assumption)|assumption)
       obtain ⟨al,bu,bv,bw,ae,hl193_0,hi193_0⟩:=at_L7 HR0.out aa aH aI
       cases bw
       have bb:=zS hi193_0
       have bc:=zS hl193_0
       clear hi193_0 hl193_0
       replace aH:=eq_true aH
       replace aI:=eq_true aI
       go_wp2
       go_ret
       exact ⟨by first|rfl|(simp;done)|(simp [*];done),by repeat (first|exact Drawn0.refl _|apply Drawn0.step)⟩
      rw [if_neg c17] at H
      have ch:decide (200<aG)=false:=zD c17
      clear c17
      have H':=zS H
      clear H
      have aH:0≤(aa:Int):=zB (by first|(with_reducible assumption)|assumption)
      have aI:aa<(l0.length:Int):=zB (by first|(with_reducible assumption)|assumption)
      obtain ⟨al,bu,bv,bw,ae,hl193_0,hi193_0⟩:=at_L7 HR0.out aa aH aI
      cases bw
      have bb:=zS hi193_0
      have bc:=zS hl193_0
      clear hi193_0 hl193_0
      replace aH:=eq_true aH
      replace aI:=eq_true aI
      go_wp2
      go_roundg k2
      case measure=>have:=HK1.out;have:=HK2.out;omega
      case rel=>exact ⟨(aG),(wrap64 (aa+1)),(by first|rfl|(simp;done)|(simp [*];done)),(by first|rfl|(simp;done)|(simp [*];done)),H',⟨by have:=HK1.out;have:=HK2.out;omega⟩,by repeat (first|exact Drawn0.refl _|apply Drawn0.step)⟩
     rw [if_pos c5] at H
     have cg:=zC c5
     clear c5
     by_cases c6:0≤ab
     rotate_left
     ·rw [if_neg c6] at H
      exact absurd H (by simp)
     rw [if_pos c6] at H
     have cw:=zC c6
     clear c6
     have H':=zS H
     clear H
     have aH:0≤(aa:Int):=zB (by first|(with_reducible assumption)|assumption)
     have aI:aa<(l0.length:Int):=zB (by first|(with_reducible assumption)|assumption)
     obtain ⟨al,bu,bv,bw,ae,hl193_0,hi193_0⟩:=at_L7 HR0.out aa aH aI
     cases bw
     have bb:=zS hi193_0
     have bc:=zS hl193_0
     clear hi193_0 hl193_0
     replace aH:=eq_true aH
     replace aI:=eq_true aI
     have bO:0≤(aa:Int):=zB (by first|(with_reducible assumption)|assumption)
     have bP:aa<(l0.length:Int):=zB (by first|(with_reducible assumption)|assumption)
     obtain ⟨ci,cx,cy,cz,af,hl194_0,hi194_0⟩:=at_L7 HR0.out aa bO bP
     obtain rfl:al=ci:=(by injection cz)
     have bR:=zS hi194_0
     have cq:=zS hl194_0
     clear hi194_0 hl194_0
     replace bO:=eq_true bO
     replace bP:=eq_true bP
     try (have ea_:=zE (ae.symm.trans af);injection ea_ with ea_ en_ ec_;subst ea_;subst ec_;clear en_)
     have bS:0≤(ab:Int):=zB (by first|(with_reducible assumption)|assumption)
     have bT:ab<((rd_L7 l0 aa).length:Int):=zB (by first|(with_reducible assumption)|assumption)
     obtain ⟨cD,cA,cB,cC,bU,bV,bW,ag,hl195_3,hi195_3⟩:=at_T60 bR.out ab bS bT
     cases cC
     have cr:=zS hi195_3
     have ct:=zS hl195_3
     clear hi195_3 hl195_3
     replace bS:=eq_true bS
     replace bT:=eq_true bT
     go_wp2
     go_loopg [6] k2 (fun kq v6 w'=>∃ (an:Int),v6 = .int .i64 an∧Sd (exergueref11_Short.l2 kq l0 (wrap64 ((wrap64 (aG+1))+(((rd_T60 (rd_L7 l0 aa) ab).f3).length:Int))) aa ab an=some r)∧Sd (kq≤k2)∧Drawn0 w w')
     case atStart=>exact ⟨(0),(by first|rfl|(simp;done)|(simp [*];done)),H',⟨Nat.le_refl _⟩,by repeat (first|exact Drawn0.refl _|apply Drawn0.step)⟩
     case round=>
      clear H'
      try clear c1
      try clear p1
      try clear q1
      try clear hx1
      try clear c2
      try clear b7
      try clear p2
      try clear c3
      try clear cu
      try clear c4
      try clear cv
      try clear c5
      try clear cg
      try clear c6
      try clear cw
      try clear p6
      try clear ae
      try clear af
      try clear bU
      try clear bV
      try clear bW
      try clear ag
      try clear aH
      try clear bO
      try clear bS
      try clear p2
      try clear aI
      try clear bP
      try clear bT
      obtain ⟨an,rfl,HA,HK3,⟨m3,rfl⟩⟩:=hrel
      cases gk with
      | zero=>exact absurd HA.out (by simp [exergueref11_Short.l2])
      | succ k3=>
       have H:=HA.out
       clear HA
       simp only [exergueref11_Short.l2] at H
       by_cases c7:0≤aa
       rotate_left
       ·rw [if_neg c7] at H
        exact absurd H (by simp)
       rw [if_pos c7] at H
       have cG:=zC c7
       clear c7
       by_cases c8:aa<(l0.length:Int)
       rotate_left
       ·rw [if_neg c8] at H
        exact absurd H (by simp)
       rw [if_pos c8] at H
       have cH:=zC c8
       clear c8
       by_cases c9:0≤ab
       rotate_left
       ·rw [if_neg c9] at H
        exact absurd H (by simp)
       rw [if_pos c9] at H
       have cI:=zC c9
       clear c9
       by_cases c10:ab<((rd_L7 l0 aa).length:Int)
       rotate_left
       ·rw [if_neg c10] at H
        exact absurd H (by simp)
       rw [if_pos c10] at H
       have cE:=zC c10
       clear c10
       by_cases c11:an<(((rd_T60 (rd_L7 l0 aa) ab).f3).length:Int)
       rotate_left
       ·rw [if_neg c11] at H
        have cj:=zD c11
        clear c11
        by_cases c15:((rd_T60 (rd_L7 l0 aa) ab).f1)<(-1000000000000)
        ·rw [if_pos c15] at H
         have ck:=zC c15
         clear c15
         obtain rfl:=zE H
         have ao:0≤(aa:Int):=zB (by first|(with_reducible assumption)|assumption)
         have ap:aa<(l0.length:Int):=zB (by first|(with_reducible assumption)|assumption)
         obtain ⟨aw,aJ,aK,aL,ac,hl196_0,hi196_0⟩:=at_L7 HR0.out aa ao ap
         obtain rfl:al=aw:=(by injection aL)
         try (have ea_:=zE (af.symm.trans ac);injection ea_ with ea_ en_ ec_;subst ea_;subst ec_;clear en_)
         try (have ea_:=zE (ae.symm.trans ac);injection ea_ with ea_ en_ ec_;subst ea_;subst ec_;clear en_)
         have ai:=zS hi196_0
         have ax:=zS hl196_0
         clear hi196_0 hl196_0
         replace ao:=eq_true ao
         replace ap:=eq_true ap
         have aq:0≤(ab:Int):=zB (by first|(with_reducible assumption)|assumption)
         have ar:ab<((rd_L7 l0 aa).length:Int):=zB (by first|(with_reducible assumption)|assumption)
         obtain ⟨a2,aM,aN,aO,ay,az,aA,ad,hl197_3,hi197_3⟩:=at_T60 ai.out ab aq ar
         cases aO
         try (have ea_:=zE (ag.symm.trans ad);injection ea_ with ea_ en_ ec_;subst ea_;subst ec_;clear en_)
         have aB:=zS hi197_3
         have aC:=zS hl197_3
         clear hi197_3 hl197_3
         replace aq:=eq_true aq
         replace ar:=eq_true ar
         have aP:0≤(aa:Int):=zB (by first|(with_reducible assumption)|assumption)
         have aQ:aa<(l0.length:Int):=zB (by first|(with_reducible assumption)|assumption)
         obtain ⟨a3,bx,bA,bB,aj,hl204_0,hi204_0⟩:=at_L7 HR0.out aa aP aQ
         obtain rfl:al=a3:=(by injection bB)
         try (have ea_:=zE (af.symm.trans aj);injection ea_ with ea_ en_ ec_;subst ea_;subst ec_;clear en_)
         try (have ea_:=zE (ae.symm.trans aj);injection ea_ with ea_ en_ ec_;subst ea_;subst ec_;clear en_)
         have aD:=zS hi204_0
         have bd:=zS hl204_0
         clear hi204_0 hl204_0
         replace aP:=eq_true aP
         replace aQ:=eq_true aQ
         try (have ea_:=zE (ac.symm.trans aj);injection ea_ with ea_ en_ ec_;subst ea_;subst ec_;clear en_)
         have aR:0≤(ab:Int):=zB (by first|(with_reducible assumption)|assumption)
         have aS:ab<((rd_L7 l0 aa).length:Int):=zB (by first|(with_reducible assumption)|assumption)
         obtain ⟨b4,bC,bD,bE,be,bf,bh,au,hl205_3,hi205_3⟩:=at_T60 aD.out ab aR aS
         cases bE
         try (have ea_:=zE (ad.symm.trans au);injection ea_ with ea_ en_ ec_;subst ea_;subst ec_;clear en_)
         try (have ea_:=zE (ag.symm.trans au);injection ea_ with ea_ en_ ec_;subst ea_;subst ec_;clear en_)
         have bi:=zS hi205_3
         have bj:=zS hl205_3
         clear hi205_3 hl205_3
         replace aR:=eq_true aR
         replace aS:=eq_true aS
         go_wp2
         go_ret
         exact ⟨by first|rfl|(simp;done)|(simp [*];done),by repeat (first|exact Drawn0.refl _|apply Drawn0.step)⟩
        rw [if_neg c15] at H
        have ck:=zD c15
        clear c15
        by_cases c16:(wrap64 ((wrap64 (aG+1))+(((rd_T60 (rd_L7 l0 aa) ab).f3).length:Int)))>200
        ·rw [if_pos c16] at H
         have cl:decide (200<(wrap64 ((wrap64 (aG+1))+(((rd_T60 (rd_L7 l0 aa) ab).f3).length:Int))))=true:=zC c16
         clear c16
         obtain rfl:=zE H
         have ao:0≤(aa:Int):=zB (by first|(with_reducible assumption)|assumption)
         have ap:aa<(l0.length:Int):=zB (by first|(with_reducible assumption)|assumption)
         obtain ⟨aw,aJ,aK,aL,ac,hl196_0,hi196_0⟩:=at_L7 HR0.out aa ao ap
         obtain rfl:al=aw:=(by injection aL)
         try (have ea_:=zE (af.symm.trans ac);injection ea_ with ea_ en_ ec_;subst ea_;subst ec_;clear en_)
         try (have ea_:=zE (ae.symm.trans ac);injection ea_ with ea_ en_ ec_;subst ea_;subst ec_;clear en_)
         have ai:=zS hi196_0
         have ax:=zS hl196_0
         clear hi196_0 hl196_0
         replace ao:=eq_true ao
         replace ap:=eq_true ap
         have aq:0≤(ab:Int):=zB (by first|(with_reducible assumption)|assumption)
         have ar:ab<((rd_L7 l0 aa).length:Int):=zB (by first|(with_reducible assumption)|assumption)
         obtain ⟨a2,aM,aN,aO,ay,az,aA,ad,hl197_3,hi197_3⟩:=at_T60 ai.out ab aq ar
         cases aO
         try (have ea_:=zE (ag.symm.trans ad);injection ea_ with ea_ en_ ec_;subst ea_;subst ec_;clear en_)
         have aB:=zS hi197_3
         have aC:=zS hl197_3
         clear hi197_3 hl197_3
         replace aq:=eq_true aq
         replace ar:=eq_true ar
         have aP:0≤(aa:Int):=zB (by first|(with_reducible assumption)|assumption)
         have aQ:aa<(l0.length:Int):=zB (by first|(with_reducible assumption)|assumption)
         obtain ⟨a3,bx,bA,bB,aj,hl204_0,hi204_0⟩:=at_L7 HR0.out aa aP aQ
         obtain rfl:al=a3:=(by injection bB)
         try (have ea_:=zE (af.symm.trans aj);injection ea_ with ea_ en_ ec_;subst ea_;subst ec_;clear en_)
         try (have ea_:=zE (ae.symm.trans aj);injection ea_ with ea_ en_ ec_;subst ea_;subst ec_;clear en_)
         have aD:=zS hi204_0
         have bd:=zS hl204_0
         clear hi204_0 hl204_0
         replace aP:=eq_true aP
         replace aQ:=eq_true aQ
         try (have ea_:=zE (ac.symm.trans aj);injection ea_ with ea_ en_ ec_;subst ea_;subst ec_;clear en_)
         have aR:0≤(ab:Int):=zB (by first|(with_reducible assumption)|assumption)
         have aS:ab<((rd_L7 l0 aa).length:Int):=zB (by first|(with_reducible assumption)|assumption)
         obtain ⟨b4,bC,bD,bE,be,bf,bh,au,hl205_3,hi205_3⟩:=at_T60 aD.out ab aR aS
         cases bE
         try (have ea_:=zE (ad.symm.trans au);injection ea_ with ea_ en_ ec_;subst ea_;subst ec_;clear en_)
         try (have ea_:=zE (ag.symm.trans au);injection ea_ with ea_ en_ ec_;subst ea_;subst ec_;clear en_)
         have bi:=zS hi205_3
         have bj:=zS hl205_3
         clear hi205_3 hl205_3
         replace aR:=eq_true aR
         replace aS:=eq_true aS
         go_wp2
         go_ret
         exact ⟨by first|rfl|(simp;done)|(simp [*];done),by repeat (first|exact Drawn0.refl _|apply Drawn0.step)⟩
        rw [if_neg c16] at H
        have cl:decide (200<(wrap64 ((wrap64 (aG+1))+(((rd_T60 (rd_L7 l0 aa) ab).f3).length:Int))))=false:=zD c16
        clear c16
        have H':=zS H
        clear H
        have ao:0≤(aa:Int):=zB (by first|(with_reducible assumption)|assumption)
        have ap:aa<(l0.length:Int):=zB (by first|(with_reducible assumption)|assumption)
        obtain ⟨aw,aJ,aK,aL,ac,hl196_0,hi196_0⟩:=at_L7 HR0.out aa ao ap
        obtain rfl:al=aw:=(by injection aL)
        try (have ea_:=zE (af.symm.trans ac);injection ea_ with ea_ en_ ec_;subst ea_;subst ec_;clear en_)
        try (have ea_:=zE (ae.symm.trans ac);injection ea_ with ea_ en_ ec_;subst ea_;subst ec_;clear en_)
        have ai:=zS hi196_0
        have ax:=zS hl196_0
        clear hi196_0 hl196_0
        replace ao:=eq_true ao
        replace ap:=eq_true ap
        have aq:0≤(ab:Int):=zB (by first|(with_reducible assumption)|assumption)
        have ar:ab<((rd_L7 l0 aa).length:Int):=zB (by first|(with_reducible assumption)|assumption)
        obtain ⟨a2,aM,aN,aO,ay,az,aA,ad,hl197_3,hi197_3⟩:=at_T60 ai.out ab aq ar
        cases aO
        try (have ea_:=zE (ag.symm.trans ad);injection ea_ with ea_ en_ ec_;subst ea_;subst ec_;clear en_)
        have aB:=zS hi197_3
        have aC:=zS hl197_3
        clear hi197_3 hl197_3
        replace aq:=eq_true aq
        replace ar:=eq_true ar
        have aP:0≤(aa:Int):=zB (by first|(with_reducible assumption)|assumption)
        have aQ:aa<(l0.length:Int):=zB (by first|(with_reducible assumption)|assumption)
        obtain ⟨a3,bx,bA,bB,aj,hl204_0,hi204_0⟩:=at_L7 HR0.out aa aP aQ
        obtain rfl:al=a3:=(by injection bB)
        try (have ea_:=zE (af.symm.trans aj);injection ea_ with ea_ en_ ec_;subst ea_;subst ec_;clear en_)
        try (have ea_:=zE (ae.symm.trans aj);injection ea_ with ea_ en_ ec_;subst ea_;subst ec_;clear en_)
        have aD:=zS hi204_0
        have bd:=zS hl204_0
        clear hi204_0 hl204_0
        replace aP:=eq_true aP
        replace aQ:=eq_true aQ
        try (have ea_:=zE (ac.symm.trans aj);injection ea_ with ea_ en_ ec_;subst ea_;subst ec_;clear en_)
        have aR:0≤(ab:Int):=zB (by first|(with_reducible assumption)|assumption)
        have aS:ab<((rd_L7 l0 aa).length:Int):=zB (by first|(with_reducible assumption)|assumption)
        obtain ⟨b4,bC,bD,bE,be,bf,bh,au,hl205_3,hi205_3⟩:=at_T60 aD.out ab aR aS
        cases bE
        try (have ea_:=zE (ad.symm.trans au);injection ea_ with ea_ en_ ec_;subst ea_;subst ec_;clear en_)
        try (have ea_:=zE (ag.symm.trans au);injection ea_ with ea_ en_ ec_;subst ea_;subst ec_;clear en_)
        have bi:=zS hi205_3
        have bj:=zS hl205_3
        clear hi205_3 hl205_3
        replace aR:=eq_true aR
        replace aS:=eq_true aS
        go_wp2
        go_roundg k3
        case measure=>have:=HK1.out;have:=HK2.out;have:=HK3.out;omega
        case rel=>exact ⟨((wrap64 ((wrap64 (aG+1))+(((rd_T60 (rd_L7 l0 aa) ab).f3).length:Int)))),(wrap64 (ab+1)),(by first|rfl|(simp;done)|(simp [*];done)),(by first|rfl|(simp;done)|(simp [*];done)),H',⟨by have:=HK1.out;have:=HK2.out;have:=HK3.out;omega⟩,by repeat (first|exact Drawn0.refl _|apply Drawn0.step)⟩
       rw [if_pos c11] at H
       have cj:=zC c11
       clear c11
       by_cases c12:0≤an
       rotate_left
       ·rw [if_neg c12] at H
        exact absurd H (by simp)
       rw [if_pos c12] at H
       have cF:=zC c12
       clear c12
       by_cases c13:((rd_T57 ((rd_T60 (rd_L7 l0 aa) ab).f3) an).f0)<(-1000000000000)
       ·rw [if_pos c13] at H
        have cm:=zC c13
        clear c13
        obtain rfl:=zE H
        have ao:0≤(aa:Int):=zB (by first|(with_reducible assumption)|assumption)
        have ap:aa<(l0.length:Int):=zB (by first|(with_reducible assumption)|assumption)
        obtain ⟨aw,aJ,aK,aL,ac,hl196_0,hi196_0⟩:=at_L7 HR0.out aa ao ap
        obtain rfl:al=aw:=(by injection aL)
        try (have ea_:=zE (af.symm.trans ac);injection ea_ with ea_ en_ ec_;subst ea_;subst ec_;clear en_)
        try (have ea_:=zE (ae.symm.trans ac);injection ea_ with ea_ en_ ec_;subst ea_;subst ec_;clear en_)
        have ai:=zS hi196_0
        have ax:=zS hl196_0
        clear hi196_0 hl196_0
        replace ao:=eq_true ao
        replace ap:=eq_true ap
        have aq:0≤(ab:Int):=zB (by first|(with_reducible assumption)|assumption)
        have ar:ab<((rd_L7 l0 aa).length:Int):=zB (by first|(with_reducible assumption)|assumption)
        obtain ⟨a2,aM,aN,aO,ay,az,aA,ad,hl197_3,hi197_3⟩:=at_T60 ai.out ab aq ar
        cases aO
        try (have ea_:=zE (ag.symm.trans ad);injection ea_ with ea_ en_ ec_;subst ea_;subst ec_;clear en_)
        have aB:=zS hi197_3
        have aC:=zS hl197_3
        clear hi197_3 hl197_3
        replace aq:=eq_true aq
        replace ar:=eq_true ar
        have aT:0≤(aa:Int):=zB (by first|(with_reducible assumption)|assumption)
        have aU:aa<(l0.length:Int):=zB (by first|(with_reducible assumption)|assumption)
        obtain ⟨a4,bF,bG,bH,ah,hl198_0,hi198_0⟩:=at_L7 HR0.out aa aT aU
        obtain rfl:al=a4:=(by injection bH)
        try (have ea_:=zE (af.symm.trans ah);injection ea_ with ea_ en_ ec_;subst ea_;subst ec_;clear en_)
        try (have ea_:=zE (ae.symm.trans ah);injection ea_ with ea_ en_ ec_;subst ea_;subst ec_;clear en_)
        have aE:=zS hi198_0
        have bk:=zS hl198_0
        clear hi198_0 hl198_0
        replace aT:=eq_true aT
        replace aU:=eq_true aU
        try (have ea_:=zE (ac.symm.trans ah);injection ea_ with ea_ en_ ec_;subst ea_;subst ec_;clear en_)
        have aV:0≤(ab:Int):=zB (by first|(with_reducible assumption)|assumption)
        have aW:ab<((rd_L7 l0 aa).length:Int):=zB (by first|(with_reducible assumption)|assumption)
        obtain ⟨b5,bI,bJ,bK,bm,bn,bo,ak,hl199_3,hi199_3⟩:=at_T60 aE.out ab aV aW
        cases bK
        try (have ea_:=zE (ad.symm.trans ak);injection ea_ with ea_ en_ ec_;subst ea_;subst ec_;clear en_)
        try (have ea_:=zE (ag.symm.trans ak);injection ea_ with ea_ en_ ec_;subst ea_;subst ec_;clear en_)
        have aF:=zS hi199_3
        have bp:=zS hl199_3
        clear hi199_3 hl199_3
        replace aV:=eq_true aV
        replace aW:=eq_true aW
        have aX:0≤(an:Int):=zB (by first|(with_reducible assumption)|assumption)
        have aY:an<(((rd_T60 (rd_L7 l0 aa) ab).f3).length:Int):=zB (by first|(with_reducible assumption)|assumption)
        obtain ⟨b6,bL,bq,br⟩:=at_T57 aF.out an aX aY
        cases bL
        replace aX:=eq_true aX
        replace aY:=eq_true aY
        go_wp2
        go_ret
        exact ⟨by first|rfl|(simp;done)|(simp [*];done),by repeat (first|exact Drawn0.refl _|apply Drawn0.step)⟩
       rw [if_neg c13] at H
       have cm:=zD c13
       clear c13
       by_cases c14:((rd_T57 ((rd_T60 (rd_L7 l0 aa) ab).f3) an).f1)<(-1000000000000)
       ·rw [if_pos c14] at H
        have cn:=zC c14
        clear c14
        obtain rfl:=zE H
        have ao:0≤(aa:Int):=zB (by first|(with_reducible assumption)|assumption)
        have ap:aa<(l0.length:Int):=zB (by first|(with_reducible assumption)|assumption)
        obtain ⟨aw,aJ,aK,aL,ac,hl196_0,hi196_0⟩:=at_L7 HR0.out aa ao ap
        obtain rfl:al=aw:=(by injection aL)
        try (have ea_:=zE (af.symm.trans ac);injection ea_ with ea_ en_ ec_;subst ea_;subst ec_;clear en_)
        try (have ea_:=zE (ae.symm.trans ac);injection ea_ with ea_ en_ ec_;subst ea_;subst ec_;clear en_)
        have ai:=zS hi196_0
        have ax:=zS hl196_0
        clear hi196_0 hl196_0
        replace ao:=eq_true ao
        replace ap:=eq_true ap
        have aq:0≤(ab:Int):=zB (by first|(with_reducible assumption)|assumption)
        have ar:ab<((rd_L7 l0 aa).length:Int):=zB (by first|(with_reducible assumption)|assumption)
        obtain ⟨a2,aM,aN,aO,ay,az,aA,ad,hl197_3,hi197_3⟩:=at_T60 ai.out ab aq ar
        cases aO
        try (have ea_:=zE (ag.symm.trans ad);injection ea_ with ea_ en_ ec_;subst ea_;subst ec_;clear en_)
        have aB:=zS hi197_3
        have aC:=zS hl197_3
        clear hi197_3 hl197_3
        replace aq:=eq_true aq
        replace ar:=eq_true ar
        have aT:0≤(aa:Int):=zB (by first|(with_reducible assumption)|assumption)
        have aU:aa<(l0.length:Int):=zB (by first|(with_reducible assumption)|assumption)
        obtain ⟨a4,bF,bG,bH,ah,hl198_0,hi198_0⟩:=at_L7 HR0.out aa aT aU
        obtain rfl:al=a4:=(by injection bH)
        try (have ea_:=zE (af.symm.trans ah);injection ea_ with ea_ en_ ec_;subst ea_;subst ec_;clear en_)
        try (have ea_:=zE (ae.symm.trans ah);injection ea_ with ea_ en_ ec_;subst ea_;subst ec_;clear en_)
        have aE:=zS hi198_0
        have bk:=zS hl198_0
        clear hi198_0 hl198_0
        replace aT:=eq_true aT
        replace aU:=eq_true aU
        try (have ea_:=zE (ac.symm.trans ah);injection ea_ with ea_ en_ ec_;subst ea_;subst ec_;clear en_)
        have aV:0≤(ab:Int):=zB (by first|(with_reducible assumption)|assumption)
        have aW:ab<((rd_L7 l0 aa).length:Int):=zB (by first|(with_reducible assumption)|assumption)
        obtain ⟨b5,bI,bJ,bK,bm,bn,bo,ak,hl199_3,hi199_3⟩:=at_T60 aE.out ab aV aW
        cases bK
        try (have ea_:=zE (ad.symm.trans ak);injection ea_ with ea_ en_ ec_;subst ea_;subst ec_;clear en_)
        try (have ea_:=zE (ag.symm.trans ak);injection ea_ with ea_ en_ ec_;subst ea_;subst ec_;clear en_)
        have aF:=zS hi199_3
        have bp:=zS hl199_3
        clear hi199_3 hl199_3
        replace aV:=eq_true aV
        replace aW:=eq_true aW
        have aX:0≤(an:Int):=zB (by first|(with_reducible assumption)|assumption)
        have aY:an<(((rd_T60 (rd_L7 l0 aa) ab).f3).length:Int):=zB (by first|(with_reducible assumption)|assumption)
        obtain ⟨b6,bL,bq,br⟩:=at_T57 aF.out an aX aY
        cases bL
        replace aX:=eq_true aX
        replace aY:=eq_true aY
        have a5:0≤(aa:Int):=zB (by first|(with_reducible assumption)|assumption)
        have a6:aa<(l0.length:Int):=zB (by first|(with_reducible assumption)|assumption)
        obtain ⟨bM,b8,b9,ca,am,hl201_0,hi201_0⟩:=at_L7 HR0.out aa a5 a6
        obtain rfl:al=bM:=(by injection ca)
        try (have ea_:=zE (ah.symm.trans am);injection ea_ with ea_ en_ ec_;subst ea_;subst ec_;clear en_)
        try (have ea_:=zE (af.symm.trans am);injection ea_ with ea_ en_ ec_;subst ea_;subst ec_;clear en_)
        try (have ea_:=zE (ae.symm.trans am);injection ea_ with ea_ en_ ec_;subst ea_;subst ec_;clear en_)
        have aZ:=zS hi201_0
        have bX:=zS hl201_0
        clear hi201_0 hl201_0
        replace a5:=eq_true a5
        replace a6:=eq_true a6
        try (have ea_:=zE (ac.symm.trans am);injection ea_ with ea_ en_ ec_;subst ea_;subst ec_;clear en_)
        have a7:0≤(ab:Int):=zB (by first|(with_reducible assumption)|assumption)
        have a8:ab<((rd_L7 l0 aa).length:Int):=zB (by first|(with_reducible assumption)|assumption)
        obtain ⟨co,cc,cd,ce,bY,bZ,b0,av,hl202_3,hi202_3⟩:=at_T60 aZ.out ab a7 a8
        cases ce
        try (have ea_:=zE (ak.symm.trans av);injection ea_ with ea_ en_ ec_;subst ea_;subst ec_;clear en_)
        try (have ea_:=zE (ad.symm.trans av);injection ea_ with ea_ en_ ec_;subst ea_;subst ec_;clear en_)
        try (have ea_:=zE (ag.symm.trans av);injection ea_ with ea_ en_ ec_;subst ea_;subst ec_;clear en_)
        have a1:=zS hi202_3
        have b1:=zS hl202_3
        clear hi202_3 hl202_3
        replace a7:=eq_true a7
        replace a8:=eq_true a8
        have a9:0≤(an:Int):=zB (by first|(with_reducible assumption)|assumption)
        have ba:an<(((rd_T60 (rd_L7 l0 aa) ab).f3).length:Int):=zB (by first|(with_reducible assumption)|assumption)
        obtain ⟨cp,cf,b2,b3⟩:=at_T57 a1.out an a9 ba
        cases cf
        replace a9:=eq_true a9
        replace ba:=eq_true ba
        go_wp2
        go_ret
        exact ⟨by first|rfl|(simp;done)|(simp [*];done),by repeat (first|exact Drawn0.refl _|apply Drawn0.step)⟩
       rw [if_neg c14] at H
       have cn:=zD c14
       clear c14
       have H':=zS H
       clear H
       have ao:0≤(aa:Int):=zB (by first|(with_reducible assumption)|assumption)
       have ap:aa<(l0.length:Int):=zB (by first|(with_reducible assumption)|assumption)
       obtain ⟨aw,aJ,aK,aL,ac,hl196_0,hi196_0⟩:=at_L7 HR0.out aa ao ap
       obtain rfl:al=aw:=(by injection aL)
       try (have ea_:=zE (af.symm.trans ac);injection ea_ with ea_ en_ ec_;subst ea_;subst ec_;clear en_)
       try (have ea_:=zE (ae.symm.trans ac);injection ea_ with ea_ en_ ec_;subst ea_;subst ec_;clear en_)
       have ai:=zS hi196_0
       have ax:=zS hl196_0
       clear hi196_0 hl196_0
       replace ao:=eq_true ao
       replace ap:=eq_true ap
       have aq:0≤(ab:Int):=zB (by first|(with_reducible assumption)|assumption)
       have ar:ab<((rd_L7 l0 aa).length:Int):=zB (by first|(with_reducible assumption)|assumption)
       obtain ⟨a2,aM,aN,aO,ay,az,aA,ad,hl197_3,hi197_3⟩:=at_T60 ai.out ab aq ar
       cases aO
       try (have ea_:=zE (ag.symm.trans ad);injection ea_ with ea_ en_ ec_;subst ea_;subst ec_;clear en_)
       have aB:=zS hi197_3
       have aC:=zS hl197_3
       clear hi197_3 hl197_3
       replace aq:=eq_true aq
       replace ar:=eq_true ar
       have aT:0≤(aa:Int):=zB (by first|(with_reducible assumption)|assumption)
       have aU:aa<(l0.length:Int):=zB (by first|(with_reducible assumption)|assumption)
       obtain ⟨a4,bF,bG,bH,ah,hl198_0,hi198_0⟩:=at_L7 HR0.out aa aT aU
       obtain rfl:al=a4:=(by injection bH)
       try (have ea_:=zE (af.symm.trans ah);injection ea_ with ea_ en_ ec_;subst ea_;subst ec_;clear en_)
       try (have ea_:=zE (ae.symm.trans ah);injection ea_ with ea_ en_ ec_;subst ea_;subst ec_;clear en_)
       have aE:=zS hi198_0
       have bk:=zS hl198_0
       clear hi198_0 hl198_0
       replace aT:=eq_true aT
       replace aU:=eq_true aU
       try (have ea_:=zE (ac.symm.trans ah);injection ea_ with ea_ en_ ec_;subst ea_;subst ec_;clear en_)
       have aV:0≤(ab:Int):=zB (by first|(with_reducible assumption)|assumption)
       have aW:ab<((rd_L7 l0 aa).length:Int):=zB (by first|(with_reducible assumption)|assumption)
       obtain ⟨b5,bI,bJ,bK,bm,bn,bo,ak,hl199_3,hi199_3⟩:=at_T60 aE.out ab aV aW
       cases bK
       try (have ea_:=zE (ad.symm.trans ak);injection ea_ with ea_ en_ ec_;subst ea_;subst ec_;clear en_)
       try (have ea_:=zE (ag.symm.trans ak);injection ea_ with ea_ en_ ec_;subst ea_;subst ec_;clear en_)
       have aF:=zS hi199_3
       have bp:=zS hl199_3
       clear hi199_3 hl199_3
       replace aV:=eq_true aV
       replace aW:=eq_true aW
       have aX:0≤(an:Int):=zB (by first|(with_reducible assumption)|assumption)
       have aY:an<(((rd_T60 (rd_L7 l0 aa) ab).f3).length:Int):=zB (by first|(with_reducible assumption)|assumption)
       obtain ⟨b6,bL,bq,br⟩:=at_T57 aF.out an aX aY
       cases bL
       replace aX:=eq_true aX
       replace aY:=eq_true aY
       have a5:0≤(aa:Int):=zB (by first|(with_reducible assumption)|assumption)
       have a6:aa<(l0.length:Int):=zB (by first|(with_reducible assumption)|assumption)
       obtain ⟨bM,b8,b9,ca,am,hl201_0,hi201_0⟩:=at_L7 HR0.out aa a5 a6
       obtain rfl:al=bM:=(by injection ca)
       try (have ea_:=zE (ah.symm.trans am);injection ea_ with ea_ en_ ec_;subst ea_;subst ec_;clear en_)
       try (have ea_:=zE (af.symm.trans am);injection ea_ with ea_ en_ ec_;subst ea_;subst ec_;clear en_)
       try (have ea_:=zE (ae.symm.trans am);injection ea_ with ea_ en_ ec_;subst ea_;subst ec_;clear en_)
       have aZ:=zS hi201_0
       have bX:=zS hl201_0
       clear hi201_0 hl201_0
       replace a5:=eq_true a5
       replace a6:=eq_true a6
       try (have ea_:=zE (ac.symm.trans am);injection ea_ with ea_ en_ ec_;subst ea_;subst ec_;clear en_)
       have a7:0≤(ab:Int):=zB (by first|(with_reducible assumption)|assumption)
       have a8:ab<((rd_L7 l0 aa).length:Int):=zB (by first|(with_reducible assumption)|assumption)
       obtain ⟨co,cc,cd,ce,bY,bZ,b0,av,hl202_3,hi202_3⟩:=at_T60 aZ.out ab a7 a8
       cases ce
       try (have ea_:=zE (ak.symm.trans av);injection ea_ with ea_ en_ ec_;subst ea_;subst ec_;clear en_)
       try (have ea_:=zE (ad.symm.trans av);injection ea_ with ea_ en_ ec_;subst ea_;subst ec_;clear en_)
       try (have ea_:=zE (ag.symm.trans av);injection ea_ with ea_ en_ ec_;subst ea_;subst ec_;clear en_)
       have a1:=zS hi202_3
       have b1:=zS hl202_3
       clear hi202_3 hl202_3
       replace a7:=eq_true a7
       replace a8:=eq_true a8
       have a9:0≤(an:Int):=zB (by first|(with_reducible assumption)|assumption)
       have ba:an<(((rd_T60 (rd_L7 l0 aa) ab).f3).length:Int):=zB (by first|(with_reducible assumption)|assumption)
       obtain ⟨cp,cf,b2,b3⟩:=at_T57 a1.out an a9 ba
       cases cf
       replace a9:=eq_true a9
       replace ba:=eq_true ba
       go_wp2
       go_roundg k3
       case measure=>have:=HK1.out;have:=HK2.out;have:=HK3.out;omega
       case rel=>exact ⟨(wrap64 (an+1)),(by first|rfl|(simp;done)|(simp [*];done)),H',⟨by have:=HK1.out;have:=HK2.out;have:=HK3.out;omega⟩,by repeat (first|exact Drawn0.refl _|apply Drawn0.step)⟩
end Go.Proofs.YtgfajgkjbckkgaaGreatDoor.PZ
end
end
section
set_option maxRecDepth 100000
namespace Go.Proofs.YtgfajgkjbckkgaaGreatDoor.PZ
open Go.RowKit Go.Proofs.YtgfajgkjbckkgaaGreatDoorW.PrintWords Go.Proofs.YtgfajgkjbckkgaaGreatDoorW.PrintLast
abbrev Rg:=S57
abbrev Rl:=S60
deriving instance DecidableEq for S57
deriving instance DecidableEq for S60
def runL (p:Int→Bool)(t:List Int):Nat:=(t.takeWhile p).length
def isBl (c:Int):Bool:=c == 32
def isLo (c:Int):Bool:=decide (97≤c) && decide (c≤122)
def isDi (c:Int):Bool:=decide (48≤c) && decide (c≤57)
def isOp (c:Int):Bool:=c == 110 || c == 105 || c == 118 || c == 119 || c == 102 || c == 116 || c == 99 || c == 101
def bl (t:List Int):Nat:=runL isBl t
def decv (l:List Int):Int:=l.foldl (fun n c=>n * 10+(c - 48)) 0
def numP (least:Int)(t:List Int):Option Int×Nat:=
  let u:=t.drop (bl t)
  let d:=runL isDi u
  if d=0∨9<d∨(rd u 0=48∧1<d)∨decv (u.take d)<least then (none,bl t) else (some (decv (u.take d)),bl t+d)
def signP (x t:List Int):Bool:=x.isPrefixOf (t.drop (bl t))
def oneP (t:List Int):Option Rg×Nat:=
  match numP 0 t with
  | (none,n)=>(none,n)
  | (some a,n)=>
    if signP [46,46] (t.drop n) then
      match numP (a+1) (t.drop (n+(bl (t.drop n)+2))) with
      | (none,m)=>(none,n+(bl (t.drop n)+2)+m)
      | (some b,m)=>(some ⟨a,b⟩,n+(bl (t.drop n)+2)+m)
    else (some ⟨a,a⟩,n)
def rngF:Nat→List Int→Option (List Rg)×Nat
  | 0,_=>(none,0)
  | k+1,t=>
    match oneP t with
    | (none,n)=>(none,n)
    | (some r,n)=>
      if signP [44] (t.drop n) then
        match rngF k (t.drop (n+(bl (t.drop n)+1))) with
        | (none,j)=>(none,n+(bl (t.drop n)+1)+j)
        | (some l,j)=>(some (r :: l),n+(bl (t.drop n)+1)+j)
      else (some [r],n)
def rngP (t:List Int):Option (List Rg)×Nat:=rngF (t.length+1) t
def opP (t:List Int):Option Int×Nat:=
  if runL isLo (t.drop (bl t))=1∧isOp (rd (t.drop (bl t)) 0)=true then (some (rd (t.drop (bl t)) 0),bl t+1) else (none,bl t)
def modP (t:List Int):Option Int×Nat:=
  if signP [37] t then
    match numP 1 (t.drop (bl t+1)) with
    | (none,m)=>(none,bl t+1+m)
    | (some v,m)=>(some v,bl t+1+m)
  else (some 0,0)
def notP (t:List Int):Option Bool×Nat:=
  if signP [33,61] t then (some true,bl t+2) else if signP [61] t then (some false,bl t+1) else (none,bl t)
def relP (t:List Int):Option Rl×Nat:=
  match opP t with
  | (none,n)=>(none,n)
  | (some c,n)=>
    match modP (t.drop n) with
    | (none,m)=>(none,n+m)
    | (some v,m)=>
      match notP (t.drop (n+m)) with
      | (none,j)=>(none,n+m+j)
      | (some b,j)=>
        match rngP (t.drop (n+m+j)) with
        | (none,i)=>(none,n+m+j+i)
        | (some l,i)=>(some ⟨c,v,b,l⟩,n+m+j+i)
def wordOr:List Int:=[111,114]
def wordAnd:List Int:=[97,110,100]
def wordP (t:List Int):List Int:=t.take (runL isLo t)
def relsF:Nat→List Int→Option (List (Rl×Bool))×Nat
  | 0,_=>(none,0)
  | k+1,t=>
    match relP t with
    | (none,n)=>(none,n)
    | (some x,n)=>
      if t.drop (n+bl (t.drop n))=[] then (some [(x,false)],n+bl (t.drop n))
      else if wordP (t.drop (n+bl (t.drop n)))=wordOr then
        match relsF k (t.drop (n+bl (t.drop n)+2)) with
        | (none,j)=>(none,n+bl (t.drop n)+2+j)
        | (some l,j)=>(some ((x,true) :: l),n+bl (t.drop n)+2+j)
      else if wordP (t.drop (n+bl (t.drop n)))=wordAnd then
        match relsF k (t.drop (n+bl (t.drop n)+3)) with
        | (none,j)=>(none,n+bl (t.drop n)+3+j)
        | (some l,j)=>(some ((x,false) :: l),n+bl (t.drop n)+3+j)
      else (none,n+bl (t.drop n))
def relsP (t:List Int):Option (List (Rl×Bool))×Nat:=relsF (t.length+1) t
def rowsOf (l:List Rl):List (Rl×Bool)→List (List Rl)
  | []=>[l]
  | (x,true) :: r=>(l ++ [x]) :: rowsOf [] r
  | (x,false) :: r=>rowsOf (l ++ [x]) r
def fullP (r:List (Rl×Bool)):Bool:=decide (20<r.length) || r.any fun x=>decide (20<x.1.f3.length)
def parseP (t:List Int):List (List Rl)×Int×Int:=
  if 400<t.length then ([],0,11) else
    match relsP t with
    | (none,n)=>([],(n:Int),2)
    | (some r,_)=>if fullP r then ([],0,11) else (rowsOf [] r,0,0)
def joinT (sep:List Int):List (List Int)→List Int
  | []=>[]
  | x :: l=>x ++ l.flatMap fun y=>sep ++ y
def rgT (r:Rg):List Int:=if r.f1≠r.f0 then pw r.f0 ++ [46,46] ++ pw r.f1 else pw r.f0
def relT (sp:List Int)(x:Rl):List Int:=
  [x.f0] ++ ((if x.f1≠0 then sp ++ [37] ++ sp ++ pw x.f1 else []) ++ (sp ++ ((if x.f2 then [33,61] else [61]) ++ (sp ++ joinT [44] (x.f3.map rgT)))))
def rowT (sp:List Int)(r:List Rl):List Int:=joinT (sp ++ wordAnd ++ sp) (r.map (relT sp))
def condT (sp:List Int)(c:List (List Rl)):List Int:=joinT (sp ++ wordOr ++ sp) (c.map (rowT sp))
def rightP (c:List (List Rl)):Bool:=decide ((parseP (condT [32] c)).2.2=0) && decide (c=(parseP (condT [32] c)).1)
def runT (sp:List Int):List (Rl×Bool)→List Int
  | []=>[]
  | [(x,_)]=>relT sp x
  | (x,o) :: r=>relT sp x ++ (sp ++ ((if o then wordOr else wordAnd) ++ (sp ++ runT sp r)))
end Go.Proofs.YtgfajgkjbckkgaaGreatDoor.PZ
end
section
noncomputable section
namespace Go.Proofs.YtgfajgkjbckkgaaGreatDoor.PZ
open Go.RowKit Go.Proofs.YtgfajgkjbckkgaaGreatDoorW.PrintWords Go.Proofs.YtgfajgkjbckkgaaGreatDoorW.PrintLast Go.Proofs.YtgfajgkjbckkgaaGreatDoorW.PrintMore
attribute [local go_sem] max2_int min2_int max_two min_two max_three min_three max_four min_four   -- for this text's walks alone
def oper_Mod.l0:Nat→Int→Int→List Int→Int→Int→Option (Int)
 | 0,_,_,_,_,_=>none
 | k+1,x1,x5,x8,x9,x10=>if x10<x9 then (if 0≤x10 then (if x10<(x8.length:Int) then (if x1=0 then (none) else (oper_Mod.l0 k x1 (Int.tmod (wrap64 ((wrap64 (x5 * 10))+(wrap64 (rd x8 x10)))) x1) x8 x9 (wrap64 (x10+1)))) else (none)) else (none)) else (some x5)
def oper_Mod.f (k:Nat)(l0:List Int)(a1:Int):Option (Int):=oper_Mod.l0 k a1 0 l0 (l0.length:Int) 0
theorem oper_Mod.mono_l:∀ k,(∀ y0 y1 y2 y3 y4,LeO (oper_Mod.l0 k y0 y1 y2 y3 y4) (oper_Mod.l0 (k+1) y0 y1 y2 y3 y4))
 | 0=>fun _ _ _ _ _ r h=>by simp [oper_Mod.l0] at h
 | k+1=>by
  have ih0:=oper_Mod.mono_l k
  ·intro y0 y1 y2 y3 y4
   unfold oper_Mod.l0
   repeat' first|(with_reducible first|apply ih0|apply LeO.refl|apply LeO.none|refine LeO.ite ?_ ?_|refine LeO.bind ?_ (fun _=>?_))|apply ih0|apply LeO.none
theorem oper_Mod.mono:∀ a0 a1 k,LeO (oper_Mod.f k a0 a1) (oper_Mod.f (k+1) a0 a1):=by
 intro a0 a1 k
 have ih0:=oper_Mod.mono_l k
 unfold oper_Mod.f
 repeat' first|(with_reducible first|apply ih0|apply LeO.refl|apply LeO.none|refine LeO.ite ?_ ?_|refine LeO.bind ?_ (fun _=>?_))|apply ih0|apply LeO.none
set_option maxHeartbeats 8000000 in
set_option maxRecDepth 100000 in
theorem oper_Mod.calls (k:Nat)(A0:Option Addr)(c0:Nat)(l0:List Int)(a1:Int)(r:Int)(w:World)(hr0:Kd.C (Kd.int .u8) w A0 l0.length l0)(hc0:l0.length≤c0)(h:oper_Mod.f k l0 a1=some r) :
  Calls Tryz.prog 81 #[.slice A0 l0.length c0,.int .i64 a1] w fun e w'=>e = .returned (.int .i64 r)∧Drawn0 w w':=by
 have HR0:=zS hr0
 have HC0:=zS hc0
 clear hr0 hc0
 have H:(oper_Mod.l0 k a1 0 l0 (l0.length:Int) 0)=some r:=h
 clear h
 have H':=zS H
 clear H
 go_enter Tryz.func81,Tryz.ntmps81
 go_wp2
 go_loopg [5,10] k (fun kq v5 v10 w'=>∃ (ab:Int) (aa:Int),v5 = .int .i64 ab∧v10 = .int .i64 aa∧Sd (oper_Mod.l0 kq a1 ab l0 (l0.length:Int) aa=some r)∧Sd (kq≤k)∧Drawn0 w w')
 case atStart=>exact ⟨(0),(0),(by first|rfl|(simp;done)|(simp [*];done)),(by first|rfl|(simp;done)|(simp [*];done)),H',⟨Nat.le_refl _⟩,by repeat (first|exact Drawn0.refl _|apply Drawn0.step)⟩
 case round=>
  clear H'
  try clear p2
  obtain ⟨ab,aa,rfl,rfl,HA,HK1,⟨m1,rfl⟩⟩:=hrel
  cases gk with
  | zero=>exact absurd HA.out (by simp [oper_Mod.l0])
  | succ k1=>
   have H:=HA.out
   clear HA
   simp only [oper_Mod.l0] at H
   by_cases c3:aa<(l0.length:Int)
   rotate_left
   ·rw [if_neg c3] at H
    have af:=zD c3
    clear c3
    obtain rfl:=zE H
    go_wp2
    go_ret
    exact ⟨by first|rfl|(simp;done)|(simp [*];done),by repeat (first|exact Drawn0.refl _|apply Drawn0.step)⟩
   rw [if_pos c3] at H
   have af:=zC c3
   clear c3
   by_cases c4:0≤aa
   rotate_left
   ·rw [if_neg c4] at H
    exact absurd H (by simp)
   rw [if_pos c4] at H
   have ai:=zC c4
   clear c4
   by_cases c5:aa<(l0.length:Int)
   rotate_left
   ·rw [if_neg c5] at H
    exact absurd H (by simp)
   rw [if_pos c5] at H
   have aj:=zC c5
   clear c5
   by_cases c6:a1=0
   ·rw [if_pos c6] at H
    exact absurd H (by simp)
   rw [if_neg c6] at H
   have ak:(a1 == 0)=false:=zF c6
   have al:(a1 != 0)=true:=zI c6
   have H':=zS H
   clear H
   have ac:0≤(aa:Int):=zB (by first|(with_reducible assumption)|assumption)
   have ad:aa<(l0.length:Int):=zB (by first|(with_reducible assumption)|assumption)
   obtain ⟨ah,ag,ae⟩:=Kd.at_int HR0.out aa ac ad
   cases ag
   replace ac:=eq_true ac
   replace ad:=eq_true ad
   go_wp2
   go_roundg k1
   case measure=>have:=HK1.out;omega
   case rel=>exact ⟨(Int.tmod (wrap64 ((wrap64 (ab * 10))+(wrap64 (rd l0 aa)))) a1),(wrap64 (aa+1)),(by first|rfl|(simp;done)|(simp [*];done)),(by first|rfl|(simp;done)|(simp [*];done)),H',⟨by have:=HK1.out;omega⟩,by repeat (first|exact Drawn0.refl _|apply Drawn0.step)⟩
end Go.Proofs.YtgfajgkjbckkgaaGreatDoor.PZ
end
end
section
set_option maxRecDepth 100000
set_option linter.unusedVariables false
namespace Go.Proofs.YtgfajgkjbckkgaaGreatDoor.PZ
open Go.RowKit Go.Proofs.YtgfajgkjbckkgaaGreatDoorW.PrintWords Go.Proofs.YtgfajgkjbckkgaaGreatDoorW.PrintLast Go.Proofs.YtgfajgkjbckkgaaGreatDoorW.PrintMore
section
def bZ (n m:Nat):Array Bool:=((List.range n).map m.testBit).toArray
section
variable {P:Program}{ops:Array Oper}{Q:Exit→Act→World→Prop}{md:Region.Mode}{S:World→Prop}{ds:List Nat}{T:Bool×List (List Nat×List Nat)}{B:List Nat}{oi:Oper}{fuel n0 m0:Nat}{a:Act}{w:World}
theorem p1 (i n m:Nat)(hT:Aside0 (rtab md ops=T)){v:Value}(hy:∀ w,(execOp a.eval oi).run P w = .ok (.value v) w){a':Act}(ha:a.put (some n) v=a')(h:wpAnyLast P md ops Q S ds fuel (bZ n0 m) a' w)
    (hi:ops[i]?=some oi:=by rfl) (hN:oi.dst=some n:=by rfl) (hk:anyT T (bZ n0 m0).toList (bZ n0 m).toList i=true:=by kernel_rfl) (hQ:∀ c a w,Q (.panic c) (a.put oi.dst v) w→Q (.panic c) a w:=by exact fun _ _ _ h=>h) (hw:Region.wanted oi (yielded ops a.tmps)=true:=by rfl) :
    wpAnyLast P md ops Q S ds (fuel+1) (bZ n0 m0) a w:=pu i n (bZ n0 m) hi hN hT hk hQ hw hy ha h
theorem p2 (i n m:Nat)(hT:Aside0 (rtab md ops=T))(hB:Aside0 (waitsOk T.2 B=true)){v:Value}(hy:∀ w,S w→(execOp a.eval oi).run P w = .ok (.value v) w)(hS:S w){a':Act}(ha:a.put (some n) v=a')(h:wpAnyLast P md ops Q S ds fuel (bZ n0 m) a' w)
    (hi:ops[i]?=some oi:=by rfl) (hN:oi.dst=some n:=by rfl) (hk:takeW T B ds (bZ n0 m0).toList (bZ n0 m).toList i=true:=by kernel_rfl) (hQ:∀ c a w,Q (.panic c) (a.put oi.dst v) w→Q (.panic c) a w:=by exact fun _ _ _ h=>h) (hw:Region.wanted oi (yielded ops a.tmps)=true:=by rfl) :
    wpAnyLast P md ops Q S ds (fuel+1) (bZ n0 m0) a w:=ta i n (bZ n0 m) hi hN hT hB hk hQ hw hy hS ha h
theorem q1 (i n m:Nat)(hT:Aside0 (rtab md ops=T)){v:Value}{a':Act}(h:wpAnyLast P md ops Q S ds fuel (bZ n0 m) a' w)
    (hi:ops[i]?=some oi:=by rfl) (hN:oi.dst=some n:=by rfl) (hy:∀ w,(execOp a.eval oi).run P w = .ok (.value v) w:=by intro w';go_simp;with_reducible rfl) (ha:a.put (some n) v=a':=by simp only [Act.put,sA,sB,sC,i64_w,i32_w];rfl)
    (hk:anyT T (bZ n0 m0).toList (bZ n0 m).toList i=true:=by kernel_rfl) (hQ:∀ c a w,Q (.panic c) (a.put oi.dst v) w→Q (.panic c) a w:=by exact fun _ _ _ h=>h) (hw:Region.wanted oi (yielded ops a.tmps)=true:=by rfl) :
    wpAnyLast P md ops Q S ds (fuel+1) (bZ n0 m0) a w:=pu i n (bZ n0 m) hi hN hT hk hQ hw hy ha h
theorem q2 (i n m:Nat)(hT:Aside0 (rtab md ops=T))(hB:Aside0 (waitsOk T.2 B=true))(hS:S w){v:Value}{a':Act}(h:wpAnyLast P md ops Q S ds fuel (bZ n0 m) a' w)
    (hi:ops[i]?=some oi:=by rfl) (hN:oi.dst=some n:=by rfl) (hy:∀ w,S w→(execOp a.eval oi).run P w = .ok (.value v) w) (ha:a.put (some n) v=a':=by simp only [Act.put,sA,sB,sC,i64_w,i32_w];rfl)
    (hk:takeW T B ds (bZ n0 m0).toList (bZ n0 m).toList i=true:=by kernel_rfl) (hQ:∀ c a w,Q (.panic c) (a.put oi.dst v) w→Q (.panic c) a w:=by exact fun _ _ _ h=>h) (hw:Region.wanted oi (yielded ops a.tmps)=true:=by rfl) :
    wpAnyLast P md ops Q S ds (fuel+1) (bZ n0 m0) a w:=ta i n (bZ n0 m) hi hN hT hB hk hQ hw hy hS ha h
theorem gL {rest:List Oper}(N:Option Tmp){f:FuncId}{fn:Func}{xs:Array Operand}{ts:Array TypeId}(hf:P.funcs[f]?=some fn)(args:Array Value)(h:Calls P f args w fun e w'=>∃ v,e = .returned v∧wpList P ops Q rest (a.put N v) w')
    (hd : oi.dst = N := by rfl) (hg : oi.guard = none := by rfl) (hname : (fn.name == "runtime.NumGoroutine") = false := by kernel_rfl) (hb : fn.body.isSome = true := by rfl) (hop : oi.op = .call { callee := .value (.func f), args := xs, argTypes := ts } := by rfl)
    (hargs:xs.map a.eval=args:=by (try simp only [mA,mB,mC]);first|done|rfl|(simp only [lD,lT];rfl)):wpList P ops Q (oi :: rest) a w:=goesL_ N hd hg hf hname hb args hop hargs h
theorem bX {α β:Type}{o:Option α}{f:α→Option β}{r:β}(h:o.bind f=some r):∃ a,Sd (o=some a)∧f a=some r:=by
 obtain ⟨a,h1,h2⟩:=Option.bind_eq_some_iff.mp h
 exact ⟨a,⟨h1⟩,h2⟩
end
end
end Go.Proofs.YtgfajgkjbckkgaaGreatDoor.PZ
end
section
set_option maxRecDepth 100000
namespace Go.Proofs.YtgfajgkjbckkgaaGreatDoor.PZ
open Go.RowKit Go.Proofs.YtgfajgkjbckkgaaGreatDoorW.PrintWords Go.Proofs.YtgfajgkjbckkgaaGreatDoorW.PrintLast
def lessB (c:Int):Int:=(c - 48) % 256
def numText (n:Int):ByteArray:=⟨(Lib.itoa n).toArray⟩
theorem numText_size (n:Int)(h0 : -9223372036854775808≤n)(h1:n≤9223372036854775807):(numText n).size≤21:=by
 have:=Lib.itoa_length_le n h0 h1
 show (Lib.itoa n).toArray.size≤21
 simpa using this
def MixSt (g:Nat)(L:List Int)(k:Nat)(W:World):Prop:=g<W.heap.size∧∀ j,j<L.length→W.cell? ⟨g,j,none⟩=some (.int .u8 (if j<k then lessB (rd L j) else rd L j))∧W.frozen? ⟨g,j,none⟩=false
theorem MixSt.put {g:Nat}{L:List Int}{k:Nat}{W:World}(h:MixSt g L k W)(hk:k<L.length):MixSt g L (k+1) (W.setCell ⟨g,k,none⟩ (.int .u8 (lessB (rd L k)))):=by
 refine ⟨by simpa using h.1,fun j hj=>?_⟩
 obtain ⟨h1,h2⟩:=h.2 j hj
 by_cases e:j=k
 ·subst e
  rw [if_pos (by omega)]
  exact ⟨World.cell?_setCell_same _ _ _ h1,by rw [World.frozen?_setCell];exact h2⟩
 rw [World.cell?_setCell_other _ _ _ _ (by intro z;injection z with _ z2;omega),h1,World.frozen?_setCell]
 refine ⟨?_,h2⟩
 by_cases hj2:j<k
 · rw [if_pos hj2,if_pos (by omega)]
 rw [if_neg hj2,if_neg (by omega)]
theorem MixSt.done {g:Nat}{L:List Int}{W:World}(h:MixSt g L L.length W)(base:Nat)(hb:base≤g)(c:Nat)(hc:L.length≤c)(hl:L.length≤100):Kd.V (Kd.int .u8) 5 W base (fun k_=>base≤k_) (.slice (some ⟨g,0,none⟩) L.length c) (L.map lessB):=by
 have hF:Kd.F (Kd.int .u8) W (fun k_=>base≤k_) (some ⟨g,0,none⟩) (L.map lessB).length (L.map lessB):=by
  intro W' hW
  have hg:=hW g hb h.1
  refine Kd.C_of_reads (d:=(0:Int)) (h1:=fun _=>rfl) ⟨rfl,by rw [List.length_map];omega,fun _=>⟨_,rfl,fun j hj=>?_⟩⟩
  rw [List.length_map] at hj
  rw [add_plain,World.cell?_of_block (w:=W) hg,(h.2 j hj).1,if_pos hj]
  simp [rd,List.getD_eq_getElem?_getD,List.getElem?_eq_getElem hj]
 have:=Kd.V_mk (e:=5) (base:=base) (by rw [List.length_map];exact hc) hF
 rwa [List.length_map] at this
theorem bytes_frozen (W:World)(s:ByteArray)(j:Nat)(hj:j<s.size):(Lib.bytesWorld W 5 s).frozen? ⟨W.heap.size,j,none⟩=false:=by
 have h1:=Lib.bytesWorld_at_new W 5 s
 have h2:=Lib.bytesWorld_cell W 5 s j hj
 have h3:j<(Lib.bytesCells W 5 s).size:=by
  have h4:(Lib.bytesWorld W 5 s).cell? ⟨W.heap.size,j,none⟩=(Lib.bytesCells W 5 s)[j]?:=cell_of_row _ _ _ _ _ _ h1
  rw [h4] at h2
  exact (Array.getElem?_eq_some_iff.1 h2).1
 unfold World.frozen?
 simp only [h1]
 simp
 omega
theorem MixSt.start (W:World)(s:ByteArray):MixSt W.heap.size (bytesOf s) 0 (Lib.bytesWorld W 5 s):=by
 refine ⟨by rw [Lib.bytesWorld_size];omega,fun j hj=>?_⟩
 rw [bytesOf_length] at hj
 rw [if_neg (by omega),Lib.bytesWorld_cell W 5 s j hj,rd_bytesOf]
 refine ⟨?_,bytes_frozen W s j hj⟩
 simp [bt,hj,List.getD_eq_getElem?_getD]
 rfl
end Go.Proofs.YtgfajgkjbckkgaaGreatDoor.PZ
end
section
noncomputable section
namespace Go.Proofs.YtgfajgkjbckkgaaGreatDoor.PZ
open Go.RowKit Go.Proofs.YtgfajgkjbckkgaaGreatDoorW.PrintWords Go.Proofs.YtgfajgkjbckkgaaGreatDoorW.PrintLast Go.Proofs.YtgfajgkjbckkgaaGreatDoorW.PrintMore
attribute [local go_sem] max2_int min2_int max_two min_two max_three min_three max_four min_four   -- for this text's walks alone
def oper_told_i.f (aa:List Int)(ab:List Int)(ae:Int)(af:Int):Option (List Int):=some aa
set_option maxHeartbeats 8000000 in
set_option maxRecDepth 100000 in
theorem oper_told_i.calls (ac:Nat→Prop)(ag:Option Addr)(ah:Nat)(aa:List Int)(al:Option Addr)(am:Nat)(ab:List Int)(ae:Int)(af:Int)(r:List Int)(w:World)(an:Kd.V (Kd.int .u8) 5 w w.heap.size (fun k_=>ac k_) (.slice ag aa.length ah) aa)(ai:Kd.C (Kd.int .u8) w al ab.length ab)(aj:ab.length≤am)(h:oper_told_i.f aa ab ae af=some r) :
  Calls Tryz.prog 101 #[.agg #[.slice ag aa.length ah,.slice al ab.length am,.int .i64 ae,.int .i64 af]] w fun e w'=>∃ v0_:Value,e = .returned (v0_)∧Kd.V (Kd.int .u8) 5 w' w.heap.size (fun k_=>(ac k_∨w.heap.size≤k_)) v0_ r∧Below w.heap.size w w':=by
 have hu136:=Tryz.underlying136
 have ad:=zS (show Kd.V (Kd.int .u8) 5 w w.heap.size (fun k_=>(ac k_∨w.heap.size≤k_)) (.slice ag aa.length ah) aa from Kd.V_mono an (fun k_ hk=>.inl hk))
 have ap:=zS ai
 have aq:=zS aj
 clear ai aj
 have HB:=zS (Below.refl w.heap.size w)
 have H:(some aa)=some r:=h
 clear h
 obtain rfl:=zE H
 go_enter Tryz.func101,Tryz.ntmps101
 go_wp2_with (first|((with_reducible refine gate_dst (N:=1) rfl ?_);refine box_event ?hg (N:=1) ?hd (cs:=#[.slice ag aa.length ah,.slice al ab.length am,.int .i64 ae,.int .i64 af]) (t:=136) ?hr ?_;(case hd=>rfl);(case hg=>rfl);(case hr=>first|(go_simp;done)|(go_simp;rfl));intro ao hg w2 hbox hb;replace ad:=zS (Kd.V_below (Kd.V_elderB (vo ad) ao (Nat.le_of_eq hg.symm)) hb);have ak:=zS (hbox);have ar:=bg HB hg;replace HB:=bs HB hb;clear hb hbox hg;have au:=blkc4 ak.out;have av:=blkf4 ak.out))
 go_ret
 exact ⟨_,by first|rfl|(simp <;> rfl)|(simp [*] <;> rfl),by (with_reducible repeat (first|apply Kd.V_alloc|apply Kd.V_drewN|apply Kd.V_drew));exact Kd.V_mono ad.out (fun _ hk=>hk.1),bQ HB⟩
end Go.Proofs.YtgfajgkjbckkgaaGreatDoor.PZ
end
end
section
set_option maxRecDepth 100000
namespace Go.Proofs.YtgfajgkjbckkgaaGreatDoor.PZ
open Go.RowKit Go.Proofs.YtgfajgkjbckkgaaGreatDoorW.PrintWords Go.Proofs.YtgfajgkjbckkgaaGreatDoorW.PrintLast
theorem u8_lt {x y:Int}(hx:0≤x∧x≤9)(hy:0≤y∧y≤9):x.toNat.toUInt8<y.toNat.toUInt8 ↔ x<y:=by
 rw [UInt8.lt_iff_toNat_lt]
 simp
 omega
theorem compare_num:∀ (a b:List Int),Figs a→Figs b→a.length=b.length→Lib.compareBytes (Lib.bytesOf a) (Lib.bytesOf b)=sg (num a - num b)
  | [],[],_,_,_=>rfl
  | [],_ :: _,_,_,h=>by simp at h
  | _ :: _,[],_,_,h=>by simp at h
  | x :: a,y :: b,ha,hb,hl=>by
    have hl':a.length=b.length:=by simpa using hl
    have ih:=compare_num a b ha.tail hb.tail hl'
    have na:=num_lt ha.tail
    have nb:=num_lt hb.tail
    rw [hl'] at na
    have l1:=u8_lt ha.head hb.head
    have l2:=u8_lt hb.head ha.head
    rw [num_cons,num_cons,hl']
    show Lib.compareBytes (x.toNat.toUInt8 :: Lib.bytesOf a) (y.toNat.toUInt8 :: Lib.bytesOf b)=_
    unfold Lib.compareBytes
    by_cases h1:x<y
    · rw [if_pos (l1.2 h1),sg_ahead na nb (by omega),sg_of_neg (by omega)]
    · rw [if_neg (fun z=>h1 (l1.1 z))]
      by_cases h2:y<x
      · rw [if_pos (l2.2 h2),sg_ahead na nb (by omega),sg_of_pos (by omega)]
      · have:x=y:=by omega
        subst this
        rw [if_neg (fun z=>h2 (l2.1 z)),ih]
        congr 1
        omega
end Go.Proofs.YtgfajgkjbckkgaaGreatDoor.PZ
end
section
noncomputable section
namespace Go.Proofs.YtgfajgkjbckkgaaGreatDoor.PZ
open Go.RowKit Go.Proofs.YtgfajgkjbckkgaaGreatDoorW.PrintWords Go.Proofs.YtgfajgkjbckkgaaGreatDoorW.PrintLast Go.Proofs.YtgfajgkjbckkgaaGreatDoorW.PrintMore
attribute [local go_sem] max2_int min2_int max_two min_two max_three min_three max_four min_four   -- for this text's walks alone
attribute [local go_sem high] eqA57
end Go.Proofs.YtgfajgkjbckkgaaGreatDoor.PZ
end
end
section
noncomputable section
namespace Go.Proofs.YtgfajgkjbckkgaaGreatDoor.PZ
open Go.RowKit Go.Proofs.YtgfajgkjbckkgaaGreatDoorW.PrintWords Go.Proofs.YtgfajgkjbckkgaaGreatDoorW.PrintLast Go.Proofs.YtgfajgkjbckkgaaGreatDoorW.PrintMore
attribute [local go_sem] max2_int min2_int max_two min_two max_three min_three max_four min_four   -- for this text's walks alone
end Go.Proofs.YtgfajgkjbckkgaaGreatDoor.PZ
end
end
section
noncomputable section
namespace Go.Proofs.YtgfajgkjbckkgaaGreatDoor.PZ
open Go.RowKit Go.Proofs.YtgfajgkjbckkgaaGreatDoorW.PrintWords Go.Proofs.YtgfajgkjbckkgaaGreatDoorW.PrintLast Go.Proofs.YtgfajgkjbckkgaaGreatDoorW.PrintMore
attribute [local go_sem] max2_int min2_int max_two min_two max_three min_three max_four min_four   -- for this text's walks alone
end Go.Proofs.YtgfajgkjbckkgaaGreatDoor.PZ
end
end
section
noncomputable section
namespace Go.Proofs.YtgfajgkjbckkgaaGreatDoor.PZ
open Go.RowKit Go.Proofs.YtgfajgkjbckkgaaGreatDoorW.PrintWords Go.Proofs.YtgfajgkjbckkgaaGreatDoorW.PrintLast Go.Proofs.YtgfajgkjbckkgaaGreatDoorW.PrintMore
attribute [local go_sem] max2_int min2_int max_two min_two max_three min_three max_four min_four   -- for this text's walks alone
end Go.Proofs.YtgfajgkjbckkgaaGreatDoor.PZ
end
end
section
noncomputable section
namespace Go.Proofs.YtgfajgkjbckkgaaGreatDoor.PZ
open Go.RowKit Go.Proofs.YtgfajgkjbckkgaaGreatDoorW.PrintWords Go.Proofs.YtgfajgkjbckkgaaGreatDoorW.PrintLast Go.Proofs.YtgfajgkjbckkgaaGreatDoorW.PrintMore
attribute [local go_sem] max2_int min2_int max_two min_two max_three min_three max_four min_four   -- for this text's walks alone
end Go.Proofs.YtgfajgkjbckkgaaGreatDoor.PZ
end
end
section
noncomputable section
namespace Go.Proofs.YtgfajgkjbckkgaaGreatDoor.PZ
open Go.RowKit Go.Proofs.YtgfajgkjbckkgaaGreatDoorW.PrintWords Go.Proofs.YtgfajgkjbckkgaaGreatDoorW.PrintLast Go.Proofs.YtgfajgkjbckkgaaGreatDoorW.PrintMore
attribute [local go_sem] max2_int min2_int max_two min_two max_three min_three max_four min_four   -- for this text's walks alone
end Go.Proofs.YtgfajgkjbckkgaaGreatDoor.PZ
end
end
section
noncomputable section
namespace Go.Proofs.YtgfajgkjbckkgaaGreatDoor.PZ
open Go.RowKit Go.Proofs.YtgfajgkjbckkgaaGreatDoorW.PrintWords Go.Proofs.YtgfajgkjbckkgaaGreatDoorW.PrintLast Go.Proofs.YtgfajgkjbckkgaaGreatDoorW.PrintMore
attribute [local go_sem] max2_int min2_int max_two min_two max_three min_three max_four min_four   -- for this text's walks alone
end Go.Proofs.YtgfajgkjbckkgaaGreatDoor.PZ
end
end
section
noncomputable section
namespace Go.Proofs.YtgfajgkjbckkgaaGreatDoor.PZ
open Go.RowKit Go.Proofs.YtgfajgkjbckkgaaGreatDoorW.PrintWords Go.Proofs.YtgfajgkjbckkgaaGreatDoorW.PrintLast Go.Proofs.YtgfajgkjbckkgaaGreatDoorW.PrintMore
attribute [local go_sem] max2_int min2_int max_two min_two max_three min_three max_four min_four   -- for this text's walks alone
end Go.Proofs.YtgfajgkjbckkgaaGreatDoor.PZ
end
end
