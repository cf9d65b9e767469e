/- Texts of this seat, joined. Conditions: none beyond each statement's own. -/
import Derived.Test.YtgfajgkjbckkgaaGreatDoorPc04
set_option linter.all false
section
noncomputable section
namespace Go.Proofs.YtgfajgkjbckkgaaGreatDoor.PZ
open Go.RowKit Go.Proofs.YtgfajgkjbckkgaaGreatDoorW.PrintWords Go.Proofs.YtgfajgkjbckkgaaGreatDoorW.PrintLast Go.Proofs.YtgfajgkjbckkgaaGreatDoorW.PrintMore
attribute [local go_sem] max2_int min2_int max_two min_two max_three min_three max_four min_four   -- for this text's walks alone
attribute [local go_sem high] eqA57
mutual
def exergueref11_Same.l0:Nat→List (List (S60))→List (List (S60))→Int→Option (Bool)
 | 0,_,_,_=>none
 | k+1,x0,x1,x5=>if x5<(x0.length:Int) then (if 0≤x5 then (if x5<(x1.length:Int) then (if ((rd_L7 x0 x5).length:Int)=((rd_L7 x1 x5).length:Int) then (exergueref11_Same.l1 k x0 x1 x5 0) else (some false)) else (none)) else (none)) else (some true)
def exergueref11_Same.l1:Nat→List (List (S60))→List (List (S60))→Int→Int→Option (Bool)
 | 0,_,_,_,_=>none
 | k+1,x0,x1,x5,x6=>if 0≤x5 then (if x5<(x0.length:Int) then (if x6<((rd_L7 x0 x5).length:Int) then (if 0≤x6 then (if x5<(x1.length:Int) then (if x6<((rd_L7 x1 x5).length:Int) then (if ((rd_T60 (rd_L7 x0 x5) x6).f0)=((rd_T60 (rd_L7 x1 x5) x6).f0) then (if ((rd_T60 (rd_L7 x0 x5) x6).f1)=((rd_T60 (rd_L7 x1 x5) x6).f1) then (if (((rd_T60 (rd_L7 x0 x5) x6).f2) != ((rd_T60 (rd_L7 x1 x5) x6).f2))=true then (exergueref11_Same.j2 k x0 x1 x5 x6 true ((rd_T60 (rd_L7 x0 x5) x6).f0) ((rd_T60 (rd_L7 x0 x5) x6).f1) ((rd_T60 (rd_L7 x0 x5) x6).f2) ((rd_T60 (rd_L7 x0 x5) x6).f3) ((rd_T60 (rd_L7 x1 x5) x6).f0) ((rd_T60 (rd_L7 x1 x5) x6).f1) ((rd_T60 (rd_L7 x1 x5) x6).f2) ((rd_T60 (rd_L7 x1 x5) x6).f3)) else (exergueref11_Same.j2 k x0 x1 x5 x6 ((((rd_T60 (rd_L7 x0 x5) x6).f3).length:Int) != (((rd_T60 (rd_L7 x1 x5) x6).f3).length:Int)) ((rd_T60 (rd_L7 x0 x5) x6).f0) ((rd_T60 (rd_L7 x0 x5) x6).f1) ((rd_T60 (rd_L7 x0 x5) x6).f2) ((rd_T60 (rd_L7 x0 x5) x6).f3) ((rd_T60 (rd_L7 x1 x5) x6).f0) ((rd_T60 (rd_L7 x1 x5) x6).f1) ((rd_T60 (rd_L7 x1 x5) x6).f2) ((rd_T60 (rd_L7 x1 x5) x6).f3))) else (exergueref11_Same.j2 k x0 x1 x5 x6 true ((rd_T60 (rd_L7 x0 x5) x6).f0) ((rd_T60 (rd_L7 x0 x5) x6).f1) ((rd_T60 (rd_L7 x0 x5) x6).f2) ((rd_T60 (rd_L7 x0 x5) x6).f3) ((rd_T60 (rd_L7 x1 x5) x6).f0) ((rd_T60 (rd_L7 x1 x5) x6).f1) ((rd_T60 (rd_L7 x1 x5) x6).f2) ((rd_T60 (rd_L7 x1 x5) x6).f3))) else (exergueref11_Same.j2 k x0 x1 x5 x6 true ((rd_T60 (rd_L7 x0 x5) x6).f0) ((rd_T60 (rd_L7 x0 x5) x6).f1) ((rd_T60 (rd_L7 x0 x5) x6).f2) ((rd_T60 (rd_L7 x0 x5) x6).f3) ((rd_T60 (rd_L7 x1 x5) x6).f0) ((rd_T60 (rd_L7 x1 x5) x6).f1) ((rd_T60 (rd_L7 x1 x5) x6).f2) ((rd_T60 (rd_L7 x1 x5) x6).f3))) else (none)) else (none)) else (none)) else (exergueref11_Same.l0 k x0 x1 (wrap64 (x5+1)))) else (none)) else (none)
def exergueref11_Same.j2:Nat→List (List (S60))→List (List (S60))→Int→Int→Bool→Int→Int→Bool→List (S57)→Int→Int→Bool→List (S57)→Option (Bool)
 | 0,_,_,_,_,_,_,_,_,_,_,_,_,_=>none
 | k+1,x0,x1,x5,x6,x82,aU,aV,aW,aC,aX,aY,aZ,aD=>if x82=true then (some false) else (exergueref11_Same.l2 k x0 x1 x5 x6 0 aU aV aW aC aX aY aZ aD)
def exergueref11_Same.l2:Nat→List (List (S60))→List (List (S60))→Int→Int→Int→Int→Int→Bool→List (S57)→Int→Int→Bool→List (S57)→Option (Bool)
 | 0,_,_,_,_,_,_,_,_,_,_,_,_,_=>none
 | k+1,x0,x1,x5,x6,x9,aU,aV,aW,aC,aX,aY,aZ,aD=>if x9<(aC.length:Int) then (if 0≤x9 then (if x9<(aD.length:Int) then (if (!(((rd_T57 aC x9).f0) == ((rd_T57 aD x9).f0)) || (!(((rd_T57 aC x9).f1) == ((rd_T57 aD x9).f1))))=true then (some false) else (exergueref11_Same.l2 k x0 x1 x5 x6 (wrap64 (x9+1)) aU aV aW aC aX aY aZ aD)) else (none)) else (none)) else (exergueref11_Same.l1 k x0 x1 x5 (wrap64 (x6+1)))
end
def exergueref11_Same.f (k:Nat)(l0:List (List (S60)))(l1:List (List (S60))):Option (Bool):=if (l0.length:Int)=(l1.length:Int) then (exergueref11_Same.l0 k l0 l1 0) else (some false)
theorem exergueref11_Same.mono_l:∀ k,(∀ y0 y1 y2,LeO (exergueref11_Same.l0 k y0 y1 y2) (exergueref11_Same.l0 (k+1) y0 y1 y2))∧(∀ y0 y1 y2 y3,LeO (exergueref11_Same.l1 k y0 y1 y2 y3) (exergueref11_Same.l1 (k+1) y0 y1 y2 y3))∧(∀ y0 y1 y2 y3 y4 y5 y6 y7 y8 y9 y10 y11 y12,LeO (exergueref11_Same.j2 k y0 y1 y2 y3 y4 y5 y6 y7 y8 y9 y10 y11 y12) (exergueref11_Same.j2 (k+1) y0 y1 y2 y3 y4 y5 y6 y7 y8 y9 y10 y11 y12))∧(∀ y0 y1 y2 y3 y4 y5 y6 y7 y8 y9 y10 y11 y12,LeO (exergueref11_Same.l2 k y0 y1 y2 y3 y4 y5 y6 y7 y8 y9 y10 y11 y12) (exergueref11_Same.l2 (k+1) y0 y1 y2 y3 y4 y5 y6 y7 y8 y9 y10 y11 y12))
 | 0=>⟨fun _ _ _ r h=>by simp [exergueref11_Same.l0] at h,fun _ _ _ _ r h=>by simp [exergueref11_Same.l1] at h,fun _ _ _ _ _ _ _ _ _ _ _ _ _ r h=>by simp [exergueref11_Same.j2] at h,fun _ _ _ _ _ _ _ _ _ _ _ _ _ r h=>by simp [exergueref11_Same.l2] at h⟩
 | k+1=>by
  obtain ⟨ih0,ih1,ih2,ih3⟩:=exergueref11_Same.mono_l k
  refine ⟨?_,?_,?_,?_⟩
  ·intro y0 y1 y2
   unfold exergueref11_Same.l0
   repeat' first|(with_reducible first|apply ih0|apply ih1|apply ih2|apply ih3|apply LeO.refl|apply LeO.none|refine LeO.ite ?_ ?_|refine LeO.bind ?_ (fun _=>?_))|apply ih0|apply ih1|apply ih2|apply ih3|apply LeO.none
  ·intro y0 y1 y2 y3
   unfold exergueref11_Same.l1
   repeat' first|(with_reducible first|apply ih0|apply ih1|apply ih2|apply ih3|apply LeO.refl|apply LeO.none|refine LeO.ite ?_ ?_|refine LeO.bind ?_ (fun _=>?_))|apply ih0|apply ih1|apply ih2|apply ih3|apply LeO.none
  ·intro y0 y1 y2 y3 y4 y5 y6 y7 y8 y9 y10 y11 y12
   unfold exergueref11_Same.j2
   repeat' first|(with_reducible first|apply ih0|apply ih1|apply ih2|apply ih3|apply LeO.refl|apply LeO.none|refine LeO.ite ?_ ?_|refine LeO.bind ?_ (fun _=>?_))|apply ih0|apply ih1|apply ih2|apply ih3|apply LeO.none
  ·intro y0 y1 y2 y3 y4 y5 y6 y7 y8 y9 y10 y11 y12
   unfold exergueref11_Same.l2
   repeat' first|(with_reducible first|apply ih0|apply ih1|apply ih2|apply ih3|apply LeO.refl|apply LeO.none|refine LeO.ite ?_ ?_|refine LeO.bind ?_ (fun _=>?_))|apply ih0|apply ih1|apply ih2|apply ih3|apply LeO.none
theorem exergueref11_Same.mono:∀ a0 a1 k,LeO (exergueref11_Same.f k a0 a1) (exergueref11_Same.f (k+1) a0 a1):=by
 intro a0 a1 k
 obtain ⟨ih0,ih1,ih2,ih3⟩:=exergueref11_Same.mono_l k
 unfold exergueref11_Same.f
 repeat' first|(with_reducible first|apply ih0|apply ih1|apply ih2|apply ih3|apply LeO.refl|apply LeO.none|refine LeO.ite ?_ ?_|refine LeO.bind ?_ (fun _=>?_))|apply ih0|apply ih1|apply ih2|apply ih3|apply LeO.none
set_option maxHeartbeats 8000000 in
set_option maxRecDepth 100000 in
theorem exergueref11_Same.calls (k:Nat)(A0:Option Addr)(c0:Nat)(l0:List (List (S60)))(A1:Option Addr)(c1:Nat)(l1:List (List (S60)))(r:Bool)(w:World)(hr0:Kd.C (Kd.slice 60 k60) w A0 l0.length l0)(hc0:l0.length≤c0)(hr1:Kd.C (Kd.slice 60 k60) w A1 l1.length l1)(hc1:l1.length≤c1)(h:exergueref11_Same.f k l0 l1=some r) :
  Calls Tryz.prog 34 #[.slice A0 l0.length c0,.slice A1 l1.length c1] w fun e w'=>e = .returned (.bool r)∧Below w.heap.size w w':=by
 have hu60:=Tryz.underlying60
 have hu57:=Tryz.underlying57
 have HR0:=zS hr0
 have HC0:=zS hc0
 clear hr0 hc0
 have HR1:=zS hr1
 have HC1:=zS hc1
 clear hr1 hc1
 have HB:=zS (Below.refl w.heap.size w)
 have H:(if (l0.length:Int)=(l1.length:Int) then (exergueref11_Same.l0 k l0 l1 0) else (some false))=some r:=h
 clear h
 by_cases c3:(l0.length:Int)=(l1.length:Int)
 rotate_left
 ·rw [if_neg c3] at H
  have bu:((l0.length:Int) == (l1.length:Int))=false:=zF c3
  have bv:((l0.length:Int) != (l1.length:Int))=true:=zI c3
  have bw:(l0.length == l1.length)=false:=by first|simpa using c3|(simp at c3 ⊢;omega)
  obtain rfl:=zE H
  go_enter Tryz.func34,Tryz.ntmps34
  go_wp2
  repeat (go_quiet (fail);try go_wp2)
  go_ret
  exact ⟨by first|rfl|(simp <;> rfl)|(simp [*] <;> rfl),bQ HB⟩
 rw [if_pos c3] at H
 have bu:((l0.length:Int) == (l1.length:Int))=true:=zH c3
 have bv:((l0.length:Int) != (l1.length:Int))=false:=zG c3
 have bw:(l0.length == l1.length)=true:=by first|simpa using c3|(simp at c3 ⊢;omega)
 clear c3
 have H':=zS H
 clear H
 go_enter Tryz.func34,Tryz.ntmps34
 go_wp2
 repeat (go_quiet (fail);try go_wp2)
 go_loopg [5] k (fun kq v5 w'=>∃ (aa:Int),v5 = .int .i64 aa∧Sd (exergueref11_Same.l0 kq l0 l1 aa=some r)∧Sd (kq≤k)∧Sd (Below w.heap.size w w'))
 case atStart=>exact ⟨(0),(by first|rfl|(simp;done)|(simp [*];done)),H',⟨Nat.le_refl _⟩,⟨bQ HB⟩⟩
 case round=>
  clear H'
  try clear c1
  try clear p2
  try clear c3
  try clear bu
  try clear bv
  try clear bw
  obtain ⟨aa,rfl,HA,HK1,HB⟩:=hrel
  cases gk with
  | zero=>exact absurd HA.out (by simp [exergueref11_Same.l0])
  | succ k1=>
   have H:=HA.out
   clear HA
   simp only [exergueref11_Same.l0] at H
   by_cases c4:aa<(l0.length:Int)
   rotate_left
   ·rw [if_neg c4] at H
    have bO:=zD c4
    clear c4
    obtain rfl:=zE H
    go_wp2
    repeat (go_quiet (fail);try go_wp2)
    go_ret
    exact ⟨by first|rfl|(simp <;> rfl)|(simp [*] <;> rfl),bQ HB⟩
   rw [if_pos c4] at H
   have bO:=zC c4
   clear c4
   by_cases c5:0≤aa
   rotate_left
   ·rw [if_neg c5] at H
    exact absurd H (by simp)
   rw [if_pos c5] at H
   have cn:=zC c5
   clear c5
   by_cases c6:aa<(l1.length:Int)
   rotate_left
   ·rw [if_neg c6] at H
    exact absurd H (by simp)
   rw [if_pos c6] at H
   have co:=zC c6
   clear c6
   by_cases c7:((rd_L7 l0 aa).length:Int)=((rd_L7 l1 aa).length:Int)
   rotate_left
   ·rw [if_neg c7] at H
    have bP:(((rd_L7 l0 aa).length:Int) == ((rd_L7 l1 aa).length:Int))=false:=zF c7
    have bR:(((rd_L7 l0 aa).length:Int) != ((rd_L7 l1 aa).length:Int))=true:=zI c7
    have bS:((rd_L7 l0 aa).length == (rd_L7 l1 aa).length)=false:=by first|simpa using c7|(simp at c7 ⊢;omega)
    obtain rfl:=zE H
    have aQ:0≤(aa:Int):=zB (by first|(with_reducible assumption)|assumption)
    have aR:aa<(l0.length:Int):=zB (by first|(with_reducible assumption)|assumption)
    obtain ⟨bd,cp,cq,cr,ap,hl206_0,hi206_0⟩:=at_L7 HR0.out aa aQ aR
    cases cr
    replace ap:=(HB.out.cell (World.block_lt_of_cell? w _ ap)).trans ap
    have bT:=zS hi206_0
    have bU:=zS hl206_0
    clear hi206_0 hl206_0
    replace aQ:=eq_true aQ
    replace aR:=eq_true aR
    have aS:0≤(aa:Int):=zB (by first|(with_reducible assumption)|assumption)
    have aT:aa<(l1.length:Int):=zB (by first|(with_reducible assumption)|assumption)
    obtain ⟨av,ct,cu,cv,au,hl207_0,hi207_0⟩:=at_L7 HR1.out aa aS aT
    cases cv
    replace au:=(HB.out.cell (World.block_lt_of_cell? w _ au)).trans au
    have bV:=zS hi207_0
    have bW:=zS hl207_0
    clear hi207_0 hl207_0
    replace aS:=eq_true aS
    replace aT:=eq_true aT
    go_wp2
    repeat (go_quiet (fail);try go_wp2)
    go_ret
    exact ⟨by first|rfl|(simp <;> rfl)|(simp [*] <;> rfl),bQ HB⟩
   rw [if_pos c7] at H
   have bP:(((rd_L7 l0 aa).length:Int) == ((rd_L7 l1 aa).length:Int))=true:=zH c7
   have bR:(((rd_L7 l0 aa).length:Int) != ((rd_L7 l1 aa).length:Int))=false:=zG c7
   have bS:((rd_L7 l0 aa).length == (rd_L7 l1 aa).length)=true:=by first|simpa using c7|(simp at c7 ⊢;omega)
   clear c7
   have H':=zS H
   clear H
   have aQ:0≤(aa:Int):=zB (by first|(with_reducible assumption)|assumption)
   have aR:aa<(l0.length:Int):=zB (by first|(with_reducible assumption)|assumption)
   obtain ⟨bd,cp,cq,cr,ap,hl206_0,hi206_0⟩:=at_L7 HR0.out aa aQ aR
   cases cr
   replace ap:=(HB.out.cell (World.block_lt_of_cell? w _ ap)).trans ap
   have bT:=zS hi206_0
   have bU:=zS hl206_0
   clear hi206_0 hl206_0
   replace aQ:=eq_true aQ
   replace aR:=eq_true aR
   have aS:0≤(aa:Int):=zB (by first|(with_reducible assumption)|assumption)
   have aT:aa<(l1.length:Int):=zB (by first|(with_reducible assumption)|assumption)
   obtain ⟨av,ct,cu,cv,au,hl207_0,hi207_0⟩:=at_L7 HR1.out aa aS aT
   cases cv
   replace au:=(HB.out.cell (World.block_lt_of_cell? w _ au)).trans au
   have bV:=zS hi207_0
   have bW:=zS hl207_0
   clear hi207_0 hl207_0
   replace aS:=eq_true aS
   replace aT:=eq_true aT
   go_wp2
   repeat (go_quiet (fail);try go_wp2)
   go_loopg [6] k1 (fun kq v6 w'=>∃ (ab:Int),v6 = .int .i64 ab∧Sd (exergueref11_Same.l1 kq l0 l1 aa ab=some r)∧Sd (kq≤k1)∧Sd (Below w.heap.size w w'))
   case atStart=>exact ⟨(0),(by first|rfl|(simp;done)|(simp [*];done)),H',⟨Nat.le_refl _⟩,⟨bQ HB⟩⟩
   case round=>
    clear H'
    try clear c1
    try clear c2
    try clear p2
    try clear q2
    try clear hx2
    try clear c3
    try clear bu
    try clear bv
    try clear bw
    try clear c4
    try clear bO
    try clear c5
    try clear cn
    try clear c6
    try clear co
    try clear c7
    try clear bP
    try clear bR
    try clear bS
    try clear ap
    try clear au
    try clear p2
    try clear aQ
    try clear aS
    try clear aR
    try clear aT
    obtain ⟨ab,rfl,HA,HK2,HB⟩:=hrel
    cases gk with
    | zero=>exact absurd HA.out (by simp [exergueref11_Same.l1])
    | succ k2=>
     have H:=HA.out
     clear HA
     simp only [exergueref11_Same.l1] at H
     by_cases c8:0≤aa
     rotate_left
     ·rw [if_neg c8] at H
      exact absurd H (by simp)
     rw [if_pos c8] at H
     have cC:=zC c8
     clear c8
     by_cases c9:aa<(l0.length:Int)
     rotate_left
     ·rw [if_neg c9] at H
      exact absurd H (by simp)
     rw [if_pos c9] at H
     have cD:=zC c9
     clear c9
     by_cases c10:ab<((rd_L7 l0 aa).length:Int)
     rotate_left
     ·rw [if_neg c10] at H
      have bx:=zD c10
      clear c10
      have H':=zS H
      clear H
      have a2:0≤(aa:Int):=zB (by first|(with_reducible assumption)|assumption)
      have a3:aa<(l0.length:Int):=zB (by first|(with_reducible assumption)|assumption)
      obtain ⟨bA,cw,cx,cy,aq,hl208_0,hi208_0⟩:=at_L7 HR0.out aa a2 a3
      obtain rfl:bd=bA:=(by injection cy)
      try (have ea_:=zE (ap.symm.trans aq);injection ea_ with ea_ en_ ec_;subst ea_;subst ec_;clear en_)
      replace aq:=(HB.out.cell (World.block_lt_of_cell? w _ aq)).trans aq
      have bX:=zS hi208_0
      have bY:=zS hl208_0
      clear hi208_0 hl208_0
      replace a2:=eq_true a2
      replace a3:=eq_true a3
      go_wp2
      repeat (go_quiet (fail);try go_wp2)
      go_roundg k2
      case measure=>have:=HK1.out;have:=HK2.out;omega
      case rel=>exact ⟨(wrap64 (aa+1)),(by first|rfl|(simp;done)|(simp [*];done)),H',⟨by have:=HK1.out;have:=HK2.out;omega⟩,⟨bQ HB⟩⟩
     rw [if_pos c10] at H
     have bx:=zC c10
     clear c10
     by_cases c11:0≤ab
     rotate_left
     ·rw [if_neg c11] at H
      exact absurd H (by simp)
     rw [if_pos c11] at H
     have b0:=zC c11
     clear c11
     by_cases c12:aa<(l1.length:Int)
     rotate_left
     ·rw [if_neg c12] at H
      exact absurd H (by simp)
     rw [if_pos c12] at H
     have b1:=zC c12
     clear c12
     by_cases c13:ab<((rd_L7 l1 aa).length:Int)
     rotate_left
     ·rw [if_neg c13] at H
      exact absurd H (by simp)
     rw [if_pos c13] at H
     have b2:=zC c13
     clear c13
     have cz:=zS H
     clear H
     have a2:0≤(aa:Int):=zB (by first|(with_reducible assumption)|assumption)
     have a3:aa<(l0.length:Int):=zB (by first|(with_reducible assumption)|assumption)
     obtain ⟨bA,cw,cx,cy,aq,hl208_0,hi208_0⟩:=at_L7 HR0.out aa a2 a3
     obtain rfl:bd=bA:=(by injection cy)
     try (have ea_:=zE (ap.symm.trans aq);injection ea_ with ea_ en_ ec_;subst ea_;subst ec_;clear en_)
     replace aq:=(HB.out.cell (World.block_lt_of_cell? w _ aq)).trans aq
     have bX:=zS hi208_0
     have bY:=zS hl208_0
     clear hi208_0 hl208_0
     replace a2:=eq_true a2
     replace a3:=eq_true a3
     have bB:0≤(aa:Int):=zB (by first|(with_reducible assumption)|assumption)
     have bC:aa<(l0.length:Int):=zB (by first|(with_reducible assumption)|assumption)
     obtain ⟨cE,cL,cM,cN,ax,hl209_0,hi209_0⟩:=at_L7 HR0.out aa bB bC
     obtain rfl:bd=cE:=(by injection cN)
     try (have ea_:=zE (ap.symm.trans ax);injection ea_ with ea_ en_ ec_;subst ea_;subst ec_;clear en_)
     replace ax:=(HB.out.cell (World.block_lt_of_cell? w _ ax)).trans ax
     have bZ:=zS hi209_0
     have cJ:=zS hl209_0
     clear hi209_0 hl209_0
     replace bB:=eq_true bB
     replace bC:=eq_true bC
     try (have ea_:=zE (aq.symm.trans ax);injection ea_ with ea_ en_ ec_;subst ea_;subst ec_;clear en_)
     have bD:0≤(ab:Int):=zB (by first|(with_reducible assumption)|assumption)
     have bE:ab<((rd_L7 l0 aa).length:Int):=zB (by first|(with_reducible assumption)|assumption)
     obtain ⟨cR,ai,aj,cO,aF,aG,aH,aI,hl210_3,hi210_3⟩:=at_T60 bZ.out ab bD bE
     cases cO
     replace aF:=(HB.out.cell (World.block_lt_of_cell? w _ aF)).trans aF
     replace aG:=(HB.out.cell (World.block_lt_of_cell? w _ aG)).trans aG
     replace aH:=(HB.out.cell (World.block_lt_of_cell? w _ aH)).trans aH
     replace aI:=(HB.out.cell (World.block_lt_of_cell? w _ aI)).trans aI
     have be:=zS hi210_3
     have cK:=zS hl210_3
     clear hi210_3 hl210_3
     replace bD:=eq_true bD
     replace bE:=eq_true bE
     go_upto_region 13 with (first|((with_reducible refine gate_dst (N:=7) rfl ?_);(try (refine gate_guard (by rfl) ?_;dsimp only));refine box_event ?hg (N:=7) ?hd (cs:=#[.int .u8 0,.int .i64 0,.bool false,.slice none 0 0]) (t:=60) ?hr ?_;(case hd=>rfl);(case hg=>rfl);(case hr=>first|(go_simp;done)|(go_simp;rfl));intro ac hg w15 hbox hb;have ak:=zS (hbox);have ao:=bg HB hg;replace HB:=bs HB hb;clear hb hbox hg;have bf:=blkc4 ak.out;have bh:=blkf4 ak.out;have aK:0≤(aa:Int):=zB (by first|(with_reducible assumption)|assumption);have aL:aa<(l1.length:Int):=zB (by first|(with_reducible assumption)|assumption);obtain ⟨a7,bF,bG,bH,ad,hl212_0,hi212_0⟩:=at_L7 HR1.out aa aK aL;obtain rfl:av=a7:=(by injection bH);have hn212_0:av.block≠ac:=Nat.ne_of_lt (Nat.lt_of_lt_of_le (by have:=World.block_lt_of_cell? _ _ ad;first|rwa [add_block] at this|exact this) ao.out);have hn212_1:av.block≠ac:=Nat.ne_of_lt (Nat.lt_of_lt_of_le (by have:=World.block_lt_of_cell? _ _ ad;first|rwa [add_block] at this|exact this) ao.out);have hn212_2:av.block≠ac:=Nat.ne_of_lt (Nat.lt_of_lt_of_le (by have:=World.block_lt_of_cell? _ _ ad;first|rwa [add_block] at this|exact this) ao.out);have hn212_3:av.block≠ac:=Nat.ne_of_lt (Nat.lt_of_lt_of_le (by have:=World.block_lt_of_cell? _ _ ad;first|rwa [add_block] at this|exact this) ao.out);replace ad:=(HB.out.cell (World.block_lt_of_cell? w _ ad)).trans ad;have aJ:=zS hi212_0;have bi:=zS hl212_0;clear hi212_0 hl212_0;replace ad:=(cell_far (p:=⟨ac,0,none⟩) (by first|(rw [add_block];exact hn212_0)|(show (Addr.add _ _).block≠_;rw [add_block];exact hn212_0)|exact hn212_0) (.int .u8 ((rd_T60 (rd_L7 l0 aa) ab).f0))).trans ad;replace ad:=(cell_far (p:=⟨ac,1,none⟩) (by first|(rw [add_block];exact hn212_1)|(show (Addr.add _ _).block≠_;rw [add_block];exact hn212_1)|exact hn212_1) (.int .i64 ((rd_T60 (rd_L7 l0 aa) ab).f1))).trans ad;replace ad:=(cell_far (p:=⟨ac,2,none⟩) (by first|(rw [add_block];exact hn212_2)|(show (Addr.add _ _).block≠_;rw [add_block];exact hn212_2)|exact hn212_2) (.bool ((rd_T60 (rd_L7 l0 aa) ab).f2))).trans ad;replace ad:=(cell_far (p:=⟨ac,3,none⟩) (by first|(rw [add_block];exact hn212_3)|(show (Addr.add _ _).block≠_;rw [add_block];exact hn212_3)|exact hn212_3) (.slice ai ((rd_T60 (rd_L7 l0 aa) ab).f3).length aj)).trans ad;(try have bj:=fun (n_:Nat)=>(show ((((((w15.drewN n_).setCell ⟨ac,0,none⟩ (.int .u8 ((rd_T60 (rd_L7 l0 aa) ab).f0))).setCell ⟨ac,1,none⟩ (.int .i64 ((rd_T60 (rd_L7 l0 aa) ab).f1))).setCell ⟨ac,2,none⟩ (.bool ((rd_T60 (rd_L7 l0 aa) ab).f2))).setCell ⟨ac,3,none⟩ (.slice ai ((rd_T60 (rd_L7 l0 aa) ab).f3).length aj))).cell? _=some _ from ad));clear hn212_0;clear hn212_1;clear hn212_2;clear hn212_3;replace aK:=eq_true aK;replace aL:=eq_true aL;have aM:0≤(ab:Int):=zB (by first|(with_reducible assumption)|assumption);have aN:ab<((rd_L7 l1 aa).length:Int):=zB (by first|(with_reducible assumption)|assumption);obtain ⟨aw,a4,a5,bI,ae,af,ag,ah,hl213_3,hi213_3⟩:=at_T60 aJ.out ab aM aN;cases bI;have hn213_0:aw.block≠ac:=Nat.ne_of_lt (Nat.lt_of_lt_of_le (by have:=World.block_lt_of_cell? _ _ ae;first|rwa [add_block] at this|exact this) ao.out);have hn213_1:aw.block≠ac:=Nat.ne_of_lt (Nat.lt_of_lt_of_le (by have:=World.block_lt_of_cell? _ _ ae;first|rwa [add_block] at this|exact this) ao.out);have hn213_2:aw.block≠ac:=Nat.ne_of_lt (Nat.lt_of_lt_of_le (by have:=World.block_lt_of_cell? _ _ ae;first|rwa [add_block] at this|exact this) ao.out);have hn213_3:aw.block≠ac:=Nat.ne_of_lt (Nat.lt_of_lt_of_le (by have:=World.block_lt_of_cell? _ _ ae;first|rwa [add_block] at this|exact this) ao.out);replace ae:=(HB.out.cell (World.block_lt_of_cell? w _ ae)).trans ae;replace af:=(HB.out.cell (World.block_lt_of_cell? w _ af)).trans af;replace ag:=(HB.out.cell (World.block_lt_of_cell? w _ ag)).trans ag;replace ah:=(HB.out.cell (World.block_lt_of_cell? w _ ah)).trans ah;have aO:=zS hi213_3;have bk:=zS hl213_3;clear hi213_3 hl213_3;replace ae:=(cell_far (p:=⟨ac,0,none⟩) (by first|(rw [add_block];exact hn213_0)|(show (Addr.add _ _).block≠_;rw [add_block];exact hn213_0)|exact hn213_0) (.int .u8 ((rd_T60 (rd_L7 l0 aa) ab).f0))).trans ae;replace af:=(cell_far (p:=⟨ac,0,none⟩) (by first|(rw [add_block];exact hn213_0)|(show (Addr.add _ _).block≠_;rw [add_block];exact hn213_0)|exact hn213_0) (.int .u8 ((rd_T60 (rd_L7 l0 aa) ab).f0))).trans af;replace ag:=(cell_far (p:=⟨ac,0,none⟩) (by first|(rw [add_block];exact hn213_0)|(show (Addr.add _ _).block≠_;rw [add_block];exact hn213_0)|exact hn213_0) (.int .u8 ((rd_T60 (rd_L7 l0 aa) ab).f0))).trans ag;replace ah:=(cell_far (p:=⟨ac,0,none⟩) (by first|(rw [add_block];exact hn213_0)|(show (Addr.add _ _).block≠_;rw [add_block];exact hn213_0)|exact hn213_0) (.int .u8 ((rd_T60 (rd_L7 l0 aa) ab).f0))).trans ah;replace ae:=(cell_far (p:=⟨ac,1,none⟩) (by first|(rw [add_block];exact hn213_1)|(show (Addr.add _ _).block≠_;rw [add_block];exact hn213_1)|exact hn213_1) (.int .i64 ((rd_T60 (rd_L7 l0 aa) ab).f1))).trans ae;replace af:=(cell_far (p:=⟨ac,1,none⟩) (by first|(rw [add_block];exact hn213_1)|(show (Addr.add _ _).block≠_;rw [add_block];exact hn213_1)|exact hn213_1) (.int .i64 ((rd_T60 (rd_L7 l0 aa) ab).f1))).trans af;replace ag:=(cell_far (p:=⟨ac,1,none⟩) (by first|(rw [add_block];exact hn213_1)|(show (Addr.add _ _).block≠_;rw [add_block];exact hn213_1)|exact hn213_1) (.int .i64 ((rd_T60 (rd_L7 l0 aa) ab).f1))).trans ag;replace ah:=(cell_far (p:=⟨ac,1,none⟩) (by first|(rw [add_block];exact hn213_1)|(show (Addr.add _ _).block≠_;rw [add_block];exact hn213_1)|exact hn213_1) (.int .i64 ((rd_T60 (rd_L7 l0 aa) ab).f1))).trans ah;replace ae:=(cell_far (p:=⟨ac,2,none⟩) (by first|(rw [add_block];exact hn213_2)|(show (Addr.add _ _).block≠_;rw [add_block];exact hn213_2)|exact hn213_2) (.bool ((rd_T60 (rd_L7 l0 aa) ab).f2))).trans ae;replace af:=(cell_far (p:=⟨ac,2,none⟩) (by first|(rw [add_block];exact hn213_2)|(show (Addr.add _ _).block≠_;rw [add_block];exact hn213_2)|exact hn213_2) (.bool ((rd_T60 (rd_L7 l0 aa) ab).f2))).trans af;replace ag:=(cell_far (p:=⟨ac,2,none⟩) (by first|(rw [add_block];exact hn213_2)|(show (Addr.add _ _).block≠_;rw [add_block];exact hn213_2)|exact hn213_2) (.bool ((rd_T60 (rd_L7 l0 aa) ab).f2))).trans ag;replace ah:=(cell_far (p:=⟨ac,2,none⟩) (by first|(rw [add_block];exact hn213_2)|(show (Addr.add _ _).block≠_;rw [add_block];exact hn213_2)|exact hn213_2) (.bool ((rd_T60 (rd_L7 l0 aa) ab).f2))).trans ah;replace ae:=(cell_far (p:=⟨ac,3,none⟩) (by first|(rw [add_block];exact hn213_3)|(show (Addr.add _ _).block≠_;rw [add_block];exact hn213_3)|exact hn213_3) (.slice ai ((rd_T60 (rd_L7 l0 aa) ab).f3).length aj)).trans ae;replace af:=(cell_far (p:=⟨ac,3,none⟩) (by first|(rw [add_block];exact hn213_3)|(show (Addr.add _ _).block≠_;rw [add_block];exact hn213_3)|exact hn213_3) (.slice ai ((rd_T60 (rd_L7 l0 aa) ab).f3).length aj)).trans af;replace ag:=(cell_far (p:=⟨ac,3,none⟩) (by first|(rw [add_block];exact hn213_3)|(show (Addr.add _ _).block≠_;rw [add_block];exact hn213_3)|exact hn213_3) (.slice ai ((rd_T60 (rd_L7 l0 aa) ab).f3).length aj)).trans ag;replace ah:=(cell_far (p:=⟨ac,3,none⟩) (by first|(rw [add_block];exact hn213_3)|(show (Addr.add _ _).block≠_;rw [add_block];exact hn213_3)|exact hn213_3) (.slice ai ((rd_T60 (rd_L7 l0 aa) ab).f3).length aj)).trans ah;(try have bm:=fun (n_:Nat)=>(show ((((((w15.drewN n_).setCell ⟨ac,0,none⟩ (.int .u8 ((rd_T60 (rd_L7 l0 aa) ab).f0))).setCell ⟨ac,1,none⟩ (.int .i64 ((rd_T60 (rd_L7 l0 aa) ab).f1))).setCell ⟨ac,2,none⟩ (.bool ((rd_T60 (rd_L7 l0 aa) ab).f2))).setCell ⟨ac,3,none⟩ (.slice ai ((rd_T60 (rd_L7 l0 aa) ab).f3).length aj))).cell? _=some _ from ae));(try have bn:=fun (n_:Nat)=>(show ((((((w15.drewN n_).setCell ⟨ac,0,none⟩ (.int .u8 ((rd_T60 (rd_L7 l0 aa) ab).f0))).setCell ⟨ac,1,none⟩ (.int .i64 ((rd_T60 (rd_L7 l0 aa) ab).f1))).setCell ⟨ac,2,none⟩ (.bool ((rd_T60 (rd_L7 l0 aa) ab).f2))).setCell ⟨ac,3,none⟩ (.slice ai ((rd_T60 (rd_L7 l0 aa) ab).f3).length aj))).cell? _=some _ from af));(try have bo:=fun (n_:Nat)=>(show ((((((w15.drewN n_).setCell ⟨ac,0,none⟩ (.int .u8 ((rd_T60 (rd_L7 l0 aa) ab).f0))).setCell ⟨ac,1,none⟩ (.int .i64 ((rd_T60 (rd_L7 l0 aa) ab).f1))).setCell ⟨ac,2,none⟩ (.bool ((rd_T60 (rd_L7 l0 aa) ab).f2))).setCell ⟨ac,3,none⟩ (.slice ai ((rd_T60 (rd_L7 l0 aa) ab).f3).length aj))).cell? _=some _ from ag));(try have bp:=fun (n_:Nat)=>(show ((((((w15.drewN n_).setCell ⟨ac,0,none⟩ (.int .u8 ((rd_T60 (rd_L7 l0 aa) ab).f0))).setCell ⟨ac,1,none⟩ (.int .i64 ((rd_T60 (rd_L7 l0 aa) ab).f1))).setCell ⟨ac,2,none⟩ (.bool ((rd_T60 (rd_L7 l0 aa) ab).f2))).setCell ⟨ac,3,none⟩ (.slice ai ((rd_T60 (rd_L7 l0 aa) ab).f3).length aj))).cell? _=some _ from ah));clear hn213_0;clear hn213_1;clear hn213_2;clear hn213_3;replace aM:=eq_true aM;replace aN:=eq_true aN)|((with_reducible refine gate_dst (N:=8) rfl ?_);(try (refine gate_guard (by rfl) ?_;dsimp only));refine box_event ?hg (N:=8) ?hd (cs:=#[.int .u8 0,.int .i64 0,.bool false,.slice none 0 0]) (t:=60) ?hr ?_;(case hd=>rfl);(case hg=>rfl);(case hr=>first|(go_simp;done)|(go_simp;rfl));intro aE hg w17 hbox hb;have an:=zS (hbox);have b3:=bg HB hg;replace HB:=bs HB hb;have al:=zS ((by rw [hg];exact Nat.ne_of_lt (blk_lt (g:=ac) (o:=.cells #[.int .u8 ((rd_T60 (rd_L7 l0 aa) ab).f0),.int .i64 ((rd_T60 (rd_L7 l0 aa) ab).f1),.bool ((rd_T60 (rd_L7 l0 aa) ab).f2),.slice ai ((rd_T60 (rd_L7 l0 aa) ab).f3).length aj] 60 (0,0)) (kp ak rfl)):ac≠aE));have am:=zS ((by rw [hg];exact Nat.ne_of_gt (blk_lt (g:=ac) (o:=.cells #[.int .u8 ((rd_T60 (rd_L7 l0 aa) ab).f0),.int .i64 ((rd_T60 (rd_L7 l0 aa) ab).f1),.bool ((rd_T60 (rd_L7 l0 aa) ab).f2),.slice ai ((rd_T60 (rd_L7 l0 aa) ab).f3).length aj] 60 (0,0)) (kp ak rfl)):aE≠ac));replace ak:=zS (blk_below (g:=ac) (o:=.cells #[.int .u8 ((rd_T60 (rd_L7 l0 aa) ab).f0),.int .i64 ((rd_T60 (rd_L7 l0 aa) ab).f1),.bool ((rd_T60 (rd_L7 l0 aa) ab).f2),.slice ai ((rd_T60 (rd_L7 l0 aa) ab).f3).length aj] 60 (0,0)) (kp ak rfl) hb);clear hb hbox hg;have b4:=am.out;have b5:=al.out;have bq:=blkc4 an.out;have br:=blkf4 an.out))
     repeat (go_quiet (first|((with_reducible refine gate_dst (N:=7) rfl ?_);(try (refine gate_guard (by rfl) ?_;dsimp only));refine box_event ?hg (N:=7) ?hd (cs:=#[.int .u8 0,.int .i64 0,.bool false,.slice none 0 0]) (t:=60) ?hr ?_;(case hd=>rfl);(case hg=>rfl);(case hr=>first|(go_simp;done)|(go_simp;rfl));intro ac hg w15 hbox hb;have ak:=zS (hbox);have ao:=bg HB hg;replace HB:=bs HB hb;clear hb hbox hg;have bf:=blkc4 ak.out;have bh:=blkf4 ak.out;have aK:0≤(aa:Int):=zB (by first|(with_reducible assumption)|assumption);have aL:aa<(l1.length:Int):=zB (by first|(with_reducible assumption)|assumption);obtain ⟨a7,bF,bG,bH,ad,hl212_0,hi212_0⟩:=at_L7 HR1.out aa aK aL;obtain rfl:av=a7:=(by injection bH);have hn212_0:av.block≠ac:=Nat.ne_of_lt (Nat.lt_of_lt_of_le (by have:=World.block_lt_of_cell? _ _ ad;first|rwa [add_block] at this|exact this) ao.out);have hn212_1:av.block≠ac:=Nat.ne_of_lt (Nat.lt_of_lt_of_le (by have:=World.block_lt_of_cell? _ _ ad;first|rwa [add_block] at this|exact this) ao.out);have hn212_2:av.block≠ac:=Nat.ne_of_lt (Nat.lt_of_lt_of_le (by have:=World.block_lt_of_cell? _ _ ad;first|rwa [add_block] at this|exact this) ao.out);have hn212_3:av.block≠ac:=Nat.ne_of_lt (Nat.lt_of_lt_of_le (by have:=World.block_lt_of_cell? _ _ ad;first|rwa [add_block] at this|exact this) ao.out);replace ad:=(HB.out.cell (World.block_lt_of_cell? w _ ad)).trans ad;have aJ:=zS hi212_0;have bi:=zS hl212_0;clear hi212_0 hl212_0;replace ad:=(cell_far (p:=⟨ac,0,none⟩) (by first|(rw [add_block];exact hn212_0)|(show (Addr.add _ _).block≠_;rw [add_block];exact hn212_0)|exact hn212_0) (.int .u8 ((rd_T60 (rd_L7 l0 aa) ab).f0))).trans ad;replace ad:=(cell_far (p:=⟨ac,1,none⟩) (by first|(rw [add_block];exact hn212_1)|(show (Addr.add _ _).block≠_;rw [add_block];exact hn212_1)|exact hn212_1) (.int .i64 ((rd_T60 (rd_L7 l0 aa) ab).f1))).trans ad;replace ad:=(cell_far (p:=⟨ac,2,none⟩) (by first|(rw [add_block];exact hn212_2)|(show (Addr.add _ _).block≠_;rw [add_block];exact hn212_2)|exact hn212_2) (.bool ((rd_T60 (rd_L7 l0 aa) ab).f2))).trans ad;replace ad:=(cell_far (p:=⟨ac,3,none⟩) (by first|(rw [add_block];exact hn212_3)|(show (Addr.add _ _).block≠_;rw [add_block];exact hn212_3)|exact hn212_3) (.slice ai ((rd_T60 (rd_L7 l0 aa) ab).f3).length aj)).trans ad;(try have bj:=fun (n_:Nat)=>(show ((((((w15.drewN n_).setCell ⟨ac,0,none⟩ (.int .u8 ((rd_T60 (rd_L7 l0 aa) ab).f0))).setCell ⟨ac,1,none⟩ (.int .i64 ((rd_T60 (rd_L7 l0 aa) ab).f1))).setCell ⟨ac,2,none⟩ (.bool ((rd_T60 (rd_L7 l0 aa) ab).f2))).setCell ⟨ac,3,none⟩ (.slice ai ((rd_T60 (rd_L7 l0 aa) ab).f3).length aj))).cell? _=some _ from ad));clear hn212_0;clear hn212_1;clear hn212_2;clear hn212_3;replace aK:=eq_true aK;replace aL:=eq_true aL;have aM:0≤(ab:Int):=zB (by first|(with_reducible assumption)|assumption);have aN:ab<((rd_L7 l1 aa).length:Int):=zB (by first|(with_reducible assumption)|assumption);obtain ⟨aw,a4,a5,bI,ae,af,ag,ah,hl213_3,hi213_3⟩:=at_T60 aJ.out ab aM aN;cases bI;have hn213_0:aw.block≠ac:=Nat.ne_of_lt (Nat.lt_of_lt_of_le (by have:=World.block_lt_of_cell? _ _ ae;first|rwa [add_block] at this|exact this) ao.out);have hn213_1:aw.block≠ac:=Nat.ne_of_lt (Nat.lt_of_lt_of_le (by have:=World.block_lt_of_cell? _ _ ae;first|rwa [add_block] at this|exact this) ao.out);have hn213_2:aw.block≠ac:=Nat.ne_of_lt (Nat.lt_of_lt_of_le (by have:=World.block_lt_of_cell? _ _ ae;first|rwa [add_block] at this|exact this) ao.out);have hn213_3:aw.block≠ac:=Nat.ne_of_lt (Nat.lt_of_lt_of_le (by have:=World.block_lt_of_cell? _ _ ae;first|rwa [add_block] at this|exact this) ao.out);replace ae:=(HB.out.cell (World.block_lt_of_cell? w _ ae)).trans ae;replace af:=(HB.out.cell (World.block_lt_of_cell? w _ af)).trans af;replace ag:=(HB.out.cell (World.block_lt_of_cell? w _ ag)).trans ag;replace ah:=(HB.out.cell (World.block_lt_of_cell? w _ ah)).trans ah;have aO:=zS hi213_3;have bk:=zS hl213_3;clear hi213_3 hl213_3;replace ae:=(cell_far (p:=⟨ac,0,none⟩) (by first|(rw [add_block];exact hn213_0)|(show (Addr.add _ _).block≠_;rw [add_block];exact hn213_0)|exact hn213_0) (.int .u8 ((rd_T60 (rd_L7 l0 aa) ab).f0))).trans ae;replace af:=(cell_far (p:=⟨ac,0,none⟩) (by first|(rw [add_block];exact hn213_0)|(show (Addr.add _ _).block≠_;rw [add_block];exact hn213_0)|exact hn213_0) (.int .u8 ((rd_T60 (rd_L7 l0 aa) ab).f0))).trans af;replace ag:=(cell_far (p:=⟨ac,0,none⟩) (by first|(rw [add_block];exact hn213_0)|(show (Addr.add _ _).block≠_;rw [add_block];exact hn213_0)|exact hn213_0) (.int .u8 ((rd_T60 (rd_L7 l0 aa) ab).f0))).trans ag;replace ah:=(cell_far (p:=⟨ac,0,none⟩) (by first|(rw [add_block];exact hn213_0)|(show (Addr.add _ _).block≠_;rw [add_block];exact hn213_0)|exact hn213_0) (.int .u8 ((rd_T60 (rd_L7 l0 aa) ab).f0))).trans ah;replace ae:=(cell_far (p:=⟨ac,1,none⟩) (by first|(rw [add_block];exact hn213_1)|(show (Addr.add _ _).block≠_;rw [add_block];exact hn213_1)|exact hn213_1) (.int .i64 ((rd_T60 (rd_L7 l0 aa) ab).f1))).trans ae;replace af:=(cell_far (p:=⟨ac,1,none⟩) (by first|(rw [add_block];exact hn213_1)|(show (Addr.add _ _).block≠_;rw [add_block];exact hn213_1)|exact hn213_1) (.int .i64 ((rd_T60 (rd_L7 l0 aa) ab).f1))).trans af;replace ag:=(cell_far (p:=⟨ac,1,none⟩) (by first|(rw [add_block];exact hn213_1)|(show (Addr.add _ _).block≠_;rw [add_block];exact hn213_1)|exact hn213_1) (.int .i64 ((rd_T60 (rd_L7 l0 aa) ab).f1))).trans ag;replace ah:=(cell_far (p:=⟨ac,1,none⟩) (by first|(rw [add_block];exact hn213_1)|(show (Addr.add _ _).block≠_;rw [add_block];exact hn213_1)|exact hn213_1) (.int .i64 ((rd_T60 (rd_L7 l0 aa) ab).f1))).trans ah;replace ae:=(cell_far (p:=⟨ac,2,none⟩) (by first|(rw [add_block];exact hn213_2)|(show (Addr.add _ _).block≠_;rw [add_block];exact hn213_2)|exact hn213_2) (.bool ((rd_T60 (rd_L7 l0 aa) ab).f2))).trans ae;replace af:=(cell_far (p:=⟨ac,2,none⟩) (by first|(rw [add_block];exact hn213_2)|(show (Addr.add _ _).block≠_;rw [add_block];exact hn213_2)|exact hn213_2) (.bool ((rd_T60 (rd_L7 l0 aa) ab).f2))).trans af;replace ag:=(cell_far (p:=⟨ac,2,none⟩) (by first|(rw [add_block];exact hn213_2)|(show (Addr.add _ _).block≠_;rw [add_block];exact hn213_2)|exact hn213_2) (.bool ((rd_T60 (rd_L7 l0 aa) ab).f2))).trans ag;replace ah:=(cell_far (p:=⟨ac,2,none⟩) (by first|(rw [add_block];exact hn213_2)|(show (Addr.add _ _).block≠_;rw [add_block];exact hn213_2)|exact hn213_2) (.bool ((rd_T60 (rd_L7 l0 aa) ab).f2))).trans ah;replace ae:=(cell_far (p:=⟨ac,3,none⟩) (by first|(rw [add_block];exact hn213_3)|(show (Addr.add _ _).block≠_;rw [add_block];exact hn213_3)|exact hn213_3) (.slice ai ((rd_T60 (rd_L7 l0 aa) ab).f3).length aj)).trans ae;replace af:=(cell_far (p:=⟨ac,3,none⟩) (by first|(rw [add_block];exact hn213_3)|(show (Addr.add _ _).block≠_;rw [add_block];exact hn213_3)|exact hn213_3) (.slice ai ((rd_T60 (rd_L7 l0 aa) ab).f3).length aj)).trans af;replace ag:=(cell_far (p:=⟨ac,3,none⟩) (by first|(rw [add_block];exact hn213_3)|(show (Addr.add _ _).block≠_;rw [add_block];exact hn213_3)|exact hn213_3) (.slice ai ((rd_T60 (rd_L7 l0 aa) ab).f3).length aj)).trans ag;replace ah:=(cell_far (p:=⟨ac,3,none⟩) (by first|(rw [add_block];exact hn213_3)|(show (Addr.add _ _).block≠_;rw [add_block];exact hn213_3)|exact hn213_3) (.slice ai ((rd_T60 (rd_L7 l0 aa) ab).f3).length aj)).trans ah;(try have bm:=fun (n_:Nat)=>(show ((((((w15.drewN n_).setCell ⟨ac,0,none⟩ (.int .u8 ((rd_T60 (rd_L7 l0 aa) ab).f0))).setCell ⟨ac,1,none⟩ (.int .i64 ((rd_T60 (rd_L7 l0 aa) ab).f1))).setCell ⟨ac,2,none⟩ (.bool ((rd_T60 (rd_L7 l0 aa) ab).f2))).setCell ⟨ac,3,none⟩ (.slice ai ((rd_T60 (rd_L7 l0 aa) ab).f3).length aj))).cell? _=some _ from ae));(try have bn:=fun (n_:Nat)=>(show ((((((w15.drewN n_).setCell ⟨ac,0,none⟩ (.int .u8 ((rd_T60 (rd_L7 l0 aa) ab).f0))).setCell ⟨ac,1,none⟩ (.int .i64 ((rd_T60 (rd_L7 l0 aa) ab).f1))).setCell ⟨ac,2,none⟩ (.bool ((rd_T60 (rd_L7 l0 aa) ab).f2))).setCell ⟨ac,3,none⟩ (.slice ai ((rd_T60 (rd_L7 l0 aa) ab).f3).length aj))).cell? _=some _ from af));(try have bo:=fun (n_:Nat)=>(show ((((((w15.drewN n_).setCell ⟨ac,0,none⟩ (.int .u8 ((rd_T60 (rd_L7 l0 aa) ab).f0))).setCell ⟨ac,1,none⟩ (.int .i64 ((rd_T60 (rd_L7 l0 aa) ab).f1))).setCell ⟨ac,2,none⟩ (.bool ((rd_T60 (rd_L7 l0 aa) ab).f2))).setCell ⟨ac,3,none⟩ (.slice ai ((rd_T60 (rd_L7 l0 aa) ab).f3).length aj))).cell? _=some _ from ag));(try have bp:=fun (n_:Nat)=>(show ((((((w15.drewN n_).setCell ⟨ac,0,none⟩ (.int .u8 ((rd_T60 (rd_L7 l0 aa) ab).f0))).setCell ⟨ac,1,none⟩ (.int .i64 ((rd_T60 (rd_L7 l0 aa) ab).f1))).setCell ⟨ac,2,none⟩ (.bool ((rd_T60 (rd_L7 l0 aa) ab).f2))).setCell ⟨ac,3,none⟩ (.slice ai ((rd_T60 (rd_L7 l0 aa) ab).f3).length aj))).cell? _=some _ from ah));clear hn213_0;clear hn213_1;clear hn213_2;clear hn213_3;replace aM:=eq_true aM;replace aN:=eq_true aN)|((with_reducible refine gate_dst (N:=8) rfl ?_);(try (refine gate_guard (by rfl) ?_;dsimp only));refine box_event ?hg (N:=8) ?hd (cs:=#[.int .u8 0,.int .i64 0,.bool false,.slice none 0 0]) (t:=60) ?hr ?_;(case hd=>rfl);(case hg=>rfl);(case hr=>first|(go_simp;done)|(go_simp;rfl));intro aE hg w17 hbox hb;have an:=zS (hbox);have b3:=bg HB hg;replace HB:=bs HB hb;have al:=zS ((by rw [hg];exact Nat.ne_of_lt (blk_lt (g:=ac) (o:=.cells #[.int .u8 ((rd_T60 (rd_L7 l0 aa) ab).f0),.int .i64 ((rd_T60 (rd_L7 l0 aa) ab).f1),.bool ((rd_T60 (rd_L7 l0 aa) ab).f2),.slice ai ((rd_T60 (rd_L7 l0 aa) ab).f3).length aj] 60 (0,0)) (kp ak rfl)):ac≠aE));have am:=zS ((by rw [hg];exact Nat.ne_of_gt (blk_lt (g:=ac) (o:=.cells #[.int .u8 ((rd_T60 (rd_L7 l0 aa) ab).f0),.int .i64 ((rd_T60 (rd_L7 l0 aa) ab).f1),.bool ((rd_T60 (rd_L7 l0 aa) ab).f2),.slice ai ((rd_T60 (rd_L7 l0 aa) ab).f3).length aj] 60 (0,0)) (kp ak rfl)):aE≠ac));replace ak:=zS (blk_below (g:=ac) (o:=.cells #[.int .u8 ((rd_T60 (rd_L7 l0 aa) ab).f0),.int .i64 ((rd_T60 (rd_L7 l0 aa) ab).f1),.bool ((rd_T60 (rd_L7 l0 aa) ab).f2),.slice ai ((rd_T60 (rd_L7 l0 aa) ab).f3).length aj] 60 (0,0)) (kp ak rfl) hb);clear hb hbox hg;have b4:=am.out;have b5:=al.out;have bq:=blkc4 an.out;have br:=blkf4 an.out));go_upto_region 13 with (first|((with_reducible refine gate_dst (N:=7) rfl ?_);(try (refine gate_guard (by rfl) ?_;dsimp only));refine box_event ?hg (N:=7) ?hd (cs:=#[.int .u8 0,.int .i64 0,.bool false,.slice none 0 0]) (t:=60) ?hr ?_;(case hd=>rfl);(case hg=>rfl);(case hr=>first|(go_simp;done)|(go_simp;rfl));intro ac hg w15 hbox hb;have ak:=zS (hbox);have ao:=bg HB hg;replace HB:=bs HB hb;clear hb hbox hg;have bf:=blkc4 ak.out;have bh:=blkf4 ak.out;have aK:0≤(aa:Int):=zB (by first|(with_reducible assumption)|assumption);have aL:aa<(l1.length:Int):=zB (by first|(with_reducible assumption)|assumption);obtain ⟨a7,bF,bG,bH,ad,hl212_0,hi212_0⟩:=at_L7 HR1.out aa aK aL;obtain rfl:av=a7:=(by injection bH);have hn212_0:av.block≠ac:=Nat.ne_of_lt (Nat.lt_of_lt_of_le (by have:=World.block_lt_of_cell? _ _ ad;first|rwa [add_block] at this|exact this) ao.out);have hn212_1:av.block≠ac:=Nat.ne_of_lt (Nat.lt_of_lt_of_le (by have:=World.block_lt_of_cell? _ _ ad;first|rwa [add_block] at this|exact this) ao.out);have hn212_2:av.block≠ac:=Nat.ne_of_lt (Nat.lt_of_lt_of_le (by have:=World.block_lt_of_cell? _ _ ad;first|rwa [add_block] at this|exact this) ao.out);have hn212_3:av.block≠ac:=Nat.ne_of_lt (Nat.lt_of_lt_of_le (by have:=World.block_lt_of_cell? _ _ ad;first|rwa [add_block] at this|exact this) ao.out);replace ad:=(HB.out.cell (World.block_lt_of_cell? w _ ad)).trans ad;have aJ:=zS hi212_0;have bi:=zS hl212_0;clear hi212_0 hl212_0;replace ad:=(cell_far (p:=⟨ac,0,none⟩) (by first|(rw [add_block];exact hn212_0)|(show (Addr.add _ _).block≠_;rw [add_block];exact hn212_0)|exact hn212_0) (.int .u8 ((rd_T60 (rd_L7 l0 aa) ab).f0))).trans ad;replace ad:=(cell_far (p:=⟨ac,1,none⟩) (by first|(rw [add_block];exact hn212_1)|(show (Addr.add _ _).block≠_;rw [add_block];exact hn212_1)|exact hn212_1) (.int .i64 ((rd_T60 (rd_L7 l0 aa) ab).f1))).trans ad;replace ad:=(cell_far (p:=⟨ac,2,none⟩) (by first|(rw [add_block];exact hn212_2)|(show (Addr.add _ _).block≠_;rw [add_block];exact hn212_2)|exact hn212_2) (.bool ((rd_T60 (rd_L7 l0 aa) ab).f2))).trans ad;replace ad:=(cell_far (p:=⟨ac,3,none⟩) (by first|(rw [add_block];exact hn212_3)|(show (Addr.add _ _).block≠_;rw [add_block];exact hn212_3)|exact hn212_3) (.slice ai ((rd_T60 (rd_L7 l0 aa) ab).f3).length aj)).trans ad;(try have bj:=fun (n_:Nat)=>(show ((((((w15.drewN n_).setCell ⟨ac,0,none⟩ (.int .u8 ((rd_T60 (rd_L7 l0 aa) ab).f0))).setCell ⟨ac,1,none⟩ (.int .i64 ((rd_T60 (rd_L7 l0 aa) ab).f1))).setCell ⟨ac,2,none⟩ (.bool ((rd_T60 (rd_L7 l0 aa) ab).f2))).setCell ⟨ac,3,none⟩ (.slice ai ((rd_T60 (rd_L7 l0 aa) ab).f3).length aj))).cell? _=some _ from ad));clear hn212_0;clear hn212_1;clear hn212_2;clear hn212_3;replace aK:=eq_true aK;replace aL:=eq_true aL;have aM:0≤(ab:Int):=zB (by first|(with_reducible assumption)|assumption);have aN:ab<((rd_L7 l1 aa).length:Int):=zB (by first|(with_reducible assumption)|assumption);obtain ⟨aw,a4,a5,bI,ae,af,ag,ah,hl213_3,hi213_3⟩:=at_T60 aJ.out ab aM aN;cases bI;have hn213_0:aw.block≠ac:=Nat.ne_of_lt (Nat.lt_of_lt_of_le (by have:=World.block_lt_of_cell? _ _ ae;first|rwa [add_block] at this|exact this) ao.out);have hn213_1:aw.block≠ac:=Nat.ne_of_lt (Nat.lt_of_lt_of_le (by have:=World.block_lt_of_cell? _ _ ae;first|rwa [add_block] at this|exact this) ao.out);have hn213_2:aw.block≠ac:=Nat.ne_of_lt (Nat.lt_of_lt_of_le (by have:=World.block_lt_of_cell? _ _ ae;first|rwa [add_block] at this|exact this) ao.out);have hn213_3:aw.block≠ac:=Nat.ne_of_lt (Nat.lt_of_lt_of_le (by have:=World.block_lt_of_cell? _ _ ae;first|rwa [add_block] at this|exact this) ao.out);replace ae:=(HB.out.cell (World.block_lt_of_cell? w _ ae)).trans ae;replace af:=(HB.out.cell (World.block_lt_of_cell? w _ af)).trans af;replace ag:=(HB.out.cell (World.block_lt_of_cell? w _ ag)).trans ag;replace ah:=(HB.out.cell (World.block_lt_of_cell? w _ ah)).trans ah;have aO:=zS hi213_3;have bk:=zS hl213_3;clear hi213_3 hl213_3;replace ae:=(cell_far (p:=⟨ac,0,none⟩) (by first|(rw [add_block];exact hn213_0)|(show (Addr.add _ _).block≠_;rw [add_block];exact hn213_0)|exact hn213_0) (.int .u8 ((rd_T60 (rd_L7 l0 aa) ab).f0))).trans ae;replace af:=(cell_far (p:=⟨ac,0,none⟩) (by first|(rw [add_block];exact hn213_0)|(show (Addr.add _ _).block≠_;rw [add_block];exact hn213_0)|exact hn213_0) (.int .u8 ((rd_T60 (rd_L7 l0 aa) ab).f0))).trans af;replace ag:=(cell_far (p:=⟨ac,0,none⟩) (by first|(rw [add_block];exact hn213_0)|(show (Addr.add _ _).block≠_;rw [add_block];exact hn213_0)|exact hn213_0) (.int .u8 ((rd_T60 (rd_L7 l0 aa) ab).f0))).trans ag;replace ah:=(cell_far (p:=⟨ac,0,none⟩) (by first|(rw [add_block];exact hn213_0)|(show (Addr.add _ _).block≠_;rw [add_block];exact hn213_0)|exact hn213_0) (.int .u8 ((rd_T60 (rd_L7 l0 aa) ab).f0))).trans ah;replace ae:=(cell_far (p:=⟨ac,1,none⟩) (by first|(rw [add_block];exact hn213_1)|(show (Addr.add _ _).block≠_;rw [add_block];exact hn213_1)|exact hn213_1) (.int .i64 ((rd_T60 (rd_L7 l0 aa) ab).f1))).trans ae;replace af:=(cell_far (p:=⟨ac,1,none⟩) (by first|(rw [add_block];exact hn213_1)|(show (Addr.add _ _).block≠_;rw [add_block];exact hn213_1)|exact hn213_1) (.int .i64 ((rd_T60 (rd_L7 l0 aa) ab).f1))).trans af;replace ag:=(cell_far (p:=⟨ac,1,none⟩) (by first|(rw [add_block];exact hn213_1)|(show (Addr.add _ _).block≠_;rw [add_block];exact hn213_1)|exact hn213_1) (.int .i64 ((rd_T60 (rd_L7 l0 aa) ab).f1))).trans ag;replace ah:=(cell_far (p:=⟨ac,1,none⟩) (by first|(rw [add_block];exact hn213_1)|(show (Addr.add _ _).block≠_;rw [add_block];exact hn213_1)|exact hn213_1) (.int .i64 ((rd_T60 (rd_L7 l0 aa) ab).f1))).trans ah;replace ae:=(cell_far (p:=⟨ac,2,none⟩) (by first|(rw [add_block];exact hn213_2)|(show (Addr.add _ _).block≠_;rw [add_block];exact hn213_2)|exact hn213_2) (.bool ((rd_T60 (rd_L7 l0 aa) ab).f2))).trans ae;replace af:=(cell_far (p:=⟨ac,2,none⟩) (by first|(rw [add_block];exact hn213_2)|(show (Addr.add _ _).block≠_;rw [add_block];exact hn213_2)|exact hn213_2) (.bool ((rd_T60 (rd_L7 l0 aa) ab).f2))).trans af;replace ag:=(cell_far (p:=⟨ac,2,none⟩) (by first|(rw [add_block];exact hn213_2)|(show (Addr.add _ _).block≠_;rw [add_block];exact hn213_2)|exact hn213_2) (.bool ((rd_T60 (rd_L7 l0 aa) ab).f2))).trans ag;replace ah:=(cell_far (p:=⟨ac,2,none⟩) (by first|(rw [add_block];exact hn213_2)|(show (Addr.add _ _).block≠_;rw [add_block];exact hn213_2)|exact hn213_2) (.bool ((rd_T60 (rd_L7 l0 aa) ab).f2))).trans ah;replace ae:=(cell_far (p:=⟨ac,3,none⟩) (by first|(rw [add_block];exact hn213_3)|(show (Addr.add _ _).block≠_;rw [add_block];exact hn213_3)|exact hn213_3) (.slice ai ((rd_T60 (rd_L7 l0 aa) ab).f3).length aj)).trans ae;replace af:=(cell_far (p:=⟨ac,3,none⟩) (by first|(rw [add_block];exact hn213_3)|(show (Addr.add _ _).block≠_;rw [add_block];exact hn213_3)|exact hn213_3) (.slice ai ((rd_T60 (rd_L7 l0 aa) ab).f3).length aj)).trans af;replace ag:=(cell_far (p:=⟨ac,3,none⟩) (by first|(rw [add_block];exact hn213_3)|(show (Addr.add _ _).block≠_;rw [add_block];exact hn213_3)|exact hn213_3) (.slice ai ((rd_T60 (rd_L7 l0 aa) ab).f3).length aj)).trans ag;replace ah:=(cell_far (p:=⟨ac,3,none⟩) (by first|(rw [add_block];exact hn213_3)|(show (Addr.add _ _).block≠_;rw [add_block];exact hn213_3)|exact hn213_3) (.slice ai ((rd_T60 (rd_L7 l0 aa) ab).f3).length aj)).trans ah;(try have bm:=fun (n_:Nat)=>(show ((((((w15.drewN n_).setCell ⟨ac,0,none⟩ (.int .u8 ((rd_T60 (rd_L7 l0 aa) ab).f0))).setCell ⟨ac,1,none⟩ (.int .i64 ((rd_T60 (rd_L7 l0 aa) ab).f1))).setCell ⟨ac,2,none⟩ (.bool ((rd_T60 (rd_L7 l0 aa) ab).f2))).setCell ⟨ac,3,none⟩ (.slice ai ((rd_T60 (rd_L7 l0 aa) ab).f3).length aj))).cell? _=some _ from ae));(try have bn:=fun (n_:Nat)=>(show ((((((w15.drewN n_).setCell ⟨ac,0,none⟩ (.int .u8 ((rd_T60 (rd_L7 l0 aa) ab).f0))).setCell ⟨ac,1,none⟩ (.int .i64 ((rd_T60 (rd_L7 l0 aa) ab).f1))).setCell ⟨ac,2,none⟩ (.bool ((rd_T60 (rd_L7 l0 aa) ab).f2))).setCell ⟨ac,3,none⟩ (.slice ai ((rd_T60 (rd_L7 l0 aa) ab).f3).length aj))).cell? _=some _ from af));(try have bo:=fun (n_:Nat)=>(show ((((((w15.drewN n_).setCell ⟨ac,0,none⟩ (.int .u8 ((rd_T60 (rd_L7 l0 aa) ab).f0))).setCell ⟨ac,1,none⟩ (.int .i64 ((rd_T60 (rd_L7 l0 aa) ab).f1))).setCell ⟨ac,2,none⟩ (.bool ((rd_T60 (rd_L7 l0 aa) ab).f2))).setCell ⟨ac,3,none⟩ (.slice ai ((rd_T60 (rd_L7 l0 aa) ab).f3).length aj))).cell? _=some _ from ag));(try have bp:=fun (n_:Nat)=>(show ((((((w15.drewN n_).setCell ⟨ac,0,none⟩ (.int .u8 ((rd_T60 (rd_L7 l0 aa) ab).f0))).setCell ⟨ac,1,none⟩ (.int .i64 ((rd_T60 (rd_L7 l0 aa) ab).f1))).setCell ⟨ac,2,none⟩ (.bool ((rd_T60 (rd_L7 l0 aa) ab).f2))).setCell ⟨ac,3,none⟩ (.slice ai ((rd_T60 (rd_L7 l0 aa) ab).f3).length aj))).cell? _=some _ from ah));clear hn213_0;clear hn213_1;clear hn213_2;clear hn213_3;replace aM:=eq_true aM;replace aN:=eq_true aN)|((with_reducible refine gate_dst (N:=8) rfl ?_);(try (refine gate_guard (by rfl) ?_;dsimp only));refine box_event ?hg (N:=8) ?hd (cs:=#[.int .u8 0,.int .i64 0,.bool false,.slice none 0 0]) (t:=60) ?hr ?_;(case hd=>rfl);(case hg=>rfl);(case hr=>first|(go_simp;done)|(go_simp;rfl));intro aE hg w17 hbox hb;have an:=zS (hbox);have b3:=bg HB hg;replace HB:=bs HB hb;have al:=zS ((by rw [hg];exact Nat.ne_of_lt (blk_lt (g:=ac) (o:=.cells #[.int .u8 ((rd_T60 (rd_L7 l0 aa) ab).f0),.int .i64 ((rd_T60 (rd_L7 l0 aa) ab).f1),.bool ((rd_T60 (rd_L7 l0 aa) ab).f2),.slice ai ((rd_T60 (rd_L7 l0 aa) ab).f3).length aj] 60 (0,0)) (kp ak rfl)):ac≠aE));have am:=zS ((by rw [hg];exact Nat.ne_of_gt (blk_lt (g:=ac) (o:=.cells #[.int .u8 ((rd_T60 (rd_L7 l0 aa) ab).f0),.int .i64 ((rd_T60 (rd_L7 l0 aa) ab).f1),.bool ((rd_T60 (rd_L7 l0 aa) ab).f2),.slice ai ((rd_T60 (rd_L7 l0 aa) ab).f3).length aj] 60 (0,0)) (kp ak rfl)):aE≠ac));replace ak:=zS (blk_below (g:=ac) (o:=.cells #[.int .u8 ((rd_T60 (rd_L7 l0 aa) ab).f0),.int .i64 ((rd_T60 (rd_L7 l0 aa) ab).f1),.bool ((rd_T60 (rd_L7 l0 aa) ab).f2),.slice ai ((rd_T60 (rd_L7 l0 aa) ab).f3).length aj] 60 (0,0)) (kp ak rfl) hb);clear hb hbox hg;have b4:=am.out;have b5:=al.out;have bq:=blkc4 an.out;have br:=blkf4 an.out)))
     (try simp only [Act.put,sA,sB,sC])
     go_cut [82] (fun v82 wc=>∃ (kq:Nat) (a6:Bool),v82 = .bool a6∧Sd (exergueref11_Same.j2 kq l0 l1 aa ab a6 ((rd_T60 (rd_L7 l0 aa) ab).f0) ((rd_T60 (rd_L7 l0 aa) ab).f1) ((rd_T60 (rd_L7 l0 aa) ab).f2) ((rd_T60 (rd_L7 l0 aa) ab).f3) ((rd_T60 (rd_L7 l1 aa) ab).f0) ((rd_T60 (rd_L7 l1 aa) ab).f1) ((rd_T60 (rd_L7 l1 aa) ab).f2) ((rd_T60 (rd_L7 l1 aa) ab).f3)=some r)∧Sd (kq≤k2)∧Sd (wc.heap[ac]?=some (.cells #[.int .u8 ((rd_T60 (rd_L7 l0 aa) ab).f0),.int .i64 ((rd_T60 (rd_L7 l0 aa) ab).f1),.bool ((rd_T60 (rd_L7 l0 aa) ab).f2),(.slice ai ((rd_T60 (rd_L7 l0 aa) ab).f3).length aj)] 60 (0,0)))∧Sd (wc.heap[aE]?=some (.cells #[.int .u8 ((rd_T60 (rd_L7 l1 aa) ab).f0),.int .i64 ((rd_T60 (rd_L7 l1 aa) ab).f1),.bool ((rd_T60 (rd_L7 l1 aa) ab).f2),(.slice a4 ((rd_T60 (rd_L7 l1 aa) ab).f3).length a5)] 60 (0,0)))∧Sd (Below w.heap.size w wc))
     case first=>
      have H:=cz.out
      clear cz
      by_cases c20:((rd_T60 (rd_L7 l0 aa) ab).f0)=((rd_T60 (rd_L7 l1 aa) ab).f0)
      rotate_left
      ·rw [if_neg c20] at H
       have aP:(((rd_T60 (rd_L7 l0 aa) ab).f0) == ((rd_T60 (rd_L7 l1 aa) ab).f0))=false:=zF c20
       have a8:(((rd_T60 (rd_L7 l0 aa) ab).f0) != ((rd_T60 (rd_L7 l1 aa) ab).f0))=true:=zI c20
       (first|rw [aP]|(simp only [i64_w,i32_w];rw [aP])|rw [a8]|skip)
       have H':=zS H
       clear H
       have cS:=al.out
       have cT:=am.out
       have b6:=blkc4 ak.out
       have b7:=blkf4 ak.out
       have b8:=blkc4 an.out
       have b9:=blkf4 an.out
       go_wp2
       repeat (go_quiet (fail);try go_wp2)
       go_meet
       case rel=>exact ⟨_,(true),(by first|rfl|(simp;done)|(simp [*];done)),H',⟨by have:=HK1.out;have:=HK2.out;first|omega|exact Nat.le_refl _⟩,⟨ko ak⟩,⟨kp an rfl⟩,⟨bQ HB⟩⟩
      rw [if_pos c20] at H
      have aP:(((rd_T60 (rd_L7 l0 aa) ab).f0) == ((rd_T60 (rd_L7 l1 aa) ab).f0))=true:=zH c20
      have a8:(((rd_T60 (rd_L7 l0 aa) ab).f0) != ((rd_T60 (rd_L7 l1 aa) ab).f0))=false:=zG c20
      clear c20
      (first|rw [aP]|(simp only [i64_w,i32_w];rw [aP])|rw [a8]|skip)
      by_cases c21:((rd_T60 (rd_L7 l0 aa) ab).f1)=((rd_T60 (rd_L7 l1 aa) ab).f1)
      rotate_left
      ·rw [if_neg c21] at H
       have bJ:(((rd_T60 (rd_L7 l0 aa) ab).f1) == ((rd_T60 (rd_L7 l1 aa) ab).f1))=false:=zF c21
       have bK:(((rd_T60 (rd_L7 l0 aa) ab).f1) != ((rd_T60 (rd_L7 l1 aa) ab).f1))=true:=zI c21
       have H':=zS H
       clear H
       have cU:=al.out
       have cV:=am.out
       have ca:=blkc4 ak.out
       have cc:=blkf4 ak.out
       have cd:=blkc4 an.out
       have ce:=blkf4 an.out
       go_wp2
       repeat (go_quiet (fail);try go_wp2)
       go_meet
       case rel=>exact ⟨_,(true),(by first|rfl|(simp;done)|(simp [*];done)),H',⟨by have:=HK1.out;have:=HK2.out;first|omega|exact Nat.le_refl _⟩,⟨ko ak⟩,⟨kp an rfl⟩,⟨bQ HB⟩⟩
      rw [if_pos c21] at H
      have bJ:(((rd_T60 (rd_L7 l0 aa) ab).f1) == ((rd_T60 (rd_L7 l1 aa) ab).f1))=true:=zH c21
      have bK:(((rd_T60 (rd_L7 l0 aa) ab).f1) != ((rd_T60 (rd_L7 l1 aa) ab).f1))=false:=zG c21
      clear c21
      by_cases c22:(((rd_T60 (rd_L7 l0 aa) ab).f2) != ((rd_T60 (rd_L7 l1 aa) ab).f2))=true
      ·rw [if_pos c22] at H
       have bL:(((rd_T60 (rd_L7 l0 aa) ab).f2) != ((rd_T60 (rd_L7 l1 aa) ab).f2))=true:=c22
       (try (have bM:decide (((rd_T60 (rd_L7 l0 aa) ab).f2)=((rd_T60 (rd_L7 l1 aa) ab).f2))=false:=by simpa using c22))
       (try (have bN:(((rd_T60 (rd_L7 l0 aa) ab).f2) == ((rd_T60 (rd_L7 l1 aa) ab).f2))=false:=by simpa using c22))
       (try (have cW:¬ (((rd_T60 (rd_L7 l0 aa) ab).f2)=((rd_T60 (rd_L7 l1 aa) ab).f2)):=by simpa using c22))
       clear c22
       have H':=zS H
       clear H
       have cX:=al.out
       have cY:=am.out
       have cf:=blkc4 ak.out
       have cg:=blkf4 ak.out
       have ch:=blkc4 an.out
       have ci:=blkf4 an.out
       go_wp2
       repeat (go_quiet (fail);try go_wp2)
       go_meet
       case rel=>exact ⟨_,(true),(by first|rfl|(simp;done)|(simp [*];done)),H',⟨by have:=HK1.out;have:=HK2.out;first|omega|exact Nat.le_refl _⟩,⟨ko ak⟩,⟨kp an rfl⟩,⟨bQ HB⟩⟩
      rw [if_neg c22] at H
      have bL:(((rd_T60 (rd_L7 l0 aa) ab).f2) != ((rd_T60 (rd_L7 l1 aa) ab).f2))=false:=by simpa using c22
      (try (have bM:decide (((rd_T60 (rd_L7 l0 aa) ab).f2)=((rd_T60 (rd_L7 l1 aa) ab).f2))=true:=by simpa using c22))
      (try (have bN:(((rd_T60 (rd_L7 l0 aa) ab).f2) == ((rd_T60 (rd_L7 l1 aa) ab).f2))=true:=by simpa using c22))
      clear c22
      have H':=zS H
      clear H
      have cZ:=al.out
      have da:=am.out
      have cj:=blkc4 ak.out
      have ck:=blkf4 ak.out
      have cl:=blkc4 an.out
      have cm:=blkf4 an.out
      go_wp2
      repeat (go_quiet (fail);try go_wp2)
      go_meet
      case rel=>exact ⟨_,(((((rd_T60 (rd_L7 l0 aa) ab).f3).length:Int) != (((rd_T60 (rd_L7 l1 aa) ab).f3).length:Int))),(by first|rfl|(simp;done)|(simp [*];done)),H',⟨by have:=HK1.out;have:=HK2.out;first|omega|exact Nat.le_refl _⟩,⟨ko ak⟩,⟨kp an rfl⟩,⟨bQ HB⟩⟩
     case rest=>
      clear cz
      try clear c1
      try clear c2
      try clear p2
      try clear q2
      try clear hx2
      try clear c3
      try clear bu
      try clear bv
      try clear bw
      try clear c4
      try clear bO
      try clear c5
      try clear cn
      try clear c6
      try clear co
      try clear c7
      try clear bP
      try clear bR
      try clear bS
      try clear c8
      try clear cC
      try clear c9
      try clear cD
      try clear c10
      try clear bx
      try clear c11
      try clear b0
      try clear c12
      try clear b1
      try clear c13
      try clear b2
      try clear c18
      try clear c20
      try clear aP
      try clear a8
      try clear p20
      try clear q20
      try clear cP
      try clear c21
      try clear bJ
      try clear bK
      try clear p21
      try clear q21
      try clear cQ
      try clear c22
      try clear bL
      try clear bM
      try clear bN
      try clear c23
      try clear c26
      try clear c29
      try clear c32
      try clear c34
      try clear bf
      try clear bq
      try clear cf
      try clear ch
      try clear cj
      try clear cl
      try clear ca
      try clear cd
      try clear b6
      try clear b8
      try clear bh
      try clear br
      try clear cg
      try clear ci
      try clear ck
      try clear cm
      try clear cc
      try clear ce
      try clear b7
      try clear b9
      try clear ap
      try clear au
      try clear aq
      try clear ax
      try clear aF
      try clear aG
      try clear aH
      try clear aI
      try clear ad
      try clear ae
      try clear af
      try clear ag
      try clear ah
      try clear p2
      try clear aQ
      try clear aS
      try clear a2
      try clear bB
      try clear bD
      try clear aK
      try clear aM
      try clear q2
      try clear aR
      try clear aT
      try clear a3
      try clear bC
      try clear bE
      try clear aL
      try clear aN
      obtain ⟨kq,a6,rfl,HA,HJ13,ak,an,HB⟩:=hcut
      cases kq with
      | zero=>exact absurd HA.out (by simp [exergueref11_Same.j2])
      | succ kj13=>
       have H:=HA.out
       clear HA
       simp only [exergueref11_Same.j2] at H
       by_cases c35:a6=true
       ·subst c35
        rw [if_pos rfl] at H
        obtain rfl:=zE H
        go_wp2
        repeat (go_quiet (fail);try go_wp2)
        go_ret
        exact ⟨by first|rfl|(simp <;> rfl)|(simp [*] <;> rfl),bQ HB⟩
       replace c35:=Bool.eq_false_iff.mpr c35
       subst c35
       rw [if_neg (show ¬ (false=true) by decide)] at H
       have H':=zS H
       clear H
       go_wp2
       repeat (go_quiet (fail);try go_wp2)
       go_loopg [9] kj13 (fun kq v9 w'=>∃ (ar:Int),v9 = .int .i64 ar∧Sd (exergueref11_Same.l2 kq l0 l1 aa ab ar ((rd_T60 (rd_L7 l0 aa) ab).f0) ((rd_T60 (rd_L7 l0 aa) ab).f1) ((rd_T60 (rd_L7 l0 aa) ab).f2) ((rd_T60 (rd_L7 l0 aa) ab).f3) ((rd_T60 (rd_L7 l1 aa) ab).f0) ((rd_T60 (rd_L7 l1 aa) ab).f1) ((rd_T60 (rd_L7 l1 aa) ab).f2) ((rd_T60 (rd_L7 l1 aa) ab).f3)=some r)∧Sd (kq≤kj13)∧Sd (w'.heap[ac]?=some (.cells #[.int .u8 ((rd_T60 (rd_L7 l0 aa) ab).f0),.int .i64 ((rd_T60 (rd_L7 l0 aa) ab).f1),.bool ((rd_T60 (rd_L7 l0 aa) ab).f2),(.slice ai ((rd_T60 (rd_L7 l0 aa) ab).f3).length aj)] 60 (0,0)))∧Sd (w'.heap[aE]?=some (.cells #[.int .u8 ((rd_T60 (rd_L7 l1 aa) ab).f0),.int .i64 ((rd_T60 (rd_L7 l1 aa) ab).f1),.bool ((rd_T60 (rd_L7 l1 aa) ab).f2),(.slice a4 ((rd_T60 (rd_L7 l1 aa) ab).f3).length a5)] 60 (0,0)))∧Sd (Below w.heap.size w w'))
       case atStart=>exact ⟨(0),(by first|rfl|(simp;done)|(simp [*];done)),H',⟨Nat.le_refl _⟩,⟨ko ak⟩,⟨ko an⟩,⟨bQ HB⟩⟩
       case round=>
        clear H'
        try clear c1
        try clear c2
        try clear p2
        try clear q2
        try clear hx2
        try clear c3
        try clear bu
        try clear bv
        try clear bw
        try clear c4
        try clear bO
        try clear c5
        try clear cn
        try clear c6
        try clear co
        try clear c7
        try clear bP
        try clear bR
        try clear bS
        try clear c8
        try clear cC
        try clear c9
        try clear cD
        try clear c10
        try clear bx
        try clear c11
        try clear b0
        try clear c12
        try clear b1
        try clear c13
        try clear b2
        try clear c18
        try clear c20
        try clear aP
        try clear a8
        try clear p20
        try clear q20
        try clear cP
        try clear c21
        try clear bJ
        try clear bK
        try clear p21
        try clear q21
        try clear cQ
        try clear c22
        try clear bL
        try clear bM
        try clear bN
        try clear c23
        try clear c26
        try clear c29
        try clear c32
        try clear c34
        try clear c35
        try clear bf
        try clear bq
        try clear cf
        try clear ch
        try clear cj
        try clear cl
        try clear ca
        try clear cd
        try clear b6
        try clear b8
        try clear bh
        try clear br
        try clear cg
        try clear ci
        try clear ck
        try clear cm
        try clear cc
        try clear ce
        try clear b7
        try clear b9
        try clear ap
        try clear au
        try clear aq
        try clear ax
        try clear aF
        try clear aG
        try clear aH
        try clear aI
        try clear ad
        try clear ae
        try clear af
        try clear ag
        try clear ah
        try clear p2
        try clear p20
        try clear aQ
        try clear aS
        try clear a2
        try clear bB
        try clear p21
        try clear bD
        try clear aK
        try clear aM
        try clear q2
        try clear q20
        try clear aR
        try clear aT
        try clear a3
        try clear bC
        try clear q21
        try clear bE
        try clear aL
        try clear aN
        obtain ⟨ar,rfl,HA,HK4,ak,an,HB⟩:=hrel
        cases gk with
        | zero=>exact absurd HA.out (by simp [exergueref11_Same.l2])
        | succ k4=>
         have H:=HA.out
         clear HA
         simp only [exergueref11_Same.l2] at H
         by_cases c36:ar<(((rd_T60 (rd_L7 l0 aa) ab).f3).length:Int)
         rotate_left
         ·rw [if_neg c36] at H
          have cF:=zD c36
          clear c36
          have H':=zS H
          clear H
          have db:=al.out
          have dc:=am.out
          have dd:=blkc4 ak.out
          have de:=blkf4 ak.out
          go_wp2
          repeat (go_quiet (fail);try go_wp2)
          go_roundg k4
          case measure=>have:=HK1.out;have:=HK2.out;have:=HJ13.out;have:=HK4.out;omega
          case rel=>exact ⟨(wrap64 (ab+1)),(by first|rfl|(simp;done)|(simp [*];done)),H',⟨by have:=HK1.out;have:=HK2.out;have:=HJ13.out;have:=HK4.out;omega⟩,⟨bQ HB⟩⟩
         rw [if_pos c36] at H
         have cF:=zC c36
         clear c36
         by_cases c37:0≤ar
         rotate_left
         ·rw [if_neg c37] at H
          exact absurd H (by simp)
         rw [if_pos c37] at H
         have df:=zC c37
         clear c37
         by_cases c38:ar<(((rd_T60 (rd_L7 l1 aa) ab).f3).length:Int)
         rotate_left
         ·rw [if_neg c38] at H
          exact absurd H (by simp)
         rw [if_pos c38] at H
         have dg:=zC c38
         clear c38
         by_cases c39:(!(((rd_T57 ((rd_T60 (rd_L7 l0 aa) ab).f3) ar).f0) == ((rd_T57 ((rd_T60 (rd_L7 l1 aa) ab).f3) ar).f0)) || (!(((rd_T57 ((rd_T60 (rd_L7 l0 aa) ab).f3) ar).f1) == ((rd_T57 ((rd_T60 (rd_L7 l1 aa) ab).f3) ar).f1))))=true
         ·rw [if_pos c39] at H
          have cG:(!(((rd_T57 ((rd_T60 (rd_L7 l0 aa) ab).f3) ar).f0) == ((rd_T57 ((rd_T60 (rd_L7 l1 aa) ab).f3) ar).f0)) || (!(((rd_T57 ((rd_T60 (rd_L7 l0 aa) ab).f3) ar).f1) == ((rd_T57 ((rd_T60 (rd_L7 l1 aa) ab).f3) ar).f1))))=true:=c39
          clear c39
          obtain rfl:=zE H
          have dh:=al.out
          have di:=am.out
          have dj:=blkc4 ak.out
          have dk:=blkf4 ak.out
          have a9:0≤(ar:Int):=zB (by first|(with_reducible assumption)|assumption)
          have ba:ar<(((rd_T60 (rd_L7 l0 aa) ab).f3).length:Int):=zB (by first|(with_reducible assumption)|assumption)
          obtain ⟨cH,cA,ay,az⟩:=at_T57 be.out ar a9 ba
          cases cA
          replace ay:=(HB.out.cell (World.block_lt_of_cell? w _ ay)).trans ay
          replace az:=(HB.out.cell (World.block_lt_of_cell? w _ az)).trans az
          replace a9:=eq_true a9
          replace ba:=eq_true ba
          have dl:=blkc4 an.out
          have dm:=blkf4 an.out
          have bb:0≤(ar:Int):=zB (by first|(with_reducible assumption)|assumption)
          have bc:ar<(((rd_T60 (rd_L7 l1 aa) ab).f3).length:Int):=zB (by first|(with_reducible assumption)|assumption)
          obtain ⟨cI,cB,aA,aB⟩:=at_T57 aO.out ar bb bc
          cases cB
          replace aA:=(HB.out.cell (World.block_lt_of_cell? w _ aA)).trans aA
          replace aB:=(HB.out.cell (World.block_lt_of_cell? w _ aB)).trans aB
          replace bb:=eq_true bb
          replace bc:=eq_true bc
          go_wp2
          repeat (go_quiet (fail);try go_wp2)
          go_ret
          exact ⟨by first|rfl|(simp <;> rfl)|(simp [*] <;> rfl),bQ HB⟩
         rw [if_neg c39] at H
         have cG:(!(((rd_T57 ((rd_T60 (rd_L7 l0 aa) ab).f3) ar).f0) == ((rd_T57 ((rd_T60 (rd_L7 l1 aa) ab).f3) ar).f0)) || (!(((rd_T57 ((rd_T60 (rd_L7 l0 aa) ab).f3) ar).f1) == ((rd_T57 ((rd_T60 (rd_L7 l1 aa) ab).f3) ar).f1))))=false:=by simpa using c39
         clear c39
         have H':=zS H
         clear H
         have dn:=al.out
         have dp:=am.out
         have dq:=blkc4 ak.out
         have dr:=blkf4 ak.out
         have a9:0≤(ar:Int):=zB (by first|(with_reducible assumption)|assumption)
         have ba:ar<(((rd_T60 (rd_L7 l0 aa) ab).f3).length:Int):=zB (by first|(with_reducible assumption)|assumption)
         obtain ⟨cH,cA,ay,az⟩:=at_T57 be.out ar a9 ba
         cases cA
         replace ay:=(HB.out.cell (World.block_lt_of_cell? w _ ay)).trans ay
         replace az:=(HB.out.cell (World.block_lt_of_cell? w _ az)).trans az
         replace a9:=eq_true a9
         replace ba:=eq_true ba
         have dt:=blkc4 an.out
         have du:=blkf4 an.out
         have bb:0≤(ar:Int):=zB (by first|(with_reducible assumption)|assumption)
         have bc:ar<(((rd_T60 (rd_L7 l1 aa) ab).f3).length:Int):=zB (by first|(with_reducible assumption)|assumption)
         obtain ⟨cI,cB,aA,aB⟩:=at_T57 aO.out ar bb bc
         cases cB
         replace aA:=(HB.out.cell (World.block_lt_of_cell? w _ aA)).trans aA
         replace aB:=(HB.out.cell (World.block_lt_of_cell? w _ aB)).trans aB
         replace bb:=eq_true bb
         replace bc:=eq_true bc
         go_wp2
         repeat (go_quiet (fail);try go_wp2)
         go_roundg k4
         case measure=>have:=HK1.out;have:=HK2.out;have:=HJ13.out;have:=HK4.out;omega
         case rel=>exact ⟨(wrap64 (ar+1)),(by first|rfl|(simp;done)|(simp [*];done)),H',⟨by have:=HK1.out;have:=HK2.out;have:=HJ13.out;have:=HK4.out;omega⟩,⟨ko ak⟩,⟨ko an⟩,⟨bQ HB⟩⟩
end Go.Proofs.YtgfajgkjbckkgaaGreatDoor.PZ
end
end
