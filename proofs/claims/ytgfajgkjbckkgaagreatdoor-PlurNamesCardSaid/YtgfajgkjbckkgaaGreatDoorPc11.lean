/- Texts of this seat, joined. Conditions: none beyond each statement's own. -/
import Derived.Test.YtgfajgkjbckkgaaGreatDoorPc09
set_option linter.all false
section
noncomputable section
namespace Go.Proofs.YtgfajgkjbckkgaaGreatDoor.PZ
open Go.RowKit Go.Proofs.YtgfajgkjbckkgaaGreatDoorW.PrintWords Go.Proofs.YtgfajgkjbckkgaaGreatDoorW.PrintLast Go.Proofs.YtgfajgkjbckkgaaGreatDoorW.PrintMore
attribute [local go_sem] max2_int min2_int max_two min_two max_three min_three max_four min_four   -- for this text's walks alone
mutual
def exergueref11_Text.l0:Nat→List (List (S60))→ByteArray→Int→Option (ByteArray)
 | 0,_,_,_=>none
 | k+1,x0,x3,x4=>if x4<(x0.length:Int) then (if x4>0 then (if x3.size+4≤9223372036854775807 then (exergueref11_Text.j1 k x0 (x3 ++ (⟨#[32,111,114,32]⟩:ByteArray)) x4) else (none)) else (exergueref11_Text.j1 k x0 x3 x4)) else (some x3)
def exergueref11_Text.j1:Nat→List (List (S60))→ByteArray→Int→Option (ByteArray)
 | 0,_,_,_=>none
 | k+1,x0,x3,x4=>exergueref11_Text.l1 k x0 x3 x4 0
def exergueref11_Text.l1:Nat→List (List (S60))→ByteArray→Int→Int→Option (ByteArray)
 | 0,_,_,_,_=>none
 | k+1,x0,x3,x4,x5=>if 0≤x4 then (if x4<(x0.length:Int) then (if x5<((rd_L7 x0 x4).length:Int) then (if 0≤x5 then (if x5>0 then (if x3.size+5≤9223372036854775807 then (exergueref11_Text.j3 k x0 (x3 ++ (⟨#[32,97,110,100,32]⟩:ByteArray)) x4 x5 ((rd_T60 (rd_L7 x0 x4) x5).f0) ((rd_T60 (rd_L7 x0 x4) x5).f1) ((rd_T60 (rd_L7 x0 x4) x5).f2) ((rd_T60 (rd_L7 x0 x4) x5).f3)) else (none)) else (exergueref11_Text.j3 k x0 x3 x4 x5 ((rd_T60 (rd_L7 x0 x4) x5).f0) ((rd_T60 (rd_L7 x0 x4) x5).f1) ((rd_T60 (rd_L7 x0 x4) x5).f2) ((rd_T60 (rd_L7 x0 x4) x5).f3))) else (none)) else (exergueref11_Text.l0 k x0 x3 (wrap64 (x4+1)))) else (none)) else (none)
def exergueref11_Text.j3:Nat→List (List (S60))→ByteArray→Int→Int→Int→Int→Bool→List (S57)→Option (ByteArray)
 | 0,_,_,_,_,_,_,_,_=>none
 | k+1,x0,x3,x4,x5,al,ak,am,ai=>(some (([al]:List Int):List Int)).bind fun aD=>(if x3.size+(strOfNums aD).size≤9223372036854775807 then (if ak=0 then (exergueref11_Text.j4 k x0 (x3 ++ (strOfNums aD)) x4 x5 al ak am ai) else (if (x3 ++ (strOfNums aD)).size+3≤9223372036854775807 then ((exergueref05_Number.f k ak).bind fun aP=>(if ((x3 ++ (strOfNums aD)) ++ (⟨#[32,37,32]⟩:ByteArray)).size+aP.size≤9223372036854775807 then (exergueref11_Text.j4 k x0 (((x3 ++ (strOfNums aD)) ++ (⟨#[32,37,32]⟩:ByteArray)) ++ aP) x4 x5 al ak am ai) else (none))) else (none))) else (none))
def exergueref11_Text.j4:Nat→List (List (S60))→ByteArray→Int→Int→Int→Int→Bool→List (S57)→Option (ByteArray)
 | 0,_,_,_,_,_,_,_,_=>none
 | k+1,x0,x3,x4,x5,al,ak,am,ai=>if am=true then (if x3.size+4≤9223372036854775807 then (exergueref11_Text.j5 k x0 (x3 ++ (⟨#[32,33,61,32]⟩:ByteArray)) x4 x5 al ak am ai) else (none)) else (if x3.size+3≤9223372036854775807 then (exergueref11_Text.j5 k x0 (x3 ++ (⟨#[32,61,32]⟩:ByteArray)) x4 x5 al ak am ai) else (none))
def exergueref11_Text.j5:Nat→List (List (S60))→ByteArray→Int→Int→Int→Int→Bool→List (S57)→Option (ByteArray)
 | 0,_,_,_,_,_,_,_,_=>none
 | k+1,x0,x3,x4,x5,al,ak,am,ai=>exergueref11_Text.l2 k x0 x3 x4 x5 0 al ak am ai
def exergueref11_Text.l2:Nat→List (List (S60))→ByteArray→Int→Int→Int→Int→Int→Bool→List (S57)→Option (ByteArray)
 | 0,_,_,_,_,_,_,_,_,_=>none
 | k+1,x0,x3,x4,x5,x7,al,ak,am,ai=>if x7<(ai.length:Int) then (if x7>0 then (if x3.size+1≤9223372036854775807 then (exergueref11_Text.j7 k x0 (x3 ++ (⟨#[44]⟩:ByteArray)) x4 x5 x7 al ak am ai) else (none)) else (exergueref11_Text.j7 k x0 x3 x4 x5 x7 al ak am ai)) else (exergueref11_Text.l1 k x0 x3 x4 (wrap64 (x5+1)))
def exergueref11_Text.j7:Nat→List (List (S60))→ByteArray→Int→Int→Int→Int→Int→Bool→List (S57)→Option (ByteArray)
 | 0,_,_,_,_,_,_,_,_,_=>none
 | k+1,x0,x3,x4,x5,x7,al,ak,am,ai=>if 0≤x7 then (if x7<(ai.length:Int) then ((exergueref05_Number.f k ((rd_T57 ai x7).f0)).bind fun ay=>(if x3.size+ay.size≤9223372036854775807 then (if ((rd_T57 ai x7).f1)=((rd_T57 ai x7).f0) then (exergueref11_Text.l2 k x0 (x3 ++ ay) x4 x5 (wrap64 (x7+1)) al ak am ai) else (if (x3 ++ ay).size+2≤9223372036854775807 then ((exergueref05_Number.f k ((rd_T57 ai x7).f1)).bind fun a5=>(if ((x3 ++ ay) ++ (⟨#[46,46]⟩:ByteArray)).size+a5.size≤9223372036854775807 then (exergueref11_Text.l2 k x0 (((x3 ++ ay) ++ (⟨#[46,46]⟩:ByteArray)) ++ a5) x4 x5 (wrap64 (x7+1)) al ak am ai) else (none))) else (none))) else (none))) else (none)) else (none)
end
def exergueref11_Text.f (k:Nat)(l0:List (List (S60))):Option (ByteArray):=exergueref11_Text.l0 k l0 (⟨#[]⟩:ByteArray) 0
theorem exergueref11_Text.mono_l:∀ k,(∀ y0 y1 y2,LeO (exergueref11_Text.l0 k y0 y1 y2) (exergueref11_Text.l0 (k+1) y0 y1 y2))∧(∀ y0 y1 y2,LeO (exergueref11_Text.j1 k y0 y1 y2) (exergueref11_Text.j1 (k+1) y0 y1 y2))∧(∀ y0 y1 y2 y3,LeO (exergueref11_Text.l1 k y0 y1 y2 y3) (exergueref11_Text.l1 (k+1) y0 y1 y2 y3))∧(∀ y0 y1 y2 y3 y4 y5 y6 y7,LeO (exergueref11_Text.j3 k y0 y1 y2 y3 y4 y5 y6 y7) (exergueref11_Text.j3 (k+1) y0 y1 y2 y3 y4 y5 y6 y7))∧(∀ y0 y1 y2 y3 y4 y5 y6 y7,LeO (exergueref11_Text.j4 k y0 y1 y2 y3 y4 y5 y6 y7) (exergueref11_Text.j4 (k+1) y0 y1 y2 y3 y4 y5 y6 y7))∧(∀ y0 y1 y2 y3 y4 y5 y6 y7,LeO (exergueref11_Text.j5 k y0 y1 y2 y3 y4 y5 y6 y7) (exergueref11_Text.j5 (k+1) y0 y1 y2 y3 y4 y5 y6 y7))∧(∀ y0 y1 y2 y3 y4 y5 y6 y7 y8,LeO (exergueref11_Text.l2 k y0 y1 y2 y3 y4 y5 y6 y7 y8) (exergueref11_Text.l2 (k+1) y0 y1 y2 y3 y4 y5 y6 y7 y8))∧(∀ y0 y1 y2 y3 y4 y5 y6 y7 y8,LeO (exergueref11_Text.j7 k y0 y1 y2 y3 y4 y5 y6 y7 y8) (exergueref11_Text.j7 (k+1) y0 y1 y2 y3 y4 y5 y6 y7 y8))
 | 0=>⟨fun _ _ _ r h=>by simp [exergueref11_Text.l0] at h,fun _ _ _ r h=>by simp [exergueref11_Text.j1] at h,fun _ _ _ _ r h=>by simp [exergueref11_Text.l1] at h,fun _ _ _ _ _ _ _ _ r h=>by simp [exergueref11_Text.j3] at h,fun _ _ _ _ _ _ _ _ r h=>by simp [exergueref11_Text.j4] at h,fun _ _ _ _ _ _ _ _ r h=>by simp [exergueref11_Text.j5] at h,fun _ _ _ _ _ _ _ _ _ r h=>by simp [exergueref11_Text.l2] at h,fun _ _ _ _ _ _ _ _ _ r h=>by simp [exergueref11_Text.j7] at h⟩
 | k+1=>by
  obtain ⟨ih0,ih1,ih2,ih3,ih4,ih5,ih6,ih7⟩:=exergueref11_Text.mono_l k
  refine ⟨?_,?_,?_,?_,?_,?_,?_,?_⟩
  ·intro y0 y1 y2
   unfold exergueref11_Text.l0
   repeat' first|(with_reducible first|apply ih0|apply ih1|apply ih2|apply ih3|apply ih4|apply ih5|apply ih6|apply ih7|apply exergueref05_Number.mono|apply LeO.refl|apply LeO.none|refine LeO.ite ?_ ?_|refine LeO.bind ?_ (fun _=>?_))|apply ih0|apply ih1|apply ih2|apply ih3|apply ih4|apply ih5|apply ih6|apply ih7|apply exergueref05_Number.mono|apply LeO.none
  ·intro y0 y1 y2
   unfold exergueref11_Text.j1
   repeat' first|(with_reducible first|apply ih0|apply ih1|apply ih2|apply ih3|apply ih4|apply ih5|apply ih6|apply ih7|apply exergueref05_Number.mono|apply LeO.refl|apply LeO.none|refine LeO.ite ?_ ?_|refine LeO.bind ?_ (fun _=>?_))|apply ih0|apply ih1|apply ih2|apply ih3|apply ih4|apply ih5|apply ih6|apply ih7|apply exergueref05_Number.mono|apply LeO.none
  ·intro y0 y1 y2 y3
   unfold exergueref11_Text.l1
   repeat' first|(with_reducible first|apply ih0|apply ih1|apply ih2|apply ih3|apply ih4|apply ih5|apply ih6|apply ih7|apply exergueref05_Number.mono|apply LeO.refl|apply LeO.none|refine LeO.ite ?_ ?_|refine LeO.bind ?_ (fun _=>?_))|apply ih0|apply ih1|apply ih2|apply ih3|apply ih4|apply ih5|apply ih6|apply ih7|apply exergueref05_Number.mono|apply LeO.none
  ·intro y0 y1 y2 y3 y4 y5 y6 y7
   unfold exergueref11_Text.j3
   repeat' first|(with_reducible first|apply ih0|apply ih1|apply ih2|apply ih3|apply ih4|apply ih5|apply ih6|apply ih7|apply exergueref05_Number.mono|apply LeO.refl|apply LeO.none|refine LeO.ite ?_ ?_|refine LeO.bind ?_ (fun _=>?_))|apply ih0|apply ih1|apply ih2|apply ih3|apply ih4|apply ih5|apply ih6|apply ih7|apply exergueref05_Number.mono|apply LeO.none
  ·intro y0 y1 y2 y3 y4 y5 y6 y7
   unfold exergueref11_Text.j4
   repeat' first|(with_reducible first|apply ih0|apply ih1|apply ih2|apply ih3|apply ih4|apply ih5|apply ih6|apply ih7|apply exergueref05_Number.mono|apply LeO.refl|apply LeO.none|refine LeO.ite ?_ ?_|refine LeO.bind ?_ (fun _=>?_))|apply ih0|apply ih1|apply ih2|apply ih3|apply ih4|apply ih5|apply ih6|apply ih7|apply exergueref05_Number.mono|apply LeO.none
  ·intro y0 y1 y2 y3 y4 y5 y6 y7
   unfold exergueref11_Text.j5
   repeat' first|(with_reducible first|apply ih0|apply ih1|apply ih2|apply ih3|apply ih4|apply ih5|apply ih6|apply ih7|apply exergueref05_Number.mono|apply LeO.refl|apply LeO.none|refine LeO.ite ?_ ?_|refine LeO.bind ?_ (fun _=>?_))|apply ih0|apply ih1|apply ih2|apply ih3|apply ih4|apply ih5|apply ih6|apply ih7|apply exergueref05_Number.mono|apply LeO.none
  ·intro y0 y1 y2 y3 y4 y5 y6 y7 y8
   unfold exergueref11_Text.l2
   repeat' first|(with_reducible first|apply ih0|apply ih1|apply ih2|apply ih3|apply ih4|apply ih5|apply ih6|apply ih7|apply exergueref05_Number.mono|apply LeO.refl|apply LeO.none|refine LeO.ite ?_ ?_|refine LeO.bind ?_ (fun _=>?_))|apply ih0|apply ih1|apply ih2|apply ih3|apply ih4|apply ih5|apply ih6|apply ih7|apply exergueref05_Number.mono|apply LeO.none
  ·intro y0 y1 y2 y3 y4 y5 y6 y7 y8
   unfold exergueref11_Text.j7
   repeat' first|(with_reducible first|apply ih0|apply ih1|apply ih2|apply ih3|apply ih4|apply ih5|apply ih6|apply ih7|apply exergueref05_Number.mono|apply LeO.refl|apply LeO.none|refine LeO.ite ?_ ?_|refine LeO.bind ?_ (fun _=>?_))|apply ih0|apply ih1|apply ih2|apply ih3|apply ih4|apply ih5|apply ih6|apply ih7|apply exergueref05_Number.mono|apply LeO.none
theorem exergueref11_Text.mono:∀ a0 k,LeO (exergueref11_Text.f k a0) (exergueref11_Text.f (k+1) a0):=by
 intro a0 k
 obtain ⟨ih0,ih1,ih2,ih3,ih4,ih5,ih6,ih7⟩:=exergueref11_Text.mono_l k
 unfold exergueref11_Text.f
 repeat' first|(with_reducible first|apply ih0|apply ih1|apply ih2|apply ih3|apply ih4|apply ih5|apply ih6|apply ih7|apply exergueref05_Number.mono|apply LeO.refl|apply LeO.none|refine LeO.ite ?_ ?_|refine LeO.bind ?_ (fun _=>?_))|apply ih0|apply ih1|apply ih2|apply ih3|apply ih4|apply ih5|apply ih6|apply ih7|apply exergueref05_Number.mono|apply LeO.none
set_option maxHeartbeats 8000000 in
set_option maxRecDepth 100000 in
theorem exergueref11_Text.calls (k:Nat)(A0:Option Addr)(c0:Nat)(l0:List (List (S60)))(r:ByteArray)(w:World)(hr0:Kd.C (Kd.slice 60 k60) w A0 l0.length l0)(hc0:l0.length≤c0)(h:exergueref11_Text.f k l0=some r) :
  Calls Tryz.prog 36 #[.slice A0 l0.length c0] w fun e w'=>e = .returned (.string r)∧Below w.heap.size w w':=by
 have hu60:=Tryz.underlying60
 have HR0:=zS hr0
 have HC0:=zS hc0
 clear hr0 hc0
 have HB:=zS (Below.refl w.heap.size w)
 have H:(exergueref11_Text.l0 k l0 (⟨#[]⟩:ByteArray) 0)=some r:=h
 clear h
 have H':=zS H
 clear H
 go_enter Tryz.func36,Tryz.ntmps36
 go_wp2
 repeat (go_quiet (fail);try go_wp2)
 go_loopg [3,4] k (fun kq v3 v4 w'=>∃ (bo:ByteArray) (aa:Int),v3 = .string bo∧v4 = .int .i64 aa∧Sd (exergueref11_Text.l0 kq l0 bo aa=some r)∧Sd (kq≤k)∧Sd (Below w.heap.size w w'))
 case atStart=>exact ⟨((⟨#[]⟩:ByteArray)),(0),(by first|rfl|(simp;done)|(simp [*];done)),(by first|rfl|(simp;done)|(simp [*];done)),H',⟨Nat.le_refl _⟩,⟨bQ HB⟩⟩
 case round=>
  clear H'
  obtain ⟨bo,aa,rfl,rfl,HA,HK1,HB⟩:=hrel
  cases gk with
  | zero=>exact absurd HA.out (by simp [exergueref11_Text.l0])
  | succ k1=>
   have H:=HA.out
   clear HA
   simp only [exergueref11_Text.l0] at H
   by_cases c2:aa<(l0.length:Int)
   rotate_left
   ·rw [if_neg c2] at H
    have ba:=zD c2
    clear c2
    obtain rfl:=zE H
    go_wp2
    repeat (go_quiet (fail);try go_wp2)
    go_ret
    exact ⟨by first|rfl|(simp <;> rfl)|(simp [*] <;> rfl),bQ HB⟩
   rw [if_pos c2] at H
   have ba:=zC c2
   clear c2
   have HC3:=zS H
   clear H
   go_upto_if 15 with (fail)
   repeat (go_quiet (fail);go_upto_if 15 with (fail))
   go_cut [3] (fun v3 wc=>∃ (kq:Nat) (b0:ByteArray),v3 = .string b0∧Sd (exergueref11_Text.j1 kq l0 b0 aa=some r)∧Sd (kq≤k1)∧Sd (Below w.heap.size w wc))
   case first=>
    have H:=HC3.out
    clear HC3
    by_cases c4:aa>0
    ·rw [if_pos c4] at H
     have aR:decide (0<aa)=true:=zC c4
     clear c4
     (first|rw [aR]|(simp only [i64_w,i32_w];rw [aR])|rw [cD]|skip)
     by_cases c5:bo.size+4≤9223372036854775807
     ·rw [if_pos c5] at H
      have bp:=eq_true c5
      have bq:=zC c5
      try have br:(9223372036854775807<bo.size+4)=False:=eq_false (Nat.not_lt.2 c5)
      have H':=zS H
      clear H
      go_wp2
      repeat (go_quiet (fail);try go_wp2)
      go_meet
      case rel=>exact ⟨_,(bo ++ (⟨#[32,111,114,32]⟩:ByteArray)),(by first|rfl|(simp;done)|(simp [*];done)),H',⟨by have:=HK1.out;first|omega|exact Nat.le_refl _⟩,⟨bQ HB⟩⟩
     rw [if_neg c5] at H
     exact absurd H (by simp)
    rw [if_neg c4] at H
    have aR:decide (0<aa)=false:=zD c4
    clear c4
    (first|rw [aR]|(simp only [i64_w,i32_w];rw [aR])|rw [cD]|skip)
    have H':=zS H
    clear H
    go_wp2
    repeat (go_quiet (fail);try go_wp2)
    go_meet
    case rel=>exact ⟨_,(bo),(by first|rfl|(simp;done)|(simp [*];done)),H',⟨by have:=HK1.out;first|omega|exact Nat.le_refl _⟩,⟨bQ HB⟩⟩
   case rest=>
    clear HC3
    try clear c2
    try clear ba
    try clear p2
    try clear c3
    try clear c4
    try clear aR
    try clear c5
    try clear bp
    try clear bq
    try clear br
    obtain ⟨kq,b0,rfl,HA,HJ2,HB⟩:=hcut
    cases kq with
    | zero=>exact absurd HA.out (by simp [exergueref11_Text.j1])
    | succ kj2=>
     have H:=HA.out
     clear HA
     simp only [exergueref11_Text.j1] at H
     have H':=zS H
     clear H
     go_wp2
     repeat (go_quiet (fail);try go_wp2)
     go_loopg [3,5] kj2 (fun kq v3 v5 w'=>∃ (bb:ByteArray) (ab:Int),v3 = .string bb∧v5 = .int .i64 ab∧Sd (exergueref11_Text.l1 kq l0 bb aa ab=some r)∧Sd (kq≤kj2)∧Sd (Below w.heap.size w w'))
     case atStart=>exact ⟨(b0),(0),(by first|rfl|(simp;done)|(simp [*];done)),(by first|rfl|(simp;done)|(simp [*];done)),H',⟨Nat.le_refl _⟩,⟨bQ HB⟩⟩
     case round=>
      clear H'
      try clear c2
      try clear ba
      try clear p2
      try clear c3
      try clear c4
      try clear aR
      try clear c5
      try clear bp
      try clear bq
      try clear br
      try clear p2
      obtain ⟨bb,ab,rfl,rfl,HA,HK3,HB⟩:=hrel
      cases gk with
      | zero=>exact absurd HA.out (by simp [exergueref11_Text.l1])
      | succ k3=>
       have H:=HA.out
       clear HA
       simp only [exergueref11_Text.l1] at H
       by_cases c6:0≤aa
       rotate_left
       ·rw [if_neg c6] at H
        exact absurd H (by simp)
       rw [if_pos c6] at H
       have bN:=zC c6
       clear c6
       by_cases c7:aa<(l0.length:Int)
       rotate_left
       ·rw [if_neg c7] at H
        exact absurd H (by simp)
       rw [if_pos c7] at H
       have bO:=zC c7
       clear c7
       by_cases c8:ab<((rd_L7 l0 aa).length:Int)
       rotate_left
       ·rw [if_neg c8] at H
        have bM:=zD c8
        clear c8
        have H':=zS H
        clear H
        have aS:0≤(aa:Int):=zB (by first|(with_reducible assumption)|assumption)
        have aT:aa<(l0.length:Int):=zB (by first|(with_reducible assumption)|assumption)
        obtain ⟨b4,cc,cd,ce,an,hl224_0,hi224_0⟩:=at_L7 HR0.out aa aS aT
        cases ce
        replace an:=(HB.out.cell (World.block_lt_of_cell? w _ an)).trans an
        have b1:=zS hi224_0
        have b2:=zS hl224_0
        clear hi224_0 hl224_0
        replace aS:=eq_true aS
        replace aT:=eq_true aT
        go_wp2
        repeat (go_quiet (fail);try go_wp2)
        go_roundg k3
        case measure=>have:=HK1.out;have:=HJ2.out;have:=HK3.out;omega
        case rel=>exact ⟨(bb),(wrap64 (aa+1)),(by first|rfl|(simp;done)|(simp [*];done)),(by first|rfl|(simp;done)|(simp [*];done)),H',⟨by have:=HK1.out;have:=HJ2.out;have:=HK3.out;omega⟩,⟨bQ HB⟩⟩
       rw [if_pos c8] at H
       have bM:=zC c8
       clear c8
       by_cases c9:0≤ab
       rotate_left
       ·rw [if_neg c9] at H
        exact absurd H (by simp)
       rw [if_pos c9] at H
       have bP:=zC c9
       clear c9
       have cf:=zS H
       clear H
       have aS:0≤(aa:Int):=zB (by first|(with_reducible assumption)|assumption)
       have aT:aa<(l0.length:Int):=zB (by first|(with_reducible assumption)|assumption)
       obtain ⟨b4,cc,cd,ce,an,hl224_0,hi224_0⟩:=at_L7 HR0.out aa aS aT
       cases ce
       replace an:=(HB.out.cell (World.block_lt_of_cell? w _ an)).trans an
       have b1:=zS hi224_0
       have b2:=zS hl224_0
       clear hi224_0 hl224_0
       replace aS:=eq_true aS
       replace aT:=eq_true aT
       have bc:0≤(aa:Int):=zB (by first|(with_reducible assumption)|assumption)
       have bd:aa<(l0.length:Int):=zB (by first|(with_reducible assumption)|assumption)
       obtain ⟨cl,cE,cF,cG,ar,hl225_0,hi225_0⟩:=at_L7 HR0.out aa bc bd
       obtain rfl:b4=cl:=(by injection cG)
       replace ar:=(HB.out.cell (World.block_lt_of_cell? w _ ar)).trans ar
       have b3:=zS hi225_0
       have cB:=zS hl225_0
       clear hi225_0 hl225_0
       replace bc:=eq_true bc
       replace bd:=eq_true bd
       try (have ea_:=zE (an.symm.trans ar);injection ea_ with ea_ en_ ec_;subst ea_;subst ec_;clear en_)
       have be:0≤(ab:Int):=zB (by first|(with_reducible assumption)|assumption)
       have bf:ab<((rd_L7 l0 aa).length:Int):=zB (by first|(with_reducible assumption)|assumption)
       obtain ⟨cI,aU,aV,cH,az,aA,aB,aC,hl226_3,hi226_3⟩:=at_T60 b3.out ab be bf
       cases cH
       replace az:=(HB.out.cell (World.block_lt_of_cell? w _ az)).trans az
       replace aA:=(HB.out.cell (World.block_lt_of_cell? w _ aA)).trans aA
       replace aB:=(HB.out.cell (World.block_lt_of_cell? w _ aB)).trans aB
       replace aC:=(HB.out.cell (World.block_lt_of_cell? w _ aC)).trans aC
       have aj:=zS hi226_3
       have cC:=zS hl226_3
       clear hi226_3 hl226_3
       replace be:=eq_true be
       replace bf:=eq_true bf
       go_upto_if 35 with (first|((with_reducible refine gate_dst (N:=6) rfl ?_);refine box_event ?hg (N:=6) ?hd (cs:=#[.int .u8 0,.int .i64 0,.bool false,.slice none 0 0]) (t:=60) ?hr ?_;(case hd=>rfl);(case hg=>rfl);(case hr=>first|(go_simp;done)|(go_simp;rfl));intro aW hg w11 hbox hb;have ac:=zS (hbox);have b5:=bg HB hg;replace HB:=bs HB hb;clear hb hbox hg;have aX:=blkc4 ac.out;have aY:=blkf4 ac.out))
       repeat (go_quiet (first|((with_reducible refine gate_dst (N:=6) rfl ?_);refine box_event ?hg (N:=6) ?hd (cs:=#[.int .u8 0,.int .i64 0,.bool false,.slice none 0 0]) (t:=60) ?hr ?_;(case hd=>rfl);(case hg=>rfl);(case hr=>first|(go_simp;done)|(go_simp;rfl));intro aW hg w11 hbox hb;have ac:=zS (hbox);have b5:=bg HB hg;replace HB:=bs HB hb;clear hb hbox hg;have aX:=blkc4 ac.out;have aY:=blkf4 ac.out));go_upto_if 35 with (first|((with_reducible refine gate_dst (N:=6) rfl ?_);refine box_event ?hg (N:=6) ?hd (cs:=#[.int .u8 0,.int .i64 0,.bool false,.slice none 0 0]) (t:=60) ?hr ?_;(case hd=>rfl);(case hg=>rfl);(case hr=>first|(go_simp;done)|(go_simp;rfl));intro aW hg w11 hbox hb;have ac:=zS (hbox);have b5:=bg HB hg;replace HB:=bs HB hb;clear hb hbox hg;have aX:=blkc4 ac.out;have aY:=blkf4 ac.out)))
       (try simp only [Act.put,sA,sB,sC])
       go_cut [3] (fun v3 wc=>∃ (kq:Nat) (aH:ByteArray),v3 = .string aH∧Sd (exergueref11_Text.j3 kq l0 aH aa ab ((rd_T60 (rd_L7 l0 aa) ab).f0) ((rd_T60 (rd_L7 l0 aa) ab).f1) ((rd_T60 (rd_L7 l0 aa) ab).f2) ((rd_T60 (rd_L7 l0 aa) ab).f3)=some r)∧Sd (kq≤k3)∧Sd (wc.heap[aW]?=some (.cells #[.int .u8 ((rd_T60 (rd_L7 l0 aa) ab).f0),.int .i64 ((rd_T60 (rd_L7 l0 aa) ab).f1),.bool ((rd_T60 (rd_L7 l0 aa) ab).f2),(.slice aU ((rd_T60 (rd_L7 l0 aa) ab).f3).length aV)] 60 (0,0)))∧Sd (Below w.heap.size w wc))
       case first=>
        have H:=cf.out
        clear cf
        by_cases c13:ab>0
        ·rw [if_pos c13] at H
         have aM:decide (0<ab)=true:=zC c13
         clear c13
         (first|rw [aM]|(simp only [i64_w,i32_w];rw [aM])|rw [cm]|skip)
         by_cases c14:bb.size+5≤9223372036854775807
         ·rw [if_pos c14] at H
          have bh:=eq_true c14
          have bi:=zC c14
          try have bj:(9223372036854775807<bb.size+5)=False:=eq_false (Nat.not_lt.2 c14)
          have H':=zS H
          clear H
          go_wp2
          repeat (go_quiet (fail);try go_wp2)
          go_meet
          case rel=>exact ⟨_,(bb ++ (⟨#[32,97,110,100,32]⟩:ByteArray)),(by first|rfl|(simp;done)|(simp [*];done)),H',⟨by have:=HK1.out;have:=HJ2.out;have:=HK3.out;first|omega|exact Nat.le_refl _⟩,⟨kp ac rfl⟩,⟨bQ HB⟩⟩
         rw [if_neg c14] at H
         exact absurd H (by simp)
        rw [if_neg c13] at H
        have aM:decide (0<ab)=false:=zD c13
        clear c13
        (first|rw [aM]|(simp only [i64_w,i32_w];rw [aM])|rw [cm]|skip)
        have H':=zS H
        clear H
        go_wp2
        repeat (go_quiet (fail);try go_wp2)
        go_meet
        case rel=>exact ⟨_,(bb),(by first|rfl|(simp;done)|(simp [*];done)),H',⟨by have:=HK1.out;have:=HJ2.out;have:=HK3.out;first|omega|exact Nat.le_refl _⟩,⟨kp ac rfl⟩,⟨bQ HB⟩⟩
       case rest=>
        clear cf
        try clear c1
        try clear c2
        try clear ba
        try clear p2
        try clear q2
        try clear hx2
        try clear c3
        try clear c4
        try clear aR
        try clear c5
        try clear bp
        try clear bq
        try clear br
        try clear c6
        try clear bN
        try clear c7
        try clear bO
        try clear c8
        try clear bM
        try clear c9
        try clear bP
        try clear c13
        try clear aM
        try clear c14
        try clear bh
        try clear bi
        try clear bj
        try clear aX
        try clear aY
        try clear an
        try clear ar
        try clear az
        try clear aA
        try clear aB
        try clear aC
        try clear p2
        try clear aS
        try clear bc
        try clear be
        try clear aT
        try clear bd
        try clear bf
        obtain ⟨kq,aH,rfl,HA,HJ9,ac,HB⟩:=hcut
        cases kq with
        | zero=>exact absurd HA.out (by simp [exergueref11_Text.j3])
        | succ kj9=>
         have H:=HA.out
         clear HA
         simp only [exergueref11_Text.j3] at H
         obtain ⟨aD,bk⟩:∃ y_:List Int,y_=(([((rd_T60 (rd_L7 l0 aa) ab).f0)]:List Int)):=⟨_,rfl⟩
         replace H:(if aH.size+(strOfNums aD).size≤9223372036854775807 then (if ((rd_T60 (rd_L7 l0 aa) ab).f1)=0 then (exergueref11_Text.j4 kj9 l0 (aH ++ (strOfNums aD)) aa ab ((rd_T60 (rd_L7 l0 aa) ab).f0) ((rd_T60 (rd_L7 l0 aa) ab).f1) ((rd_T60 (rd_L7 l0 aa) ab).f2) ((rd_T60 (rd_L7 l0 aa) ab).f3)) else (if (aH ++ (strOfNums aD)).size+3≤9223372036854775807 then ((exergueref05_Number.f kj9 ((rd_T60 (rd_L7 l0 aa) ab).f1)).bind fun aP=>(if ((aH ++ (strOfNums aD)) ++ (⟨#[32,37,32]⟩:ByteArray)).size+aP.size≤9223372036854775807 then (exergueref11_Text.j4 kj9 l0 (((aH ++ (strOfNums aD)) ++ (⟨#[32,37,32]⟩:ByteArray)) ++ aP) aa ab ((rd_T60 (rd_L7 l0 aa) ab).f0) ((rd_T60 (rd_L7 l0 aa) ab).f1) ((rd_T60 (rd_L7 l0 aa) ab).f2) ((rd_T60 (rd_L7 l0 aa) ab).f3)) else (none))) else (none))) else (none))=some r:=by first|(rw [bk];with_reducible exact H)|(have H2_:=(Option.bind_some _ _).symm.trans H;rw [bk];with_reducible exact H2_)|(have H2_:=(Option.bind_some _ _).symm.trans H;with_reducible exact H2_)|with_reducible exact H|(rw [bk];exact H)|exact H
         have a6:=zS bk
         clear bk
         by_cases c15:aH.size+(strOfNums aD).size≤9223372036854775807
         rotate_left
         ·rw [if_neg c15] at H
          exact absurd H (by simp)
         rw [if_pos c15] at H
         have bw:=eq_true c15
         have bx:=zC c15
         try have bA:(9223372036854775807<aH.size+(strOfNums aD).size)=False:=eq_false (Nat.not_lt.2 c15)
         have cg:=zS H
         clear H
         have bB:=blkc4 ac.out
         have bC:=blkf4 ac.out
         go_upto_if 46 with (first|((with_reducible refine gate_dst (N:=41) rfl ?_);refine Kd.R_lit (Kd.int .u8) _ 5 ?hg (N:=41) ?hd (xs:=([((rd_T60 (rd_L7 l0 aa) ab).f0)]:List Int)) (inner:=[.int .u8 ((rd_T60 (rd_L7 l0 aa) ab).f0)]) (ok:=fun _=>True) (okp:=fun _=>True) ?hr ?hp (fun _ hk=>hk) trivial (Below.refl _ _) (Nat.le_refl _) (by simp) ?_;(case hd=>rfl);(case hg=>rfl);(case hr=>first|(go_simp;done)|(go_simp;rfl));(case hp=>exact (Reps.one (show Kd.M (Kd.int .u8) _ _ _ ((rd_T60 (rd_L7 l0 aa) ab).f0) [.int .u8 ((rd_T60 (rd_L7 l0 aa) ab).f0)] from rfl) (Reps.none _ _)));intro cn w18 aI hb hg_ hnew_;clear hg_ hnew_;(first|rw [← a6.out] at aI|(simp only [Int.reduceToNat] at aI;rw [← a6.out] at aI));have aJ:=zS (Kd.R_lower aI (bz HB));replace ac:=kb ac hb;replace HB:=bs HB hb;clear hb aI;have hcv20:=own_string (P:=Tryz.prog) Tryz.underlying34 Tryz.underlying5 Tryz.underlying9 (Kd.own_of_R aJ.out);have a7:=blkc4 ac.out;have a8:=blkf4 ac.out))
         repeat (go_quiet (first|((with_reducible refine gate_dst (N:=41) rfl ?_);refine Kd.R_lit (Kd.int .u8) _ 5 ?hg (N:=41) ?hd (xs:=([((rd_T60 (rd_L7 l0 aa) ab).f0)]:List Int)) (inner:=[.int .u8 ((rd_T60 (rd_L7 l0 aa) ab).f0)]) (ok:=fun _=>True) (okp:=fun _=>True) ?hr ?hp (fun _ hk=>hk) trivial (Below.refl _ _) (Nat.le_refl _) (by simp) ?_;(case hd=>rfl);(case hg=>rfl);(case hr=>first|(go_simp;done)|(go_simp;rfl));(case hp=>exact (Reps.one (show Kd.M (Kd.int .u8) _ _ _ ((rd_T60 (rd_L7 l0 aa) ab).f0) [.int .u8 ((rd_T60 (rd_L7 l0 aa) ab).f0)] from rfl) (Reps.none _ _)));intro cn w18 aI hb hg_ hnew_;clear hg_ hnew_;(first|rw [← a6.out] at aI|(simp only [Int.reduceToNat] at aI;rw [← a6.out] at aI));have aJ:=zS (Kd.R_lower aI (bz HB));replace ac:=kb ac hb;replace HB:=bs HB hb;clear hb aI;have hcv20:=own_string (P:=Tryz.prog) Tryz.underlying34 Tryz.underlying5 Tryz.underlying9 (Kd.own_of_R aJ.out);have a7:=blkc4 ac.out;have a8:=blkf4 ac.out));go_upto_if 46 with (first|((with_reducible refine gate_dst (N:=41) rfl ?_);refine Kd.R_lit (Kd.int .u8) _ 5 ?hg (N:=41) ?hd (xs:=([((rd_T60 (rd_L7 l0 aa) ab).f0)]:List Int)) (inner:=[.int .u8 ((rd_T60 (rd_L7 l0 aa) ab).f0)]) (ok:=fun _=>True) (okp:=fun _=>True) ?hr ?hp (fun _ hk=>hk) trivial (Below.refl _ _) (Nat.le_refl _) (by simp) ?_;(case hd=>rfl);(case hg=>rfl);(case hr=>first|(go_simp;done)|(go_simp;rfl));(case hp=>exact (Reps.one (show Kd.M (Kd.int .u8) _ _ _ ((rd_T60 (rd_L7 l0 aa) ab).f0) [.int .u8 ((rd_T60 (rd_L7 l0 aa) ab).f0)] from rfl) (Reps.none _ _)));intro cn w18 aI hb hg_ hnew_;clear hg_ hnew_;(first|rw [← a6.out] at aI|(simp only [Int.reduceToNat] at aI;rw [← a6.out] at aI));have aJ:=zS (Kd.R_lower aI (bz HB));replace ac:=kb ac hb;replace HB:=bs HB hb;clear hb aI;have hcv20:=own_string (P:=Tryz.prog) Tryz.underlying34 Tryz.underlying5 Tryz.underlying9 (Kd.own_of_R aJ.out);have a7:=blkc4 ac.out;have a8:=blkf4 ac.out)))
         (try simp only [Act.put,sA,sB,sC])
         go_cut [3] (fun v3 wc=>∃ (kq:Nat) (aN:ByteArray),v3 = .string aN∧Sd (exergueref11_Text.j4 kq l0 aN aa ab ((rd_T60 (rd_L7 l0 aa) ab).f0) ((rd_T60 (rd_L7 l0 aa) ab).f1) ((rd_T60 (rd_L7 l0 aa) ab).f2) ((rd_T60 (rd_L7 l0 aa) ab).f3)=some r)∧Sd (kq≤kj9)∧Sd (wc.heap[aW]?=some (.cells #[.int .u8 ((rd_T60 (rd_L7 l0 aa) ab).f0),.int .i64 ((rd_T60 (rd_L7 l0 aa) ab).f1),.bool ((rd_T60 (rd_L7 l0 aa) ab).f2),(.slice aU ((rd_T60 (rd_L7 l0 aa) ab).f3).length aV)] 60 (0,0)))∧Sd (Below w.heap.size w wc))
         case first=>
          have H:=cg.out
          clear cg
          by_cases c22:((rd_T60 (rd_L7 l0 aa) ab).f1)=0
          ·rw [if_pos c22] at H
           have aO:(((rd_T60 (rd_L7 l0 aa) ab).f1) == 0)=true:=zH c22
           have aZ:(((rd_T60 (rd_L7 l0 aa) ab).f1) != 0)=false:=zG c22
           clear c22
           (first|rw [aO]|(simp only [i64_w,i32_w];rw [aO])|rw [aZ]|skip)
           have H':=zS H
           clear H
           go_wp2
           repeat (go_quiet (fail);try go_wp2)
           go_meet
           case rel=>exact ⟨_,(aH ++ (strOfNums aD)),(by first|rfl|(simp;done)|(simp [*];done)),H',⟨by have:=HK1.out;have:=HJ2.out;have:=HK3.out;have:=HJ9.out;first|omega|exact Nat.le_refl _⟩,⟨ko ac⟩,⟨bQ HB⟩⟩
          rw [if_neg c22] at H
          have aO:(((rd_T60 (rd_L7 l0 aa) ab).f1) == 0)=false:=zF c22
          have aZ:(((rd_T60 (rd_L7 l0 aa) ab).f1) != 0)=true:=zI c22
          (first|rw [aO]|(simp only [i64_w,i32_w];rw [aO])|rw [aZ]|skip)
          by_cases c23:(aH ++ (strOfNums aD)).size+3≤9223372036854775807
          rotate_left
          ·rw [if_neg c23] at H
           exact absurd H (by simp)
          rw [if_pos c23] at H
          have bD:=eq_true c23
          have bE:=zC c23
          try have bF:(9223372036854775807<(aH ++ (strOfNums aD)).size+3)=False:=eq_false (Nat.not_lt.2 c23)
          try have cJ:(9223372036854775807<aH.size+(strOfNums aD).size+3)=False:=eq_false (by have h_:=c23;simp only [ByteArray.size_append] at h_;omega)
          replace H:=Option.bind_eq_some_iff.mp H
          obtain ⟨aP,co,H⟩:=H
          try dsimp only at H
          have A24:=zS co
          clear co
          by_cases c25:((aH ++ (strOfNums aD)) ++ (⟨#[32,37,32]⟩:ByteArray)).size+aP.size≤9223372036854775807
          ·rw [if_pos c25] at H
           have bG:=eq_true c25
           have bH:=zC c25
           try have bI:(9223372036854775807<((aH ++ (strOfNums aD)) ++ (⟨#[32,37,32]⟩:ByteArray)).size+aP.size)=False:=eq_false (Nat.not_lt.2 c25)
           try have cK:(9223372036854775807<aH.size+(strOfNums aD).size+3+aP.size)=False:=eq_false (by have h_:=c25;simp only [ByteArray.size_append,show (⟨#[32,37,32]⟩:ByteArray).size=3 from rfl] at h_;omega)
           have H':=zS H
           clear H
           have bJ:=blkc4 ac.out
           have bK:=blkf4 ac.out
           go_wp2_with (first|(go_at_call 58;(with_reducible refine (exergueref05_Number.calls kj9 ((rd_T60 (rd_L7 l0 aa) ab).f1) aP _ A24.out).mono ?_);rintro e w27 ⟨rfl,hb⟩;replace aJ:=rb aJ hb;replace ac:=kb ac hb;replace HB:=bs HB hb;(try clear hb)))
           repeat (go_quiet (first|(go_at_call 58;(with_reducible refine (exergueref05_Number.calls kj9 ((rd_T60 (rd_L7 l0 aa) ab).f1) aP _ A24.out).mono ?_);rintro e w27 ⟨rfl,hb⟩;replace aJ:=rb aJ hb;replace ac:=kb ac hb;replace HB:=bs HB hb;(try clear hb);(try clear hb2);(try clear hk);(try clear hi)));try go_wp2_with (first|(go_at_call 58;(with_reducible refine (exergueref05_Number.calls kj9 ((rd_T60 (rd_L7 l0 aa) ab).f1) aP _ A24.out).mono ?_);rintro e w27 ⟨rfl,hb⟩;replace aJ:=rb aJ hb;replace ac:=kb ac hb;replace HB:=bs HB hb;(try clear hb);(try clear hb2);(try clear hk);(try clear hi))))
           go_meet
           case rel=>exact ⟨_,(((aH ++ (strOfNums aD)) ++ (⟨#[32,37,32]⟩:ByteArray)) ++ aP),(by first|rfl|(simp;done)|(simp [*];done)),H',⟨by have:=HK1.out;have:=HJ2.out;have:=HK3.out;have:=HJ9.out;first|omega|exact Nat.le_refl _⟩,⟨ko ac⟩,⟨bQ HB⟩⟩
          rw [if_neg c25] at H
          exact absurd H (by simp)
         case rest=>
          clear cg
          try clear c1
          try clear c2
          try clear ba
          try clear p2
          try clear q2
          try clear hx2
          try clear hcv2
          try clear c3
          try clear c4
          try clear aR
          try clear c5
          try clear bp
          try clear bq
          try clear br
          try clear c6
          try clear bN
          try clear c7
          try clear bO
          try clear c8
          try clear bM
          try clear c9
          try clear bP
          try clear c13
          try clear aM
          try clear c14
          try clear bh
          try clear bi
          try clear bj
          try clear c15
          try clear bw
          try clear bx
          try clear bA
          try clear hcv20
          try clear c22
          try clear aO
          try clear aZ
          try clear p22
          try clear q22
          try clear ch
          try clear c23
          try clear bD
          try clear bE
          try clear bF
          try clear c25
          try clear bG
          try clear bH
          try clear bI
          try clear aX
          try clear bB
          try clear a7
          try clear bJ
          try clear aY
          try clear bC
          try clear a8
          try clear bK
          try clear an
          try clear ar
          try clear az
          try clear aA
          try clear aB
          try clear aC
          try clear p2
          try clear aS
          try clear bc
          try clear be
          try clear q2
          try clear aT
          try clear bd
          try clear bf
          obtain ⟨kq,aN,rfl,HA,HJ15,ac,HB⟩:=hcut
          cases kq with
          | zero=>exact absurd HA.out (by simp [exergueref11_Text.j4])
          | succ kj15=>
           have H:=HA.out
           clear HA
           simp only [exergueref11_Text.j4] at H
           have ci:=zS H
           clear H
           have bR:=blkc4 ac.out
           have bS:=blkf4 ac.out
           go_upto_if 54 with (fail)
           repeat (go_quiet (fail);go_upto_if 54 with (fail))
           go_cut [3] (fun v3 wc=>∃ (kq:Nat) (bL:ByteArray),v3 = .string bL∧Sd (exergueref11_Text.j5 kq l0 bL aa ab ((rd_T60 (rd_L7 l0 aa) ab).f0) ((rd_T60 (rd_L7 l0 aa) ab).f1) ((rd_T60 (rd_L7 l0 aa) ab).f2) ((rd_T60 (rd_L7 l0 aa) ab).f3)=some r)∧Sd (kq≤kj15)∧Sd (wc.heap[aW]?=some (.cells #[.int .u8 ((rd_T60 (rd_L7 l0 aa) ab).f0),.int .i64 ((rd_T60 (rd_L7 l0 aa) ab).f1),.bool ((rd_T60 (rd_L7 l0 aa) ab).f2),(.slice aU ((rd_T60 (rd_L7 l0 aa) ab).f3).length aV)] 60 (0,0)))∧Sd (Below w.heap.size w wc))
           case first=>
            have H:=ci.out
            clear ci
            by_cases c30:((rd_T60 (rd_L7 l0 aa) ab).f2)=true
            ·rw [if_pos c30] at H
             have aQ:((rd_T60 (rd_L7 l0 aa) ab).f2)=true:=c30
             clear c30
             (first|rw [aQ]|(simp only [i64_w,i32_w];rw [aQ])|rw [cp]|skip)
             by_cases c31:aN.size+4≤9223372036854775807
             ·rw [if_pos c31] at H
              have bT:=eq_true c31
              have bU:=zC c31
              try have bV:(9223372036854775807<aN.size+4)=False:=eq_false (Nat.not_lt.2 c31)
              have H':=zS H
              clear H
              go_wp2
              repeat (go_quiet (fail);try go_wp2)
              go_meet
              case rel=>exact ⟨_,(aN ++ (⟨#[32,33,61,32]⟩:ByteArray)),(by first|rfl|(simp;done)|(simp [*];done)),H',⟨by have:=HK1.out;have:=HJ2.out;have:=HK3.out;have:=HJ9.out;have:=HJ15.out;first|omega|exact Nat.le_refl _⟩,⟨ko ac⟩,⟨bQ HB⟩⟩
             rw [if_neg c31] at H
             exact absurd H (by simp)
            rw [if_neg c30] at H
            have aQ:((rd_T60 (rd_L7 l0 aa) ab).f2)=false:=by simpa using c30
            clear c30
            (first|rw [aQ]|(simp only [i64_w,i32_w];rw [aQ])|rw [cp]|skip)
            by_cases c32:aN.size+3≤9223372036854775807
            ·rw [if_pos c32] at H
             have bW:=eq_true c32
             have bX:=zC c32
             try have bY:(9223372036854775807<aN.size+3)=False:=eq_false (Nat.not_lt.2 c32)
             have H':=zS H
             clear H
             go_wp2
             repeat (go_quiet (fail);try go_wp2)
             go_meet
             case rel=>exact ⟨_,(aN ++ (⟨#[32,61,32]⟩:ByteArray)),(by first|rfl|(simp;done)|(simp [*];done)),H',⟨by have:=HK1.out;have:=HJ2.out;have:=HK3.out;have:=HJ9.out;have:=HJ15.out;first|omega|exact Nat.le_refl _⟩,⟨ko ac⟩,⟨bQ HB⟩⟩
            rw [if_neg c32] at H
            exact absurd H (by simp)
           case rest=>
            clear ci
            try clear c1
            try clear c2
            try clear ba
            try clear p2
            try clear q2
            try clear hx2
            try clear hcv2
            try clear c3
            try clear c4
            try clear aR
            try clear c5
            try clear bp
            try clear bq
            try clear br
            try clear c6
            try clear bN
            try clear c7
            try clear bO
            try clear c8
            try clear bM
            try clear c9
            try clear bP
            try clear c13
            try clear aM
            try clear c14
            try clear bh
            try clear bi
            try clear bj
            try clear c15
            try clear bw
            try clear bx
            try clear bA
            try clear hcv20
            try clear c22
            try clear aO
            try clear aZ
            try clear p22
            try clear q22
            try clear ch
            try clear c23
            try clear bD
            try clear bE
            try clear bF
            try clear c25
            try clear bG
            try clear bH
            try clear bI
            try clear c30
            try clear aQ
            try clear c31
            try clear bT
            try clear bU
            try clear bV
            try clear c32
            try clear bW
            try clear bX
            try clear bY
            try clear aX
            try clear bB
            try clear a7
            try clear bJ
            try clear bR
            try clear aY
            try clear bC
            try clear a8
            try clear bK
            try clear bS
            try clear an
            try clear ar
            try clear az
            try clear aA
            try clear aB
            try clear aC
            try clear p2
            try clear p22
            try clear aS
            try clear bc
            try clear be
            try clear q2
            try clear q22
            try clear aT
            try clear bd
            try clear bf
            obtain ⟨kq,bL,rfl,HA,HJ27,ac,HB⟩:=hcut
            cases kq with
            | zero=>exact absurd HA.out (by simp [exergueref11_Text.j5])
            | succ kj27=>
             have H:=HA.out
             clear HA
             simp only [exergueref11_Text.j5] at H
             have H':=zS H
             clear H
             go_wp2
             repeat (go_quiet (fail);try go_wp2)
             go_loopg [3,7] kj27 (fun kq v3 v7 w'=>∃ (bm:ByteArray) (ad:Int),v3 = .string bm∧v7 = .int .i64 ad∧Sd (exergueref11_Text.l2 kq l0 bm aa ab ad ((rd_T60 (rd_L7 l0 aa) ab).f0) ((rd_T60 (rd_L7 l0 aa) ab).f1) ((rd_T60 (rd_L7 l0 aa) ab).f2) ((rd_T60 (rd_L7 l0 aa) ab).f3)=some r)∧Sd (kq≤kj27)∧Sd (w'.heap[aW]?=some (.cells #[.int .u8 ((rd_T60 (rd_L7 l0 aa) ab).f0),.int .i64 ((rd_T60 (rd_L7 l0 aa) ab).f1),.bool ((rd_T60 (rd_L7 l0 aa) ab).f2),(.slice aU ((rd_T60 (rd_L7 l0 aa) ab).f3).length aV)] 60 (0,0)))∧Sd (Below w.heap.size w w'))
             case atStart=>exact ⟨(bL),(0),(by first|rfl|(simp;done)|(simp [*];done)),(by first|rfl|(simp;done)|(simp [*];done)),H',⟨Nat.le_refl _⟩,⟨ko ac⟩,⟨bQ HB⟩⟩
             case round=>
              clear H'
              try clear c1
              try clear c2
              try clear ba
              try clear p2
              try clear q2
              try clear hx2
              try clear hcv2
              try clear c3
              try clear c4
              try clear aR
              try clear c5
              try clear bp
              try clear bq
              try clear br
              try clear c6
              try clear bN
              try clear c7
              try clear bO
              try clear c8
              try clear bM
              try clear c9
              try clear bP
              try clear c13
              try clear aM
              try clear c14
              try clear bh
              try clear bi
              try clear bj
              try clear c15
              try clear bw
              try clear bx
              try clear bA
              try clear hcv20
              try clear c22
              try clear aO
              try clear aZ
              try clear p22
              try clear q22
              try clear ch
              try clear c23
              try clear bD
              try clear bE
              try clear bF
              try clear c25
              try clear bG
              try clear bH
              try clear bI
              try clear c30
              try clear aQ
              try clear c31
              try clear bT
              try clear bU
              try clear bV
              try clear c32
              try clear bW
              try clear bX
              try clear bY
              try clear aX
              try clear bB
              try clear a7
              try clear bJ
              try clear bR
              try clear aY
              try clear bC
              try clear a8
              try clear bK
              try clear bS
              try clear an
              try clear ar
              try clear az
              try clear aA
              try clear aB
              try clear aC
              try clear p2
              try clear p22
              try clear aS
              try clear bc
              try clear be
              try clear q2
              try clear q22
              try clear aT
              try clear bd
              try clear bf
              obtain ⟨bm,ad,rfl,rfl,HA,HK7,ac,HB⟩:=hrel
              cases gk with
              | zero=>exact absurd HA.out (by simp [exergueref11_Text.l2])
              | succ k7=>
               have H:=HA.out
               clear HA
               simp only [exergueref11_Text.l2] at H
               by_cases c33:ad<(((rd_T60 (rd_L7 l0 aa) ab).f3).length:Int)
               rotate_left
               ·rw [if_neg c33] at H
                have b6:=zD c33
                clear c33
                have H':=zS H
                clear H
                have cL:=blkc4 ac.out
                have cM:=blkf4 ac.out
                go_wp2
                repeat (go_quiet (fail);try go_wp2)
                go_roundg k7
                case measure=>have:=HK1.out;have:=HJ2.out;have:=HK3.out;have:=HJ9.out;have:=HJ15.out;have:=HJ27.out;have:=HK7.out;omega
                case rel=>exact ⟨(bm),(wrap64 (ab+1)),(by first|rfl|(simp;done)|(simp [*];done)),(by first|rfl|(simp;done)|(simp [*];done)),H',⟨by have:=HK1.out;have:=HJ2.out;have:=HK3.out;have:=HJ9.out;have:=HJ15.out;have:=HJ27.out;have:=HK7.out;omega⟩,⟨bQ HB⟩⟩
               rw [if_pos c33] at H
               have b6:=zC c33
               clear c33
               have cj:=zS H
               clear H
               have cq:=blkc4 ac.out
               have cr:=blkf4 ac.out
               go_upto_if 67 with (fail)
               repeat (go_quiet (fail);go_upto_if 67 with (fail))
               go_cut [3] (fun v3 wc=>∃ (kq:Nat) (aE:ByteArray),v3 = .string aE∧Sd (exergueref11_Text.j7 kq l0 aE aa ab ad ((rd_T60 (rd_L7 l0 aa) ab).f0) ((rd_T60 (rd_L7 l0 aa) ab).f1) ((rd_T60 (rd_L7 l0 aa) ab).f2) ((rd_T60 (rd_L7 l0 aa) ab).f3)=some r)∧Sd (kq≤k7)∧Sd (wc.heap[aW]?=some (.cells #[.int .u8 ((rd_T60 (rd_L7 l0 aa) ab).f0),.int .i64 ((rd_T60 (rd_L7 l0 aa) ab).f1),.bool ((rd_T60 (rd_L7 l0 aa) ab).f2),(.slice aU ((rd_T60 (rd_L7 l0 aa) ab).f3).length aV)] 60 (0,0)))∧Sd (Below w.heap.size w wc))
               case first=>
                have H:=cj.out
                clear cj
                by_cases c36:ad>0
                ·rw [if_pos c36] at H
                 have a9:decide (0<ad)=true:=zC c36
                 clear c36
                 (first|rw [a9]|(simp only [i64_w,i32_w];rw [a9])|rw [ct]|skip)
                 by_cases c37:bm.size+1≤9223372036854775807
                 ·rw [if_pos c37] at H
                  have cu:=eq_true c37
                  have cv:=zC c37
                  try have cw:(9223372036854775807<bm.size+1)=False:=eq_false (Nat.not_lt.2 c37)
                  have H':=zS H
                  clear H
                  go_wp2
                  repeat (go_quiet (fail);try go_wp2)
                  go_meet
                  case rel=>exact ⟨_,(bm ++ (⟨#[44]⟩:ByteArray)),(by first|rfl|(simp;done)|(simp [*];done)),H',⟨by have:=HK1.out;have:=HJ2.out;have:=HK3.out;have:=HJ9.out;have:=HJ15.out;have:=HJ27.out;have:=HK7.out;first|omega|exact Nat.le_refl _⟩,⟨ko ac⟩,⟨bQ HB⟩⟩
                 rw [if_neg c37] at H
                 exact absurd H (by simp)
                rw [if_neg c36] at H
                have a9:decide (0<ad)=false:=zD c36
                clear c36
                (first|rw [a9]|(simp only [i64_w,i32_w];rw [a9])|rw [ct]|skip)
                have H':=zS H
                clear H
                go_wp2
                repeat (go_quiet (fail);try go_wp2)
                go_meet
                case rel=>exact ⟨_,(bm),(by first|rfl|(simp;done)|(simp [*];done)),H',⟨by have:=HK1.out;have:=HJ2.out;have:=HK3.out;have:=HJ9.out;have:=HJ15.out;have:=HJ27.out;have:=HK7.out;first|omega|exact Nat.le_refl _⟩,⟨ko ac⟩,⟨bQ HB⟩⟩
               case rest=>
                clear cj
                try clear c1
                try clear c2
                try clear ba
                try clear p2
                try clear q2
                try clear hx2
                try clear hcv2
                try clear c3
                try clear c4
                try clear aR
                try clear c5
                try clear bp
                try clear bq
                try clear br
                try clear c6
                try clear bN
                try clear c7
                try clear bO
                try clear c8
                try clear bM
                try clear c9
                try clear bP
                try clear c13
                try clear aM
                try clear c14
                try clear bh
                try clear bi
                try clear bj
                try clear c15
                try clear bw
                try clear bx
                try clear bA
                try clear hcv20
                try clear c22
                try clear aO
                try clear aZ
                try clear p22
                try clear q22
                try clear ch
                try clear c23
                try clear bD
                try clear bE
                try clear bF
                try clear c25
                try clear bG
                try clear bH
                try clear bI
                try clear c30
                try clear aQ
                try clear c31
                try clear bT
                try clear bU
                try clear bV
                try clear c32
                try clear bW
                try clear bX
                try clear bY
                try clear c33
                try clear b6
                try clear c36
                try clear a9
                try clear c37
                try clear cu
                try clear cv
                try clear cw
                try clear aX
                try clear bB
                try clear a7
                try clear bJ
                try clear bR
                try clear cq
                try clear aY
                try clear bC
                try clear a8
                try clear bK
                try clear bS
                try clear cr
                try clear an
                try clear ar
                try clear az
                try clear aA
                try clear aB
                try clear aC
                try clear p2
                try clear p22
                try clear aS
                try clear bc
                try clear be
                try clear q2
                try clear q22
                try clear aT
                try clear bd
                try clear bf
                obtain ⟨kq,aE,rfl,HA,HJ33,ac,HB⟩:=hcut
                cases kq with
                | zero=>exact absurd HA.out (by simp [exergueref11_Text.j7])
                | succ kj33=>
                 have H:=HA.out
                 clear HA
                 simp only [exergueref11_Text.j7] at H
                 by_cases c38:0≤ad
                 rotate_left
                 ·rw [if_neg c38] at H
                  exact absurd H (by simp)
                 rw [if_pos c38] at H
                 have cN:=zC c38
                 clear c38
                 by_cases c39:ad<(((rd_T60 (rd_L7 l0 aa) ab).f3).length:Int)
                 rotate_left
                 ·rw [if_neg c39] at H
                  exact absurd H (by simp)
                 rw [if_pos c39] at H
                 have cO:=zC c39
                 clear c39
                 replace H:=Option.bind_eq_some_iff.mp H
                 obtain ⟨ay,cx,H⟩:=H
                 try dsimp only at H
                 have A40:=zS cx
                 clear cx
                 by_cases c41:aE.size+ay.size≤9223372036854775807
                 rotate_left
                 ·rw [if_neg c41] at H
                  exact absurd H (by simp)
                 rw [if_pos c41] at H
                 have cP:=eq_true c41
                 have cQ:=zC c41
                 try have cR:(9223372036854775807<aE.size+ay.size)=False:=eq_false (Nat.not_lt.2 c41)
                 by_cases c42:((rd_T57 ((rd_T60 (rd_L7 l0 aa) ab).f3) ad).f1)=((rd_T57 ((rd_T60 (rd_L7 l0 aa) ab).f3) ad).f0)
                 ·rw [if_pos c42] at H
                  have cy:(((rd_T57 ((rd_T60 (rd_L7 l0 aa) ab).f3) ad).f1) == ((rd_T57 ((rd_T60 (rd_L7 l0 aa) ab).f3) ad).f0))=true:=zH c42
                  have cz:(((rd_T57 ((rd_T60 (rd_L7 l0 aa) ab).f3) ad).f1) != ((rd_T57 ((rd_T60 (rd_L7 l0 aa) ab).f3) ad).f0))=false:=zG c42
                  clear c42
                  have H':=zS H
                  clear H
                  have cS:=blkc4 ac.out
                  have cT:=blkf4 ac.out
                  have bu:0≤(ad:Int):=zB (by first|(with_reducible assumption)|assumption)
                  have bv:ad<(((rd_T60 (rd_L7 l0 aa) ab).f3).length:Int):=zB (by first|(with_reducible assumption)|assumption)
                  obtain ⟨aq,ck,aF,aG⟩:=at_T57 aj.out ad bu bv
                  cases ck
                  replace aF:=(HB.out.cell (World.block_lt_of_cell? w _ aF)).trans aF
                  replace aG:=(HB.out.cell (World.block_lt_of_cell? w _ aG)).trans aG
                  replace bu:=eq_true bu
                  replace bv:=eq_true bv
                  go_wp2_with (first|(go_at_call 58;(with_reducible refine (exergueref05_Number.calls kj33 ((rd_T57 ((rd_T60 (rd_L7 l0 aa) ab).f3) ad).f0) ay _ A40.out).mono ?_);rintro e w44 ⟨rfl,hb⟩;replace ac:=kb ac hb;replace HB:=bs HB hb;(try clear hb);have b7:=blkc4 ac.out;have b8:=blkf4 ac.out;have au:0≤(ad:Int):=zB (by first|(with_reducible assumption)|assumption);have av:ad<(((rd_T60 (rd_L7 l0 aa) ab).f3).length:Int):=zB (by first|(with_reducible assumption)|assumption);obtain ⟨aK,a1,ae,af⟩:=at_T57 aj.out ad au av;obtain rfl:aq=aK:=(by injection a1);replace ae:=(HB.out.cell (World.block_lt_of_cell? w _ ae)).trans ae;replace af:=(HB.out.cell (World.block_lt_of_cell? w _ af)).trans af;replace au:=eq_true au;replace av:=eq_true av;have aw:0≤(ad:Int):=zB (by first|(with_reducible assumption)|assumption);have ax:ad<(((rd_T60 (rd_L7 l0 aa) ab).f3).length:Int):=zB (by first|(with_reducible assumption)|assumption);obtain ⟨aL,a2,ag,ah⟩:=at_T57 aj.out ad aw ax;obtain rfl:aq=aL:=(by injection a2);replace ag:=(HB.out.cell (World.block_lt_of_cell? w _ ag)).trans ag;replace ah:=(HB.out.cell (World.block_lt_of_cell? w _ ah)).trans ah;replace aw:=eq_true aw;replace ax:=eq_true ax))
                  repeat (go_quiet (first|(go_at_call 58;(with_reducible refine (exergueref05_Number.calls kj33 ((rd_T57 ((rd_T60 (rd_L7 l0 aa) ab).f3) ad).f0) ay _ A40.out).mono ?_);rintro e w44 ⟨rfl,hb⟩;replace ac:=kb ac hb;replace HB:=bs HB hb;(try clear hb);have b7:=blkc4 ac.out;have b8:=blkf4 ac.out;have au:0≤(ad:Int):=zB (by first|(with_reducible assumption)|assumption);have av:ad<(((rd_T60 (rd_L7 l0 aa) ab).f3).length:Int):=zB (by first|(with_reducible assumption)|assumption);obtain ⟨aK,a1,ae,af⟩:=at_T57 aj.out ad au av;obtain rfl:aq=aK:=(by injection a1);replace ae:=(HB.out.cell (World.block_lt_of_cell? w _ ae)).trans ae;replace af:=(HB.out.cell (World.block_lt_of_cell? w _ af)).trans af;replace au:=eq_true au;replace av:=eq_true av;have aw:0≤(ad:Int):=zB (by first|(with_reducible assumption)|assumption);have ax:ad<(((rd_T60 (rd_L7 l0 aa) ab).f3).length:Int):=zB (by first|(with_reducible assumption)|assumption);obtain ⟨aL,a2,ag,ah⟩:=at_T57 aj.out ad aw ax;obtain rfl:aq=aL:=(by injection a2);replace ag:=(HB.out.cell (World.block_lt_of_cell? w _ ag)).trans ag;replace ah:=(HB.out.cell (World.block_lt_of_cell? w _ ah)).trans ah;replace aw:=eq_true aw;replace ax:=eq_true ax));try go_wp2_with (first|(go_at_call 58;(with_reducible refine (exergueref05_Number.calls kj33 ((rd_T57 ((rd_T60 (rd_L7 l0 aa) ab).f3) ad).f0) ay _ A40.out).mono ?_);rintro e w44 ⟨rfl,hb⟩;replace ac:=kb ac hb;replace HB:=bs HB hb;(try clear hb);have b7:=blkc4 ac.out;have b8:=blkf4 ac.out;have au:0≤(ad:Int):=zB (by first|(with_reducible assumption)|assumption);have av:ad<(((rd_T60 (rd_L7 l0 aa) ab).f3).length:Int):=zB (by first|(with_reducible assumption)|assumption);obtain ⟨aK,a1,ae,af⟩:=at_T57 aj.out ad au av;obtain rfl:aq=aK:=(by injection a1);replace ae:=(HB.out.cell (World.block_lt_of_cell? w _ ae)).trans ae;replace af:=(HB.out.cell (World.block_lt_of_cell? w _ af)).trans af;replace au:=eq_true au;replace av:=eq_true av;have aw:0≤(ad:Int):=zB (by first|(with_reducible assumption)|assumption);have ax:ad<(((rd_T60 (rd_L7 l0 aa) ab).f3).length:Int):=zB (by first|(with_reducible assumption)|assumption);obtain ⟨aL,a2,ag,ah⟩:=at_T57 aj.out ad aw ax;obtain rfl:aq=aL:=(by injection a2);replace ag:=(HB.out.cell (World.block_lt_of_cell? w _ ag)).trans ag;replace ah:=(HB.out.cell (World.block_lt_of_cell? w _ ah)).trans ah;replace aw:=eq_true aw;replace ax:=eq_true ax)))
                  go_roundg kj33
                  case measure=>have:=HK1.out;have:=HJ2.out;have:=HK3.out;have:=HJ9.out;have:=HJ15.out;have:=HJ27.out;have:=HK7.out;have:=HJ33.out;omega
                  case rel=>exact ⟨(aE ++ ay),(wrap64 (ad+1)),(by first|rfl|(simp;done)|(simp [*];done)),(by first|rfl|(simp;done)|(simp [*];done)),H',⟨by have:=HK1.out;have:=HJ2.out;have:=HK3.out;have:=HJ9.out;have:=HJ15.out;have:=HJ27.out;have:=HK7.out;have:=HJ33.out;omega⟩,⟨ko ac⟩,⟨bQ HB⟩⟩
                 rw [if_neg c42] at H
                 have cy:(((rd_T57 ((rd_T60 (rd_L7 l0 aa) ab).f3) ad).f1) == ((rd_T57 ((rd_T60 (rd_L7 l0 aa) ab).f3) ad).f0))=false:=zF c42
                 have cz:(((rd_T57 ((rd_T60 (rd_L7 l0 aa) ab).f3) ad).f1) != ((rd_T57 ((rd_T60 (rd_L7 l0 aa) ab).f3) ad).f0))=true:=zI c42
                 by_cases c46:(aE ++ ay).size+2≤9223372036854775807
                 rotate_left
                 ·rw [if_neg c46] at H
                  exact absurd H (by simp)
                 rw [if_pos c46] at H
                 have cU:=eq_true c46
                 have cV:=zC c46
                 try have cW:(9223372036854775807<(aE ++ ay).size+2)=False:=eq_false (Nat.not_lt.2 c46)
                 try have cX:(9223372036854775807<aE.size+ay.size+2)=False:=eq_false (by have h_:=c46;simp only [ByteArray.size_append] at h_;omega)
                 replace H:=Option.bind_eq_some_iff.mp H
                 obtain ⟨a5,cA,H⟩:=H
                 try dsimp only at H
                 have A47:=zS cA
                 clear cA
                 by_cases c48:((aE ++ ay) ++ (⟨#[46,46]⟩:ByteArray)).size+a5.size≤9223372036854775807
                 rotate_left
                 ·rw [if_neg c48] at H
                  exact absurd H (by simp)
                 rw [if_pos c48] at H
                 have cY:=eq_true c48
                 have cZ:=zC c48
                 try have da:(9223372036854775807<((aE ++ ay) ++ (⟨#[46,46]⟩:ByteArray)).size+a5.size)=False:=eq_false (Nat.not_lt.2 c48)
                 try have db:(9223372036854775807<aE.size+ay.size+2+a5.size)=False:=eq_false (by have h_:=c48;simp only [ByteArray.size_append,show (⟨#[46,46]⟩:ByteArray).size=2 from rfl] at h_;omega)
                 have H':=zS H
                 clear H
                 have dc:=blkc4 ac.out
                 have dd:=blkf4 ac.out
                 have bu:0≤(ad:Int):=zB (by first|(with_reducible assumption)|assumption)
                 have bv:ad<(((rd_T60 (rd_L7 l0 aa) ab).f3).length:Int):=zB (by first|(with_reducible assumption)|assumption)
                 obtain ⟨aq,ck,aF,aG⟩:=at_T57 aj.out ad bu bv
                 cases ck
                 replace aF:=(HB.out.cell (World.block_lt_of_cell? w _ aF)).trans aF
                 replace aG:=(HB.out.cell (World.block_lt_of_cell? w _ aG)).trans aG
                 replace bu:=eq_true bu
                 replace bv:=eq_true bv
                 go_wp2_with (first|(go_at_call 58;(with_reducible refine (exergueref05_Number.calls kj33 ((rd_T57 ((rd_T60 (rd_L7 l0 aa) ab).f3) ad).f0) ay _ A40.out).mono ?_);rintro e w50 ⟨rfl,hb⟩;replace ac:=kb ac hb;replace HB:=bs HB hb;(try clear hb);have b9:=blkc4 ac.out;have ca:=blkf4 ac.out;have au:0≤(ad:Int):=zB (by first|(with_reducible assumption)|assumption);have av:ad<(((rd_T60 (rd_L7 l0 aa) ab).f3).length:Int):=zB (by first|(with_reducible assumption)|assumption);obtain ⟨aK,a1,ae,af⟩:=at_T57 aj.out ad au av;obtain rfl:aq=aK:=(by injection a1);replace ae:=(HB.out.cell (World.block_lt_of_cell? w _ ae)).trans ae;replace af:=(HB.out.cell (World.block_lt_of_cell? w _ af)).trans af;replace au:=eq_true au;replace av:=eq_true av;have aw:0≤(ad:Int):=zB (by first|(with_reducible assumption)|assumption);have ax:ad<(((rd_T60 (rd_L7 l0 aa) ab).f3).length:Int):=zB (by first|(with_reducible assumption)|assumption);obtain ⟨aL,a2,ag,ah⟩:=at_T57 aj.out ad aw ax;obtain rfl:aq=aL:=(by injection a2);replace ag:=(HB.out.cell (World.block_lt_of_cell? w _ ag)).trans ag;replace ah:=(HB.out.cell (World.block_lt_of_cell? w _ ah)).trans ah;replace aw:=eq_true aw;replace ax:=eq_true ax;have a3:0≤(ad:Int):=zB (by first|(with_reducible assumption)|assumption);have a4:ad<(((rd_T60 (rd_L7 l0 aa) ab).f3).length:Int):=zB (by first|(with_reducible assumption)|assumption);obtain ⟨bn,bZ,ao,ap⟩:=at_T57 aj.out ad a3 a4;obtain rfl:aq=bn:=(by injection bZ);replace ao:=(HB.out.cell (World.block_lt_of_cell? w _ ao)).trans ao;replace ap:=(HB.out.cell (World.block_lt_of_cell? w _ ap)).trans ap;replace a3:=eq_true a3;replace a4:=eq_true a4)|(go_at_call 58;(with_reducible refine (exergueref05_Number.calls kj33 ((rd_T57 ((rd_T60 (rd_L7 l0 aa) ab).f3) ad).f1) a5 _ A47.out).mono ?_);rintro e w52 ⟨rfl,hb⟩;replace ac:=kb ac hb;replace HB:=bs HB hb;(try clear hb)))
                 repeat (go_quiet (first|(go_at_call 58;(with_reducible refine (exergueref05_Number.calls kj33 ((rd_T57 ((rd_T60 (rd_L7 l0 aa) ab).f3) ad).f0) ay _ A40.out).mono ?_);rintro e w50 ⟨rfl,hb⟩;replace ac:=kb ac hb;replace HB:=bs HB hb;(try clear hb);(try clear hb2);(try clear hk);(try clear hi);have b9:=blkc4 ac.out;have ca:=blkf4 ac.out;have au:0≤(ad:Int):=zB (by first|(with_reducible assumption)|assumption);have av:ad<(((rd_T60 (rd_L7 l0 aa) ab).f3).length:Int):=zB (by first|(with_reducible assumption)|assumption);obtain ⟨aK,a1,ae,af⟩:=at_T57 aj.out ad au av;obtain rfl:aq=aK:=(by injection a1);replace ae:=(HB.out.cell (World.block_lt_of_cell? w _ ae)).trans ae;replace af:=(HB.out.cell (World.block_lt_of_cell? w _ af)).trans af;replace au:=eq_true au;replace av:=eq_true av;have aw:0≤(ad:Int):=zB (by first|(with_reducible assumption)|assumption);have ax:ad<(((rd_T60 (rd_L7 l0 aa) ab).f3).length:Int):=zB (by first|(with_reducible assumption)|assumption);obtain ⟨aL,a2,ag,ah⟩:=at_T57 aj.out ad aw ax;obtain rfl:aq=aL:=(by injection a2);replace ag:=(HB.out.cell (World.block_lt_of_cell? w _ ag)).trans ag;replace ah:=(HB.out.cell (World.block_lt_of_cell? w _ ah)).trans ah;replace aw:=eq_true aw;replace ax:=eq_true ax;have a3:0≤(ad:Int):=zB (by first|(with_reducible assumption)|assumption);have a4:ad<(((rd_T60 (rd_L7 l0 aa) ab).f3).length:Int):=zB (by first|(with_reducible assumption)|assumption);obtain ⟨bn,bZ,ao,ap⟩:=at_T57 aj.out ad a3 a4;obtain rfl:aq=bn:=(by injection bZ);replace ao:=(HB.out.cell (World.block_lt_of_cell? w _ ao)).trans ao;replace ap:=(HB.out.cell (World.block_lt_of_cell? w _ ap)).trans ap;replace a3:=eq_true a3;replace a4:=eq_true a4)|(go_at_call 58;(with_reducible refine (exergueref05_Number.calls kj33 ((rd_T57 ((rd_T60 (rd_L7 l0 aa) ab).f3) ad).f1) a5 _ A47.out).mono ?_);rintro e w52 ⟨rfl,hb⟩;replace ac:=kb ac hb;replace HB:=bs HB hb;(try clear hb)));try go_wp2_with (first|(go_at_call 58;(with_reducible refine (exergueref05_Number.calls kj33 ((rd_T57 ((rd_T60 (rd_L7 l0 aa) ab).f3) ad).f0) ay _ A40.out).mono ?_);rintro e w50 ⟨rfl,hb⟩;replace ac:=kb ac hb;replace HB:=bs HB hb;(try clear hb);(try clear hb2);(try clear hk);(try clear hi);have b9:=blkc4 ac.out;have ca:=blkf4 ac.out;have au:0≤(ad:Int):=zB (by first|(with_reducible assumption)|assumption);have av:ad<(((rd_T60 (rd_L7 l0 aa) ab).f3).length:Int):=zB (by first|(with_reducible assumption)|assumption);obtain ⟨aK,a1,ae,af⟩:=at_T57 aj.out ad au av;obtain rfl:aq=aK:=(by injection a1);replace ae:=(HB.out.cell (World.block_lt_of_cell? w _ ae)).trans ae;replace af:=(HB.out.cell (World.block_lt_of_cell? w _ af)).trans af;replace au:=eq_true au;replace av:=eq_true av;have aw:0≤(ad:Int):=zB (by first|(with_reducible assumption)|assumption);have ax:ad<(((rd_T60 (rd_L7 l0 aa) ab).f3).length:Int):=zB (by first|(with_reducible assumption)|assumption);obtain ⟨aL,a2,ag,ah⟩:=at_T57 aj.out ad aw ax;obtain rfl:aq=aL:=(by injection a2);replace ag:=(HB.out.cell (World.block_lt_of_cell? w _ ag)).trans ag;replace ah:=(HB.out.cell (World.block_lt_of_cell? w _ ah)).trans ah;replace aw:=eq_true aw;replace ax:=eq_true ax;have a3:0≤(ad:Int):=zB (by first|(with_reducible assumption)|assumption);have a4:ad<(((rd_T60 (rd_L7 l0 aa) ab).f3).length:Int):=zB (by first|(with_reducible assumption)|assumption);obtain ⟨bn,bZ,ao,ap⟩:=at_T57 aj.out ad a3 a4;obtain rfl:aq=bn:=(by injection bZ);replace ao:=(HB.out.cell (World.block_lt_of_cell? w _ ao)).trans ao;replace ap:=(HB.out.cell (World.block_lt_of_cell? w _ ap)).trans ap;replace a3:=eq_true a3;replace a4:=eq_true a4)|(go_at_call 58;(with_reducible refine (exergueref05_Number.calls kj33 ((rd_T57 ((rd_T60 (rd_L7 l0 aa) ab).f3) ad).f1) a5 _ A47.out).mono ?_);rintro e w52 ⟨rfl,hb⟩;replace ac:=kb ac hb;replace HB:=bs HB hb;(try clear hb))))
                 go_roundg kj33
                 case measure=>have:=HK1.out;have:=HJ2.out;have:=HK3.out;have:=HJ9.out;have:=HJ15.out;have:=HJ27.out;have:=HK7.out;have:=HJ33.out;omega
                 case rel=>exact ⟨(((aE ++ ay) ++ (⟨#[46,46]⟩:ByteArray)) ++ a5),(wrap64 (ad+1)),(by first|rfl|(simp;done)|(simp [*];done)),(by first|rfl|(simp;done)|(simp [*];done)),H',⟨by have:=HK1.out;have:=HJ2.out;have:=HK3.out;have:=HJ9.out;have:=HJ15.out;have:=HJ27.out;have:=HK7.out;have:=HJ33.out;omega⟩,⟨ko ac⟩,⟨bQ HB⟩⟩
end Go.Proofs.YtgfajgkjbckkgaaGreatDoor.PZ
end
end
