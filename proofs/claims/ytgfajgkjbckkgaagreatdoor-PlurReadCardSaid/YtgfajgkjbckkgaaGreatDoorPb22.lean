/- Texts of this seat, joined. Conditions: none beyond each statement's own. -/
import Derived.Test.YtgfajgkjbckkgaaGreatDoorPb21
import Derived.RangeFuncBox
import Derived.RangeFuncNested
import Derived.RangeFuncBound
import Derived.RangeFuncCalls
import Derived.RangeFuncLeaves
import Derived.Shelf.RegionOpen
import Derived.OwnWalkIn
import Derived.TacticsInMore
import Derived.LoopNIn
import Derived.LoopIn
import Derived.Laws.ResultCell
set_option linter.all false
section
noncomputable section
namespace Go.Proofs.YtgfajgkjbckkgaaGreatDoor.PZ
open Go.RowKit Go.Proofs.YtgfajgkjbckkgaaGreatDoorW.PrintWords Go.Proofs.YtgfajgkjbckkgaaGreatDoorW.PrintLast Go.Proofs.YtgfajgkjbckkgaaGreatDoorW.PrintMore
attribute [local go_sem] max2_int min2_int max_two min_two max_three min_three max_four min_four   -- for this text's walks alone
def exergueref12_Right.l0:Nat→List (S65)→Int→Option (Bool)
 | 0,_,_=>none
 | k+1,x0,x3=>if x3<(x0.length:Int) then (if 0≤x3 then ((exergueref11_Right.f k ((rd_T65 x0 x3).f1)).bind fun a4=>(if a4=true then (if ((rd_T65 x0 x3).f0)<1 then (some false) else (if ((rd_T65 x0 x3).f0)>5 then (some false) else (if x3>0 then (if 0≤(wrap64 (x3 - 1)) then (if (wrap64 (x3 - 1))<(x0.length:Int) then (if ((rd_T65 x0 x3).f0)≤((rd_T65 x0 (wrap64 (x3 - 1))).f0) then (some false) else (exergueref12_Right.l0 k x0 (wrap64 (x3+1)))) else (none)) else (none)) else (exergueref12_Right.l0 k x0 (wrap64 (x3+1)))))) else (some false))) else (none)) else (some true)
def exergueref12_Right.f (k:Nat)(l0:List (S65)):Option (Bool):=exergueref12_Right.l0 k l0 0
theorem exergueref12_Right.mono_l:∀ k,(∀ y0 y1,LeO (exergueref12_Right.l0 k y0 y1) (exergueref12_Right.l0 (k+1) y0 y1))
 | 0=>fun _ _ r h=>by simp [exergueref12_Right.l0] at h
 | k+1=>by
  have ih0:=exergueref12_Right.mono_l k
  ·intro y0 y1
   unfold exergueref12_Right.l0
   repeat' first|(with_reducible first|apply ih0|apply exergueref11_Right.mono|apply LeO.refl|apply LeO.none|refine LeO.ite ?_ ?_|refine LeO.bind ?_ (fun _=>?_))|apply ih0|apply exergueref11_Right.mono|apply LeO.none
theorem exergueref12_Right.mono:∀ a0 k,LeO (exergueref12_Right.f k a0) (exergueref12_Right.f (k+1) a0):=by
 intro a0 k
 have ih0:=exergueref12_Right.mono_l k
 unfold exergueref12_Right.f
 repeat' first|(with_reducible first|apply ih0|apply exergueref11_Right.mono|apply LeO.refl|apply LeO.none|refine LeO.ite ?_ ?_|refine LeO.bind ?_ (fun _=>?_))|apply ih0|apply exergueref11_Right.mono|apply LeO.none
set_option maxHeartbeats 8000000 in
set_option maxRecDepth 100000 in
theorem exergueref12_Right.calls (k:Nat)(A0:Option Addr)(c0:Nat)(l0:List (S65))(r:Bool)(w:World)(hr0:Kd.C k65 w A0 l0.length l0)(hc0:l0.length≤c0)(h:exergueref12_Right.f k l0=some r) :
  Calls Tryz.prog 19 #[.slice A0 l0.length c0] w fun e w'=>e = .returned (.bool r)∧Below w.heap.size w w':=by
 have HR0:=zS hr0
 have HC0:=zS hc0
 clear hr0 hc0
 have HB:=zS (Below.refl w.heap.size w)
 have H:(exergueref12_Right.l0 k l0 0)=some r:=h
 clear h
 have H':=zS H
 clear H
 go_enter Tryz.func19,Tryz.ntmps19
 go_wp2
 repeat (go_quiet (fail);try go_wp2)
 go_loopg [3] k (fun kq v3 w'=>∃ (ab:Int),v3 = .int .i64 ab∧Sd (exergueref12_Right.l0 kq l0 ab=some r)∧Sd (kq≤k)∧Sd (Below w.heap.size w w'))
 case atStart=>exact ⟨(0),(by first|rfl|(simp;done)|(simp [*];done)),H',⟨Nat.le_refl _⟩,⟨bQ HB⟩⟩
 case round=>
  clear H'
  try clear c1
  obtain ⟨ab,rfl,HA,HK1,HB⟩:=hrel
  cases gk with
  | zero=>exact absurd HA.out (by simp [exergueref12_Right.l0])
  | succ k1=>
   have H:=HA.out
   clear HA
   simp only [exergueref12_Right.l0] at H
   by_cases c2:ab<(l0.length:Int)
   rotate_left
   ·rw [if_neg c2] at H
    have a7:=zD c2
    clear c2
    obtain rfl:=zE H
    go_wp2
    repeat (go_quiet (fail);try go_wp2)
    go_ret
    exact ⟨by first|rfl|(simp <;> rfl)|(simp [*] <;> rfl),bQ HB⟩
   rw [if_pos c2] at H
   have a7:=zC c2
   clear c2
   by_cases c3:0≤ab
   rotate_left
   ·rw [if_neg c3] at H
    exact absurd H (by simp)
   rw [if_pos c3] at H
   have bd:=zC c3
   clear c3
   replace H:=Option.bind_eq_some_iff.mp H
   obtain ⟨a4,A40,H⟩:=H
   try dsimp only at H
   have A4:=zS A40
   clear A40
   by_cases c5:a4=true
   rotate_left
   ·replace c5:=Bool.eq_false_iff.mpr c5
    subst c5
    rw [if_neg (show ¬ (false=true) by decide)] at H
    obtain rfl:=zE H
    have aE:0≤(ab:Int):=zB (by first|(with_reducible assumption)|assumption)
    have aF:ab<(l0.length:Int):=zB (by first|(with_reducible assumption)|assumption)
    obtain ⟨ag,aT,aU,aV,ah,ai,hl468_1,hi468_1⟩:=at_T65 HR0.out ab aE aF
    cases aV
    replace ah:=(HB.out.cell (World.block_lt_of_cell? w _ ah)).trans ah
    replace ai:=(HB.out.cell (World.block_lt_of_cell? w _ ai)).trans ai
    have aj:=zS hi468_1
    have ak:=zS hl468_1
    clear hi468_1 hl468_1
    replace aE:=eq_true aE
    replace aF:=eq_true aF
    go_wp2_with (first|(go_at_call 31;(with_reducible refine (exergueref11_Right.calls k1 _ _ ((rd_T65 l0 ab).f1) false _ (cb aj HB) ak.out A4.out).mono ?_);rintro e w18 ⟨rfl,hb⟩;replace HB:=bs HB hb;(try clear hb)))
    repeat (go_quiet (first|(go_at_call 31;(with_reducible refine (exergueref11_Right.calls k1 _ _ ((rd_T65 l0 ab).f1) false _ (cb aj HB) ak.out A4.out).mono ?_);rintro e w18 ⟨rfl,hb⟩;replace HB:=bs HB hb;(try clear hb);(try clear hb2);(try clear hk);(try clear hi)));try go_wp2_with (first|(go_at_call 31;(with_reducible refine (exergueref11_Right.calls k1 _ _ ((rd_T65 l0 ab).f1) false _ (cb aj HB) ak.out A4.out).mono ?_);rintro e w18 ⟨rfl,hb⟩;replace HB:=bs HB hb;(try clear hb);(try clear hb2);(try clear hk);(try clear hi))))
    go_ret
    exact ⟨by first|rfl|(simp <;> rfl)|(simp [*] <;> rfl),bQ HB⟩
   subst c5
   rw [if_pos rfl] at H
   by_cases c6:((rd_T65 l0 ab).f0)<1
   ·rw [if_pos c6] at H
    have a8:=zC c6
    clear c6
    obtain rfl:=zE H
    have aE:0≤(ab:Int):=zB (by first|(with_reducible assumption)|assumption)
    have aF:ab<(l0.length:Int):=zB (by first|(with_reducible assumption)|assumption)
    obtain ⟨ag,aT,aU,aV,ah,ai,hl468_1,hi468_1⟩:=at_T65 HR0.out ab aE aF
    cases aV
    replace ah:=(HB.out.cell (World.block_lt_of_cell? w _ ah)).trans ah
    replace ai:=(HB.out.cell (World.block_lt_of_cell? w _ ai)).trans ai
    have aj:=zS hi468_1
    have ak:=zS hl468_1
    clear hi468_1 hl468_1
    replace aE:=eq_true aE
    replace aF:=eq_true aF
    go_wp2_with (first|(go_at_call 31;(with_reducible refine (exergueref11_Right.calls k1 _ _ ((rd_T65 l0 ab).f1) true _ (cb aj HB) ak.out A4.out).mono ?_);rintro e w7 ⟨rfl,hb⟩;replace HB:=bs HB hb;(try clear hb);have al:0≤(ab:Int):=zB (by first|(with_reducible assumption)|assumption);have am:ab<(l0.length:Int):=zB (by first|(with_reducible assumption)|assumption);obtain ⟨au,ay,az,aA,ac,aa,hl470_1,hi470_1⟩:=at_T65 HR0.out ab al am;obtain rfl:ag=au:=(by injection aA);replace ac:=(HB.out.cell (World.block_lt_of_cell? w _ ac)).trans ac;replace aa:=(HB.out.cell (World.block_lt_of_cell? w _ aa)).trans aa;have av:=zS hi470_1;have aw:=zS hl470_1;clear hi470_1 hl470_1;replace al:=eq_true al;replace am:=eq_true am))
    repeat (go_quiet (first|(go_at_call 31;(with_reducible refine (exergueref11_Right.calls k1 _ _ ((rd_T65 l0 ab).f1) true _ (cb aj HB) ak.out A4.out).mono ?_);rintro e w7 ⟨rfl,hb⟩;replace HB:=bs HB hb;(try clear hb);(try clear hb2);(try clear hk);(try clear hi);have al:0≤(ab:Int):=zB (by first|(with_reducible assumption)|assumption);have am:ab<(l0.length:Int):=zB (by first|(with_reducible assumption)|assumption);obtain ⟨au,ay,az,aA,ac,aa,hl470_1,hi470_1⟩:=at_T65 HR0.out ab al am;obtain rfl:ag=au:=(by injection aA);replace ac:=(HB.out.cell (World.block_lt_of_cell? w _ ac)).trans ac;replace aa:=(HB.out.cell (World.block_lt_of_cell? w _ aa)).trans aa;have av:=zS hi470_1;have aw:=zS hl470_1;clear hi470_1 hl470_1;replace al:=eq_true al;replace am:=eq_true am));try go_wp2_with (first|(go_at_call 31;(with_reducible refine (exergueref11_Right.calls k1 _ _ ((rd_T65 l0 ab).f1) true _ (cb aj HB) ak.out A4.out).mono ?_);rintro e w7 ⟨rfl,hb⟩;replace HB:=bs HB hb;(try clear hb);(try clear hb2);(try clear hk);(try clear hi);have al:0≤(ab:Int):=zB (by first|(with_reducible assumption)|assumption);have am:ab<(l0.length:Int):=zB (by first|(with_reducible assumption)|assumption);obtain ⟨au,ay,az,aA,ac,aa,hl470_1,hi470_1⟩:=at_T65 HR0.out ab al am;obtain rfl:ag=au:=(by injection aA);replace ac:=(HB.out.cell (World.block_lt_of_cell? w _ ac)).trans ac;replace aa:=(HB.out.cell (World.block_lt_of_cell? w _ aa)).trans aa;have av:=zS hi470_1;have aw:=zS hl470_1;clear hi470_1 hl470_1;replace al:=eq_true al;replace am:=eq_true am)))
    go_ret
    exact ⟨by first|rfl|(simp <;> rfl)|(simp [*] <;> rfl),bQ HB⟩
   rw [if_neg c6] at H
   have a8:=zD c6
   clear c6
   by_cases c8:((rd_T65 l0 ab).f0)>5
   ·rw [if_pos c8] at H
    have a9:decide (5<((rd_T65 l0 ab).f0))=true:=zC c8
    clear c8
    obtain rfl:=zE H
    have aE:0≤(ab:Int):=zB (by first|(with_reducible assumption)|assumption)
    have aF:ab<(l0.length:Int):=zB (by first|(with_reducible assumption)|assumption)
    obtain ⟨ag,aT,aU,aV,ah,ai,hl468_1,hi468_1⟩:=at_T65 HR0.out ab aE aF
    cases aV
    replace ah:=(HB.out.cell (World.block_lt_of_cell? w _ ah)).trans ah
    replace ai:=(HB.out.cell (World.block_lt_of_cell? w _ ai)).trans ai
    have aj:=zS hi468_1
    have ak:=zS hl468_1
    clear hi468_1 hl468_1
    replace aE:=eq_true aE
    replace aF:=eq_true aF
    go_wp2_with (first|(go_at_call 31;(with_reducible refine (exergueref11_Right.calls k1 _ _ ((rd_T65 l0 ab).f1) true _ (cb aj HB) ak.out A4.out).mono ?_);rintro e w9 ⟨rfl,hb⟩;replace HB:=bs HB hb;(try clear hb);have al:0≤(ab:Int):=zB (by first|(with_reducible assumption)|assumption);have am:ab<(l0.length:Int):=zB (by first|(with_reducible assumption)|assumption);obtain ⟨au,ay,az,aA,ac,aa,hl470_1,hi470_1⟩:=at_T65 HR0.out ab al am;obtain rfl:ag=au:=(by injection aA);replace ac:=(HB.out.cell (World.block_lt_of_cell? w _ ac)).trans ac;replace aa:=(HB.out.cell (World.block_lt_of_cell? w _ aa)).trans aa;have av:=zS hi470_1;have aw:=zS hl470_1;clear hi470_1 hl470_1;replace al:=eq_true al;replace am:=eq_true am;have aq:0≤(ab:Int):=zB (by first|(with_reducible assumption)|assumption);have ar:ab<(l0.length:Int):=zB (by first|(with_reducible assumption)|assumption);obtain ⟨ax,aG,aH,aI,ae,ad,hl471_1,hi471_1⟩:=at_T65 HR0.out ab aq ar;obtain rfl:ag=ax:=(by injection aI);replace ae:=(HB.out.cell (World.block_lt_of_cell? w _ ae)).trans ae;replace ad:=(HB.out.cell (World.block_lt_of_cell? w _ ad)).trans ad;have aB:=zS hi471_1;have aC:=zS hl471_1;clear hi471_1 hl471_1;replace aq:=eq_true aq;replace ar:=eq_true ar;have ea_:=zE (aa.symm.trans ad);injection ea_ with ea_ en_ ec_;subst ea_;subst ec_;clear en_))
    repeat (go_quiet (first|(go_at_call 31;(with_reducible refine (exergueref11_Right.calls k1 _ _ ((rd_T65 l0 ab).f1) true _ (cb aj HB) ak.out A4.out).mono ?_);rintro e w9 ⟨rfl,hb⟩;replace HB:=bs HB hb;(try clear hb);have al:0≤(ab:Int):=zB (by first|(with_reducible assumption)|assumption);have am:ab<(l0.length:Int):=zB (by first|(with_reducible assumption)|assumption);obtain ⟨au,ay,az,aA,ac,aa,hl470_1,hi470_1⟩:=at_T65 HR0.out ab al am;obtain rfl:ag=au:=(by injection aA);replace ac:=(HB.out.cell (World.block_lt_of_cell? w _ ac)).trans ac;replace aa:=(HB.out.cell (World.block_lt_of_cell? w _ aa)).trans aa;have av:=zS hi470_1;have aw:=zS hl470_1;clear hi470_1 hl470_1;replace al:=eq_true al;replace am:=eq_true am;have aq:0≤(ab:Int):=zB (by first|(with_reducible assumption)|assumption);have ar:ab<(l0.length:Int):=zB (by first|(with_reducible assumption)|assumption);obtain ⟨ax,aG,aH,aI,ae,ad,hl471_1,hi471_1⟩:=at_T65 HR0.out ab aq ar;obtain rfl:ag=ax:=(by injection aI);replace ae:=(HB.out.cell (World.block_lt_of_cell? w _ ae)).trans ae;replace ad:=(HB.out.cell (World.block_lt_of_cell? w _ ad)).trans ad;have aB:=zS hi471_1;have aC:=zS hl471_1;clear hi471_1 hl471_1;replace aq:=eq_true aq;replace ar:=eq_true ar;have ea_:=zE (aa.symm.trans ad);injection ea_ with ea_ en_ ec_;subst ea_;subst ec_;clear en_));try go_wp2_with (first|(go_at_call 31;(with_reducible refine (exergueref11_Right.calls k1 _ _ ((rd_T65 l0 ab).f1) true _ (cb aj HB) ak.out A4.out).mono ?_);rintro e w9 ⟨rfl,hb⟩;replace HB:=bs HB hb;(try clear hb);have al:0≤(ab:Int):=zB (by first|(with_reducible assumption)|assumption);have am:ab<(l0.length:Int):=zB (by first|(with_reducible assumption)|assumption);obtain ⟨au,ay,az,aA,ac,aa,hl470_1,hi470_1⟩:=at_T65 HR0.out ab al am;obtain rfl:ag=au:=(by injection aA);replace ac:=(HB.out.cell (World.block_lt_of_cell? w _ ac)).trans ac;replace aa:=(HB.out.cell (World.block_lt_of_cell? w _ aa)).trans aa;have av:=zS hi470_1;have aw:=zS hl470_1;clear hi470_1 hl470_1;replace al:=eq_true al;replace am:=eq_true am;have aq:0≤(ab:Int):=zB (by first|(with_reducible assumption)|assumption);have ar:ab<(l0.length:Int):=zB (by first|(with_reducible assumption)|assumption);obtain ⟨ax,aG,aH,aI,ae,ad,hl471_1,hi471_1⟩:=at_T65 HR0.out ab aq ar;obtain rfl:ag=ax:=(by injection aI);replace ae:=(HB.out.cell (World.block_lt_of_cell? w _ ae)).trans ae;replace ad:=(HB.out.cell (World.block_lt_of_cell? w _ ad)).trans ad;have aB:=zS hi471_1;have aC:=zS hl471_1;clear hi471_1 hl471_1;replace aq:=eq_true aq;replace ar:=eq_true ar;have ea_:=zE (aa.symm.trans ad);injection ea_ with ea_ en_ ec_;subst ea_;subst ec_;clear en_)))
    go_ret
    exact ⟨by first|rfl|(simp <;> rfl)|(simp [*] <;> rfl),bQ HB⟩
   rw [if_neg c8] at H
   have a9:decide (5<((rd_T65 l0 ab).f0))=false:=zD c8
   clear c8
   by_cases c10:ab>0
   rotate_left
   ·rw [if_neg c10] at H
    have a5:decide (0<ab)=false:=zD c10
    clear c10
    have H':=zS H
    clear H
    have aE:0≤(ab:Int):=zB (by first|(with_reducible assumption)|assumption)
    have aF:ab<(l0.length:Int):=zB (by first|(with_reducible assumption)|assumption)
    obtain ⟨ag,aT,aU,aV,ah,ai,hl468_1,hi468_1⟩:=at_T65 HR0.out ab aE aF
    cases aV
    replace ah:=(HB.out.cell (World.block_lt_of_cell? w _ ah)).trans ah
    replace ai:=(HB.out.cell (World.block_lt_of_cell? w _ ai)).trans ai
    have aj:=zS hi468_1
    have ak:=zS hl468_1
    clear hi468_1 hl468_1
    replace aE:=eq_true aE
    replace aF:=eq_true aF
    go_wp2_with (first|(go_at_call 31;(with_reducible refine (exergueref11_Right.calls k1 _ _ ((rd_T65 l0 ab).f1) true _ (cb aj HB) ak.out A4.out).mono ?_);rintro e w17 ⟨rfl,hb⟩;replace HB:=bs HB hb;(try clear hb);have al:0≤(ab:Int):=zB (by first|(with_reducible assumption)|assumption);have am:ab<(l0.length:Int):=zB (by first|(with_reducible assumption)|assumption);obtain ⟨au,ay,az,aA,ac,aa,hl470_1,hi470_1⟩:=at_T65 HR0.out ab al am;obtain rfl:ag=au:=(by injection aA);replace ac:=(HB.out.cell (World.block_lt_of_cell? w _ ac)).trans ac;replace aa:=(HB.out.cell (World.block_lt_of_cell? w _ aa)).trans aa;have av:=zS hi470_1;have aw:=zS hl470_1;clear hi470_1 hl470_1;replace al:=eq_true al;replace am:=eq_true am;have aq:0≤(ab:Int):=zB (by first|(with_reducible assumption)|assumption);have ar:ab<(l0.length:Int):=zB (by first|(with_reducible assumption)|assumption);obtain ⟨ax,aG,aH,aI,ae,ad,hl471_1,hi471_1⟩:=at_T65 HR0.out ab aq ar;obtain rfl:ag=ax:=(by injection aI);replace ae:=(HB.out.cell (World.block_lt_of_cell? w _ ae)).trans ae;replace ad:=(HB.out.cell (World.block_lt_of_cell? w _ ad)).trans ad;have aB:=zS hi471_1;have aC:=zS hl471_1;clear hi471_1 hl471_1;replace aq:=eq_true aq;replace ar:=eq_true ar;have ea_:=zE (aa.symm.trans ad);injection ea_ with ea_ en_ ec_;subst ea_;subst ec_;clear en_))
    repeat (go_quiet (first|(go_at_call 31;(with_reducible refine (exergueref11_Right.calls k1 _ _ ((rd_T65 l0 ab).f1) true _ (cb aj HB) ak.out A4.out).mono ?_);rintro e w17 ⟨rfl,hb⟩;replace HB:=bs HB hb;(try clear hb);have al:0≤(ab:Int):=zB (by first|(with_reducible assumption)|assumption);have am:ab<(l0.length:Int):=zB (by first|(with_reducible assumption)|assumption);obtain ⟨au,ay,az,aA,ac,aa,hl470_1,hi470_1⟩:=at_T65 HR0.out ab al am;obtain rfl:ag=au:=(by injection aA);replace ac:=(HB.out.cell (World.block_lt_of_cell? w _ ac)).trans ac;replace aa:=(HB.out.cell (World.block_lt_of_cell? w _ aa)).trans aa;have av:=zS hi470_1;have aw:=zS hl470_1;clear hi470_1 hl470_1;replace al:=eq_true al;replace am:=eq_true am;have aq:0≤(ab:Int):=zB (by first|(with_reducible assumption)|assumption);have ar:ab<(l0.length:Int):=zB (by first|(with_reducible assumption)|assumption);obtain ⟨ax,aG,aH,aI,ae,ad,hl471_1,hi471_1⟩:=at_T65 HR0.out ab aq ar;obtain rfl:ag=ax:=(by injection aI);replace ae:=(HB.out.cell (World.block_lt_of_cell? w _ ae)).trans ae;replace ad:=(HB.out.cell (World.block_lt_of_cell? w _ ad)).trans ad;have aB:=zS hi471_1;have aC:=zS hl471_1;clear hi471_1 hl471_1;replace aq:=eq_true aq;replace ar:=eq_true ar;have ea_:=zE (aa.symm.trans ad);injection ea_ with ea_ en_ ec_;subst ea_;subst ec_;clear en_));try go_wp2_with (first|(go_at_call 31;(with_reducible refine (exergueref11_Right.calls k1 _ _ ((rd_T65 l0 ab).f1) true _ (cb aj HB) ak.out A4.out).mono ?_);rintro e w17 ⟨rfl,hb⟩;replace HB:=bs HB hb;(try clear hb);have al:0≤(ab:Int):=zB (by first|(with_reducible assumption)|assumption);have am:ab<(l0.length:Int):=zB (by first|(with_reducible assumption)|assumption);obtain ⟨au,ay,az,aA,ac,aa,hl470_1,hi470_1⟩:=at_T65 HR0.out ab al am;obtain rfl:ag=au:=(by injection aA);replace ac:=(HB.out.cell (World.block_lt_of_cell? w _ ac)).trans ac;replace aa:=(HB.out.cell (World.block_lt_of_cell? w _ aa)).trans aa;have av:=zS hi470_1;have aw:=zS hl470_1;clear hi470_1 hl470_1;replace al:=eq_true al;replace am:=eq_true am;have aq:0≤(ab:Int):=zB (by first|(with_reducible assumption)|assumption);have ar:ab<(l0.length:Int):=zB (by first|(with_reducible assumption)|assumption);obtain ⟨ax,aG,aH,aI,ae,ad,hl471_1,hi471_1⟩:=at_T65 HR0.out ab aq ar;obtain rfl:ag=ax:=(by injection aI);replace ae:=(HB.out.cell (World.block_lt_of_cell? w _ ae)).trans ae;replace ad:=(HB.out.cell (World.block_lt_of_cell? w _ ad)).trans ad;have aB:=zS hi471_1;have aC:=zS hl471_1;clear hi471_1 hl471_1;replace aq:=eq_true aq;replace ar:=eq_true ar;have ea_:=zE (aa.symm.trans ad);injection ea_ with ea_ en_ ec_;subst ea_;subst ec_;clear en_)))
    go_roundg k1
    case measure=>have:=HK1.out;omega
    case rel=>exact ⟨(wrap64 (ab+1)),(by first|rfl|(simp;done)|(simp [*];done)),H',⟨by have:=HK1.out;omega⟩,⟨bQ HB⟩⟩
   rw [if_pos c10] at H
   have a5:decide (0<ab)=true:=zC c10
   clear c10
   obtain ⟨aD,a3⟩:∃ j_:Int,(wrap64 (ab - 1))=j_:=⟨_,rfl⟩
   replace H:(if 0≤(aD) then (if (aD)<(l0.length:Int) then (if ((rd_T65 l0 ab).f0)≤((rd_T65 l0 (aD)).f0) then (some false) else (exergueref12_Right.l0 k1 l0 (wrap64 (ab+1)))) else (none)) else (none))=some r:=by first|(rw [a3] at H;exact H)|(simp only [a3] at H ⊢;exact H)
   (try rw [a3] at A4)
   have ba:(IntKind.i64.wrap (ab - 1))=aD:=(i64_w _).trans a3
   by_cases c12:0≤(aD)
   rotate_left
   ·rw [if_neg c12] at H
    exact absurd H (by simp)
   rw [if_pos c12] at H
   have bb:=zC c12
   clear c12
   by_cases c13:(aD)<(l0.length:Int)
   rotate_left
   ·rw [if_neg c13] at H
    exact absurd H (by simp)
   rw [if_pos c13] at H
   have bc:=zC c13
   clear c13
   by_cases c14:((rd_T65 l0 ab).f0)≤((rd_T65 l0 (aD)).f0)
   ·rw [if_pos c14] at H
    have a6:=zC c14
    clear c14
    obtain rfl:=zE H
    have aE:0≤(ab:Int):=zB (by first|(with_reducible assumption)|assumption)
    have aF:ab<(l0.length:Int):=zB (by first|(with_reducible assumption)|assumption)
    obtain ⟨ag,aT,aU,aV,ah,ai,hl468_1,hi468_1⟩:=at_T65 HR0.out ab aE aF
    cases aV
    replace ah:=(HB.out.cell (World.block_lt_of_cell? w _ ah)).trans ah
    replace ai:=(HB.out.cell (World.block_lt_of_cell? w _ ai)).trans ai
    have aj:=zS hi468_1
    have ak:=zS hl468_1
    clear hi468_1 hl468_1
    replace aE:=eq_true aE
    replace aF:=eq_true aF
    go_wp2_with (first|(go_at_call 31;(with_reducible refine (exergueref11_Right.calls k1 _ _ ((rd_T65 l0 ab).f1) true _ (cb aj HB) ak.out A4.out).mono ?_);rintro e w15 ⟨rfl,hb⟩;replace HB:=bs HB hb;(try clear hb);have al:0≤(ab:Int):=zB (by first|(with_reducible assumption)|assumption);have am:ab<(l0.length:Int):=zB (by first|(with_reducible assumption)|assumption);obtain ⟨au,ay,az,aA,ac,aa,hl470_1,hi470_1⟩:=at_T65 HR0.out ab al am;obtain rfl:ag=au:=(by injection aA);replace ac:=(HB.out.cell (World.block_lt_of_cell? w _ ac)).trans ac;replace aa:=(HB.out.cell (World.block_lt_of_cell? w _ aa)).trans aa;have av:=zS hi470_1;have aw:=zS hl470_1;clear hi470_1 hl470_1;replace al:=eq_true al;replace am:=eq_true am;have aq:0≤(ab:Int):=zB (by first|(with_reducible assumption)|assumption);have ar:ab<(l0.length:Int):=zB (by first|(with_reducible assumption)|assumption);obtain ⟨ax,aG,aH,aI,ae,ad,hl471_1,hi471_1⟩:=at_T65 HR0.out ab aq ar;obtain rfl:ag=ax:=(by injection aI);replace ae:=(HB.out.cell (World.block_lt_of_cell? w _ ae)).trans ae;replace ad:=(HB.out.cell (World.block_lt_of_cell? w _ ad)).trans ad;have aB:=zS hi471_1;have aC:=zS hl471_1;clear hi471_1 hl471_1;replace aq:=eq_true aq;replace ar:=eq_true ar;have ea_:=zE (aa.symm.trans ad);injection ea_ with ea_ en_ ec_;subst ea_;subst ec_;clear en_;have aJ:0≤(ab:Int):=zB (by first|(with_reducible assumption)|assumption);have aK:ab<(l0.length:Int):=zB (by first|(with_reducible assumption)|assumption);obtain ⟨aN,aW,aX,aY,an,af,hl472_1,hi472_1⟩:=at_T65 HR0.out ab aJ aK;obtain rfl:ag=aN:=(by injection aY);replace an:=(HB.out.cell (World.block_lt_of_cell? w _ an)).trans an;replace af:=(HB.out.cell (World.block_lt_of_cell? w _ af)).trans af;have aP:=zS hi472_1;have aQ:=zS hl472_1;clear hi472_1 hl472_1;replace aJ:=eq_true aJ;replace aK:=eq_true aK;have ea_:=zE (aa.symm.trans af);injection ea_ with ea_ en_ ec_;subst ea_;subst ec_;clear en_;have aL:0≤((aD):Int):=zB (by first|(with_reducible assumption)|assumption);have aM:(aD)<(l0.length:Int):=zB (by first|(with_reducible assumption)|assumption);obtain ⟨aO,aZ,a1,a2,ao,ap,hl473_1,hi473_1⟩:=at_T65 HR0.out (aD) aL aM;obtain rfl:ag=aO:=(by injection a2);replace ao:=(HB.out.cell (World.block_lt_of_cell? w _ ao)).trans ao;replace ap:=(HB.out.cell (World.block_lt_of_cell? w _ ap)).trans ap;have aR:=zS hi473_1;have aS:=zS hl473_1;clear hi473_1 hl473_1;replace aL:=eq_true aL;replace aM:=eq_true aM))
    repeat (go_quiet (first|(go_at_call 31;(with_reducible refine (exergueref11_Right.calls k1 _ _ ((rd_T65 l0 ab).f1) true _ (cb aj HB) ak.out A4.out).mono ?_);rintro e w15 ⟨rfl,hb⟩;replace HB:=bs HB hb;(try clear hb);have al:0≤(ab:Int):=zB (by first|(with_reducible assumption)|assumption);have am:ab<(l0.length:Int):=zB (by first|(with_reducible assumption)|assumption);obtain ⟨au,ay,az,aA,ac,aa,hl470_1,hi470_1⟩:=at_T65 HR0.out ab al am;obtain rfl:ag=au:=(by injection aA);replace ac:=(HB.out.cell (World.block_lt_of_cell? w _ ac)).trans ac;replace aa:=(HB.out.cell (World.block_lt_of_cell? w _ aa)).trans aa;have av:=zS hi470_1;have aw:=zS hl470_1;clear hi470_1 hl470_1;replace al:=eq_true al;replace am:=eq_true am;have aq:0≤(ab:Int):=zB (by first|(with_reducible assumption)|assumption);have ar:ab<(l0.length:Int):=zB (by first|(with_reducible assumption)|assumption);obtain ⟨ax,aG,aH,aI,ae,ad,hl471_1,hi471_1⟩:=at_T65 HR0.out ab aq ar;obtain rfl:ag=ax:=(by injection aI);replace ae:=(HB.out.cell (World.block_lt_of_cell? w _ ae)).trans ae;replace ad:=(HB.out.cell (World.block_lt_of_cell? w _ ad)).trans ad;have aB:=zS hi471_1;have aC:=zS hl471_1;clear hi471_1 hl471_1;replace aq:=eq_true aq;replace ar:=eq_true ar;have ea_:=zE (aa.symm.trans ad);injection ea_ with ea_ en_ ec_;subst ea_;subst ec_;clear en_;have aJ:0≤(ab:Int):=zB (by first|(with_reducible assumption)|assumption);have aK:ab<(l0.length:Int):=zB (by first|(with_reducible assumption)|assumption);obtain ⟨aN,aW,aX,aY,an,af,hl472_1,hi472_1⟩:=at_T65 HR0.out ab aJ aK;obtain rfl:ag=aN:=(by injection aY);replace an:=(HB.out.cell (World.block_lt_of_cell? w _ an)).trans an;replace af:=(HB.out.cell (World.block_lt_of_cell? w _ af)).trans af;have aP:=zS hi472_1;have aQ:=zS hl472_1;clear hi472_1 hl472_1;replace aJ:=eq_true aJ;replace aK:=eq_true aK;have ea_:=zE (aa.symm.trans af);injection ea_ with ea_ en_ ec_;subst ea_;subst ec_;clear en_;have aL:0≤((aD):Int):=zB (by first|(with_reducible assumption)|assumption);have aM:(aD)<(l0.length:Int):=zB (by first|(with_reducible assumption)|assumption);obtain ⟨aO,aZ,a1,a2,ao,ap,hl473_1,hi473_1⟩:=at_T65 HR0.out (aD) aL aM;obtain rfl:ag=aO:=(by injection a2);replace ao:=(HB.out.cell (World.block_lt_of_cell? w _ ao)).trans ao;replace ap:=(HB.out.cell (World.block_lt_of_cell? w _ ap)).trans ap;have aR:=zS hi473_1;have aS:=zS hl473_1;clear hi473_1 hl473_1;replace aL:=eq_true aL;replace aM:=eq_true aM));try go_wp2_with (first|(go_at_call 31;(with_reducible refine (exergueref11_Right.calls k1 _ _ ((rd_T65 l0 ab).f1) true _ (cb aj HB) ak.out A4.out).mono ?_);rintro e w15 ⟨rfl,hb⟩;replace HB:=bs HB hb;(try clear hb);have al:0≤(ab:Int):=zB (by first|(with_reducible assumption)|assumption);have am:ab<(l0.length:Int):=zB (by first|(with_reducible assumption)|assumption);obtain ⟨au,ay,az,aA,ac,aa,hl470_1,hi470_1⟩:=at_T65 HR0.out ab al am;obtain rfl:ag=au:=(by injection aA);replace ac:=(HB.out.cell (World.block_lt_of_cell? w _ ac)).trans ac;replace aa:=(HB.out.cell (World.block_lt_of_cell? w _ aa)).trans aa;have av:=zS hi470_1;have aw:=zS hl470_1;clear hi470_1 hl470_1;replace al:=eq_true al;replace am:=eq_true am;have aq:0≤(ab:Int):=zB (by first|(with_reducible assumption)|assumption);have ar:ab<(l0.length:Int):=zB (by first|(with_reducible assumption)|assumption);obtain ⟨ax,aG,aH,aI,ae,ad,hl471_1,hi471_1⟩:=at_T65 HR0.out ab aq ar;obtain rfl:ag=ax:=(by injection aI);replace ae:=(HB.out.cell (World.block_lt_of_cell? w _ ae)).trans ae;replace ad:=(HB.out.cell (World.block_lt_of_cell? w _ ad)).trans ad;have aB:=zS hi471_1;have aC:=zS hl471_1;clear hi471_1 hl471_1;replace aq:=eq_true aq;replace ar:=eq_true ar;have ea_:=zE (aa.symm.trans ad);injection ea_ with ea_ en_ ec_;subst ea_;subst ec_;clear en_;have aJ:0≤(ab:Int):=zB (by first|(with_reducible assumption)|assumption);have aK:ab<(l0.length:Int):=zB (by first|(with_reducible assumption)|assumption);obtain ⟨aN,aW,aX,aY,an,af,hl472_1,hi472_1⟩:=at_T65 HR0.out ab aJ aK;obtain rfl:ag=aN:=(by injection aY);replace an:=(HB.out.cell (World.block_lt_of_cell? w _ an)).trans an;replace af:=(HB.out.cell (World.block_lt_of_cell? w _ af)).trans af;have aP:=zS hi472_1;have aQ:=zS hl472_1;clear hi472_1 hl472_1;replace aJ:=eq_true aJ;replace aK:=eq_true aK;have ea_:=zE (aa.symm.trans af);injection ea_ with ea_ en_ ec_;subst ea_;subst ec_;clear en_;have aL:0≤((aD):Int):=zB (by first|(with_reducible assumption)|assumption);have aM:(aD)<(l0.length:Int):=zB (by first|(with_reducible assumption)|assumption);obtain ⟨aO,aZ,a1,a2,ao,ap,hl473_1,hi473_1⟩:=at_T65 HR0.out (aD) aL aM;obtain rfl:ag=aO:=(by injection a2);replace ao:=(HB.out.cell (World.block_lt_of_cell? w _ ao)).trans ao;replace ap:=(HB.out.cell (World.block_lt_of_cell? w _ ap)).trans ap;have aR:=zS hi473_1;have aS:=zS hl473_1;clear hi473_1 hl473_1;replace aL:=eq_true aL;replace aM:=eq_true aM)))
    go_ret
    exact ⟨by first|rfl|(simp <;> rfl)|(simp only [← a3];first|rfl|(simp <;> rfl))|(simp [*] <;> rfl),bQ HB⟩
   rw [if_neg c14] at H
   have a6:=zD c14
   clear c14
   have H':=zS H
   clear H
   have aE:0≤(ab:Int):=zB (by first|(with_reducible assumption)|assumption)
   have aF:ab<(l0.length:Int):=zB (by first|(with_reducible assumption)|assumption)
   obtain ⟨ag,aT,aU,aV,ah,ai,hl468_1,hi468_1⟩:=at_T65 HR0.out ab aE aF
   cases aV
   replace ah:=(HB.out.cell (World.block_lt_of_cell? w _ ah)).trans ah
   replace ai:=(HB.out.cell (World.block_lt_of_cell? w _ ai)).trans ai
   have aj:=zS hi468_1
   have ak:=zS hl468_1
   clear hi468_1 hl468_1
   replace aE:=eq_true aE
   replace aF:=eq_true aF
   go_wp2_with (first|(go_at_call 31;(with_reducible refine (exergueref11_Right.calls k1 _ _ ((rd_T65 l0 ab).f1) true _ (cb aj HB) ak.out A4.out).mono ?_);rintro e w16 ⟨rfl,hb⟩;replace HB:=bs HB hb;(try clear hb);have al:0≤(ab:Int):=zB (by first|(with_reducible assumption)|assumption);have am:ab<(l0.length:Int):=zB (by first|(with_reducible assumption)|assumption);obtain ⟨au,ay,az,aA,ac,aa,hl470_1,hi470_1⟩:=at_T65 HR0.out ab al am;obtain rfl:ag=au:=(by injection aA);replace ac:=(HB.out.cell (World.block_lt_of_cell? w _ ac)).trans ac;replace aa:=(HB.out.cell (World.block_lt_of_cell? w _ aa)).trans aa;have av:=zS hi470_1;have aw:=zS hl470_1;clear hi470_1 hl470_1;replace al:=eq_true al;replace am:=eq_true am;have aq:0≤(ab:Int):=zB (by first|(with_reducible assumption)|assumption);have ar:ab<(l0.length:Int):=zB (by first|(with_reducible assumption)|assumption);obtain ⟨ax,aG,aH,aI,ae,ad,hl471_1,hi471_1⟩:=at_T65 HR0.out ab aq ar;obtain rfl:ag=ax:=(by injection aI);replace ae:=(HB.out.cell (World.block_lt_of_cell? w _ ae)).trans ae;replace ad:=(HB.out.cell (World.block_lt_of_cell? w _ ad)).trans ad;have aB:=zS hi471_1;have aC:=zS hl471_1;clear hi471_1 hl471_1;replace aq:=eq_true aq;replace ar:=eq_true ar;have ea_:=zE (aa.symm.trans ad);injection ea_ with ea_ en_ ec_;subst ea_;subst ec_;clear en_;have aJ:0≤(ab:Int):=zB (by first|(with_reducible assumption)|assumption);have aK:ab<(l0.length:Int):=zB (by first|(with_reducible assumption)|assumption);obtain ⟨aN,aW,aX,aY,an,af,hl472_1,hi472_1⟩:=at_T65 HR0.out ab aJ aK;obtain rfl:ag=aN:=(by injection aY);replace an:=(HB.out.cell (World.block_lt_of_cell? w _ an)).trans an;replace af:=(HB.out.cell (World.block_lt_of_cell? w _ af)).trans af;have aP:=zS hi472_1;have aQ:=zS hl472_1;clear hi472_1 hl472_1;replace aJ:=eq_true aJ;replace aK:=eq_true aK;have ea_:=zE (aa.symm.trans af);injection ea_ with ea_ en_ ec_;subst ea_;subst ec_;clear en_;have aL:0≤((aD):Int):=zB (by first|(with_reducible assumption)|assumption);have aM:(aD)<(l0.length:Int):=zB (by first|(with_reducible assumption)|assumption);obtain ⟨aO,aZ,a1,a2,ao,ap,hl473_1,hi473_1⟩:=at_T65 HR0.out (aD) aL aM;obtain rfl:ag=aO:=(by injection a2);replace ao:=(HB.out.cell (World.block_lt_of_cell? w _ ao)).trans ao;replace ap:=(HB.out.cell (World.block_lt_of_cell? w _ ap)).trans ap;have aR:=zS hi473_1;have aS:=zS hl473_1;clear hi473_1 hl473_1;replace aL:=eq_true aL;replace aM:=eq_true aM))
   repeat (go_quiet (first|(go_at_call 31;(with_reducible refine (exergueref11_Right.calls k1 _ _ ((rd_T65 l0 ab).f1) true _ (cb aj HB) ak.out A4.out).mono ?_);rintro e w16 ⟨rfl,hb⟩;replace HB:=bs HB hb;(try clear hb);have al:0≤(ab:Int):=zB (by first|(with_reducible assumption)|assumption);have am:ab<(l0.length:Int):=zB (by first|(with_reducible assumption)|assumption);obtain ⟨au,ay,az,aA,ac,aa,hl470_1,hi470_1⟩:=at_T65 HR0.out ab al am;obtain rfl:ag=au:=(by injection aA);replace ac:=(HB.out.cell (World.block_lt_of_cell? w _ ac)).trans ac;replace aa:=(HB.out.cell (World.block_lt_of_cell? w _ aa)).trans aa;have av:=zS hi470_1;have aw:=zS hl470_1;clear hi470_1 hl470_1;replace al:=eq_true al;replace am:=eq_true am;have aq:0≤(ab:Int):=zB (by first|(with_reducible assumption)|assumption);have ar:ab<(l0.length:Int):=zB (by first|(with_reducible assumption)|assumption);obtain ⟨ax,aG,aH,aI,ae,ad,hl471_1,hi471_1⟩:=at_T65 HR0.out ab aq ar;obtain rfl:ag=ax:=(by injection aI);replace ae:=(HB.out.cell (World.block_lt_of_cell? w _ ae)).trans ae;replace ad:=(HB.out.cell (World.block_lt_of_cell? w _ ad)).trans ad;have aB:=zS hi471_1;have aC:=zS hl471_1;clear hi471_1 hl471_1;replace aq:=eq_true aq;replace ar:=eq_true ar;have ea_:=zE (aa.symm.trans ad);injection ea_ with ea_ en_ ec_;subst ea_;subst ec_;clear en_;have aJ:0≤(ab:Int):=zB (by first|(with_reducible assumption)|assumption);have aK:ab<(l0.length:Int):=zB (by first|(with_reducible assumption)|assumption);obtain ⟨aN,aW,aX,aY,an,af,hl472_1,hi472_1⟩:=at_T65 HR0.out ab aJ aK;obtain rfl:ag=aN:=(by injection aY);replace an:=(HB.out.cell (World.block_lt_of_cell? w _ an)).trans an;replace af:=(HB.out.cell (World.block_lt_of_cell? w _ af)).trans af;have aP:=zS hi472_1;have aQ:=zS hl472_1;clear hi472_1 hl472_1;replace aJ:=eq_true aJ;replace aK:=eq_true aK;have ea_:=zE (aa.symm.trans af);injection ea_ with ea_ en_ ec_;subst ea_;subst ec_;clear en_;have aL:0≤((aD):Int):=zB (by first|(with_reducible assumption)|assumption);have aM:(aD)<(l0.length:Int):=zB (by first|(with_reducible assumption)|assumption);obtain ⟨aO,aZ,a1,a2,ao,ap,hl473_1,hi473_1⟩:=at_T65 HR0.out (aD) aL aM;obtain rfl:ag=aO:=(by injection a2);replace ao:=(HB.out.cell (World.block_lt_of_cell? w _ ao)).trans ao;replace ap:=(HB.out.cell (World.block_lt_of_cell? w _ ap)).trans ap;have aR:=zS hi473_1;have aS:=zS hl473_1;clear hi473_1 hl473_1;replace aL:=eq_true aL;replace aM:=eq_true aM));try go_wp2_with (first|(go_at_call 31;(with_reducible refine (exergueref11_Right.calls k1 _ _ ((rd_T65 l0 ab).f1) true _ (cb aj HB) ak.out A4.out).mono ?_);rintro e w16 ⟨rfl,hb⟩;replace HB:=bs HB hb;(try clear hb);have al:0≤(ab:Int):=zB (by first|(with_reducible assumption)|assumption);have am:ab<(l0.length:Int):=zB (by first|(with_reducible assumption)|assumption);obtain ⟨au,ay,az,aA,ac,aa,hl470_1,hi470_1⟩:=at_T65 HR0.out ab al am;obtain rfl:ag=au:=(by injection aA);replace ac:=(HB.out.cell (World.block_lt_of_cell? w _ ac)).trans ac;replace aa:=(HB.out.cell (World.block_lt_of_cell? w _ aa)).trans aa;have av:=zS hi470_1;have aw:=zS hl470_1;clear hi470_1 hl470_1;replace al:=eq_true al;replace am:=eq_true am;have aq:0≤(ab:Int):=zB (by first|(with_reducible assumption)|assumption);have ar:ab<(l0.length:Int):=zB (by first|(with_reducible assumption)|assumption);obtain ⟨ax,aG,aH,aI,ae,ad,hl471_1,hi471_1⟩:=at_T65 HR0.out ab aq ar;obtain rfl:ag=ax:=(by injection aI);replace ae:=(HB.out.cell (World.block_lt_of_cell? w _ ae)).trans ae;replace ad:=(HB.out.cell (World.block_lt_of_cell? w _ ad)).trans ad;have aB:=zS hi471_1;have aC:=zS hl471_1;clear hi471_1 hl471_1;replace aq:=eq_true aq;replace ar:=eq_true ar;have ea_:=zE (aa.symm.trans ad);injection ea_ with ea_ en_ ec_;subst ea_;subst ec_;clear en_;have aJ:0≤(ab:Int):=zB (by first|(with_reducible assumption)|assumption);have aK:ab<(l0.length:Int):=zB (by first|(with_reducible assumption)|assumption);obtain ⟨aN,aW,aX,aY,an,af,hl472_1,hi472_1⟩:=at_T65 HR0.out ab aJ aK;obtain rfl:ag=aN:=(by injection aY);replace an:=(HB.out.cell (World.block_lt_of_cell? w _ an)).trans an;replace af:=(HB.out.cell (World.block_lt_of_cell? w _ af)).trans af;have aP:=zS hi472_1;have aQ:=zS hl472_1;clear hi472_1 hl472_1;replace aJ:=eq_true aJ;replace aK:=eq_true aK;have ea_:=zE (aa.symm.trans af);injection ea_ with ea_ en_ ec_;subst ea_;subst ec_;clear en_;have aL:0≤((aD):Int):=zB (by first|(with_reducible assumption)|assumption);have aM:(aD)<(l0.length:Int):=zB (by first|(with_reducible assumption)|assumption);obtain ⟨aO,aZ,a1,a2,ao,ap,hl473_1,hi473_1⟩:=at_T65 HR0.out (aD) aL aM;obtain rfl:ag=aO:=(by injection a2);replace ao:=(HB.out.cell (World.block_lt_of_cell? w _ ao)).trans ao;replace ap:=(HB.out.cell (World.block_lt_of_cell? w _ ap)).trans ap;have aR:=zS hi473_1;have aS:=zS hl473_1;clear hi473_1 hl473_1;replace aL:=eq_true aL;replace aM:=eq_true aM)))
   go_roundg k1
   case measure=>have:=HK1.out;omega
   case rel=>exact ⟨(wrap64 (ab+1)),(by first|rfl|(simp;done)|(simp [*];done)),H',⟨by have:=HK1.out;omega⟩,⟨bQ HB⟩⟩
end Go.Proofs.YtgfajgkjbckkgaaGreatDoor.PZ
end
end
section
set_option maxRecDepth 100000
namespace Go.Proofs.YtgfajgkjbckkgaaGreatDoor.PZ
open Go.RowKit Go.Shelf Go.Proofs.YtgfajgkjbckkgaaGreatDoorW.PrintWords Go.Proofs.YtgfajgkjbckkgaaGreatDoorW.PrintLast
section
attribute [local go_sem] Oper.semAt_some
def hlist (q:Ru→Bool)(l:List Ru):List Int:=(l.filter q).map (·.f0)
theorem hlist_more {q:Ru→Bool}{l:List Ru}{k:Nat}(hk:k<l.length):hlist q (l.take (k+1))=hlist q (l.take k) ++ (if q (l.getD k ⟨0,[]⟩)=true then [(l.getD k ⟨0,[]⟩).f0] else []):=by
 unfold hlist
 have e:l.getD k ⟨0,[]⟩=l[k]:=by simp [List.getD_eq_getElem?_getD,List.getElem?_eq_getElem hk]
 rw [List.take_succ_eq_append_getElem hk,List.filter_append,List.map_append,e]
 congr 1
 by_cases h:q l[k]=true <;> simp [h]
theorem hlist_split (q:Ru→Bool)(l:List Ru)(k:Nat):hlist q l=hlist q (l.take k) ++ hlist q (l.drop k):=by
 unfold hlist
 conv=>lhs;rw [← List.take_append_drop k l,List.filter_append,List.map_append]
theorem hlist_lt {q:Ru→Bool}{l:List Ru}{k:Nat}(hk:k<l.length)(h:q (l.getD k ⟨0,[]⟩)=true):(hlist q (l.take k)).length<(hlist q l).length:=by
 have e1:=congrArg List.length (hlist_split q l (k+1))
 have e2:=congrArg List.length (hlist_more (q:=q) hk)
 rw [if_pos h] at e2
 simp only [List.length_append,List.length_cons,List.length_nil] at e1 e2
 omega
structure PlArgs (W:World)(Bl Bo:Nat)(A:Option Addr)(cap:Nat)(l:List Ru)(A0:Option Addr)(n0 c0:Nat)(A1:Option Addr)(n1 c1:Nat)(a2 a3:Int):Prop where
  bl:W.cell? ⟨Bl,0,none⟩=some (.slice A l.length cap)
  o0:W.cell? ⟨Bo,0,none⟩=some (.slice A0 n0 c0)
  o1:W.cell? ⟨Bo,1,none⟩=some (.slice A1 n1 c1)
  o2:W.cell? ⟨Bo,2,none⟩=some (.int .i64 a2)
  o3:W.cell? ⟨Bo,3,none⟩=some (.int .i64 a3)
  row:Kd.C k65 W A l.length l
theorem PlArgs.below {W W':World}{Bl Bo:Nat}{A:Option Addr}{cap:Nat}{l:List Ru}{A0:Option Addr}{n0 c0:Nat}{A1:Option Addr}{n1 c1:Nat}{a2 a3:Int}(h:PlArgs W Bl Bo A cap l A0 n0 c0 A1 n1 c1 a2 a3)(hb:Below W.heap.size W W'):PlArgs W' Bl Bo A cap l A0 n0 c0 A1 n1 c1 a2 a3:=by
 have hk:∀ {a:Addr} {u:Value},W.cell? a=some u→W'.cell? a=some u:=fun h=>(hb.cell (World.block_lt_of_cell? W _ h)).trans h
 exact ⟨hk h.bl,hk h.o0,hk h.o1,hk h.o2,hk h.o3,Kd.C_below h.row hb⟩
theorem below_none {W W':World}(hb:Below W.heap.size W W'):W.grownBy W' none:=⟨hb.os,hb.tape,hb.output,hb.size,fun k hk _=>hb.block k hk⟩
set_option maxRecDepth 100000 in
set_option maxHeartbeats 4000000 in
theorem holding1_in (F:Fence)(n:Nat)(hf:F.fn 70)(hf3:F.fn 37)(hro:F.round=none)(hn:2≤n)(lk Bl Bo:Nat)(A:Option Addr)(cap:Nat)(l:List Ru)(A0:Option Addr)(n0 c0:Nat)(A1:Option Addr)(n1 c1:Nat)(a2 a3:Int)(q:Ru→Bool)
    (w:World) (ha:PlArgs w Bl Bo A cap l A0 n0 c0 A1 n1 c1 a2 a3)
    (hH:∀ x ∈ l,∀ W Ax cx,Below w.heap.size w W→Kd.C (Kd.slice 60 k60) W Ax x.f1.length x.f1→x.f1.length≤cx→CallsIn F (n - 1) Tryz.prog 37 #[.slice Ax x.f1.length cx,.agg #[.slice A0 n0 c0,.slice A1 n1 c1,.int .i64 a2,.int .i64 a3]] W fun e w'=>e = .returned (.bool (q x))∧Below W.heap.size W w')
    (J Jx:List Int→World→Prop) (W:World) (hW:Below w.heap.size w W) (hJ:AbidesFrom W.heap.size J)
    (hY:∀ pre x W1,J pre W1→pre.length<(hlist q l).length→YieldAt F (n - 1) Tryz.prog lk #[.int .i64 x] W1 fun e W'=>
      (e = .returned (.bool true)∧J (pre ++ [x]) W'∧Below w.heap.size W1 W')∨(e = .returned (.bool false)∧Jx (pre ++ [x]) W'))
    (h0:J [] W) :
    CallsIn F n Tryz.prog 70 #[.func (.yield lk) #[] #[],.pointer (some ⟨Bl,0,none⟩),.pointer (some ⟨Bo,0,none⟩)] W fun e W'=>(∃ v,e = .returned v) ∧
      ((∃ ys,ys=hlist q l∧J ys W')∨(∃ pre,(∃ t,hlist q l=pre ++ t)∧Jx pre W')):=by
 have h1:1≤n - 1:=by omega
 have h2:1≤n:=by omega
 have hl:=ha.row.2.1
 have ha0:=ha.below hW
 have hb0:=ha0.bl
 have HA:=zA (fun W' (hb:Below w.heap.size w W')=>ha.below hb)
 have HH:=zA hH
 have HY:=zA hY
 have HJ:=zA hJ
 clear hH hY hJ ha ha0
 refine callsIn_of_wp Tryz.func70 rfl hf ?_ hro
 simp only [Tryz.ntmps70,List.size_toArray,List.length_cons,List.length_nil,Nat.reduceAdd,Nat.reduceSub,Array.replicate_succ,Array.replicate_zero,List.push_toArray,List.append_toArray,List.nil_append,List.cons_append]
 gi_wp2
 clear hb0
 gi_loopw [8] (fun i wr=>∃ k:Nat,k≤l.length∧i = .int .i64 k∧Aside0 (J (hlist q (l.take k)) wr)∧Aside0 (Below w.heap.size w wr)∧Aside0 (W.heap.size≤wr.heap.size))
  (fun i _=>l.length - (intOf i).toNat)
 case atStart=>exact ⟨0,Nat.zero_le _,rfl,⟨h0⟩,⟨hW⟩,⟨Nat.le_refl _⟩⟩
 case round=>
  obtain ⟨k,hk,rfl,HJs,HB,HZ⟩:=hrel
  by_cases hlt:k<l.length
  rotate_left
  ·have j1:decide ((k:Int)<(l.length:Int))=false:=zD (by omega)
   gi_wp2
   go_end0
   exact ⟨⟨_,rfl⟩,.inl ⟨_,by rw [List.take_of_length_le (by omega)],HJs.out⟩⟩
  have j1:decide ((k:Int)<(l.length:Int))=true:=zC (by omega)
  have HAr:=HA.out wr HB.out
  obtain ⟨ad,A3,c3,e3,x0,x1,hx3,HX⟩:=ruled_at HAr.row k hlt
  subst e3
  have p0:(0≤(k:Int))=True:=eq_true (by omega)
  have m2:decide (k<l.length)=true:=zC hlt
  have m3:((k:Int)<(l.length:Int))=True:=eq_true (by omega)
  have m4:(k<l.length)=True:=eq_true hlt
  have hmem:=getD_mem (⟨0,[]⟩:Ru) hlt
  have hmore:=hlist_more (q:=q) hlt
  have hlen:=zA (hlist_lt (q:=q) hlt)
  have hgo:=zA (hlist_split q l (k+1))
  generalize l.getD k ⟨0,[]⟩=X at *
  have HBx:=below_alloc (Below.refl wr.heap.size wr) (.cells #[.int .i64 X.f0,.slice A3 X.f1.length c3] 65)
  have hnew:=heap_alloc_new wr (.cells #[.int .i64 X.f0,.slice A3 X.f1.length c3] 65)
  have HC:=zA (HH.out X hmem _ A3 c3 (below_step HB.out HBx) (Kd.C_below HX HBx) hx3)
  have z0:=fun o=>((below_alloc (Below.refl wr.heap.size wr) o).cell (World.block_lt_of_cell? wr _ HAr.o0)).trans HAr.o0
  have z1:=fun o=>((below_alloc (Below.refl wr.heap.size wr) o).cell (World.block_lt_of_cell? wr _ HAr.o1)).trans HAr.o1
  have z2:=fun o=>((below_alloc (Below.refl wr.heap.size wr) o).cell (World.block_lt_of_cell? wr _ HAr.o2)).trans HAr.o2
  have z3:=fun o=>((below_alloc (Below.refl wr.heap.size wr) o).cell (World.block_lt_of_cell? wr _ HAr.o3)).trans HAr.o3
  have hcat:=zA ((blk_cell hnew 0).trans (rfl:_=some (Value.int .i64 X.f0)))
  replace HBx:=zA HBx
  replace hmore:=zA hmore
  clear HAr HX hx3 hmem hnew
  cases hq:q X with
  | false=>
   rw [hq] at HC
   gi_wp2_with (gi_at_call 37;refine (HC.out).mono ?_;rintro e w5 ⟨rfl,hb5⟩;have hB:=zA (below_step HBx.out hb5);clear hb5)
   refine ⟨(fun _ h_=>by cases h_),?_⟩
   gi_wp2
   go_roundw
   case rel=>
    refine ⟨k+1,by omega,by go_num,⟨?_⟩,⟨below_step HB.out hB.out⟩,⟨Nat.le_trans HZ.out hB.out.size⟩⟩
    rw [hmore.out,hq]
    simp only [Bool.false_eq_true,if_false,List.append_nil]
    exact HJ.out _ _ _ none HJs.out (below_none hB.out) (fun _ e=>by cases e)
   case measure=>first|omega|(simp [intOf];omega)
  | true=>
   rw [hq] at HC
   replace hlen:=zA (hlen.out hq)
   replace hmore:=zA (hmore.out.trans (by rw [hq,if_pos rfl]))
   clear hq
   gi_wp2_with (gi_at_call 37;refine (HC.out).mono ?_;rintro e w5 ⟨rfl,hb5⟩;have hcat5:=(hb5.cell (World.block_lt_of_cell? _ _ hcat.out)).trans hcat.out;have hB:=zA (below_step HBx.out hb5);clear hb5;obtain ⟨fn,tmps,assign,body,hy,hR⟩:=HY.out (hlist q (l.take k)) X.f0 w5 (HJ.out _ _ _ none HJs.out (below_none hB.out) (fun _ e=>by cases e)) hlen.out;(try dsimp only at hy);have HR:=zA hR;clear hR)
   refine HR.out.mono ?_
   rintro e W3 (⟨rfl,hJ3,hk3⟩|⟨rfl,hJx3⟩)
   ·gi_wp2
    go_roundw
    case rel=>
     exact ⟨k+1,by omega,by go_num,⟨by rw [hmore.out];exact hJ3⟩,⟨(below_step HB.out hB.out).trans hk3⟩,⟨Nat.le_trans (Nat.le_trans HZ.out hB.out.size) hk3.size⟩⟩
    case measure=>simp [intOf];omega
   gi_wp2
   refine bodyPost_ret (results_none rfl _ _ _) rfl ?_
   exact ⟨⟨_,rfl⟩,.inr ⟨_,⟨_,by rw [hgo.out,hmore.out]⟩,hJx3⟩⟩
theorem holding_in (F:Fence)(n:Nat)(hf:F.fn 50)(hro:F.round=none)(A:Option Addr)(ln cap:Nat)(A0:Option Addr)(n0 c0:Nat)(A1:Option Addr)(n1 c1:Nat)(a2 a3:Int)(w:World) :
    CallsIn F n Tryz.prog 50 #[.slice A ln cap,.agg #[.slice A0 n0 c0,.slice A1 n1 c1,.int .i64 a2,.int .i64 a3]] w fun e w'=>e = .returned (.func (.func 70) #[] #[.pointer (some ⟨w.heap.size,0,none⟩),.pointer (some ⟨w.heap.size+1,0,none⟩)]) ∧
      w'=(w.alloc (.cells #[.slice A ln cap] 28)).alloc (.cells #[.slice A0 n0 c0,.slice A1 n1 c1,.int .i64 a2,.int .i64 a3] 36):=by
 refine callsIn_of_wp Tryz.func50 rfl hf ?_ hro
 simp only [Tryz.ntmps50,List.size_toArray,List.length_cons,List.length_nil,Nat.reduceAdd,Nat.reduceSub,Array.replicate_succ,Array.replicate_zero,List.push_toArray,List.append_toArray,List.nil_append,List.cons_append]
 gi_wp2
 go_ret
 exact ⟨rfl,rfl⟩
set_option maxRecDepth 100000 in
set_option maxHeartbeats 4000000 in
theorem of_in (F:Fence)(n:Nat)(hf:F.fn 27)(hf1:F.fn 50)(hf2:F.fn 70)(hf3:F.fn 37)(hro:F.round=none)(hn:3≤n)(A:Option Addr)(cap:Nat)(l:List Ru)(A0:Option Addr)(n0 c0:Nat)(A1:Option Addr)(n1 c1:Nat)(a2 a3:Int)(q:Ru→Bool)
    (w:World) (hr:Kd.C k65 w A l.length l)
    (hH:∀ x ∈ l,∀ W Ax cx,Below w.heap.size w W→Kd.C (Kd.slice 60 k60) W Ax x.f1.length x.f1→x.f1.length≤cx→CallsIn F (n - 1 - 1) Tryz.prog 37 #[.slice Ax x.f1.length cx,.agg #[.slice A0 n0 c0,.slice A1 n1 c1,.int .i64 a2,.int .i64 a3]] W fun e w'=>e = .returned (.bool (q x))∧Below W.heap.size W w') :
    CallsIn F n Tryz.prog 27 #[.slice A l.length cap,.agg #[.slice A0 n0 c0,.slice A1 n1 c1,.int .i64 a2,.int .i64 a3]] w fun e W'=>e = .returned (.int .i64 ((hlist q l).headD 0))∧Below w.heap.size w W':=by
 have h1:1≤n:=by omega
 refine callsIn_of_wp_marks Tryz.func27 rfl hf ?_ hro
 simp only [Tryz.ntmps27,List.size_toArray,List.length_cons,List.length_nil,Nat.reduceAdd,Nat.reduceSub,Array.replicate_succ,Array.replicate_zero,List.push_toArray,List.append_toArray,List.nil_append,List.cons_append]
 have HR:=zA hr
 have HH:=zA hH
 clear hr hH
 gi_wp2_with (gi_at_call 50;refine (holding_in F (n - 1) hf1 hro _ _ _ _ _ _ _ _ _ _ _ _).mono ?_;rintro e w' ⟨rfl,rfl⟩)
 obtain ⟨w2,hw2⟩:∃ w2,w2=(w.alloc (.cells #[.slice A0 n0 c0,.slice A1 n1 c1,.int .i64 a2,.int .i64 a3] 36)).alloc (.cells #[.int .i64 0] 3):=⟨_,rfl⟩
 obtain ⟨w4,hw4⟩:∃ w4,w4=(w2.alloc (.cells #[.slice A l.length cap] 28)).alloc (.cells #[.slice A0 n0 c0,.slice A1 n1 c1,.int .i64 a2,.int .i64 a3] 36):=⟨_,rfl⟩
 have hs2:w2.heap.size=w.heap.size+1+1:=by rw [hw2];simp
 have hs4:w4.heap.size=w.heap.size+1+1+1+1:=by rw [hw4];simp [hs2]
 have hb2:Below w.heap.size w w2:=by rw [hw2];exact below_alloc (below_alloc (Below.refl _ _) _) _
 have hb4:Below w.heap.size w w4:=by rw [hw4];exact below_alloc (below_alloc hb2 _) _
 have bR2:Boxed w2 (w.heap.size+1) 3 (.int .i64 0):=by
  have:=Boxed.new (w.alloc (.cells #[.slice A0 n0 c0,.slice A1 n1 c1,.int .i64 a2,.int .i64 a3] 36)) 3 (.int .i64 0)
  simp only [World.size_alloc] at this
  rw [hw2];exact this
 have bR:Boxed w4 (w.heap.size+1) 3 (.int .i64 0):=by rw [hw4];exact (bR2.alloc _).alloc _
 have bL:Boxed w4 (w.heap.size+1+1) 28 (.slice A l.length cap):=by
  have:=(Boxed.new w2 28 (.slice A l.length cap)).alloc (.cells #[.slice A0 n0 c0,.slice A1 n1 c1,.int .i64 a2,.int .i64 a3] 36)
  rw [hs2] at this
  rw [hw4];exact this
 have bO:=heap_alloc_new (w2.alloc (.cells #[.slice A l.length cap] 28)) (.cells #[.slice A0 n0 c0,.slice A1 n1 c1,.int .i64 a2,.int .i64 a3] 36)
 rw [World.size_alloc,hs2,← hw4] at bO
 have ha:PlArgs w4 (w.heap.size+1+1) (w.heap.size+1+1+1) A cap l A0 n0 c0 A1 n1 c1 a2 a3:=
  ⟨bL.cell,(blk_cell bO 0).trans rfl,(blk_cell bO 1).trans rfl,(blk_cell bO 2).trans rfl,(blk_cell bO 3).trans rfl,Kd.C_below HR.out hb4⟩
 rw [← hw2,← hw4]
 refine wpIn_rangeFunc_ownG hro h1 (gf:=70) (lb:=#[.pointer (some ⟨w.heap.size+1+1,0,none⟩),.pointer (some ⟨w.heap.size+1+1+1,0,none⟩)]) rfl hf2 (enters_of Tryz.func70 (by kernel_rfl) rfl)
  (encs:=fun x:Int=>#[Value.int .i64 x]) (Kp:=Below w4.heap.size) (S:=fun ys=>ys=hlist q l) (Sp:=fun pre=>∃ t,hlist q l=pre ++ t) (N:=(hlist q l).length) (w0:=w4)
  (fun lk J Jx W hW hJ _ hY h0=>holding1_in F (n - 1) hf2 hf3 hro (by omega) lk _ _ A cap l A0 n0 c0 A1 n1 c1 a2 a3 q w4 ha (fun x hx W Ax cx hB hC hc=>HH.out x hx W Ax cx (below_step hb4 hB) hC hc) J Jx W hW hJ hY h0)
  belowK_t (belowK_b (Nat.le_refl _)) (Below.refl _ _) (fun _=>rfl)
  (fun pre W=>(pre=[]∧Boxed W (w.heap.size+1) 3 (.int .i64 0))∧Below w.heap.size w W)
  (fun c pre W=>(c = .ret∧∃ x,pre=[x]∧Boxed W (w.heap.size+1) 3 (.int .i64 x))∧Below w.heap.size w W)
  (OwnFrom.and (fun pre W W' row h hg hr=>⟨h.1,h.2.kept hg (fun e=>by obtain ⟨_,o,ho,hc⟩:=hr _ e.symm;rw [show W.heap[w.heap.size+1]?=_ from h.2] at ho;cases ho;cases hc)⟩) (ownFrom_below (Nat.le_refl _) (by omega)))
  (fun c=>OwnFrom.and (fun pre W W' row h hg hr=>by
    obtain ⟨hc,x,hx,hb⟩:=h
    exact ⟨hc,x,hx,hb.kept hg (fun e=>by obtain ⟨_,o,ho,hc⟩:=hr _ e.symm;rw [show W.heap[w.heap.size+1]?=_ from hb] at ho;cases ho;cases hc)⟩) (ownFrom_below (Nat.le_refl _) (by omega)))
  ⟨⟨rfl,bR⟩,hb4⟩
  (fun x=>{ tmps:=#[.slice A l.length cap,.agg #[.slice A0 n0 c0,.slice A1 n1 c1,.int .i64 a2,.int .i64 a3],undef,.pointer (some ⟨w.heap.size,0,none⟩),.pointer (some ⟨w.heap.size+1,0,none⟩),.int .i64 x,.slice A l.length cap,.agg #[.slice A0 n0 c0,.slice A1 n1 c1,.int .i64 a2,.int .i64 a3],.func (.func 70) #[] #[.pointer (some ⟨w.heap.size+1+1,0,none⟩),.pointer (some ⟨w.heap.size+1+1+1,0,none⟩)],.int .i64 x,undef],defers:=[] }) ?assign ?body ?done ?stop
 case assign=>
  intro lk x W K hK
  gi_wp2
  exact hK
 case body=>
  rintro lk pre x W ⟨⟨rfl,hb⟩,hB⟩ hlt
  have hc:=hb.cell
  have hfz:=hb.frozen
  gi_wp2
  exact ⟨(KeepsOthers.setCell _ _ _).from _,⟨rfl,x,rfl,hb.set _⟩,hB.setCell (p:=⟨w.heap.size+1,0,none⟩) (by simp) _⟩
 case done=>
  rintro D ys W hD hys ⟨⟨hnil,hb⟩,hB⟩ hK
  have hc:=hb.cell
  have hfz:=hb.frozen
  have HY:=zA (hys.symm.trans hnil)
  clear hys hnil
  gi_wp2
  have hD2:=(KeepsOthers.setCell W ⟨w.heap.size+1,0,none⟩ (.int .i64 0)).same D _ hK rfl
  have hb5:=hb.set (.int .i64 0)
  have hb6:Boxed ((W.setCell ⟨w.heap.size+1,0,none⟩ (.int .i64 0)).putObj D (.deferred none)) (w.heap.size+1) 3 (.int .i64 0):=hb5.kept (grownBy_putObj' _ D _) (fun e=>by cases e;rw [show (W.setCell ⟨w.heap.size+1,0,none⟩ (.int .i64 0)).heap[w.heap.size+1]?=_ from hb5] at hD2;cases hD2)
  have hc6:=hb6.cell
  refine ⟨by simp,.inl ⟨_,_,rfl,run_takeDeferred hD2,?_⟩⟩
  refine ⟨.int .i64 0,(by simp [results,Tryz.results27,go_sem,hc6]),by rw [HY.out];rfl,?_⟩
  exact (hB.setCell (p:=⟨w.heap.size+1,0,none⟩) (by simp) _).trans (belowK_b (w:=w) (Nat.le_refl _) _ D _ _ (by omega) hD2 rfl rfl)
 case stop=>
  rintro D c pre W hD ⟨t,ht⟩ ⟨⟨rfl,x,rfl,hb⟩,hB⟩ hK
  have HT:=zA ht
  clear ht
  have hc:=hb.cell
  gi_wp2
  have hb6:Boxed (W.putObj D (.deferred none)) (w.heap.size+1) 3 (.int .i64 x):=hb.kept (grownBy_putObj' _ D _) (fun e=>by cases e;rw [show W.heap[w.heap.size+1]?=_ from hb] at hK;cases hK)
  have hc6:=hb6.cell
  refine ⟨by simp,.inl ⟨_,_,rfl,run_takeDeferred hK,?_⟩⟩
  refine ⟨.int .i64 x,(by simp [results,Tryz.results27,go_sem,hc6]),by rw [HT.out];rfl,?_⟩
  exact hB.trans (belowK_b (w:=w) (Nat.le_refl _) _ D _ _ (by omega) hK rfl rfl)
def plur_Of.f (l:List Ru)(l0 l1:List Int)(a2 a3:Int):Option Int:=
  if ∀ x ∈ l,(rule_Holds.f x.f1 l0 l1 a2 a3).isSome then some ((hlist (fun x=>rule_Holds.f x.f1 l0 l1 a2 a3 == some true) l).headD 0) else none
theorem plur_Of.calls (A0:Option Addr)(c0:Nat)(l0:List Ru)(A1_0:Option Addr)(c1_0:Nat)(l1_0:List Int)(A1_1:Option Addr)(c1_1:Nat)(l1_1:List Int)(a1_2 a1_3:Int)(r:Int)(w:World)(hG:GL w)
    (hr0:Kd.C k65 w A0 l0.length l0) (hc0:l0.length≤c0) (hr1_0:Kd.C (Kd.int .u8) w A1_0 l1_0.length l1_0) (hc1_0:l1_0.length≤c1_0) (hr1_1:Kd.C (Kd.int .u8) w A1_1 l1_1.length l1_1) (hc1_1:l1_1.length≤c1_1)
    (h:plur_Of.f l0 l1_0 l1_1 a1_2 a1_3=some r) :
    Calls Tryz.prog 27 #[.slice A0 l0.length c0,.agg #[.slice A1_0 l1_0.length c1_0,.slice A1_1 l1_1.length c1_1,.int .i64 a1_2,.int .i64 a1_3]] w fun e w'=>e = .returned (.int .i64 r)∧Below w.heap.size w w':=by
 unfold plur_Of.f at h
 split at h
 ·rename_i hs
  obtain rfl:=zE h
  exact callsIn_wide.1 (of_in Fence.wide 3 trivial trivial trivial trivial rfl (Nat.le_refl _) A0 c0 l0 A1_0 l1_0.length c1_0 A1_1 l1_1.length c1_1 a1_2 a1_3 _ w hr0 (fun x hx W Ax cx hB hC hc=>by
   obtain ⟨b,hb⟩:=Option.isSome_iff_exists.mp (hs x hx)
   have hbb:(rule_Holds.f x.f1 l1_0 l1_1 a1_2 a1_3 == some true)=b:=by rw [hb];cases b <;> rfl
   rw [hbb]
   exact callsIn_wide.2 (rule_Holds.calls Ax cx x.f1 A1_0 c1_0 l1_0 A1_1 c1_1 l1_1 a1_2 a1_3 b W (hG.below hB) hC hc (Kd.C_below hr1_0 hB) hc1_0 (Kd.C_below hr1_1 hB) hc1_1 hb)))
 cases h
end
end Go.Proofs.YtgfajgkjbckkgaaGreatDoor.PZ
end
section
set_option maxRecDepth 100000
namespace Go.Proofs.YtgfajgkjbckkgaaGreatDoor.PZ
open Go.RowKit Go.Proofs.YtgfajgkjbckkgaaGreatDoorW.PrintWords Go.Proofs.YtgfajgkjbckkgaaGreatDoorW.PrintLast
section
theorem ev_const {α:Type}{a:Option α}{r:α}(h:Ev (fun _=>a) r):a=some r:=by
 obtain ⟨K,hk⟩:=h
 exact hk K (Nat.le_refl _)
theorem any_congr' {α:Type}{l:List α}{p q:α→Bool}(h:∀ x ∈ l,p x=q x):l.any p=l.any q:=by
 induction l with
 | nil=>rfl
 | cons a l ih=>rw [List.any_cons,List.any_cons,h a (by simp),ih (fun x hx=>h x (by simp [hx]))]
theorem not_any' {α:Type}{l:List α}{p q:α→Bool}(h:∀ x ∈ l,p x = !q x):(!l.any p)=l.all q:=by
 induction l with
 | nil=>rfl
 | cons a l ih=>rw [List.any_cons,List.all_cons,Bool.not_or,h a (by simp),ih (fun x hx=>h x (by simp [hx])),Bool.not_not]
def inV (v a b:Int):Bool:=decide (0≤b∧(0≤a→a≤v)∧v≤b)
def relV (i f:List Int)(w c:Int)(x:Rl):Int:=if x.f1>0 then num (operandR i f w c x.f0).1 % x.f1 else num (operandR i f w c x.f0).1
def relX (i f:List Int)(w c:Int)(x:Rl):Bool:=((operandR i f w c x.f0).2 && x.f3.any fun r=>inV (relV i f w c x) r.f0 r.f1) != x.f2
def condX (i f:List Int)(w c:Int)(l:List (List Rl)):Bool:=l.any fun row=>row.all fun x=>relX i f w c x
structure NumX (x:Rl):Prop where
  m0:0≤x.f1
  m1:x.f1≤1000000000
  rg:∀ r ∈ x.f3,(-9223372036854775808≤r.f0∧r.f0≤9223372036854775807)∧(-9223372036854775808≤r.f1∧r.f1≤9223372036854775807)∧(x.f1>0→0≤r.f0)
theorem GoodX.numX {x:Rl}(h:GoodX x):NumX x:=by
 obtain ⟨_,h1,h2,_,h3⟩:=h
 refine ⟨h1,by omega,fun r hr=>?_⟩
 obtain ⟨g0,g1,g2⟩:=h3 r hr
 exact ⟨by omega,by omega,fun _=>g0⟩
structure OpOk (i f:List Int)(w c:Int):Prop where
  r:RightO i f w c
  bi:∀ b_ ∈ i,(Lit.int .u8 b_).wf=true
  bf:∀ b_ ∈ f,(Lit.int .u8 b_).wf=true
  li:i.length≤1000
  lf:f.length≤1000
section
variable {i f:List Int}{w c:Int}(h:OpOk i f w c)
include h
theorem OpOk.wc:(0≤w∧w≤f.length)∧0≤c∧c≤1000:=by
 obtain ⟨_,_,_,h4,h5,h6⟩:=h.r
 have:=fullN_le f
 omega
theorem operandR_ok (name:Int):Figs (operandR i f w c name).1∧(operandR i f w c name).1.length≤1000:=by
 obtain ⟨h1,h2,_,h4,h5,h6⟩:=h.r
 have f1:=(figsB_iff h.bi).1 h1
 have f2:=(figsB_iff h.bf).1 h2
 have hn:∀ n:Int,0≤n→n≤1000→(ndL n).length≤1000:=fun n q0 q1=>by have:=ndL_len q0 (by omega);omega
 have hw:=h.wc
 have lf:=h.lf
 have li:=h.li
 unfold operandR
 repeat' split
 all_goals first
  | exact ⟨Figs.nil,by simp⟩
  | exact ⟨f1,li⟩
  | exact ⟨ndL_figs _,hn _ (by omega) (by omega)⟩
  | exact ⟨bareL_figs f2,by have:=bareL_len f;simp only [];omega⟩
  | exact ⟨bareL_figs (f2.take _),by have:=bareL_len (f.take w.toNat);simp only [List.length_take] at this ⊢;omega⟩
theorem relN_eq {x:Rl}(hx:NumX x):relN i f w c x=some (!relX i f w c x):=by
 have hw:=h.wc
 have lf:=h.lf
 have e1:oper_Operand.f i f w c x.f0=some (operandR i f w c x.f0):=ev_const (operand_ev i f w c x.f0 (by omega) hw.1 hw.2)
 obtain ⟨hF,hL⟩:=operandR_ok h x.f0
 unfold relN relX relV
 rw [e1]
 generalize operandR i f w c x.f0=q at hF hL ⊢
 obtain ⟨l,wh⟩:=q
 simp only [Option.bind_some] at hF hL ⊢
 have hb:∀ a b:Bool,some (a == b)=some (!(a != b)):=by decide
 unfold rngO
 by_cases hm:wh=true∧x.f1>0
 ·have e2:oper_Mod.f (l.length+2) l x.f1=some (num l % x.f1):=by
   have h1:=mod_l0 hF (by omega) (m:=x.f1) ⟨by omega,hx.m1⟩ l.length 0 (by omega)
   have h2:=oper_Mod.mono_l (l.length+1) x.f1 (num (l.take 0) % x.f1) l (l.length:Int) ((0:Nat):Int) _ h1
   unfold oper_Mod.f
   simpa [num_nil] using h2
  rw [if_pos hm,e2]
  simp only [Option.bind_some,if_pos hm.2,hm.1,Bool.true_and]
  rw [hb]
  congr 3
  have hp:=Int.emod_nonneg (num l) (show x.f1≠0 by omega)
  refine any_congr' (fun r hr=>?_)
  obtain ⟨_,_,g⟩:=hx.rg r hr
  have:=g hm.2
  unfold inV
  rw [Bool.eq_iff_iff]
  simp
  omega
 rw [if_neg hm]
 have hin:∀ r ∈ x.f3,oper_In.f l r.f0 r.f1=some (inD l r.f0 r.f1):=fun r hr=>by
  obtain ⟨g1,g2,_⟩:=hx.rg r hr
  exact ev_const (in_ev hF (by omega) r.f0 r.f1 g1 g2)
 rw [if_neg (by rintro ⟨_,h2⟩;exact h2 (fun g hg=>by rw [hin g hg];rfl))]
 simp only [Option.bind_some]
 rw [hb]
 congr 3
 cases wh with
 | false=>simp
 | true=>
  simp only [Bool.true_and,true_and] at hm ⊢
  rw [if_neg hm]
  refine any_congr' (fun r hr=>?_)
  rw [hin r hr]
  unfold inV inD
  simp
theorem holds_f {l:List (List Rl)}(hx:∀ row ∈ l,∀ x ∈ row,NumX x):rule_Holds.f l i f w c=some (condX i f w c l):=by
 unfold rule_Holds.f
 rw [if_pos (fun row hrow x hxr=>by rw [relN_eq h (hx row hrow x hxr)];rfl)]
 congr 1
 unfold condX
 refine any_congr' (fun row hrow=>?_)
 refine not_any' (fun x hxr=>?_)
 rw [relN_eq h (hx row hrow x hxr)]
 simp
end
end
end Go.Proofs.YtgfajgkjbckkgaaGreatDoor.PZ
end
