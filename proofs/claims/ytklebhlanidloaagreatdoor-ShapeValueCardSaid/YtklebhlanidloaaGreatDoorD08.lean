/- Texts of this seat, joined. Conditions: none beyond each statement's own. -/
import Derived.Test.YtklebhlanidloaaGreatDoorD07
set_option linter.all false
section
noncomputable section
namespace Go.Proofs.YtklebhlanidloaaGreatDoor.PZ
open Go.RowKit Go.Proofs.YtklebhlanidloaaGreatDoorW.PrintWords Go.Proofs.YtklebhlanidloaaGreatDoorW.PrintLast Go.Proofs.YtklebhlanidloaaGreatDoorW.PrintMore
attribute [local go_sem] max2_int min2_int max_two min_two max_three min_three max_four min_four   -- for this text's walks alone
def exergueref10_Few.f (a4:List (S114))(a5:List (S114))(a6:List (S114))(a7:List (S114))(b6:Bool)(b7:Int)(b8:Int)(b9:Int)(ca:Int)(cc:Int)(bD:Int)(bE:Int)(bF:Int)(bG:Int)(bH:Bool)(bI:Int)(bJ:Int):Option (Bool):=some (decide ((wrap64 ((wrap64 ((wrap64 ((a4.length:Int)+(a5.length:Int)))+(a6.length:Int)))+(a7.length:Int)))≤300))
set_option maxHeartbeats 8000000 in
set_option maxRecDepth 100000 in
theorem exergueref10_Few.calls (cz:Option Addr)(cA:Nat)(a4:List (S114))(cB:Option Addr)(cC:Nat)(a5:List (S114))(cD:Option Addr)(cE:Nat)(a6:List (S114))(cF:Option Addr)(cG:Nat)(a7:List (S114))(b6:Bool)(b7:Int)(b8:Int)(b9:Int)(ca:Int)(cc:Int)(bD:Int)(bE:Int)(bF:Int)(bG:Int)(bH:Bool)(bI:Int)(bJ:Int)(r:Bool)(w:World)(cj:Kd.C k114 w cz a4.length a4)(ck:a4.length≤cA)(cl:Kd.C k114 w cB a5.length a5)(cm:a5.length≤cC)(cn:Kd.C k114 w cD a6.length a6)(co:a6.length≤cE)(cp:Kd.C k114 w cF a7.length a7)(cq:a7.length≤cG)(h:exergueref10_Few.f a4 a5 a6 a7 b6 b7 b8 b9 ca cc bD bE bF bG bH bI bJ=some r) :
  Calls Tryz.prog 36 #[.agg #[.slice cz a4.length cA,.slice cB a5.length cC,.slice cD a6.length cE,.slice cF a7.length cG,.bool b6,.int .i64 b7,.int .i64 b8,.int .i64 b9,.int .i64 ca,.int .i64 cc,.int .i64 bD,.int .i64 bE,.int .i64 bF,.int .i64 bG,.bool bH,.int .i32 bI,.int .i64 bJ]] w fun e w'=>e = .returned (.bool r)∧Below w.heap.size w w':=by
 have hu26:=Tryz.underlying26
 have dM:=zS cj
 have dN:=zS ck
 clear cj ck
 have dO:=zS cl
 have dP:=zS cm
 clear cl cm
 have dQ:=zS cn
 have dR:=zS co
 clear cn co
 have dS:=zS cp
 have dT:=zS cq
 clear cp cq
 have HB:=zS (Below.refl w.heap.size w)
 have H:(some (decide ((wrap64 ((wrap64 ((wrap64 ((a4.length:Int)+(a5.length:Int)))+(a6.length:Int)))+(a7.length:Int)))≤300)))=some r:=h
 clear h
 obtain rfl:=zE H
 go_enter Tryz.func36,Tryz.ntmps36
 go_wp2_with (first|((with_reducible refine gate_dst (N:=1) rfl ?_);refine box_event ?hg (N:=1) ?hd (cs:=#[.slice cz a4.length cA,.slice cB a5.length cC,.slice cD a6.length cE,.slice cF a7.length cG,.bool b6,.int .i64 b7,.int .i64 b8,.int .i64 b9,.int .i64 ca,.int .i64 cc,.int .i64 bD,.int .i64 bE,.int .i64 bF,.int .i64 bG,.bool bH,.int .i32 bI,.int .i64 bJ]) (t:=26) ?hr ?_;(case hd=>rfl);(case hg=>rfl);(case hr=>first|(go_simp;done)|(go_simp;rfl));intro dU hg w2 hbox hb;have cr:=zS (hbox);have dV:=bg HB hg;replace HB:=bs HB hb;clear hb hbox hg;have el:=blkc17 cr.out;have em:=blkf17 cr.out))
 go_ret
 exact ⟨by first|rfl|(simp <;> rfl)|(simp [*] <;> rfl),bl HB⟩
def exergueref01_Is.f (a0:Int):Option (Bool):=if (wrap64 (a0))≥0 then (if (wrap64 (a0))<55296 then (some true) else (if (wrap64 (a0))>57343 then (some (decide ((wrap64 (a0))≤1114111))) else (some false))) else (if (wrap64 (a0))>57343 then (some (decide ((wrap64 (a0))≤1114111))) else (some false))
set_option maxHeartbeats 8000000 in
set_option maxRecDepth 100000 in
theorem exergueref01_Is.calls (a0:Int)(r:Bool)(w:World)(h:exergueref01_Is.f a0=some r) :
  Calls Tryz.prog 64 #[.int .i32 a0] w fun e w'=>e = .returned (.bool r)∧Drawn0 w w':=by
 have H:(if (wrap64 (a0))≥0 then (if (wrap64 (a0))<55296 then (some true) else (if (wrap64 (a0))>57343 then (some (decide ((wrap64 (a0))≤1114111))) else (some false))) else (if (wrap64 (a0))>57343 then (some (decide ((wrap64 (a0))≤1114111))) else (some false)))=some r:=h
 clear h
 by_cases c2:(wrap64 (a0))≥0
 ·rw [if_pos c2] at H
  have aN:decide (0≤(wrap64 (a0)))=true:=zC c2
  clear c2
  by_cases c3:(wrap64 (a0))<55296
  ·rw [if_pos c3] at H
   have an:=zC c3
   clear c3
   obtain rfl:=zE H
   go_enter Tryz.func64,Tryz.ntmps64
   go_wp2
   go_ret
   exact ⟨by first|rfl|(simp;done)|(simp [*];done),by repeat (first|exact Drawn0.refl _|apply Drawn0.step)⟩
  rw [if_neg c3] at H
  have an:=zD c3
  clear c3
  by_cases c4:(wrap64 (a0))>57343
  ·rw [if_pos c4] at H
   have ay:decide (57343<(wrap64 (a0)))=true:=zC c4
   clear c4
   obtain rfl:=zE H
   go_enter Tryz.func64,Tryz.ntmps64
   go_wp2
   go_ret
   exact ⟨by first|rfl|(simp;done)|(simp [*];done),by repeat (first|exact Drawn0.refl _|apply Drawn0.step)⟩
  rw [if_neg c4] at H
  have ay:decide (57343<(wrap64 (a0)))=false:=zD c4
  clear c4
  obtain rfl:=zE H
  go_enter Tryz.func64,Tryz.ntmps64
  go_wp2
  go_ret
  exact ⟨by first|rfl|(simp;done)|(simp [*];done),by repeat (first|exact Drawn0.refl _|apply Drawn0.step)⟩
 rw [if_neg c2] at H
 have aN:decide (0≤(wrap64 (a0)))=false:=zD c2
 clear c2
 by_cases c5:(wrap64 (a0))>57343
 ·rw [if_pos c5] at H
  have bO:decide (57343<(wrap64 (a0)))=true:=zC c5
  clear c5
  obtain rfl:=zE H
  go_enter Tryz.func64,Tryz.ntmps64
  go_wp2
  go_ret
  exact ⟨by first|rfl|(simp;done)|(simp [*];done),by repeat (first|exact Drawn0.refl _|apply Drawn0.step)⟩
 rw [if_neg c5] at H
 have bO:decide (57343<(wrap64 (a0)))=false:=zD c5
 clear c5
 obtain rfl:=zE H
 go_enter Tryz.func64,Tryz.ntmps64
 go_wp2
 go_ret
 exact ⟨by first|rfl|(simp;done)|(simp [*];done),by repeat (first|exact Drawn0.refl _|apply Drawn0.step)⟩
def exergueref10_runes.l0:Nat→List (S114)→Int→Option (Bool)
 | 0,_,_=>none
 | k+1,x0,x3=>if x3<(x0.length:Int) then (if 0≤x3 then ((exergueref01_Is.f ((rd_T114 x0 x3).f1)).bind fun cH=>(if cH=true then (exergueref10_runes.l0 k x0 (wrap64 (x3+1))) else (some false))) else (none)) else (some true)
def exergueref10_runes.f (k:Nat)(l0:List (S114)):Option (Bool):=exergueref10_runes.l0 k l0 0
theorem exergueref10_runes.mono_l:∀ k,(∀ y0 y1,LeO (exergueref10_runes.l0 k y0 y1) (exergueref10_runes.l0 (k+1) y0 y1))
 | 0=>fun _ _ r h=>by simp [exergueref10_runes.l0] at h
 | k+1=>by
  have ih0:=exergueref10_runes.mono_l k
  ·intro y0 y1
   unfold exergueref10_runes.l0
   repeat' first|(with_reducible first|apply ih0|apply LeO.refl|apply LeO.none|refine LeO.ite ?_ ?_|refine LeO.bind ?_ (fun _=>?_))|apply ih0|apply LeO.none
theorem exergueref10_runes.mono:∀ a0 k,LeO (exergueref10_runes.f k a0) (exergueref10_runes.f (k+1) a0):=by
 intro a0 k
 have ih0:=exergueref10_runes.mono_l k
 unfold exergueref10_runes.f
 repeat' first|(with_reducible first|apply ih0|apply LeO.refl|apply LeO.none|refine LeO.ite ?_ ?_|refine LeO.bind ?_ (fun _=>?_))|apply ih0|apply LeO.none
set_option maxHeartbeats 8000000 in
set_option maxRecDepth 100000 in
theorem exergueref10_runes.calls (k:Nat)(A0:Option Addr)(c0:Nat)(l0:List (S114))(r:Bool)(w:World)(hr0:Kd.C k114 w A0 l0.length l0)(hc0:l0.length≤c0)(h:exergueref10_runes.f k l0=some r) :
  Calls Tryz.prog 65 #[.slice A0 l0.length c0] w fun e w'=>e = .returned (.bool r)∧Drawn0 w w':=by
 have HR0:=zS hr0
 have HC0:=zS hc0
 clear hr0 hc0
 have H:(exergueref10_runes.l0 k l0 0)=some r:=h
 clear h
 have H':=zS H
 clear H
 go_enter Tryz.func65,Tryz.ntmps65
 go_wp2
 go_loopg [3] k (fun kq v3 w'=>∃ (ad:Int),v3 = .int .i64 ad∧Sd (exergueref10_runes.l0 kq l0 ad=some r)∧Sd (kq≤k)∧Drawn0 w w')
 case atStart=>exact ⟨(0),(by first|rfl|(simp;done)|(simp [*];done)),H',⟨Nat.le_refl _⟩,by repeat (first|exact Drawn0.refl _|apply Drawn0.step)⟩
 case round=>
  clear H'
  obtain ⟨ad,rfl,HA,HK1,⟨m1,rfl⟩⟩:=hrel
  cases gk with
  | zero=>exact absurd HA.out (by simp [exergueref10_runes.l0])
  | succ k1=>
   have H:=HA.out
   clear HA
   simp only [exergueref10_runes.l0] at H
   by_cases c2:ad<(l0.length:Int)
   rotate_left
   ·rw [if_neg c2] at H
    have aN:=zD c2
    clear c2
    obtain rfl:=zE H
    go_wp2
    go_ret
    exact ⟨by first|rfl|(simp;done)|(simp [*];done),by repeat (first|exact Drawn0.refl _|apply Drawn0.step)⟩
   rw [if_pos c2] at H
   have aN:=zC c2
   clear c2
   by_cases c3:0≤ad
   rotate_left
   ·rw [if_neg c3] at H
    exact absurd H (by simp)
   rw [if_pos c3] at H
   have an:=zC c3
   clear c3
   replace H:=Option.bind_eq_some_iff.mp H
   obtain ⟨cH,A40,H⟩:=H
   try dsimp only at H
   have A4:=zS A40
   clear A40
   by_cases c5:cH=true
   ·subst c5
    rw [if_pos rfl] at H
    have H':=zS H
    clear H
    have bq:0≤(ad:Int):=zB (by first|(with_reducible assumption)|assumption)
    have br:ad<(l0.length:Int):=zB (by first|(with_reducible assumption)|assumption)
    obtain ⟨cV,cI,cd,ce⟩:=at_T114 HR0.out ad bq br
    cases cI
    replace bq:=eq_true bq
    replace br:=eq_true br
    go_wp2_with (first|((with_reducible refine gate_callee (f:=64) rfl ?_);refine gL (some 16) Tryz.func64 #[.int .i32 ((rd_T114 l0 ad).f1)] ?_;(with_reducible refine (exergueref01_Is.calls ((rd_T114 l0 ad).f1) true _ A4.out).mono ?_);rintro e w' ⟨rfl,⟨nd,rfl⟩⟩;refine ⟨_,rfl,?_⟩))
    go_roundg k1
    case measure=>have:=HK1.out;omega
    case rel=>exact ⟨(wrap64 (ad+1)),(by first|rfl|(simp;done)|(simp [*];done)),H',⟨by have:=HK1.out;omega⟩,by repeat (first|exact Drawn0.refl _|apply Drawn0.step)⟩
   replace c5:=Bool.eq_false_iff.mpr c5
   subst c5
   rw [if_neg (show ¬ (false=true) by decide)] at H
   obtain rfl:=zE H
   have bq:0≤(ad:Int):=zB (by first|(with_reducible assumption)|assumption)
   have br:ad<(l0.length:Int):=zB (by first|(with_reducible assumption)|assumption)
   obtain ⟨cV,cI,cd,ce⟩:=at_T114 HR0.out ad bq br
   cases cI
   replace bq:=eq_true bq
   replace br:=eq_true br
   go_wp2_with (first|((with_reducible refine gate_callee (f:=64) rfl ?_);refine gL (some 16) Tryz.func64 #[.int .i32 ((rd_T114 l0 ad).f1)] ?_;(with_reducible refine (exergueref01_Is.calls ((rd_T114 l0 ad).f1) false _ A4.out).mono ?_);rintro e w' ⟨rfl,⟨nd,rfl⟩⟩;refine ⟨_,rfl,?_⟩))
   go_ret
   exact ⟨by first|rfl|(simp;done)|(simp [*];done),by repeat (first|exact Drawn0.refl _|apply Drawn0.step)⟩
def exergueref01_tails.l0:Nat→List Int→Int→Int→Int→Int→Option (Int)
 | 0,_,_,_,_,_=>none
 | k+1,x0,x1,x2,x3,x9=>if x9≤x2 then (if 0≤(wrap64 (x1+x9)) then (if (wrap64 (x1+x9))<(x0.length:Int) then (if (wrap64 (rd x0 (wrap64 (x1+x9))))<128 then (some (-1)) else (if (wrap64 (rd x0 (wrap64 (x1+x9))))>191 then (some (-1)) else (exergueref01_tails.l0 k x0 x1 x2 (wrap64 ((wrap64 ((wrap64 (x3 * 64))+(wrap64 (rd x0 (wrap64 (x1+x9)))))) - 128)) (wrap64 (x9+1))))) else (none)) else (none)) else (some x3)
def exergueref01_tails.f (k:Nat)(l0:List Int)(a1:Int)(a2:Int)(a3:Int):Option (Int):=if (wrap64 (a1+a2))≥(l0.length:Int) then (some (-1)) else (exergueref01_tails.l0 k l0 a1 a2 a3 1)
theorem exergueref01_tails.mono_l:∀ k,(∀ y0 y1 y2 y3 y4,LeO (exergueref01_tails.l0 k y0 y1 y2 y3 y4) (exergueref01_tails.l0 (k+1) y0 y1 y2 y3 y4))
 | 0=>fun _ _ _ _ _ r h=>by simp [exergueref01_tails.l0] at h
 | k+1=>by
  have ih0:=exergueref01_tails.mono_l k
  ·intro y0 y1 y2 y3 y4
   unfold exergueref01_tails.l0
   repeat' first|(with_reducible first|apply ih0|apply LeO.refl|apply LeO.none|refine LeO.ite ?_ ?_|refine LeO.bind ?_ (fun _=>?_))|apply ih0|apply LeO.none
theorem exergueref01_tails.mono:∀ a0 a1 a2 a3 k,LeO (exergueref01_tails.f k a0 a1 a2 a3) (exergueref01_tails.f (k+1) a0 a1 a2 a3):=by
 intro a0 a1 a2 a3 k
 have ih0:=exergueref01_tails.mono_l k
 unfold exergueref01_tails.f
 repeat' first|(with_reducible first|apply ih0|apply LeO.refl|apply LeO.none|refine LeO.ite ?_ ?_|refine LeO.bind ?_ (fun _=>?_))|apply ih0|apply LeO.none
set_option maxHeartbeats 8000000 in
set_option maxRecDepth 100000 in
theorem exergueref01_tails.calls (k:Nat)(A0:Option Addr)(c0:Nat)(l0:List Int)(a1:Int)(a2:Int)(a3:Int)(r:Int)(w:World)(hr0:Kd.C (Kd.int .u8) w A0 l0.length l0)(hc0:l0.length≤c0)(h:exergueref01_tails.f k l0 a1 a2 a3=some r) :
  Calls Tryz.prog 129 #[.slice A0 l0.length c0,.int .i64 a1,.int .i64 a2,.int .i64 a3] w fun e w'=>e = .returned (.int .i64 r)∧Drawn0 w w':=by
 have HR0:=zS hr0
 have HC0:=zS hc0
 clear hr0 hc0
 have H:(if (wrap64 (a1+a2))≥(l0.length:Int) then (some (-1)) else (exergueref01_tails.l0 k l0 a1 a2 a3 1))=some r:=h
 clear h
 by_cases c5:(wrap64 (a1+a2))≥(l0.length:Int)
 ·rw [if_pos c5] at H
  have bO:decide ((l0.length:Int)≤(wrap64 (a1+a2)))=true:=zC c5
  clear c5
  obtain rfl:=zE H
  go_enter Tryz.func129,Tryz.ntmps129
  go_wp2
  go_ret
  exact ⟨by first|rfl|(simp;done)|(simp [*];done),by repeat (first|exact Drawn0.refl _|apply Drawn0.step)⟩
 rw [if_neg c5] at H
 have bO:decide ((l0.length:Int)≤(wrap64 (a1+a2)))=false:=zD c5
 clear c5
 have H':=zS H
 clear H
 go_enter Tryz.func129,Tryz.ntmps129
 go_wp2
 go_loopg [3,9] k (fun kq v3 v9 w'=>∃ (ad:Int) (be:Int),v3 = .int .i64 ad∧v9 = .int .i64 be∧Sd (exergueref01_tails.l0 kq l0 a1 a2 ad be=some r)∧Sd (kq≤k)∧Drawn0 w w')
 case atStart=>exact ⟨(a3),(1),(by first|rfl|(simp;done)|(simp [*];done)),(by first|rfl|(simp;done)|(simp [*];done)),H',⟨Nat.le_refl _⟩,by repeat (first|exact Drawn0.refl _|apply Drawn0.step)⟩
 case round=>
  clear H'
  try clear c1
  try clear p2
  try clear c5
  try clear bO
  obtain ⟨ad,be,rfl,rfl,HA,HK1,⟨m1,rfl⟩⟩:=hrel
  cases gk with
  | zero=>exact absurd HA.out (by simp [exergueref01_tails.l0])
  | succ k1=>
   have H:=HA.out
   clear HA
   simp only [exergueref01_tails.l0] at H
   by_cases c6:be≤a2
   rotate_left
   ·rw [if_neg c6] at H
    have ag:=zD c6
    clear c6
    obtain rfl:=zE H
    go_wp2
    go_ret
    exact ⟨by first|rfl|(simp;done)|(simp [*];done),by repeat (first|exact Drawn0.refl _|apply Drawn0.step)⟩
   rw [if_pos c6] at H
   have ag:=zC c6
   clear c6
   obtain ⟨ji7,bP⟩:∃ j_:Int,(wrap64 (a1+be))=j_:=⟨_,rfl⟩
   replace H:(if 0≤(ji7) then (if (ji7)<(l0.length:Int) then (if (wrap64 (rd l0 (ji7)))<128 then (some (-1)) else (if (wrap64 (rd l0 (ji7)))>191 then (some (-1)) else (exergueref01_tails.l0 k1 l0 a1 a2 (wrap64 ((wrap64 ((wrap64 (ad * 64))+(wrap64 (rd l0 (ji7))))) - 128)) (wrap64 (be+1))))) else (none)) else (none))=some r:=by first|(rw [bP] at H;exact H)|(simp only [bP] at H ⊢;exact H)
   have dW:(IntKind.i64.wrap (a1+be))=ji7:=(i64_w _).trans bP
   by_cases c8:0≤(ji7)
   rotate_left
   ·rw [if_neg c8] at H
    exact absurd H (by simp)
   rw [if_pos c8] at H
   have az:=zC c8
   clear c8
   by_cases c9:(ji7)<(l0.length:Int)
   rotate_left
   ·rw [if_neg c9] at H
    exact absurd H (by simp)
   rw [if_pos c9] at H
   have bf:=zC c9
   clear c9
   by_cases c10:(wrap64 (rd l0 (ji7)))<128
   ·rw [if_pos c10] at H
    have aZ:=zC c10
    clear c10
    obtain rfl:=zE H
    have aQ:0≤((ji7):Int):=zB (by first|(with_reducible assumption)|assumption)
    have aR:(ji7)<(l0.length:Int):=zB (by first|(with_reducible assumption)|assumption)
    obtain ⟨ct,bT,bK⟩:=Kd.at_int HR0.out (ji7) aQ aR
    cases bT
    replace aQ:=eq_true aQ
    replace aR:=eq_true aR
    go_wp2
    go_ret
    exact ⟨by first|rfl|(simp;done)|(simp only [← bP] <;> (first|rfl|simp))|(simp [*];done),by repeat (first|exact Drawn0.refl _|apply Drawn0.step)⟩
   rw [if_neg c10] at H
   have aZ:=zD c10
   clear c10
   by_cases c11:(wrap64 (rd l0 (ji7)))>191
   ·rw [if_pos c11] at H
    have cW:decide (191<(wrap64 (rd l0 (ji7))))=true:=zC c11
    clear c11
    obtain rfl:=zE H
    have aQ:0≤((ji7):Int):=zB (by first|(with_reducible assumption)|assumption)
    have aR:(ji7)<(l0.length:Int):=zB (by first|(with_reducible assumption)|assumption)
    obtain ⟨ct,bT,bK⟩:=Kd.at_int HR0.out (ji7) aQ aR
    cases bT
    replace aQ:=eq_true aQ
    replace aR:=eq_true aR
    go_wp2
    go_ret
    exact ⟨by first|rfl|(simp;done)|(simp only [← bP] <;> (first|rfl|simp))|(simp [*];done),by repeat (first|exact Drawn0.refl _|apply Drawn0.step)⟩
   rw [if_neg c11] at H
   have cW:decide (191<(wrap64 (rd l0 (ji7))))=false:=zD c11
   clear c11
   have H':=zS H
   clear H
   have aQ:0≤((ji7):Int):=zB (by first|(with_reducible assumption)|assumption)
   have aR:(ji7)<(l0.length:Int):=zB (by first|(with_reducible assumption)|assumption)
   obtain ⟨ct,bT,bK⟩:=Kd.at_int HR0.out (ji7) aQ aR
   cases bT
   replace aQ:=eq_true aQ
   replace aR:=eq_true aR
   go_wp2
   go_roundg k1
   case measure=>have:=HK1.out;omega
   case rel=>exact ⟨(wrap64 ((wrap64 ((wrap64 (ad * 64))+(wrap64 (rd l0 (ji7))))) - 128)),(wrap64 (be+1)),(by first|rfl|(simp;done)|(simp only [← bP] <;> (first|rfl|simp))|(simp [*];done)),(by first|rfl|(simp;done)|(simp [*];done)),H',⟨by have:=HK1.out;omega⟩,by repeat (first|exact Drawn0.refl _|apply Drawn0.step)⟩
mutual
def exergueref01_one.j0:Nat→List Int→Int→Int→Int→Int→Option (Int)
 | 0,_,_,_,_,_=>none
 | k+1,x0,x1,x5,x6,x7=>if x5≥192 then (exergueref01_one.j1 k x0 x1 x5 x6 x7 (decide (x5<224))) else (exergueref01_one.j1 k x0 x1 x5 x6 x7 false)
def exergueref01_one.j1:Nat→List Int→Int→Int→Int→Int→Bool→Option (Int)
 | 0,_,_,_,_,_,_=>none
 | k+1,x0,x1,x5,x6,x7,x22=>if x22=true then ((exergueref01_tails.f k x0 x1 1 (wrap64 (x5 - 192))).bind fun cf=>(exergueref01_one.j2 k x0 x1 x5 cf 128)) else (exergueref01_one.j2 k x0 x1 x5 x6 x7)
def exergueref01_one.j2:Nat→List Int→Int→Int→Int→Int→Option (Int)
 | 0,_,_,_,_,_=>none
 | k+1,x0,x1,x5,x6,x7=>if x5≥224 then (exergueref01_one.j3 k x0 x1 x5 x6 x7 (decide (x5<240))) else (exergueref01_one.j3 k x0 x1 x5 x6 x7 false)
def exergueref01_one.j3:Nat→List Int→Int→Int→Int→Int→Bool→Option (Int)
 | 0,_,_,_,_,_,_=>none
 | k+1,x0,x1,x5,x6,x7,x33=>if x33=true then ((exergueref01_tails.f k x0 x1 2 (wrap64 (x5 - 224))).bind fun cg=>(exergueref01_one.j4 k x0 x1 x5 cg 2048)) else (exergueref01_one.j4 k x0 x1 x5 x6 x7)
def exergueref01_one.j4:Nat→List Int→Int→Int→Int→Int→Option (Int)
 | 0,_,_,_,_,_=>none
 | k+1,x0,x1,x5,x6,x7=>if x5≥240 then (exergueref01_one.j5 k x0 x1 x5 x6 x7 (decide (x5<248))) else (exergueref01_one.j5 k x0 x1 x5 x6 x7 false)
def exergueref01_one.j5:Nat→List Int→Int→Int→Int→Int→Bool→Option (Int)
 | 0,_,_,_,_,_,_=>none
 | k+1,x0,x1,x5,x6,x7,x44=>if x44=true then ((exergueref01_tails.f k x0 x1 3 (wrap64 (x5 - 240))).bind fun aG=>((exergueref01_Is.f (wrap32 (aG))).bind fun ch=>(if aG<65536 then (some (-1)) else (if ch=true then (some aG) else (some (-1)))))) else ((exergueref01_Is.f (wrap32 (x6))).bind fun ci=>(if x6<x7 then (some (-1)) else (if ci=true then (some x6) else (some (-1)))))
end
def exergueref01_one.f (k:Nat)(l0:List Int)(a1:Int):Option (Int):=if 0≤a1 then (if a1<(l0.length:Int) then (if (wrap64 (rd l0 a1))<128 then (exergueref01_one.j0 k l0 a1 (wrap64 (rd l0 a1)) (wrap64 (rd l0 a1)) 0) else (exergueref01_one.j0 k l0 a1 (wrap64 (rd l0 a1)) (-1) 0)) else (none)) else (none)
theorem exergueref01_one.mono_l:∀ k,(∀ y0 y1 y2 y3 y4,LeO (exergueref01_one.j0 k y0 y1 y2 y3 y4) (exergueref01_one.j0 (k+1) y0 y1 y2 y3 y4))∧(∀ y0 y1 y2 y3 y4 y5,LeO (exergueref01_one.j1 k y0 y1 y2 y3 y4 y5) (exergueref01_one.j1 (k+1) y0 y1 y2 y3 y4 y5))∧(∀ y0 y1 y2 y3 y4,LeO (exergueref01_one.j2 k y0 y1 y2 y3 y4) (exergueref01_one.j2 (k+1) y0 y1 y2 y3 y4))∧(∀ y0 y1 y2 y3 y4 y5,LeO (exergueref01_one.j3 k y0 y1 y2 y3 y4 y5) (exergueref01_one.j3 (k+1) y0 y1 y2 y3 y4 y5))∧(∀ y0 y1 y2 y3 y4,LeO (exergueref01_one.j4 k y0 y1 y2 y3 y4) (exergueref01_one.j4 (k+1) y0 y1 y2 y3 y4))∧(∀ y0 y1 y2 y3 y4 y5,LeO (exergueref01_one.j5 k y0 y1 y2 y3 y4 y5) (exergueref01_one.j5 (k+1) y0 y1 y2 y3 y4 y5))
 | 0=>⟨fun _ _ _ _ _ r h=>by simp [exergueref01_one.j0] at h,fun _ _ _ _ _ _ r h=>by simp [exergueref01_one.j1] at h,fun _ _ _ _ _ r h=>by simp [exergueref01_one.j2] at h,fun _ _ _ _ _ _ r h=>by simp [exergueref01_one.j3] at h,fun _ _ _ _ _ r h=>by simp [exergueref01_one.j4] at h,fun _ _ _ _ _ _ r h=>by simp [exergueref01_one.j5] at h⟩
 | k+1=>by
  obtain ⟨ih0,ih1,ih2,ih3,ih4,ih5⟩:=exergueref01_one.mono_l k
  refine ⟨?_,?_,?_,?_,?_,?_⟩
  ·intro y0 y1 y2 y3 y4
   unfold exergueref01_one.j0
   repeat' first|(with_reducible first|apply ih0|apply ih1|apply ih2|apply ih3|apply ih4|apply ih5|apply exergueref01_tails.mono|apply LeO.refl|apply LeO.none|refine LeO.ite ?_ ?_|refine LeO.bind ?_ (fun _=>?_))|apply ih0|apply ih1|apply ih2|apply ih3|apply ih4|apply ih5|apply exergueref01_tails.mono|apply LeO.none
  ·intro y0 y1 y2 y3 y4 y5
   unfold exergueref01_one.j1
   repeat' first|(with_reducible first|apply ih0|apply ih1|apply ih2|apply ih3|apply ih4|apply ih5|apply exergueref01_tails.mono|apply LeO.refl|apply LeO.none|refine LeO.ite ?_ ?_|refine LeO.bind ?_ (fun _=>?_))|apply ih0|apply ih1|apply ih2|apply ih3|apply ih4|apply ih5|apply exergueref01_tails.mono|apply LeO.none
  ·intro y0 y1 y2 y3 y4
   unfold exergueref01_one.j2
   repeat' first|(with_reducible first|apply ih0|apply ih1|apply ih2|apply ih3|apply ih4|apply ih5|apply exergueref01_tails.mono|apply LeO.refl|apply LeO.none|refine LeO.ite ?_ ?_|refine LeO.bind ?_ (fun _=>?_))|apply ih0|apply ih1|apply ih2|apply ih3|apply ih4|apply ih5|apply exergueref01_tails.mono|apply LeO.none
  ·intro y0 y1 y2 y3 y4 y5
   unfold exergueref01_one.j3
   repeat' first|(with_reducible first|apply ih0|apply ih1|apply ih2|apply ih3|apply ih4|apply ih5|apply exergueref01_tails.mono|apply LeO.refl|apply LeO.none|refine LeO.ite ?_ ?_|refine LeO.bind ?_ (fun _=>?_))|apply ih0|apply ih1|apply ih2|apply ih3|apply ih4|apply ih5|apply exergueref01_tails.mono|apply LeO.none
  ·intro y0 y1 y2 y3 y4
   unfold exergueref01_one.j4
   repeat' first|(with_reducible first|apply ih0|apply ih1|apply ih2|apply ih3|apply ih4|apply ih5|apply exergueref01_tails.mono|apply LeO.refl|apply LeO.none|refine LeO.ite ?_ ?_|refine LeO.bind ?_ (fun _=>?_))|apply ih0|apply ih1|apply ih2|apply ih3|apply ih4|apply ih5|apply exergueref01_tails.mono|apply LeO.none
  ·intro y0 y1 y2 y3 y4 y5
   unfold exergueref01_one.j5
   repeat' first|(with_reducible first|apply ih0|apply ih1|apply ih2|apply ih3|apply ih4|apply ih5|apply exergueref01_tails.mono|apply LeO.refl|apply LeO.none|refine LeO.ite ?_ ?_|refine LeO.bind ?_ (fun _=>?_))|apply ih0|apply ih1|apply ih2|apply ih3|apply ih4|apply ih5|apply exergueref01_tails.mono|apply LeO.none
theorem exergueref01_one.mono:∀ a0 a1 k,LeO (exergueref01_one.f k a0 a1) (exergueref01_one.f (k+1) a0 a1):=by
 intro a0 a1 k
 obtain ⟨ih0,ih1,ih2,ih3,ih4,ih5⟩:=exergueref01_one.mono_l k
 unfold exergueref01_one.f
 repeat' first|(with_reducible first|apply ih0|apply ih1|apply ih2|apply ih3|apply ih4|apply ih5|apply exergueref01_tails.mono|apply LeO.refl|apply LeO.none|refine LeO.ite ?_ ?_|refine LeO.bind ?_ (fun _=>?_))|apply ih0|apply ih1|apply ih2|apply ih3|apply ih4|apply ih5|apply exergueref01_tails.mono|apply LeO.none
set_option maxHeartbeats 8000000 in
set_option maxRecDepth 100000 in
theorem exergueref01_one.calls (k:Nat)(A0:Option Addr)(c0:Nat)(l0:List Int)(a1:Int)(r:Int)(w:World)(hr0:Kd.C (Kd.int .u8) w A0 l0.length l0)(hc0:l0.length≤c0)(h:exergueref01_one.f k l0 a1=some r) :
  Calls Tryz.prog 110 #[.slice A0 l0.length c0,.int .i64 a1] w fun e w'=>e = .returned (.int .i64 r)∧Drawn0 w w':=by
 have HR0:=zS hr0
 have HC0:=zS hc0
 clear hr0 hc0
 have H:(if 0≤a1 then (if a1<(l0.length:Int) then (if (wrap64 (rd l0 a1))<128 then (exergueref01_one.j0 k l0 a1 (wrap64 (rd l0 a1)) (wrap64 (rd l0 a1)) 0) else (exergueref01_one.j0 k l0 a1 (wrap64 (rd l0 a1)) (-1) 0)) else (none)) else (none))=some r:=h
 clear h
 by_cases c3:0≤a1
 rotate_left
 ·rw [if_neg c3] at H
  exact absurd H (by simp)
 rw [if_pos c3] at H
 have an:=zC c3
 clear c3
 by_cases c4:a1<(l0.length:Int)
 rotate_left
 ·rw [if_neg c4] at H
  exact absurd H (by simp)
 rw [if_pos c4] at H
 have ay:=zC c4
 clear c4
 have HC5:=zS H
 clear H
 have a8:0≤(a1:Int):=zB (by first|(with_reducible assumption)|assumption)
 have a9:a1<(l0.length:Int):=zB (by first|(with_reducible assumption)|assumption)
 obtain ⟨bh,dE,aD⟩:=Kd.at_int HR0.out a1 a8 a9
 cases dE
 replace a8:=eq_true a8
 replace a9:=eq_true a9
 go_enter Tryz.func110,Tryz.ntmps110
 go_upto_if 15 with (fail)
 go_cut [6] (fun v6 wc=>∃ (kq:Nat) (bU:Int),v6 = .int .i64 bU∧Sd (exergueref01_one.j0 kq l0 a1 (wrap64 (rd l0 a1)) bU 0=some r)∧Sd (kq≤k)∧Drawn0 w wc)
 case first=>
  have H:=HC5.out
  clear HC5
  by_cases c6:(wrap64 (rd l0 a1))<128
  ·rw [if_pos c6] at H
   have ag:=zC c6
   clear c6
   (first|rw [ag]|(simp only [i64_w,i32_w];rw [ag])|rw [aT]|skip)
   have H':=zS H
   clear H
   go_wp2
   go_meet
   case rel=>exact ⟨_,(wrap64 (rd l0 a1)),(by first|rfl|(simp;done)|(simp [*];done)),H',⟨by first|omega|exact Nat.le_refl _⟩,by repeat (first|exact Drawn0.refl _|apply Drawn0.step)⟩
  rw [if_neg c6] at H
  have ag:=zD c6
  clear c6
  (first|rw [ag]|(simp only [i64_w,i32_w];rw [ag])|rw [aT]|skip)
  have H':=zS H
  clear H
  go_wp2
  go_meet
  case rel=>exact ⟨_,((-1)),(by first|rfl|(simp;done)|(simp [*];done)),H',⟨by first|omega|exact Nat.le_refl _⟩,by repeat (first|exact Drawn0.refl _|apply Drawn0.step)⟩
 case rest=>
  clear HC5
  try clear c1
  try clear p2
  try clear c3
  try clear an
  try clear c4
  try clear ay
  try clear p4
  try clear q4
  try clear hx4
  try clear c6
  try clear ag
  try clear p6
  try clear aD
  try clear a8
  try clear a9
  obtain ⟨kq,bU,rfl,HA,HJ4,⟨mc4,rfl⟩⟩:=hcut
  cases kq with
  | zero=>exact absurd HA.out (by simp [exergueref01_one.j0])
  | succ kj4=>
   have H:=HA.out
   clear HA
   simp only [exergueref01_one.j0] at H
   have HC7:=zS H
   clear H
   go_upto_region 6 with (fail)
   go_cut [22] (fun v22 wc=>∃ (kq:Nat) (bL:Bool),v22 = .bool bL∧Sd (exergueref01_one.j1 kq l0 a1 (wrap64 (rd l0 a1)) bU 0 bL=some r)∧Sd (kq≤kj4)∧Drawn0 w wc)
   case first=>
    have H:=HC7.out
    clear HC7
    by_cases c8:(wrap64 (rd l0 a1))≥192
    ·rw [if_pos c8] at H
     have az:decide (192≤(wrap64 (rd l0 a1)))=true:=zC c8
     clear c8
     (first|rw [az]|(simp only [i64_w,i32_w];rw [az])|rw [cX]|skip)
     have H':=zS H
     clear H
     go_wp2
     go_meet
     case rel=>exact ⟨_,(decide ((wrap64 (rd l0 a1))<224)),(by first|rfl|(simp;done)|(simp [*];done)),H',⟨by have:=HJ4.out;first|omega|exact Nat.le_refl _⟩,by repeat (first|exact Drawn0.refl _|apply Drawn0.step)⟩
    rw [if_neg c8] at H
    have az:decide (192≤(wrap64 (rd l0 a1)))=false:=zD c8
    clear c8
    (first|rw [az]|(simp only [i64_w,i32_w];rw [az])|rw [cX]|skip)
    have H':=zS H
    clear H
    go_wp2
    go_meet
    case rel=>exact ⟨_,(false),(by first|rfl|(simp;done)|(simp [*];done)),H',⟨by have:=HJ4.out;first|omega|exact Nat.le_refl _⟩,by repeat (first|exact Drawn0.refl _|apply Drawn0.step)⟩
   case rest=>
    clear HC7
    try clear c1
    try clear p2
    try clear c3
    try clear an
    try clear c4
    try clear ay
    try clear p4
    try clear q4
    try clear hx4
    try clear c6
    try clear ag
    try clear p6
    try clear c8
    try clear az
    try clear aD
    try clear p2
    try clear p4
    try clear a8
    try clear p6
    try clear q4
    try clear a9
    obtain ⟨kq,bL,rfl,HA,HJ6,⟨mc6,rfl⟩⟩:=hcut
    cases kq with
    | zero=>exact absurd HA.out (by simp [exergueref01_one.j1])
    | succ kj6=>
     have H:=HA.out
     clear HA
     simp only [exergueref01_one.j1] at H
     have HC9:=zS H
     clear H
     go_upto_if 22 with (fail)
     go_cut [6,7] (fun v6 v7 wc=>∃ (kq:Nat) (bV:Int) (bW:Int),v6 = .int .i64 bV∧v7 = .int .i64 bW∧Sd (exergueref01_one.j2 kq l0 a1 (wrap64 (rd l0 a1)) bV bW=some r)∧Sd (kq≤kj6)∧Drawn0 w wc)
     case first=>
      have H:=HC9.out
      clear HC9
      by_cases c10:bL=true
      ·subst c10
       rw [if_pos rfl] at H
       replace H:=Option.bind_eq_some_iff.mp H
       obtain ⟨cf,cY,H⟩:=H
       try dsimp only at H
       have A11:=zS cY
       clear cY
       have H':=zS H
       clear H
       go_wp2_with (first|((with_reducible refine gate_callee (f:=129) rfl ?_);refine gL (some 27) Tryz.func129 #[.slice (some bh) l0.length c0,.int .i64 a1,.int .i64 1,.int .i64 (wrap64 ((wrap64 (rd l0 a1)) - 192))] ?_;(with_reducible refine (exergueref01_tails.calls kj6 _ _ l0 a1 1 (wrap64 ((wrap64 (rd l0 a1)) - 192)) cf _ ?side1 HC0.out A11.out).mono ?_);(case side1=>repeat (first|exact HR0.out|(with_reducible refine Kd.C_alloc ?_ _)|(with_reducible refine Kd.C_drewN ?_ _)|(with_reducible refine Kd.C_drew ?_)));rintro e w' ⟨rfl,⟨nd,rfl⟩⟩;refine ⟨_,rfl,?_⟩))
       go_meet
       case rel=>exact ⟨_,(cf),(128),(by first|rfl|(simp;done)|(simp [*];done)),(by first|rfl|(simp;done)|(simp [*];done)),H',⟨by have:=HJ4.out;have:=HJ6.out;first|omega|exact Nat.le_refl _⟩,by repeat (first|exact Drawn0.refl _|apply Drawn0.step)⟩
      replace c10:=Bool.eq_false_iff.mpr c10
      subst c10
      rw [if_neg (show ¬ (false=true) by decide)] at H
      have H':=zS H
      clear H
      go_wp2
      go_meet
      case rel=>exact ⟨_,(bU),(0),(by first|rfl|(simp;done)|(simp [*];done)),(by first|rfl|(simp;done)|(simp [*];done)),H',⟨by have:=HJ4.out;have:=HJ6.out;first|omega|exact Nat.le_refl _⟩,by repeat (first|exact Drawn0.refl _|apply Drawn0.step)⟩
     case rest=>
      clear HC9
      try clear c1
      try clear p2
      try clear c3
      try clear an
      try clear c4
      try clear ay
      try clear p4
      try clear q4
      try clear hx4
      try clear c6
      try clear ag
      try clear p6
      try clear c8
      try clear az
      try clear c10
      try clear c11
      try clear aD
      try clear p2
      try clear p4
      try clear a8
      try clear p6
      try clear q4
      try clear a9
      obtain ⟨kq,bV,bW,rfl,rfl,HA,HJ8,⟨mc8,rfl⟩⟩:=hcut
      cases kq with
      | zero=>exact absurd HA.out (by simp [exergueref01_one.j2])
      | succ kj8=>
       have H:=HA.out
       clear HA
       simp only [exergueref01_one.j2] at H
       have cJ:=zS H
       clear H
       go_upto_region 9 with (fail)
       go_cut [33] (fun v33 wc=>∃ (kq:Nat) (ba:Bool),v33 = .bool ba∧Sd (exergueref01_one.j3 kq l0 a1 (wrap64 (rd l0 a1)) bV bW ba=some r)∧Sd (kq≤kj8)∧Drawn0 w wc)
       case first=>
        have H:=cJ.out
        clear cJ
        by_cases c13:(wrap64 (rd l0 a1))≥224
        ·rw [if_pos c13] at H
         have aK:decide (224≤(wrap64 (rd l0 a1)))=true:=zC c13
         clear c13
         (first|rw [aK]|(simp only [i64_w,i32_w];rw [aK])|rw [cZ]|skip)
         have H':=zS H
         clear H
         go_wp2
         go_meet
         case rel=>exact ⟨_,(decide ((wrap64 (rd l0 a1))<240)),(by first|rfl|(simp;done)|(simp [*];done)),H',⟨by have:=HJ4.out;have:=HJ6.out;have:=HJ8.out;first|omega|exact Nat.le_refl _⟩,by repeat (first|exact Drawn0.refl _|apply Drawn0.step)⟩
        rw [if_neg c13] at H
        have aK:decide (224≤(wrap64 (rd l0 a1)))=false:=zD c13
        clear c13
        (first|rw [aK]|(simp only [i64_w,i32_w];rw [aK])|rw [cZ]|skip)
        have H':=zS H
        clear H
        go_wp2
        go_meet
        case rel=>exact ⟨_,(false),(by first|rfl|(simp;done)|(simp [*];done)),H',⟨by have:=HJ4.out;have:=HJ6.out;have:=HJ8.out;first|omega|exact Nat.le_refl _⟩,by repeat (first|exact Drawn0.refl _|apply Drawn0.step)⟩
       case rest=>
        clear cJ
        try clear c1
        try clear p2
        try clear c3
        try clear an
        try clear c4
        try clear ay
        try clear p4
        try clear q4
        try clear hx4
        try clear c6
        try clear ag
        try clear p6
        try clear c8
        try clear az
        try clear c10
        try clear c11
        try clear c12
        try clear c13
        try clear aK
        try clear aD
        try clear p2
        try clear p4
        try clear a8
        try clear p6
        try clear q4
        try clear a9
        obtain ⟨kq,ba,rfl,HA,HJ11,⟨mc11,rfl⟩⟩:=hcut
        cases kq with
        | zero=>exact absurd HA.out (by simp [exergueref01_one.j3])
        | succ kj11=>
         have H:=HA.out
         clear HA
         simp only [exergueref01_one.j3] at H
         have cK:=zS H
         clear H
         go_upto_if 33 with (fail)
         go_cut [6,7] (fun v6 v7 wc=>∃ (kq:Nat) (aA:Int) (bi:Int),v6 = .int .i64 aA∧v7 = .int .i64 bi∧Sd (exergueref01_one.j4 kq l0 a1 (wrap64 (rd l0 a1)) aA bi=some r)∧Sd (kq≤kj11)∧Drawn0 w wc)
         case first=>
          have H:=cK.out
          clear cK
          by_cases c15:ba=true
          ·subst c15
           rw [if_pos rfl] at H
           replace H:=Option.bind_eq_some_iff.mp H
           obtain ⟨cg,da,H⟩:=H
           try dsimp only at H
           have A16:=zS da
           clear da
           have H':=zS H
           clear H
           go_wp2_with (first|((with_reducible refine gate_callee (f:=129) rfl ?_);refine gL (some 38) Tryz.func129 #[.slice (some bh) l0.length c0,.int .i64 a1,.int .i64 2,.int .i64 (wrap64 ((wrap64 (rd l0 a1)) - 224))] ?_;(with_reducible refine (exergueref01_tails.calls kj11 _ _ l0 a1 2 (wrap64 ((wrap64 (rd l0 a1)) - 224)) cg _ ?side1 HC0.out A16.out).mono ?_);(case side1=>repeat (first|exact HR0.out|(with_reducible refine Kd.C_alloc ?_ _)|(with_reducible refine Kd.C_drewN ?_ _)|(with_reducible refine Kd.C_drew ?_)));rintro e w' ⟨rfl,⟨nd,rfl⟩⟩;refine ⟨_,rfl,?_⟩))
           go_meet
           case rel=>exact ⟨_,(cg),(2048),(by first|rfl|(simp;done)|(simp [*];done)),(by first|rfl|(simp;done)|(simp [*];done)),H',⟨by have:=HJ4.out;have:=HJ6.out;have:=HJ8.out;have:=HJ11.out;first|omega|exact Nat.le_refl _⟩,by repeat (first|exact Drawn0.refl _|apply Drawn0.step)⟩
          replace c15:=Bool.eq_false_iff.mpr c15
          subst c15
          rw [if_neg (show ¬ (false=true) by decide)] at H
          have H':=zS H
          clear H
          go_wp2
          go_meet
          case rel=>exact ⟨_,(bV),(bW),(by first|rfl|(simp;done)|(simp [*];done)),(by first|rfl|(simp;done)|(simp [*];done)),H',⟨by have:=HJ4.out;have:=HJ6.out;have:=HJ8.out;have:=HJ11.out;first|omega|exact Nat.le_refl _⟩,by repeat (first|exact Drawn0.refl _|apply Drawn0.step)⟩
         case rest=>
          clear cK
          try clear c1
          try clear p2
          try clear c3
          try clear an
          try clear c4
          try clear ay
          try clear p4
          try clear q4
          try clear hx4
          try clear c6
          try clear ag
          try clear p6
          try clear c8
          try clear az
          try clear c10
          try clear c11
          try clear c12
          try clear c13
          try clear aK
          try clear c15
          try clear aD
          try clear p2
          try clear p4
          try clear a8
          try clear p6
          try clear q4
          try clear a9
          obtain ⟨kq,aA,bi,rfl,rfl,HA,HJ13,⟨mc13,rfl⟩⟩:=hcut
          cases kq with
          | zero=>exact absurd HA.out (by simp [exergueref01_one.j4])
          | succ kj13=>
           have H:=HA.out
           clear HA
           simp only [exergueref01_one.j4] at H
           have cL:=zS H
           clear H
           go_upto_region 12 with (fail)
           go_cut [44] (fun v44 wc=>∃ (kq:Nat) (bb:Bool),v44 = .bool bb∧Sd (exergueref01_one.j5 kq l0 a1 (wrap64 (rd l0 a1)) aA bi bb=some r)∧Sd (kq≤kj13)∧Drawn0 w wc)
           case first=>
            have H:=cL.out
            clear cL
            by_cases c18:(wrap64 (rd l0 a1))≥240
            ·rw [if_pos c18] at H
             have aM:decide (240≤(wrap64 (rd l0 a1)))=true:=zC c18
             clear c18
             (first|rw [aM]|(simp only [i64_w,i32_w];rw [aM])|rw [bX]|skip)
             have H':=zS H
             clear H
             go_wp2
             go_meet
             case rel=>exact ⟨_,(decide ((wrap64 (rd l0 a1))<248)),(by first|rfl|(simp;done)|(simp [*];done)),H',⟨by have:=HJ4.out;have:=HJ6.out;have:=HJ8.out;have:=HJ11.out;have:=HJ13.out;first|omega|exact Nat.le_refl _⟩,by repeat (first|exact Drawn0.refl _|apply Drawn0.step)⟩
            rw [if_neg c18] at H
            have aM:decide (240≤(wrap64 (rd l0 a1)))=false:=zD c18
            clear c18
            (first|rw [aM]|(simp only [i64_w,i32_w];rw [aM])|rw [bX]|skip)
            have H':=zS H
            clear H
            go_wp2
            go_meet
            case rel=>exact ⟨_,(false),(by first|rfl|(simp;done)|(simp [*];done)),H',⟨by have:=HJ4.out;have:=HJ6.out;have:=HJ8.out;have:=HJ11.out;have:=HJ13.out;first|omega|exact Nat.le_refl _⟩,by repeat (first|exact Drawn0.refl _|apply Drawn0.step)⟩
           case rest=>
            clear cL
            try clear c1
            try clear p2
            try clear c3
            try clear an
            try clear c4
            try clear ay
            try clear p4
            try clear q4
            try clear hx4
            try clear c6
            try clear ag
            try clear p6
            try clear c8
            try clear az
            try clear c10
            try clear c11
            try clear c12
            try clear c13
            try clear aK
            try clear c15
            try clear c18
            try clear aM
            try clear aD
            try clear p2
            try clear p4
            try clear a8
            try clear p6
            try clear q4
            try clear a9
            obtain ⟨kq,bb,rfl,HA,HJ16,⟨mc16,rfl⟩⟩:=hcut
            cases kq with
            | zero=>exact absurd HA.out (by simp [exergueref01_one.j5])
            | succ kj16=>
             have H:=HA.out
             clear HA
             simp only [exergueref01_one.j5] at H
             by_cases c19:bb=true
             ·subst c19
              rw [if_pos rfl] at H
              replace H:=Option.bind_eq_some_iff.mp H
              obtain ⟨aG,db,H⟩:=H
              try dsimp only at H
              have A20:=zS db
              clear db
              replace H:=Option.bind_eq_some_iff.mp H
              obtain ⟨ch,dc,H⟩:=H
              try dsimp only at H
              have A21:=zS dc
              clear dc
              by_cases c22:aG<65536
              ·rw [if_pos c22] at H
               have cu:=zC c22
               clear c22
               obtain rfl:=zE H
               go_wp2_with (first|((with_reducible refine gate_callee (f:=129) rfl ?_);refine gL (some 49) Tryz.func129 #[.slice (some bh) l0.length c0,.int .i64 a1,.int .i64 3,.int .i64 (wrap64 ((wrap64 (rd l0 a1)) - 240))] ?_;(with_reducible refine (exergueref01_tails.calls kj16 _ _ l0 a1 3 (wrap64 ((wrap64 (rd l0 a1)) - 240)) aG _ ?side1 HC0.out A20.out).mono ?_);(case side1=>repeat (first|exact HR0.out|(with_reducible refine Kd.C_alloc ?_ _)|(with_reducible refine Kd.C_drewN ?_ _)|(with_reducible refine Kd.C_drew ?_)));rintro e w' ⟨rfl,⟨nd,rfl⟩⟩;refine ⟨_,rfl,?_⟩)|((with_reducible refine gate_callee (f:=64) rfl ?_);refine gL (some 52) Tryz.func64 #[.int .i32 (wrap32 (aG))] ?_;(with_reducible refine (exergueref01_Is.calls (wrap32 (aG)) ch _ A21.out).mono ?_);rintro e w' ⟨rfl,⟨nd,rfl⟩⟩;refine ⟨_,rfl,?_⟩))
               go_ret
               exact ⟨by first|rfl|(simp;done)|(simp [*];done),by repeat (first|exact Drawn0.refl _|apply Drawn0.step)⟩
              rw [if_neg c22] at H
              have cu:=zD c22
              clear c22
              by_cases c23:ch=true
              ·subst c23
               rw [if_pos rfl] at H
               obtain rfl:=zE H
               go_wp2_with (first|((with_reducible refine gate_callee (f:=129) rfl ?_);refine gL (some 49) Tryz.func129 #[.slice (some bh) l0.length c0,.int .i64 a1,.int .i64 3,.int .i64 (wrap64 ((wrap64 (rd l0 a1)) - 240))] ?_;(with_reducible refine (exergueref01_tails.calls kj16 _ _ l0 a1 3 (wrap64 ((wrap64 (rd l0 a1)) - 240)) aG _ ?side1 HC0.out A20.out).mono ?_);(case side1=>repeat (first|exact HR0.out|(with_reducible refine Kd.C_alloc ?_ _)|(with_reducible refine Kd.C_drewN ?_ _)|(with_reducible refine Kd.C_drew ?_)));rintro e w' ⟨rfl,⟨nd,rfl⟩⟩;refine ⟨_,rfl,?_⟩)|((with_reducible refine gate_callee (f:=64) rfl ?_);refine gL (some 52) Tryz.func64 #[.int .i32 (wrap32 (aG))] ?_;(with_reducible refine (exergueref01_Is.calls (wrap32 (aG)) true _ A21.out).mono ?_);rintro e w' ⟨rfl,⟨nd,rfl⟩⟩;refine ⟨_,rfl,?_⟩))
               go_ret
               exact ⟨by first|rfl|(simp;done)|(simp [*];done),by repeat (first|exact Drawn0.refl _|apply Drawn0.step)⟩
              replace c23:=Bool.eq_false_iff.mpr c23
              subst c23
              rw [if_neg (show ¬ (false=true) by decide)] at H
              obtain rfl:=zE H
              go_wp2_with (first|((with_reducible refine gate_callee (f:=129) rfl ?_);refine gL (some 49) Tryz.func129 #[.slice (some bh) l0.length c0,.int .i64 a1,.int .i64 3,.int .i64 (wrap64 ((wrap64 (rd l0 a1)) - 240))] ?_;(with_reducible refine (exergueref01_tails.calls kj16 _ _ l0 a1 3 (wrap64 ((wrap64 (rd l0 a1)) - 240)) aG _ ?side1 HC0.out A20.out).mono ?_);(case side1=>repeat (first|exact HR0.out|(with_reducible refine Kd.C_alloc ?_ _)|(with_reducible refine Kd.C_drewN ?_ _)|(with_reducible refine Kd.C_drew ?_)));rintro e w' ⟨rfl,⟨nd,rfl⟩⟩;refine ⟨_,rfl,?_⟩)|((with_reducible refine gate_callee (f:=64) rfl ?_);refine gL (some 52) Tryz.func64 #[.int .i32 (wrap32 (aG))] ?_;(with_reducible refine (exergueref01_Is.calls (wrap32 (aG)) false _ A21.out).mono ?_);rintro e w' ⟨rfl,⟨nd,rfl⟩⟩;refine ⟨_,rfl,?_⟩))
              go_ret
              exact ⟨by first|rfl|(simp;done)|(simp [*];done),by repeat (first|exact Drawn0.refl _|apply Drawn0.step)⟩
             replace c19:=Bool.eq_false_iff.mpr c19
             subst c19
             rw [if_neg (show ¬ (false=true) by decide)] at H
             replace H:=Option.bind_eq_some_iff.mp H
             obtain ⟨ci,dd,H⟩:=H
             try dsimp only at H
             have A24:=zS dd
             clear dd
             by_cases c25:aA<bi
             ·rw [if_pos c25] at H
              have bY:=zC c25
              clear c25
              obtain rfl:=zE H
              go_wp2_with (first|((with_reducible refine gate_callee (f:=64) rfl ?_);refine gL (some 52) Tryz.func64 #[.int .i32 (wrap32 (aA))] ?_;(with_reducible refine (exergueref01_Is.calls (wrap32 (aA)) ci _ A24.out).mono ?_);rintro e w' ⟨rfl,⟨nd,rfl⟩⟩;refine ⟨_,rfl,?_⟩))
              go_ret
              exact ⟨by first|rfl|(simp;done)|(simp [*];done),by repeat (first|exact Drawn0.refl _|apply Drawn0.step)⟩
             rw [if_neg c25] at H
             have bY:=zD c25
             clear c25
             by_cases c26:ci=true
             ·subst c26
              rw [if_pos rfl] at H
              obtain rfl:=zE H
              go_wp2_with (first|((with_reducible refine gate_callee (f:=64) rfl ?_);refine gL (some 52) Tryz.func64 #[.int .i32 (wrap32 (aA))] ?_;(with_reducible refine (exergueref01_Is.calls (wrap32 (aA)) true _ A24.out).mono ?_);rintro e w' ⟨rfl,⟨nd,rfl⟩⟩;refine ⟨_,rfl,?_⟩))
              go_ret
              exact ⟨by first|rfl|(simp;done)|(simp [*];done),by repeat (first|exact Drawn0.refl _|apply Drawn0.step)⟩
             replace c26:=Bool.eq_false_iff.mpr c26
             subst c26
             rw [if_neg (show ¬ (false=true) by decide)] at H
             obtain rfl:=zE H
             go_wp2_with (first|((with_reducible refine gate_callee (f:=64) rfl ?_);refine gL (some 52) Tryz.func64 #[.int .i32 (wrap32 (aA))] ?_;(with_reducible refine (exergueref01_Is.calls (wrap32 (aA)) false _ A24.out).mono ?_);rintro e w' ⟨rfl,⟨nd,rfl⟩⟩;refine ⟨_,rfl,?_⟩))
             go_ret
             exact ⟨by first|rfl|(simp;done)|(simp [*];done),by repeat (first|exact Drawn0.refl _|apply Drawn0.step)⟩
def exergueref01_Size.f (a0:Int):Option (Int):=(exergueref01_Is.f a0).bind fun bZ=>(if bZ=true then (if a0<128 then (some 1) else (if a0<2048 then (some 2) else (if a0<65536 then (some 3) else (some 4)))) else (some 0))
set_option maxHeartbeats 8000000 in
set_option maxRecDepth 100000 in
theorem exergueref01_Size.calls (a0:Int)(r:Int)(w:World)(h:exergueref01_Size.f a0=some r) :
  Calls Tryz.prog 111 #[.int .i32 a0] w fun e w'=>e = .returned (.int .i64 r)∧Drawn0 w w':=by
 have H:((exergueref01_Is.f a0).bind fun bZ=>(if bZ=true then (if a0<128 then (some 1) else (if a0<2048 then (some 2) else (if a0<65536 then (some 3) else (some 4)))) else (some 0)))=some r:=h
 clear h
 replace H:=Option.bind_eq_some_iff.mp H
 obtain ⟨bZ,A20,H⟩:=H
 try dsimp only at H
 have A2:=zS A20
 clear A20
 by_cases c3:bZ=true
 rotate_left
 ·replace c3:=Bool.eq_false_iff.mpr c3
  subst c3
  rw [if_neg (show ¬ (false=true) by decide)] at H
  obtain rfl:=zE H
  go_enter Tryz.func111,Tryz.ntmps111
  go_wp2_with (first|((with_reducible refine gate_callee (f:=64) rfl ?_);refine gL (some 5) Tryz.func64 #[.int .i32 a0] ?_;(with_reducible refine (exergueref01_Is.calls a0 false _ A2.out).mono ?_);rintro e w' ⟨rfl,⟨nd,rfl⟩⟩;refine ⟨_,rfl,?_⟩))
  go_ret
  exact ⟨by first|rfl|(simp;done)|(simp [*];done),by repeat (first|exact Drawn0.refl _|apply Drawn0.step)⟩
 subst c3
 rw [if_pos rfl] at H
 by_cases c4:a0<128
 ·rw [if_pos c4] at H
  have ay:=zC c4
  clear c4
  obtain rfl:=zE H
  go_enter Tryz.func111,Tryz.ntmps111
  go_wp2_with (first|((with_reducible refine gate_callee (f:=64) rfl ?_);refine gL (some 5) Tryz.func64 #[.int .i32 a0] ?_;(with_reducible refine (exergueref01_Is.calls a0 true _ A2.out).mono ?_);rintro e w' ⟨rfl,⟨nd,rfl⟩⟩;refine ⟨_,rfl,?_⟩))
  go_ret
  exact ⟨by first|rfl|(simp;done)|(simp [*];done),by repeat (first|exact Drawn0.refl _|apply Drawn0.step)⟩
 rw [if_neg c4] at H
 have ay:=zD c4
 clear c4
 by_cases c5:a0<2048
 ·rw [if_pos c5] at H
  have bO:=zC c5
  clear c5
  obtain rfl:=zE H
  go_enter Tryz.func111,Tryz.ntmps111
  go_wp2_with (first|((with_reducible refine gate_callee (f:=64) rfl ?_);refine gL (some 5) Tryz.func64 #[.int .i32 a0] ?_;(with_reducible refine (exergueref01_Is.calls a0 true _ A2.out).mono ?_);rintro e w' ⟨rfl,⟨nd,rfl⟩⟩;refine ⟨_,rfl,?_⟩))
  go_ret
  exact ⟨by first|rfl|(simp;done)|(simp [*];done),by repeat (first|exact Drawn0.refl _|apply Drawn0.step)⟩
 rw [if_neg c5] at H
 have bO:=zD c5
 clear c5
 by_cases c6:a0<65536
 ·rw [if_pos c6] at H
  have ag:=zC c6
  clear c6
  obtain rfl:=zE H
  go_enter Tryz.func111,Tryz.ntmps111
  go_wp2_with (first|((with_reducible refine gate_callee (f:=64) rfl ?_);refine gL (some 5) Tryz.func64 #[.int .i32 a0] ?_;(with_reducible refine (exergueref01_Is.calls a0 true _ A2.out).mono ?_);rintro e w' ⟨rfl,⟨nd,rfl⟩⟩;refine ⟨_,rfl,?_⟩))
  go_ret
  exact ⟨by first|rfl|(simp;done)|(simp [*];done),by repeat (first|exact Drawn0.refl _|apply Drawn0.step)⟩
 rw [if_neg c6] at H
 have ag:=zD c6
 clear c6
 obtain rfl:=zE H
 go_enter Tryz.func111,Tryz.ntmps111
 go_wp2_with (first|((with_reducible refine gate_callee (f:=64) rfl ?_);refine gL (some 5) Tryz.func64 #[.int .i32 a0] ?_;(with_reducible refine (exergueref01_Is.calls a0 true _ A2.out).mono ?_);rintro e w' ⟨rfl,⟨nd,rfl⟩⟩;refine ⟨_,rfl,?_⟩))
 go_ret
 exact ⟨by first|rfl|(simp;done)|(simp [*];done),by repeat (first|exact Drawn0.refl _|apply Drawn0.step)⟩
def exergueref01_Decode.l0:Nat→List Int→List Int→Int→Option (List Int×Int×Int)
 | 0,_,_,_=>none
 | k+1,x0,x5,x6=>if x6<(x0.length:Int) then ((exergueref01_one.f k x0 x6).bind fun aI=>(if aI<0 then (some (([]:List Int),x6,3)) else (if x5.length<35184372088832 then ((exergueref01_Size.f (wrap32 (aI))).bind fun bQ=>(exergueref01_Decode.l0 k x0 (x5 ++ [wrap32 (aI)]) (wrap64 (x6+bQ)))) else (none)))) else (some (x5,0,0))
def exergueref01_Decode.f (k:Nat)(l0:List Int):Option (List Int×Int×Int):=exergueref01_Decode.l0 k l0 ([]:List Int) 0
theorem exergueref01_Decode.mono_l:∀ k,(∀ y0 y1 y2,LeO (exergueref01_Decode.l0 k y0 y1 y2) (exergueref01_Decode.l0 (k+1) y0 y1 y2))
 | 0=>fun _ _ _ r h=>by simp [exergueref01_Decode.l0] at h
 | k+1=>by
  have ih0:=exergueref01_Decode.mono_l k
  ·intro y0 y1 y2
   unfold exergueref01_Decode.l0
   repeat' first|(with_reducible first|apply ih0|apply exergueref01_one.mono|apply LeO.refl|apply LeO.none|refine LeO.ite ?_ ?_|refine LeO.bind ?_ (fun _=>?_))|apply ih0|apply exergueref01_one.mono|apply LeO.none
theorem exergueref01_Decode.mono:∀ a0 k,LeO (exergueref01_Decode.f k a0) (exergueref01_Decode.f (k+1) a0):=by
 intro a0 k
 have ih0:=exergueref01_Decode.mono_l k
 unfold exergueref01_Decode.f
 repeat' first|(with_reducible first|apply ih0|apply exergueref01_one.mono|apply LeO.refl|apply LeO.none|refine LeO.ite ?_ ?_|refine LeO.bind ?_ (fun _=>?_))|apply ih0|apply exergueref01_one.mono|apply LeO.none
set_option maxHeartbeats 8000000 in
set_option maxRecDepth 100000 in
theorem exergueref01_Decode.calls (k:Nat)(A0:Option Addr)(c0:Nat)(l0:List Int)(r1:List Int)(r2:Int)(r3:Int)(w:World)(hr0:Kd.C (Kd.int .u8) w A0 l0.length l0)(hc0:l0.length≤c0)(h:exergueref01_Decode.f k l0=some (r1,r2,r3)) :
  Calls Tryz.prog 86 #[.slice A0 l0.length c0] w fun e w'=>∃ v0_:Value,e = .returned (.tuple #[v0_,.int .i64 r2,.int .i64 r3])∧Kd.R (Kd.int .i32) 21 w' w.heap.size (fun _=>True) v0_ r1∧Below w.heap.size w w':=by
 have HR0:=zS hr0
 have HC0:=zS hc0
 clear hr0 hc0
 have HB:=zS (Below.refl w.heap.size w)
 have H:(exergueref01_Decode.l0 k l0 ([]:List Int) 0)=some (r1,r2,r3):=h
 clear h
 have H':=zS H
 clear H
 go_enter Tryz.func86,Tryz.ntmps86
 go_wp2
 go_loopg [5,6] k (fun kq v5 v6 w'=>∃ (aa:List Int) (aW:Int),v6 = .int .i64 aW∧Sd (exergueref01_Decode.l0 kq l0 aa aW=some (r1,r2,r3))∧Sd (kq≤k)∧Sd (Kd.R (Kd.int .i32) 21 w' w.heap.size (fun _=>True) v5 aa)∧Sd (Below w.heap.size w w'))
 case atStart=>exact ⟨(([]:List Int)),(0),(by first|rfl|(simp;done)|(simp [*];done)),H',⟨Nat.le_refl _⟩,⟨by first|exact Kd.R_nil _ _ _ _ _|exact Kd.N_nil _ _ _ _ _|exact Kd.V_nil _ _ _ _ _|exact Kd.Q_nil _ _ _ _ _|exact Kd.S_nil _ _ _ _ _⟩,⟨bl HB⟩⟩
 case round=>
  clear H'
  obtain ⟨aa,aW,rfl,HA,HK1,HO_5,HB⟩:=hrel
  cases gk with
  | zero=>exact absurd HA.out (by simp [exergueref01_Decode.l0])
  | succ k1=>
   have H:=HA.out
   clear HA
   simp only [exergueref01_Decode.l0] at H
   by_cases c2:aW<(l0.length:Int)
   rotate_left
   ·rw [if_neg c2] at H
    have aN:=zD c2
    clear c2
    simp only [Option.some.injEq,Prod.mk.injEq] at H
    obtain ⟨rfl,rfl,rfl⟩:=H
    go_wp2
    go_ret3
    exact ⟨_,by first|rfl|(simp <;> rfl)|(simp [*] <;> rfl),by (with_reducible repeat (first|apply Kd.R_alloc|apply Kd.R_drewN|apply Kd.R_drew));exact HO_5.out,bl HB⟩
   rw [if_pos c2] at H
   have aN:=zC c2
   clear c2
   replace H:=Option.bind_eq_some_iff.mp H
   obtain ⟨aI,A30,H⟩:=H
   try dsimp only at H
   have A3:=zS A30
   clear A30
   by_cases c4:aI<0
   ·rw [if_pos c4] at H
    have ay:=zC c4
    clear c4
    simp only [Option.some.injEq,Prod.mk.injEq] at H
    obtain ⟨rfl,rfl,rfl⟩:=H
    go_wp2_with (first|((with_reducible refine gate_callee (f:=110) rfl ?_);refine gL (some 14) Tryz.func110 #[.slice A0 l0.length c0,.int .i64 aW] ?_;(with_reducible refine (exergueref01_one.calls k1 _ _ l0 aW aI _ (cb HR0 HB) HC0.out A3.out).mono ?_);rintro e w' ⟨rfl,⟨nd,rfl⟩⟩;refine ⟨_,rfl,?_⟩))
    go_ret3
    exact ⟨_,by first|rfl|(simp <;> rfl)|(simp [*] <;> rfl),by first|exact Kd.R_nil _ _ _ _ _|exact Kd.N_nil _ _ _ _ _|exact Kd.V_nil _ _ _ _ _|exact Kd.Q_nil _ _ _ _ _|exact Kd.S_nil _ _ _ _ _,bl HB⟩
   rw [if_neg c4] at H
   have ay:=zD c4
   clear c4
   by_cases c5:aa.length<35184372088832
   rotate_left
   ·rw [if_neg c5] at H
    exact absurd H (by simp)
   rw [if_pos c5] at H
   have LMc5:=zS c5
   clear c5
   obtain ⟨de,bj⟩:∃ y_:List Int,y_=(aa ++ [wrap32 (aI)]):=⟨_,rfl⟩
   replace H:((exergueref01_Size.f (wrap32 (aI))).bind fun bQ=>(exergueref01_Decode.l0 k1 l0 de (wrap64 (aW+bQ))))=some (r1,r2,r3):=by first|(rw [bj];with_reducible exact H)|(have H2_:=(Option.bind_some _ _).symm.trans H;rw [bj];with_reducible exact H2_)|(have H2_:=(Option.bind_some _ _).symm.trans H;with_reducible exact H2_)|with_reducible exact H|(rw [bj];exact H)|exact H
   have df:=zS bj
   clear bj
   replace H:=Option.bind_eq_some_iff.mp H
   obtain ⟨bQ,A60,H⟩:=H
   try dsimp only at H
   have A6:=zS A60
   clear A60
   have H':=zS H
   clear H
   go_wp2_with (first|((with_reducible refine gate_callee (f:=110) rfl ?_);refine gL (some 14) Tryz.func110 #[.slice A0 l0.length c0,.int .i64 aW] ?_;(with_reducible refine (exergueref01_one.calls k1 _ _ l0 aW aI _ (cb HR0 HB) HC0.out A3.out).mono ?_);rintro e w' ⟨rfl,⟨nd,rfl⟩⟩;refine ⟨_,rfl,?_⟩)|((with_reducible refine gate_builtin (b:=.append) (xs:=#[.tmp 18,.tmp 21]) rfl ?_);at_builtin;refine Kd.R_append (Kd.int .i32) (w0:=w) w.heap.size rfl (.tmp 18) (.tmp 21) 46 21 (.int .i32 0) 4 rfl Tryz.underlying46 info21 rfl (by decide) (by omega) u5 aa (wrap32 (aI)) [.int .i32 (wrap32 (aI))] (fun _=>True) (fun _=>False) rfl rfl ?aP (fun _ hk=>hk.elim) ?aF ?aO ?aB ?aS ?aL ?_;(case aP=>exact rfl);(case aB=>exact (bl HB));(case aF=>exact (fun _ _=>trivial));(case aO=>exact (ro HO_5));(case aS=>exact (bz HB));(case aL=>have:=LMc5.out;omega);intro en w7 ho hb hg hat;rw [← df.out] at ho;replace HB:=zS (hb);have dg:=zS (ho);clear HO_5;clear ho hb hg hat)|((with_reducible refine gate_callee (f:=111) rfl ?_);refine gL (some 26) Tryz.func111 #[.int .i32 (wrap32 (aI))] ?_;(with_reducible refine (exergueref01_Size.calls (wrap32 (aI)) bQ _ A6.out).mono ?_);rintro e w' ⟨rfl,⟨nd,rfl⟩⟩;refine ⟨_,rfl,?_⟩))
   go_roundg k1
   case measure=>have:=HK1.out;omega
   case rel=>exact ⟨(de),(wrap64 (aW+bQ)),(by first|rfl|(simp;done)|(simp [*];done)),H',⟨by have:=HK1.out;omega⟩,⟨ro dg⟩,⟨bl HB⟩⟩
def exergueref10_at.f (l0:List Int)(a1:Int):Option (Int):=if a1<(l0.length:Int) then (if 0≤a1 then (some (rd l0 a1)) else (none)) else (some (-1))
set_option maxHeartbeats 8000000 in
set_option maxRecDepth 100000 in
theorem exergueref10_at.calls (A0:Option Addr)(c0:Nat)(l0:List Int)(a1:Int)(r:Int)(w:World)(hr0:Kd.C (Kd.int .i32) w A0 l0.length l0)(hc0:l0.length≤c0)(h:exergueref10_at.f l0 a1=some r) :
  Calls Tryz.prog 88 #[.slice A0 l0.length c0,.int .i64 a1] w fun e w'=>e = .returned (.int .i32 r)∧Drawn0 w w':=by
 have HR0:=zS hr0
 have HC0:=zS hc0
 clear hr0 hc0
 have H:(if a1<(l0.length:Int) then (if 0≤a1 then (some (rd l0 a1)) else (none)) else (some (-1)))=some r:=h
 clear h
 by_cases c3:a1<(l0.length:Int)
 ·rw [if_pos c3] at H
  have an:=zC c3
  clear c3
  by_cases c4:0≤a1
  ·rw [if_pos c4] at H
   have ay:=zC c4
   clear c4
   obtain rfl:=zE H
   have cM:0≤(a1:Int):=zB (by first|(with_reducible assumption)|assumption)
   have cN:a1<(l0.length:Int):=zB (by first|(with_reducible assumption)|assumption)
   obtain ⟨dX,dF,dD⟩:=Kd.at_int HR0.out a1 cM cN
   cases dF
   replace cM:=eq_true cM
   replace cN:=eq_true cN
   go_enter Tryz.func88,Tryz.ntmps88
   go_wp2
   go_ret
   exact ⟨by first|rfl|(simp;done)|(simp [*];done),by repeat (first|exact Drawn0.refl _|apply Drawn0.step)⟩
  rw [if_neg c4] at H
  exact absurd H (by simp)
 rw [if_neg c3] at H
 have an:=zD c3
 clear c3
 obtain rfl:=zE H
 go_enter Tryz.func88,Tryz.ntmps88
 go_wp2
 go_ret
 exact ⟨by first|rfl|(simp;done)|(simp [*];done),by repeat (first|exact Drawn0.refl _|apply Drawn0.step)⟩
def exergueref01_Bytes.f (a0:Int):Option (List Int):=(exergueref01_Size.f a0).bind fun ae=>(if ae=1 then (some (([(wrap64 (a0)) % 256]:List Int))) else (if ae=2 then (some (([(wrap64 (192+(wrap64 (Int.tdiv (wrap64 (a0)) 64)))) % 256,(wrap64 (128+(Int.tmod (wrap64 (a0)) 64))) % 256]:List Int))) else (if ae=3 then (some (([(wrap64 (224+(wrap64 (Int.tdiv (wrap64 (a0)) 4096)))) % 256,(wrap64 (128+(Int.tmod (wrap64 (Int.tdiv (wrap64 (a0)) 64)) 64))) % 256,(wrap64 (128+(Int.tmod (wrap64 (a0)) 64))) % 256]:List Int))) else (if ae=4 then (some (([(wrap64 (240+(wrap64 (Int.tdiv (wrap64 (a0)) 262144)))) % 256,(wrap64 (128+(Int.tmod (wrap64 (Int.tdiv (wrap64 (a0)) 4096)) 64))) % 256,(wrap64 (128+(Int.tmod (wrap64 (Int.tdiv (wrap64 (a0)) 64)) 64))) % 256,(wrap64 (128+(Int.tmod (wrap64 (a0)) 64))) % 256]:List Int))) else (some ([]:List Int))))))
set_option maxHeartbeats 8000000 in
set_option maxRecDepth 100000 in
theorem exergueref01_Bytes.calls (a0:Int)(r:List Int)(w:World)(h:exergueref01_Bytes.f a0=some r) :
  Calls Tryz.prog 133 #[.int .i32 a0] w fun e w'=>∃ v0_:Value,e = .returned (v0_)∧Kd.R (Kd.int .u8) 5 w' w.heap.size (fun _=>True) v0_ r∧Below w.heap.size w w':=by
 have HB:=zS (Below.refl w.heap.size w)
 have H:((exergueref01_Size.f a0).bind fun ae=>(if ae=1 then (some (([(wrap64 (a0)) % 256]:List Int))) else (if ae=2 then (some (([(wrap64 (192+(wrap64 (Int.tdiv (wrap64 (a0)) 64)))) % 256,(wrap64 (128+(Int.tmod (wrap64 (a0)) 64))) % 256]:List Int))) else (if ae=3 then (some (([(wrap64 (224+(wrap64 (Int.tdiv (wrap64 (a0)) 4096)))) % 256,(wrap64 (128+(Int.tmod (wrap64 (Int.tdiv (wrap64 (a0)) 64)) 64))) % 256,(wrap64 (128+(Int.tmod (wrap64 (a0)) 64))) % 256]:List Int))) else (if ae=4 then (some (([(wrap64 (240+(wrap64 (Int.tdiv (wrap64 (a0)) 262144)))) % 256,(wrap64 (128+(Int.tmod (wrap64 (Int.tdiv (wrap64 (a0)) 4096)) 64))) % 256,(wrap64 (128+(Int.tmod (wrap64 (Int.tdiv (wrap64 (a0)) 64)) 64))) % 256,(wrap64 (128+(Int.tmod (wrap64 (a0)) 64))) % 256]:List Int))) else (some ([]:List Int)))))))=some r:=h
 clear h
 replace H:=Option.bind_eq_some_iff.mp H
 obtain ⟨ae,A20,H⟩:=H
 try dsimp only at H
 have A2:=zS A20
 clear A20
 by_cases c3:ae=1
 ·rw [if_pos c3] at H
  have an:(ae == 1)=true:=zH c3
  have cO:(ae != 1)=false:=zG c3
  clear c3
  obtain ⟨dG,bk⟩:∃ y_:List Int,y_=(([(wrap64 (a0)) % 256]:List Int)):=⟨_,rfl⟩
  replace H:(some dG)=some r:=by first|(rw [bk];with_reducible exact H)|(have H2_:=(Option.bind_some _ _).symm.trans H;rw [bk];with_reducible exact H2_)|(have H2_:=(Option.bind_some _ _).symm.trans H;with_reducible exact H2_)|with_reducible exact H|(rw [bk];exact H)|exact H
  have cv:=zS bk
  clear bk
  obtain rfl:=zE H
  go_enter Tryz.func133,Tryz.ntmps133
  go_wp2_with (first|((with_reducible refine gate_callee (f:=111) rfl ?_);refine gL (some 7) Tryz.func111 #[.int .i32 a0] ?_;(with_reducible refine (exergueref01_Size.calls a0 ae _ A2.out).mono ?_);rintro e w' ⟨rfl,⟨nd,rfl⟩⟩;refine ⟨_,rfl,?_⟩)|((with_reducible refine gate_dst (N:=12) rfl ?_);refine Kd.R_lit (Kd.int .u8) _ 5 ?hg (N:=12) ?hd (xs:=([(wrap64 (a0)) % 256]:List Int)) (inner:=[.int .u8 ((wrap64 (a0)) % 256)]) (ok:=fun _=>True) (okp:=fun _=>True) ?hr ?hp (fun _ hk=>hk) trivial (Below.refl _ _) (Nat.le_refl _) (by simp) ?_;(case hd=>rfl);(case hg=>rfl);(case hr=>first|(go_simp;done)|(go_simp;rfl));(case hp=>exact (Reps.one (show Kd.M (Kd.int .u8) _ _ _ ((wrap64 (a0)) % 256) [.int .u8 ((wrap64 (a0)) % 256)] from rfl) (Reps.none _ _)));intro eo w4 ho5 hb hg_ hnew_;clear hg_ hnew_;(first|rw [← cv.out] at ho5|(simp only [Int.reduceToNat] at ho5;rw [← cv.out] at ho5));have dh:=zS (Kd.R_lower ho5 (bz HB));replace HB:=bs HB hb;clear hb ho5))
  go_ret
  exact ⟨_,by first|rfl|(simp <;> rfl)|(simp [*] <;> rfl),by (with_reducible repeat (first|apply Kd.R_alloc|apply Kd.R_drewN|apply Kd.R_drew));exact dh.out,bl HB⟩
 rw [if_neg c3] at H
 have an:(ae == 1)=false:=zF c3
 have cO:(ae != 1)=true:=zI c3
 by_cases c6:ae=2
 ·rw [if_pos c6] at H
  have ag:(ae == 2)=true:=zH c6
  have aT:(ae != 2)=false:=zG c6
  clear c6
  obtain ⟨dH,bm⟩:∃ y_:List Int,y_=(([(wrap64 (192+(wrap64 (Int.tdiv (wrap64 (a0)) 64)))) % 256,(wrap64 (128+(Int.tmod (wrap64 (a0)) 64))) % 256]:List Int)):=⟨_,rfl⟩
  replace H:(some dH)=some r:=by first|(rw [bm];with_reducible exact H)|(have H2_:=(Option.bind_some _ _).symm.trans H;rw [bm];with_reducible exact H2_)|(have H2_:=(Option.bind_some _ _).symm.trans H;with_reducible exact H2_)|with_reducible exact H|(rw [bm];exact H)|exact H
  have cw:=zS bm
  clear bm
  obtain rfl:=zE H
  go_enter Tryz.func133,Tryz.ntmps133
  go_wp2_with (first|((with_reducible refine gate_callee (f:=111) rfl ?_);refine gL (some 7) Tryz.func111 #[.int .i32 a0] ?_;(with_reducible refine (exergueref01_Size.calls a0 ae _ A2.out).mono ?_);rintro e w' ⟨rfl,⟨nd,rfl⟩⟩;refine ⟨_,rfl,?_⟩)|((with_reducible refine gate_dst (N:=23) rfl ?_);refine Kd.R_lit (Kd.int .u8) _ 5 ?hg (N:=23) ?hd (xs:=([(wrap64 (192+(wrap64 (Int.tdiv (wrap64 (a0)) 64)))) % 256,(wrap64 (128+(Int.tmod (wrap64 (a0)) 64))) % 256]:List Int)) (inner:=[.int .u8 ((wrap64 (192+(wrap64 (Int.tdiv (wrap64 (a0)) 64)))) % 256),.int .u8 ((wrap64 (128+(Int.tmod (wrap64 (a0)) 64))) % 256)]) (ok:=fun _=>True) (okp:=fun _=>True) ?hr ?hp (fun _ hk=>hk) trivial (Below.refl _ _) (Nat.le_refl _) (by simp) ?_;(case hd=>rfl);(case hg=>rfl);(case hr=>first|(go_simp;done)|(go_simp;rfl));(case hp=>exact (Reps.one (show Kd.M (Kd.int .u8) _ _ _ ((wrap64 (192+(wrap64 (Int.tdiv (wrap64 (a0)) 64)))) % 256) [.int .u8 ((wrap64 (192+(wrap64 (Int.tdiv (wrap64 (a0)) 64)))) % 256)] from rfl) (Reps.one (show Kd.M (Kd.int .u8) _ _ _ ((wrap64 (128+(Int.tmod (wrap64 (a0)) 64))) % 256) [.int .u8 ((wrap64 (128+(Int.tmod (wrap64 (a0)) 64))) % 256)] from rfl) (Reps.none _ _))));intro ep w7 ho8 hb hg_ hnew_;clear hg_ hnew_;(first|rw [← cw.out] at ho8|(simp only [Int.reduceToNat] at ho8;rw [← cw.out] at ho8));have di:=zS (Kd.R_lower ho8 (bz HB));replace HB:=bs HB hb;clear hb ho8))
  go_ret
  exact ⟨_,by first|rfl|(simp <;> rfl)|(simp [*] <;> rfl),by (with_reducible repeat (first|apply Kd.R_alloc|apply Kd.R_drewN|apply Kd.R_drew));exact di.out,bl HB⟩
 rw [if_neg c6] at H
 have ag:(ae == 2)=false:=zF c6
 have aT:(ae != 2)=true:=zI c6
 by_cases c9:ae=3
 ·rw [if_pos c9] at H
  have bf:(ae == 3)=true:=zH c9
  have cP:(ae != 3)=false:=zG c9
  clear c9
  obtain ⟨dI,bn⟩:∃ y_:List Int,y_=(([(wrap64 (224+(wrap64 (Int.tdiv (wrap64 (a0)) 4096)))) % 256,(wrap64 (128+(Int.tmod (wrap64 (Int.tdiv (wrap64 (a0)) 64)) 64))) % 256,(wrap64 (128+(Int.tmod (wrap64 (a0)) 64))) % 256]:List Int)):=⟨_,rfl⟩
  replace H:(some dI)=some r:=by first|(rw [bn];with_reducible exact H)|(have H2_:=(Option.bind_some _ _).symm.trans H;rw [bn];with_reducible exact H2_)|(have H2_:=(Option.bind_some _ _).symm.trans H;with_reducible exact H2_)|with_reducible exact H|(rw [bn];exact H)|exact H
  have cx:=zS bn
  clear bn
  obtain rfl:=zE H
  go_enter Tryz.func133,Tryz.ntmps133
  go_wp2_with (first|((with_reducible refine gate_callee (f:=111) rfl ?_);refine gL (some 7) Tryz.func111 #[.int .i32 a0] ?_;(with_reducible refine (exergueref01_Size.calls a0 ae _ A2.out).mono ?_);rintro e w' ⟨rfl,⟨nd,rfl⟩⟩;refine ⟨_,rfl,?_⟩)|((with_reducible refine gate_dst (N:=39) rfl ?_);refine Kd.R_lit (Kd.int .u8) _ 5 ?hg (N:=39) ?hd (xs:=([(wrap64 (224+(wrap64 (Int.tdiv (wrap64 (a0)) 4096)))) % 256,(wrap64 (128+(Int.tmod (wrap64 (Int.tdiv (wrap64 (a0)) 64)) 64))) % 256,(wrap64 (128+(Int.tmod (wrap64 (a0)) 64))) % 256]:List Int)) (inner:=[.int .u8 ((wrap64 (224+(wrap64 (Int.tdiv (wrap64 (a0)) 4096)))) % 256),.int .u8 ((wrap64 (128+(Int.tmod (wrap64 (Int.tdiv (wrap64 (a0)) 64)) 64))) % 256),.int .u8 ((wrap64 (128+(Int.tmod (wrap64 (a0)) 64))) % 256)]) (ok:=fun _=>True) (okp:=fun _=>True) ?hr ?hp (fun _ hk=>hk) trivial (Below.refl _ _) (Nat.le_refl _) (by simp) ?_;(case hd=>rfl);(case hg=>rfl);(case hr=>first|(go_simp;done)|(go_simp;rfl));(case hp=>exact (Reps.one (show Kd.M (Kd.int .u8) _ _ _ ((wrap64 (224+(wrap64 (Int.tdiv (wrap64 (a0)) 4096)))) % 256) [.int .u8 ((wrap64 (224+(wrap64 (Int.tdiv (wrap64 (a0)) 4096)))) % 256)] from rfl) (Reps.one (show Kd.M (Kd.int .u8) _ _ _ ((wrap64 (128+(Int.tmod (wrap64 (Int.tdiv (wrap64 (a0)) 64)) 64))) % 256) [.int .u8 ((wrap64 (128+(Int.tmod (wrap64 (Int.tdiv (wrap64 (a0)) 64)) 64))) % 256)] from rfl) (Reps.one (show Kd.M (Kd.int .u8) _ _ _ ((wrap64 (128+(Int.tmod (wrap64 (a0)) 64))) % 256) [.int .u8 ((wrap64 (128+(Int.tmod (wrap64 (a0)) 64))) % 256)] from rfl) (Reps.none _ _)))));intro eq w10 b0 hb hg_ hnew_;clear hg_ hnew_;(first|rw [← cx.out] at b0|(simp only [Int.reduceToNat] at b0;rw [← cx.out] at b0));have dj:=zS (Kd.R_lower b0 (bz HB));replace HB:=bs HB hb;clear hb b0))
  go_ret
  exact ⟨_,by first|rfl|(simp <;> rfl)|(simp [*] <;> rfl),by (with_reducible repeat (first|apply Kd.R_alloc|apply Kd.R_drewN|apply Kd.R_drew));exact dj.out,bl HB⟩
 rw [if_neg c9] at H
 have bf:(ae == 3)=false:=zF c9
 have cP:(ae != 3)=true:=zI c9
 by_cases c12:ae=4
 ·rw [if_pos c12] at H
  have dk:(ae == 4)=true:=zH c12
  have dl:(ae != 4)=false:=zG c12
  clear c12
  obtain ⟨dJ,bo⟩:∃ y_:List Int,y_=(([(wrap64 (240+(wrap64 (Int.tdiv (wrap64 (a0)) 262144)))) % 256,(wrap64 (128+(Int.tmod (wrap64 (Int.tdiv (wrap64 (a0)) 4096)) 64))) % 256,(wrap64 (128+(Int.tmod (wrap64 (Int.tdiv (wrap64 (a0)) 64)) 64))) % 256,(wrap64 (128+(Int.tmod (wrap64 (a0)) 64))) % 256]:List Int)):=⟨_,rfl⟩
  replace H:(some dJ)=some r:=by first|(rw [bo];with_reducible exact H)|(have H2_:=(Option.bind_some _ _).symm.trans H;rw [bo];with_reducible exact H2_)|(have H2_:=(Option.bind_some _ _).symm.trans H;with_reducible exact H2_)|with_reducible exact H|(rw [bo];exact H)|exact H
  have cy:=zS bo
  clear bo
  obtain rfl:=zE H
  go_enter Tryz.func133,Tryz.ntmps133
  go_wp2_with (first|((with_reducible refine gate_callee (f:=111) rfl ?_);refine gL (some 7) Tryz.func111 #[.int .i32 a0] ?_;(with_reducible refine (exergueref01_Size.calls a0 ae _ A2.out).mono ?_);rintro e w' ⟨rfl,⟨nd,rfl⟩⟩;refine ⟨_,rfl,?_⟩)|((with_reducible refine gate_dst (N:=60) rfl ?_);refine Kd.R_lit (Kd.int .u8) _ 5 ?hg (N:=60) ?hd (xs:=([(wrap64 (240+(wrap64 (Int.tdiv (wrap64 (a0)) 262144)))) % 256,(wrap64 (128+(Int.tmod (wrap64 (Int.tdiv (wrap64 (a0)) 4096)) 64))) % 256,(wrap64 (128+(Int.tmod (wrap64 (Int.tdiv (wrap64 (a0)) 64)) 64))) % 256,(wrap64 (128+(Int.tmod (wrap64 (a0)) 64))) % 256]:List Int)) (inner:=[.int .u8 ((wrap64 (240+(wrap64 (Int.tdiv (wrap64 (a0)) 262144)))) % 256),.int .u8 ((wrap64 (128+(Int.tmod (wrap64 (Int.tdiv (wrap64 (a0)) 4096)) 64))) % 256),.int .u8 ((wrap64 (128+(Int.tmod (wrap64 (Int.tdiv (wrap64 (a0)) 64)) 64))) % 256),.int .u8 ((wrap64 (128+(Int.tmod (wrap64 (a0)) 64))) % 256)]) (ok:=fun _=>True) (okp:=fun _=>True) ?hr ?hp (fun _ hk=>hk) trivial (Below.refl _ _) (Nat.le_refl _) (by simp) ?_;(case hd=>rfl);(case hg=>rfl);(case hr=>first|(go_simp;done)|(go_simp;rfl));(case hp=>exact (Reps.one (show Kd.M (Kd.int .u8) _ _ _ ((wrap64 (240+(wrap64 (Int.tdiv (wrap64 (a0)) 262144)))) % 256) [.int .u8 ((wrap64 (240+(wrap64 (Int.tdiv (wrap64 (a0)) 262144)))) % 256)] from rfl) (Reps.one (show Kd.M (Kd.int .u8) _ _ _ ((wrap64 (128+(Int.tmod (wrap64 (Int.tdiv (wrap64 (a0)) 4096)) 64))) % 256) [.int .u8 ((wrap64 (128+(Int.tmod (wrap64 (Int.tdiv (wrap64 (a0)) 4096)) 64))) % 256)] from rfl) (Reps.one (show Kd.M (Kd.int .u8) _ _ _ ((wrap64 (128+(Int.tmod (wrap64 (Int.tdiv (wrap64 (a0)) 64)) 64))) % 256) [.int .u8 ((wrap64 (128+(Int.tmod (wrap64 (Int.tdiv (wrap64 (a0)) 64)) 64))) % 256)] from rfl) (Reps.one (show Kd.M (Kd.int .u8) _ _ _ ((wrap64 (128+(Int.tmod (wrap64 (a0)) 64))) % 256) [.int .u8 ((wrap64 (128+(Int.tmod (wrap64 (a0)) 64))) % 256)] from rfl) (Reps.none _ _))))));intro er w13 b1 hb hg_ hnew_;clear hg_ hnew_;(first|rw [← cy.out] at b1|(simp only [Int.reduceToNat] at b1;rw [← cy.out] at b1));have dm:=zS (Kd.R_lower b1 (bz HB));replace HB:=bs HB hb;clear hb b1))
  go_ret
  exact ⟨_,by first|rfl|(simp <;> rfl)|(simp [*] <;> rfl),by (with_reducible repeat (first|apply Kd.R_alloc|apply Kd.R_drewN|apply Kd.R_drew));exact dm.out,bl HB⟩
 rw [if_neg c12] at H
 have dk:(ae == 4)=false:=zF c12
 have dl:(ae != 4)=true:=zI c12
 obtain rfl:=zE H
 go_enter Tryz.func133,Tryz.ntmps133
 go_wp2_with (first|((with_reducible refine gate_callee (f:=111) rfl ?_);refine gL (some 7) Tryz.func111 #[.int .i32 a0] ?_;(with_reducible refine (exergueref01_Size.calls a0 ae _ A2.out).mono ?_);rintro e w' ⟨rfl,⟨nd,rfl⟩⟩;refine ⟨_,rfl,?_⟩))
 go_ret
 exact ⟨_,by first|rfl|(simp <;> rfl)|(simp [*] <;> rfl),by first|exact Kd.R_nil _ _ _ _ _|exact Kd.N_nil _ _ _ _ _|exact Kd.V_nil _ _ _ _ _|exact Kd.Q_nil _ _ _ _ _|exact Kd.S_nil _ _ _ _ _,bl HB⟩
def exergueref10_text.f (a0:Int):Option (ByteArray):=(exergueref01_Bytes.f a0).bind fun b2=>(some (strOfNums b2))
set_option maxHeartbeats 8000000 in
set_option maxRecDepth 100000 in
theorem exergueref10_text.calls (a0:Int)(r:ByteArray)(w:World)(h:exergueref10_text.f a0=some r) :
  Calls Tryz.prog 115 #[.int .i32 a0] w fun e w'=>e = .returned (.string r)∧Below w.heap.size w w':=by
 have HB:=zS (Below.refl w.heap.size w)
 have H:((exergueref01_Bytes.f a0).bind fun b2=>(some (strOfNums b2)))=some r:=h
 clear h
 replace H:=Option.bind_eq_some_iff.mp H
 obtain ⟨b2,A20,H⟩:=H
 try dsimp only at H
 have A2:=zS A20
 clear A20
 obtain rfl:=zE H
 go_enter Tryz.func115,Tryz.ntmps115
 go_wp2_with (first|((with_reducible refine gate_callee (f:=133) rfl ?_);refine gL (some 4) Tryz.func133 #[.int .i32 a0] ?_;(with_reducible refine (exergueref01_Bytes.calls a0 b2 _ A2.out).mono ?_);rintro e w3 ⟨es,rfl,ho0,hb⟩;refine ⟨_,rfl,?_⟩;have dn:=zS (Kd.R_lower ho0 (bz HB));replace HB:=bs HB hb;(try clear hb);(try clear ho0);have hcv4:=own_string (P:=Tryz.prog) Tryz.underlying27 Tryz.underlying5 Tryz.underlying9 (Kd.own_of_R dn.out)))
 go_ret
 exact ⟨by first|rfl|(simp <;> rfl)|(simp [*] <;> rfl),bl HB⟩
mutual
def exergueref10_Special.j0:Nat→Int→Bool→Option (Bool)
 | 0,_,_=>none
 | k+1,x0,x13=>if x13=true then (some true) else (exergueref10_Special.l0 k x0 0)
def exergueref10_Special.l0:Nat→Int→Int→Option (Bool)
 | 0,_,_=>none
 | k+1,x0,x3=>if x3<11 then (if 0≤x3 then (if (wrap32 (bt (⟨#[35,64,44,46,59,42,37,45,43,39,69]⟩:ByteArray) x3))=x0 then (some true) else (exergueref10_Special.l0 k x0 (wrap64 (x3+1)))) else (none)) else (some false)
end
def exergueref10_Special.f (k:Nat)(a0:Int):Option (Bool):=if a0≥48 then (if a0≤57 then (exergueref10_Special.j0 k a0 true) else (exergueref10_Special.j0 k a0 (a0 == 164))) else (exergueref10_Special.j0 k a0 (a0 == 164))
theorem exergueref10_Special.mono_l:∀ k,(∀ y0 y1,LeO (exergueref10_Special.j0 k y0 y1) (exergueref10_Special.j0 (k+1) y0 y1))∧(∀ y0 y1,LeO (exergueref10_Special.l0 k y0 y1) (exergueref10_Special.l0 (k+1) y0 y1))
 | 0=>⟨fun _ _ r h=>by simp [exergueref10_Special.j0] at h,fun _ _ r h=>by simp [exergueref10_Special.l0] at h⟩
 | k+1=>by
  obtain ⟨ih0,ih1⟩:=exergueref10_Special.mono_l k
  refine ⟨?_,?_⟩
  ·intro y0 y1
   unfold exergueref10_Special.j0
   repeat' first|(with_reducible first|apply ih0|apply ih1|apply LeO.refl|apply LeO.none|refine LeO.ite ?_ ?_|refine LeO.bind ?_ (fun _=>?_))|apply ih0|apply ih1|apply LeO.none
  ·intro y0 y1
   unfold exergueref10_Special.l0
   repeat' first|(with_reducible first|apply ih0|apply ih1|apply LeO.refl|apply LeO.none|refine LeO.ite ?_ ?_|refine LeO.bind ?_ (fun _=>?_))|apply ih0|apply ih1|apply LeO.none
theorem exergueref10_Special.mono:∀ a0 k,LeO (exergueref10_Special.f k a0) (exergueref10_Special.f (k+1) a0):=by
 intro a0 k
 obtain ⟨ih0,ih1⟩:=exergueref10_Special.mono_l k
 unfold exergueref10_Special.f
 repeat' first|(with_reducible first|apply ih0|apply ih1|apply LeO.refl|apply LeO.none|refine LeO.ite ?_ ?_|refine LeO.bind ?_ (fun _=>?_))|apply ih0|apply ih1|apply LeO.none
set_option maxHeartbeats 8000000 in
set_option maxRecDepth 100000 in
theorem exergueref10_Special.calls (k:Nat)(a0:Int)(r:Bool)(w:World)(h:exergueref10_Special.f k a0=some r) :
  Calls Tryz.prog 116 #[.int .i32 a0] w fun e w'=>e = .returned (.bool r)∧Drawn0 w w':=by
 have H:(if a0≥48 then (if a0≤57 then (exergueref10_Special.j0 k a0 true) else (exergueref10_Special.j0 k a0 (a0 == 164))) else (exergueref10_Special.j0 k a0 (a0 == 164)))=some r:=h
 clear h
 have HC2:=zS H
 clear H
 go_enter Tryz.func116,Tryz.ntmps116
 go_upto_region 1 with (fail)
 go_cut [13] (fun v13 wc=>∃ (kq:Nat) (bM:Bool),v13 = .bool bM∧Sd (exergueref10_Special.j0 kq a0 bM=some r)∧Sd (kq≤k)∧Drawn0 w wc)
 case first=>
  have H:=HC2.out
  clear HC2
  by_cases c3:a0≥48
  ·rw [if_pos c3] at H
   have an:decide (48≤a0)=true:=zC c3
   clear c3
   (first|rw [an]|(simp only [i64_w,i32_w];rw [an])|rw [cO]|skip)
   by_cases c4:a0≤57
   ·rw [if_pos c4] at H
    have ay:=zC c4
    clear c4
    have H':=zS H
    clear H
    go_wp2
    go_meet
    case rel=>exact ⟨_,(true),(by first|rfl|(simp;done)|(simp [*];done)),H',⟨by first|omega|exact Nat.le_refl _⟩,by repeat (first|exact Drawn0.refl _|apply Drawn0.step)⟩
   rw [if_neg c4] at H
   have ay:=zD c4
   clear c4
   have H':=zS H
   clear H
   go_wp2
   go_meet
   case rel=>exact ⟨_,((a0 == 164)),(by first|rfl|(simp;done)|(simp [*];done)),H',⟨by first|omega|exact Nat.le_refl _⟩,by repeat (first|exact Drawn0.refl _|apply Drawn0.step)⟩
  rw [if_neg c3] at H
  have an:decide (48≤a0)=false:=zD c3
  clear c3
  (first|rw [an]|(simp only [i64_w,i32_w];rw [an])|rw [cO]|skip)
  have H':=zS H
  clear H
  go_wp2
  go_meet
  case rel=>exact ⟨_,((a0 == 164)),(by first|rfl|(simp;done)|(simp [*];done)),H',⟨by first|omega|exact Nat.le_refl _⟩,by repeat (first|exact Drawn0.refl _|apply Drawn0.step)⟩
 case rest=>
  clear HC2
  try clear c1
  try clear p2
  try clear c3
  try clear an
  try clear c4
  try clear ay
  obtain ⟨kq,bM,rfl,HA,HJ1,⟨mc1,rfl⟩⟩:=hcut
  cases kq with
  | zero=>exact absurd HA.out (by simp [exergueref10_Special.j0])
  | succ kj1=>
   have H:=HA.out
   clear HA
   simp only [exergueref10_Special.j0] at H
   by_cases c5:bM=true
   ·subst c5
    rw [if_pos rfl] at H
    obtain rfl:=zE H
    go_wp2
    go_ret
    exact ⟨by first|rfl|(simp;done)|(simp [*];done),by repeat (first|exact Drawn0.refl _|apply Drawn0.step)⟩
   replace c5:=Bool.eq_false_iff.mpr c5
   subst c5
   rw [if_neg (show ¬ (false=true) by decide)] at H
   have H':=zS H
   clear H
   go_wp2
   go_loopg [3] kj1 (fun kq v3 w'=>∃ (aC:Int),v3 = .int .i64 aC∧Sd (exergueref10_Special.l0 kq a0 aC=some r)∧Sd (kq≤kj1)∧Drawn0 w w')
   case atStart=>exact ⟨(0),(by first|rfl|(simp;done)|(simp [*];done)),H',⟨Nat.le_refl _⟩,by repeat (first|exact Drawn0.refl _|apply Drawn0.step)⟩
   case round=>
    clear H'
    try clear c1
    try clear p2
    try clear c3
    try clear an
    try clear c4
    try clear ay
    try clear c5
    try clear p2
    obtain ⟨aC,rfl,HA,HK2,⟨m2,rfl⟩⟩:=hrel
    cases gk with
    | zero=>exact absurd HA.out (by simp [exergueref10_Special.l0])
    | succ k2=>
     have H:=HA.out
     clear HA
     simp only [exergueref10_Special.l0] at H
     by_cases c6:aC<11
     rotate_left
     ·rw [if_neg c6] at H
      have ag:=zD c6
      clear c6
      obtain rfl:=zE H
      go_wp2
      go_ret
      exact ⟨by first|rfl|(simp;done)|(simp [*];done),by repeat (first|exact Drawn0.refl _|apply Drawn0.step)⟩
     rw [if_pos c6] at H
     have ag:=zC c6
     clear c6
     by_cases c7:0≤aC
     rotate_left
     ·rw [if_neg c7] at H
      exact absurd H (by simp)
     rw [if_pos c7] at H
     have et:=zC c7
     clear c7
     by_cases c9:(wrap32 (bt (⟨#[35,64,44,46,59,42,37,45,43,39,69]⟩:ByteArray) aC))=a0
     ·rw [if_pos c9] at H
      have bf:((wrap32 (bt (⟨#[35,64,44,46,59,42,37,45,43,39,69]⟩:ByteArray) aC)) == a0)=true:=zH c9
      have cP:((wrap32 (bt (⟨#[35,64,44,46,59,42,37,45,43,39,69]⟩:ByteArray) aC)) != a0)=false:=zG c9
      clear c9
      obtain rfl:=zE H
      have p8:0≤(aC:Int):=zB (by first|(with_reducible assumption)|assumption)
      have q8:aC<(11:Int):=zB (by first|(with_reducible assumption)|assumption)
      have hx8:=bt_at (⟨#[35,64,44,46,59,42,37,45,43,39,69]⟩:ByteArray) aC
      replace p8:=eq_true p8
      replace q8:=eq_true q8
      go_wp2
      go_ret
      exact ⟨by first|rfl|(simp;done)|(simp [*];done),by repeat (first|exact Drawn0.refl _|apply Drawn0.step)⟩
     rw [if_neg c9] at H
     have bf:((wrap32 (bt (⟨#[35,64,44,46,59,42,37,45,43,39,69]⟩:ByteArray) aC)) == a0)=false:=zF c9
     have cP:((wrap32 (bt (⟨#[35,64,44,46,59,42,37,45,43,39,69]⟩:ByteArray) aC)) != a0)=true:=zI c9
     have H':=zS H
     clear H
     have p8:0≤(aC:Int):=zB (by first|(with_reducible assumption)|assumption)
     have q8:aC<(11:Int):=zB (by first|(with_reducible assumption)|assumption)
     have hx8:=bt_at (⟨#[35,64,44,46,59,42,37,45,43,39,69]⟩:ByteArray) aC
     replace p8:=eq_true p8
     replace q8:=eq_true q8
     go_wp2
     go_roundg k2
     case measure=>have:=HJ1.out;have:=HK2.out;omega
     case rel=>exact ⟨(wrap64 (aC+1)),(by first|rfl|(simp;done)|(simp [*];done)),H',⟨by have:=HJ1.out;have:=HK2.out;omega⟩,by repeat (first|exact Drawn0.refl _|apply Drawn0.step)⟩
mutual
def exergueref10_written.l0:Nat→List (S114)→ByteArray→Bool→Int→Option (ByteArray)
 | 0,_,_,_,_=>none
 | k+1,x0,x3,x4,x5=>if x5<(x0.length:Int) then (if 0≤x5 then ((exergueref10_Special.f k ((rd_T114 x0 x5).f1)).bind fun bR=>(if ((rd_T114 x0 x5).f0)=0 then (exergueref10_written.j1 k x0 x3 x4 x5 bR (((rd_T114 x0 x5).f1) == 39)) else (exergueref10_written.j1 k x0 x3 x4 x5 bR false))) else (none)) else (if x4=true then (if x3.size+1≤9223372036854775807 then (some (x3 ++ (⟨#[39]⟩:ByteArray))) else (none)) else (some x3))
def exergueref10_written.j1:Nat→List (S114)→ByteArray→Bool→Int→Bool→Bool→Option (ByteArray)
 | 0,_,_,_,_,_,_=>none
 | k+1,x0,x3,x4,x5,x6,x7=>if 0≤x5 then (if x5<(x0.length:Int) then (if ((rd_T114 x0 x5).f0)=0 then (exergueref10_written.j2 k x0 x3 x4 x5 x7 x6) else (exergueref10_written.j2 k x0 x3 x4 x5 x7 false)) else (none)) else (none)
def exergueref10_written.j2:Nat→List (S114)→ByteArray→Bool→Int→Bool→Bool→Option (ByteArray)
 | 0,_,_,_,_,_,_=>none
 | k+1,x0,x3,x4,x5,x7,x8=>if x7=true then (exergueref10_written.j3 k x0 x3 x4 x5 x7 x8 false) else (exergueref10_written.j3 k x0 x3 x4 x5 x7 x8 (x8 != x4))
def exergueref10_written.j3:Nat→List (S114)→ByteArray→Bool→Int→Bool→Bool→Bool→Option (ByteArray)
 | 0,_,_,_,_,_,_,_=>none
 | k+1,x0,x3,x4,x5,x7,x8,x50=>if x50=true then (if x3.size+1≤9223372036854775807 then (exergueref10_written.j4 k x0 (x3 ++ (⟨#[39]⟩:ByteArray)) x8 x5 x7) else (none)) else (exergueref10_written.j4 k x0 x3 x4 x5 x7)
def exergueref10_written.j4:Nat→List (S114)→ByteArray→Bool→Int→Bool→Option (ByteArray)
 | 0,_,_,_,_,_=>none
 | k+1,x0,x3,x4,x5,x7=>if 0≤x5 then (if x5<(x0.length:Int) then (if ((rd_T114 x0 x5).f0)=0 then ((exergueref10_text.f ((rd_T114 x0 x5).f1)).bind fun aH=>(if x3.size+aH.size≤9223372036854775807 then (if x7=true then (if (x3 ++ aH).size+1≤9223372036854775807 then (exergueref10_written.l0 k x0 ((x3 ++ aH) ++ (⟨#[39]⟩:ByteArray)) x4 (wrap64 (x5+1))) else (none)) else (exergueref10_written.l0 k x0 (x3 ++ aH) x4 (wrap64 (x5+1)))) else (none))) else (if ((rd_T114 x0 x5).f0)=1 then (if x3.size+1≤9223372036854775807 then (exergueref10_written.l0 k x0 (x3 ++ (⟨#[45]⟩:ByteArray)) x4 (wrap64 (x5+1))) else (none)) else (if ((rd_T114 x0 x5).f0)=2 then (if x3.size+1≤9223372036854775807 then (exergueref10_written.l0 k x0 (x3 ++ (⟨#[43]⟩:ByteArray)) x4 (wrap64 (x5+1))) else (none)) else (if ((rd_T114 x0 x5).f0)=3 then (if x3.size+1≤9223372036854775807 then (exergueref10_written.l0 k x0 (x3 ++ (⟨#[37]⟩:ByteArray)) x4 (wrap64 (x5+1))) else (none)) else (if ((rd_T114 x0 x5).f0)=4 then ((exergueref10_text.f 164).bind fun bu=>(if x3.size+bu.size≤9223372036854775807 then (exergueref10_written.l0 k x0 (x3 ++ bu) x4 (wrap64 (x5+1))) else (none))) else (exergueref10_written.l0 k x0 x3 x4 (wrap64 (x5+1)))))))) else (none)) else (none)
end
def exergueref10_written.f (k:Nat)(l0:List (S114)):Option (ByteArray):=exergueref10_written.l0 k l0 (⟨#[]⟩:ByteArray) false 0
theorem exergueref10_written.mono_l:∀ k,(∀ y0 y1 y2 y3,LeO (exergueref10_written.l0 k y0 y1 y2 y3) (exergueref10_written.l0 (k+1) y0 y1 y2 y3))∧(∀ y0 y1 y2 y3 y4 y5,LeO (exergueref10_written.j1 k y0 y1 y2 y3 y4 y5) (exergueref10_written.j1 (k+1) y0 y1 y2 y3 y4 y5))∧(∀ y0 y1 y2 y3 y4 y5,LeO (exergueref10_written.j2 k y0 y1 y2 y3 y4 y5) (exergueref10_written.j2 (k+1) y0 y1 y2 y3 y4 y5))∧(∀ y0 y1 y2 y3 y4 y5 y6,LeO (exergueref10_written.j3 k y0 y1 y2 y3 y4 y5 y6) (exergueref10_written.j3 (k+1) y0 y1 y2 y3 y4 y5 y6))∧(∀ y0 y1 y2 y3 y4,LeO (exergueref10_written.j4 k y0 y1 y2 y3 y4) (exergueref10_written.j4 (k+1) y0 y1 y2 y3 y4))
 | 0=>⟨fun _ _ _ _ r h=>by simp [exergueref10_written.l0] at h,fun _ _ _ _ _ _ r h=>by simp [exergueref10_written.j1] at h,fun _ _ _ _ _ _ r h=>by simp [exergueref10_written.j2] at h,fun _ _ _ _ _ _ _ r h=>by simp [exergueref10_written.j3] at h,fun _ _ _ _ _ r h=>by simp [exergueref10_written.j4] at h⟩
 | k+1=>by
  obtain ⟨ih0,ih1,ih2,ih3,ih4⟩:=exergueref10_written.mono_l k
  refine ⟨?_,?_,?_,?_,?_⟩
  ·intro y0 y1 y2 y3
   unfold exergueref10_written.l0
   repeat' first|(with_reducible first|apply ih0|apply ih1|apply ih2|apply ih3|apply ih4|apply exergueref10_Special.mono|apply LeO.refl|apply LeO.none|refine LeO.ite ?_ ?_|refine LeO.bind ?_ (fun _=>?_))|apply ih0|apply ih1|apply ih2|apply ih3|apply ih4|apply exergueref10_Special.mono|apply LeO.none
  ·intro y0 y1 y2 y3 y4 y5
   unfold exergueref10_written.j1
   repeat' first|(with_reducible first|apply ih0|apply ih1|apply ih2|apply ih3|apply ih4|apply exergueref10_Special.mono|apply LeO.refl|apply LeO.none|refine LeO.ite ?_ ?_|refine LeO.bind ?_ (fun _=>?_))|apply ih0|apply ih1|apply ih2|apply ih3|apply ih4|apply exergueref10_Special.mono|apply LeO.none
  ·intro y0 y1 y2 y3 y4 y5
   unfold exergueref10_written.j2
   repeat' first|(with_reducible first|apply ih0|apply ih1|apply ih2|apply ih3|apply ih4|apply exergueref10_Special.mono|apply LeO.refl|apply LeO.none|refine LeO.ite ?_ ?_|refine LeO.bind ?_ (fun _=>?_))|apply ih0|apply ih1|apply ih2|apply ih3|apply ih4|apply exergueref10_Special.mono|apply LeO.none
  ·intro y0 y1 y2 y3 y4 y5 y6
   unfold exergueref10_written.j3
   repeat' first|(with_reducible first|apply ih0|apply ih1|apply ih2|apply ih3|apply ih4|apply exergueref10_Special.mono|apply LeO.refl|apply LeO.none|refine LeO.ite ?_ ?_|refine LeO.bind ?_ (fun _=>?_))|apply ih0|apply ih1|apply ih2|apply ih3|apply ih4|apply exergueref10_Special.mono|apply LeO.none
  ·intro y0 y1 y2 y3 y4
   unfold exergueref10_written.j4
   repeat' first|(with_reducible first|apply ih0|apply ih1|apply ih2|apply ih3|apply ih4|apply exergueref10_Special.mono|apply LeO.refl|apply LeO.none|refine LeO.ite ?_ ?_|refine LeO.bind ?_ (fun _=>?_))|apply ih0|apply ih1|apply ih2|apply ih3|apply ih4|apply exergueref10_Special.mono|apply LeO.none
theorem exergueref10_written.mono:∀ a0 k,LeO (exergueref10_written.f k a0) (exergueref10_written.f (k+1) a0):=by
 intro a0 k
 obtain ⟨ih0,ih1,ih2,ih3,ih4⟩:=exergueref10_written.mono_l k
 unfold exergueref10_written.f
 repeat' first|(with_reducible first|apply ih0|apply ih1|apply ih2|apply ih3|apply ih4|apply exergueref10_Special.mono|apply LeO.refl|apply LeO.none|refine LeO.ite ?_ ?_|refine LeO.bind ?_ (fun _=>?_))|apply ih0|apply ih1|apply ih2|apply ih3|apply ih4|apply exergueref10_Special.mono|apply LeO.none
set_option maxHeartbeats 8000000 in
set_option maxRecDepth 100000 in
theorem exergueref10_written.calls (k:Nat)(A0:Option Addr)(c0:Nat)(l0:List (S114))(r:ByteArray)(w:World)(hr0:Kd.C k114 w A0 l0.length l0)(hc0:l0.length≤c0)(h:exergueref10_written.f k l0=some r) :
  Calls Tryz.prog 91 #[.slice A0 l0.length c0] w fun e w'=>e = .returned (.string r)∧Below w.heap.size w w':=by
 have HR0:=zS hr0
 have HC0:=zS hc0
 clear hr0 hc0
 have HB:=zS (Below.refl w.heap.size w)
 have H:(exergueref10_written.l0 k l0 (⟨#[]⟩:ByteArray) false 0)=some r:=h
 clear h
 have H':=zS H
 clear H
 go_enter Tryz.func91,Tryz.ntmps91
 go_wp2
 go_loopg [3,4,5] k (fun kq v3 v4 v5 w'=>∃ (ad:ByteArray) (bc:Bool) (aa:Int),v3 = .string ad∧v4 = .bool bc∧v5 = .int .i64 aa∧Sd (exergueref10_written.l0 kq l0 ad bc aa=some r)∧Sd (kq≤k)∧Sd (Below w.heap.size w w'))
 case atStart=>exact ⟨((⟨#[]⟩:ByteArray)),(false),(0),(by first|rfl|(simp;done)|(simp [*];done)),(by first|rfl|(simp;done)|(simp [*];done)),(by first|rfl|(simp;done)|(simp [*];done)),H',⟨Nat.le_refl _⟩,⟨bl HB⟩⟩
 case round=>
  clear H'
  obtain ⟨ad,bc,aa,rfl,rfl,rfl,HA,HK1,HB⟩:=hrel
  cases gk with
  | zero=>exact absurd HA.out (by simp [exergueref10_written.l0])
  | succ k1=>
   have H:=HA.out
   clear HA
   simp only [exergueref10_written.l0] at H
   by_cases c2:aa<(l0.length:Int)
   rotate_left
   ·rw [if_neg c2] at H
    have aN:=zD c2
    clear c2
    by_cases c35:bc=true
    ·subst c35
     rw [if_pos rfl] at H
     by_cases c36:ad.size+1≤9223372036854775807
     ·rw [if_pos c36] at H
      have dY:=eq_true c36
      have dZ:=zC c36
      try have d0:(9223372036854775807<ad.size+1)=False:=eq_false (Nat.not_lt.2 c36)
      obtain rfl:=zE H
      go_wp2
      go_ret
      exact ⟨by first|rfl|(simp <;> rfl)|(simp [*] <;> rfl),bl HB⟩
     rw [if_neg c36] at H
     exact absurd H (by simp)
    replace c35:=Bool.eq_false_iff.mpr c35
    subst c35
    rw [if_neg (show ¬ (false=true) by decide)] at H
    obtain rfl:=zE H
    go_wp2
    go_ret
    exact ⟨by first|rfl|(simp <;> rfl)|(simp [*] <;> rfl),bl HB⟩
   rw [if_pos c2] at H
   have aN:=zC c2
   clear c2
   by_cases c3:0≤aa
   rotate_left
   ·rw [if_neg c3] at H
    exact absurd H (by simp)
   rw [if_pos c3] at H
   have an:=zC c3
   clear c3
   replace H:=Option.bind_eq_some_iff.mp H
   obtain ⟨bR,A40,H⟩:=H
   try dsimp only at H
   have A4:=zS A40
   clear A40
   have HC5:=zS H
   clear H
   have bv:0≤(aa:Int):=zB (by first|(with_reducible assumption)|assumption)
   have bw:aa<(l0.length:Int):=zB (by first|(with_reducible assumption)|assumption)
   obtain ⟨ao,dK,aq,ar⟩:=at_T114 HR0.out aa bv bw
   cases dK
   replace aq:=(HB.out.cell (World.block_lt_of_cell? w _ aq)).trans aq
   replace ar:=(HB.out.cell (World.block_lt_of_cell? w _ ar)).trans ar
   replace bv:=eq_true bv
   replace bw:=eq_true bw
   go_upto_region 7 with (first|((with_reducible refine gate_callee (f:=116) rfl ?_);refine gL (some 20) Tryz.func116 #[.int .i32 ((rd_T114 l0 aa).f1)] ?_;(with_reducible refine (exergueref10_Special.calls k1 ((rd_T114 l0 aa).f1) bR _ A4.out).mono ?_);rintro e w' ⟨rfl,⟨nd,rfl⟩⟩;refine ⟨_,rfl,?_⟩))
   (try simp only [Act.put,sA,sB,sC])
   go_cut [7] (fun v7 wc=>∃ (kq:Nat) (bp:Bool),v7 = .bool bp∧Sd (exergueref10_written.j1 kq l0 ad bc aa bR bp=some r)∧Sd (kq≤k1)∧Sd (Below w.heap.size w wc))
   case first=>
    have H:=HC5.out
    clear HC5
    by_cases c6:((rd_T114 l0 aa).f0)=0
    ·rw [if_pos c6] at H
     have ag:(((rd_T114 l0 aa).f0) == 0)=true:=zH c6
     have aT:(((rd_T114 l0 aa).f0) != 0)=false:=zG c6
     clear c6
     (first|rw [ag]|(simp only [i64_w,i32_w];rw [ag])|rw [aT]|skip)
     have H':=zS H
     clear H
     have aU:0≤(aa:Int):=zB (by first|(with_reducible assumption)|assumption)
     have aV:aa<(l0.length:Int):=zB (by first|(with_reducible assumption)|assumption)
     obtain ⟨b3,cQ,ah,ai⟩:=at_T114 HR0.out aa aU aV
     obtain rfl:ao=b3:=(by injection cQ)
     replace ah:=(HB.out.cell (World.block_lt_of_cell? w _ ah)).trans ah
     replace ai:=(HB.out.cell (World.block_lt_of_cell? w _ ai)).trans ai
     replace aU:=eq_true aU
     replace aV:=eq_true aV
     have bx:0≤(aa:Int):=zB (by first|(with_reducible assumption)|assumption)
     have bA:aa<(l0.length:Int):=zB (by first|(with_reducible assumption)|assumption)
     obtain ⟨dp,dL,au,av⟩:=at_T114 HR0.out aa bx bA
     obtain rfl:ao=dp:=(by injection dL)
     replace au:=(HB.out.cell (World.block_lt_of_cell? w _ au)).trans au
     replace av:=(HB.out.cell (World.block_lt_of_cell? w _ av)).trans av
     replace bx:=eq_true bx
     replace bA:=eq_true bA
     go_wp2
     go_meet
     case rel=>exact ⟨_,((((rd_T114 l0 aa).f1) == 39)),(by first|rfl|(simp;done)|(simp [*];done)),H',⟨by have:=HK1.out;first|omega|exact Nat.le_refl _⟩,⟨bl HB⟩⟩
    rw [if_neg c6] at H
    have ag:(((rd_T114 l0 aa).f0) == 0)=false:=zF c6
    have aT:(((rd_T114 l0 aa).f0) != 0)=true:=zI c6
    (first|rw [ag]|(simp only [i64_w,i32_w];rw [ag])|rw [aT]|skip)
    have H':=zS H
    clear H
    have aU:0≤(aa:Int):=zB (by first|(with_reducible assumption)|assumption)
    have aV:aa<(l0.length:Int):=zB (by first|(with_reducible assumption)|assumption)
    obtain ⟨b3,cQ,ah,ai⟩:=at_T114 HR0.out aa aU aV
    obtain rfl:ao=b3:=(by injection cQ)
    replace ah:=(HB.out.cell (World.block_lt_of_cell? w _ ah)).trans ah
    replace ai:=(HB.out.cell (World.block_lt_of_cell? w _ ai)).trans ai
    replace aU:=eq_true aU
    replace aV:=eq_true aV
    go_wp2
    go_meet
    case rel=>exact ⟨_,(false),(by first|rfl|(simp;done)|(simp [*];done)),H',⟨by have:=HK1.out;first|omega|exact Nat.le_refl _⟩,⟨bl HB⟩⟩
   case rest=>
    clear HC5
    try clear c1
    try clear c2
    try clear aN
    try clear p2
    try clear c3
    try clear an
    try clear p4
    try clear q4
    try clear hx4
    try clear c6
    try clear ag
    try clear aT
    try clear aq
    try clear ar
    try clear ah
    try clear ai
    try clear au
    try clear av
    try clear bv
    try clear aU
    try clear bx
    try clear bw
    try clear aV
    try clear bA
    obtain ⟨kq,bp,rfl,HA,HJ4,HB⟩:=hcut
    cases kq with
    | zero=>exact absurd HA.out (by simp [exergueref10_written.j1])
    | succ kj4=>
     have H:=HA.out
     clear HA
     simp only [exergueref10_written.j1] at H
     have HC7:=zS H
     clear H
     go_upto_region 8 with (fail)
     go_cut [8] (fun v8 wc=>∃ (kq:Nat) (bS:Bool),v8 = .bool bS∧Sd (exergueref10_written.j2 kq l0 ad bc aa bp bS=some r)∧Sd (kq≤kj4)∧Sd (Below w.heap.size w wc))
     case first=>
      have H:=HC7.out
      clear HC7
      by_cases c8:0≤aa
      rotate_left
      ·rw [if_neg c8] at H
       exact absurd H (by simp)
      rw [if_pos c8] at H
      have az:=zC c8
      clear c8
      (first|rw [az]|(simp only [i64_w,i32_w];rw [az])|rw [cX]|skip)
      by_cases c9:aa<(l0.length:Int)
      rotate_left
      ·rw [if_neg c9] at H
       exact absurd H (by simp)
      rw [if_pos c9] at H
      have bf:=zC c9
      clear c9
      by_cases c10:((rd_T114 l0 aa).f0)=0
      ·rw [if_pos c10] at H
       have aZ:(((rd_T114 l0 aa).f0) == 0)=true:=zH c10
       have bN:(((rd_T114 l0 aa).f0) != 0)=false:=zG c10
       clear c10
       have H':=zS H
       clear H
       have aX:0≤(aa:Int):=zB (by first|(with_reducible assumption)|assumption)
       have aY:aa<(l0.length:Int):=zB (by first|(with_reducible assumption)|assumption)
       obtain ⟨b4,cR,al,am⟩:=at_T114 HR0.out aa aX aY
       obtain rfl:ao=b4:=(by injection cR)
       replace al:=(HB.out.cell (World.block_lt_of_cell? w _ al)).trans al
       replace am:=(HB.out.cell (World.block_lt_of_cell? w _ am)).trans am
       replace aX:=eq_true aX
       replace aY:=eq_true aY
       go_wp2
       go_meet
       case rel=>exact ⟨_,(bR),(by first|rfl|(simp;done)|(simp [*];done)),H',⟨by have:=HK1.out;have:=HJ4.out;first|omega|exact Nat.le_refl _⟩,⟨bl HB⟩⟩
      rw [if_neg c10] at H
      have aZ:(((rd_T114 l0 aa).f0) == 0)=false:=zF c10
      have bN:(((rd_T114 l0 aa).f0) != 0)=true:=zI c10
      have H':=zS H
      clear H
      have aX:0≤(aa:Int):=zB (by first|(with_reducible assumption)|assumption)
      have aY:aa<(l0.length:Int):=zB (by first|(with_reducible assumption)|assumption)
      obtain ⟨b4,cR,al,am⟩:=at_T114 HR0.out aa aX aY
      obtain rfl:ao=b4:=(by injection cR)
      replace al:=(HB.out.cell (World.block_lt_of_cell? w _ al)).trans al
      replace am:=(HB.out.cell (World.block_lt_of_cell? w _ am)).trans am
      replace aX:=eq_true aX
      replace aY:=eq_true aY
      go_wp2
      go_meet
      case rel=>exact ⟨_,(false),(by first|rfl|(simp;done)|(simp [*];done)),H',⟨by have:=HK1.out;have:=HJ4.out;first|omega|exact Nat.le_refl _⟩,⟨bl HB⟩⟩
     case rest=>
      clear HC7
      try clear c1
      try clear c2
      try clear aN
      try clear p2
      try clear c3
      try clear an
      try clear p4
      try clear q4
      try clear hx4
      try clear c6
      try clear ag
      try clear aT
      try clear c8
      try clear az
      try clear c9
      try clear bf
      try clear c10
      try clear aZ
      try clear bN
      try clear aq
      try clear ar
      try clear ah
      try clear ai
      try clear au
      try clear av
      try clear al
      try clear am
      try clear p2
      try clear p4
      try clear bv
      try clear aU
      try clear bx
      try clear aX
      try clear q4
      try clear bw
      try clear aV
      try clear bA
      try clear aY
      obtain ⟨kq,bS,rfl,HA,HJ6,HB⟩:=hcut
      cases kq with
      | zero=>exact absurd HA.out (by simp [exergueref10_written.j2])
      | succ kj6=>
       have H:=HA.out
       clear HA
       simp only [exergueref10_written.j2] at H
       have cS:=zS H
       clear H
       go_upto_region 9 with (fail)
       go_cut [50] (fun v50 wc=>∃ (kq:Nat) (bd:Bool),v50 = .bool bd∧Sd (exergueref10_written.j3 kq l0 ad bc aa bp bS bd=some r)∧Sd (kq≤kj6)∧Sd (Below w.heap.size w wc))
       case first=>
        have H:=cS.out
        clear cS
        by_cases c12:bp=true
        ·subst c12
         rw [if_pos rfl] at H
         have H':=zS H
         clear H
         go_wp2
         go_meet
         case rel=>exact ⟨_,(false),(by first|rfl|(simp;done)|(simp [*];done)),H',⟨by have:=HK1.out;have:=HJ4.out;have:=HJ6.out;first|omega|exact Nat.le_refl _⟩,⟨bl HB⟩⟩
        replace c12:=Bool.eq_false_iff.mpr c12
        subst c12
        rw [if_neg (show ¬ (false=true) by decide)] at H
        have H':=zS H
        clear H
        go_wp2
        go_meet
        case rel=>exact ⟨_,((bS != bc)),(by first|rfl|(simp;done)|(simp [*];done)),H',⟨by have:=HK1.out;have:=HJ4.out;have:=HJ6.out;first|omega|exact Nat.le_refl _⟩,⟨bl HB⟩⟩
       case rest=>
        clear cS
        try clear c1
        try clear c2
        try clear aN
        try clear p2
        try clear c3
        try clear an
        try clear p4
        try clear q4
        try clear hx4
        try clear c6
        try clear ag
        try clear aT
        try clear c8
        try clear az
        try clear c9
        try clear bf
        try clear c10
        try clear aZ
        try clear bN
        try clear c11
        try clear c12
        try clear aq
        try clear ar
        try clear ah
        try clear ai
        try clear au
        try clear av
        try clear al
        try clear am
        try clear p2
        try clear p4
        try clear bv
        try clear aU
        try clear bx
        try clear aX
        try clear q4
        try clear bw
        try clear aV
        try clear bA
        try clear aY
        obtain ⟨kq,bd,rfl,HA,HJ10,HB⟩:=hcut
        cases kq with
        | zero=>exact absurd HA.out (by simp [exergueref10_written.j3])
        | succ kj10=>
         have H:=HA.out
         clear HA
         simp only [exergueref10_written.j3] at H
         have cT:=zS H
         clear H
         go_upto_if 50 with (fail)
         go_cut [3,4] (fun v3 v4 wc=>∃ (kq:Nat) (af:ByteArray) (aE:Bool),v3 = .string af∧v4 = .bool aE∧Sd (exergueref10_written.j4 kq l0 af aE aa bp=some r)∧Sd (kq≤kj10)∧Sd (Below w.heap.size w wc))
         case first=>
          have H:=cT.out
          clear cT
          by_cases c14:bd=true
          ·subst c14
           rw [if_pos rfl] at H
           by_cases c15:ad.size+1≤9223372036854775807
           ·rw [if_pos c15] at H
            have dq:=eq_true c15
            have dr:=zC c15
            try have dt:(9223372036854775807<ad.size+1)=False:=eq_false (Nat.not_lt.2 c15)
            have H':=zS H
            clear H
            go_wp2
            go_meet
            case rel=>exact ⟨_,(ad ++ (⟨#[39]⟩:ByteArray)),(bS),(by first|rfl|(simp;done)|(simp [*];done)),(by first|rfl|(simp;done)|(simp [*];done)),H',⟨by have:=HK1.out;have:=HJ4.out;have:=HJ6.out;have:=HJ10.out;first|omega|exact Nat.le_refl _⟩,⟨bl HB⟩⟩
           rw [if_neg c15] at H
           exact absurd H (by simp)
          replace c14:=Bool.eq_false_iff.mpr c14
          subst c14
          rw [if_neg (show ¬ (false=true) by decide)] at H
          have H':=zS H
          clear H
          go_wp2
          go_meet
          case rel=>exact ⟨_,(ad),(bc),(by first|rfl|(simp;done)|(simp [*];done)),(by first|rfl|(simp;done)|(simp [*];done)),H',⟨by have:=HK1.out;have:=HJ4.out;have:=HJ6.out;have:=HJ10.out;first|omega|exact Nat.le_refl _⟩,⟨bl HB⟩⟩
         case rest=>
          clear cT
          try clear c1
          try clear c2
          try clear aN
          try clear p2
          try clear c3
          try clear an
          try clear p4
          try clear q4
          try clear hx4
          try clear c6
          try clear ag
          try clear aT
          try clear c8
          try clear az
          try clear c9
          try clear bf
          try clear c10
          try clear aZ
          try clear bN
          try clear c11
          try clear c12
          try clear c14
          try clear c15
          try clear dq
          try clear dr
          try clear dt
          try clear aq
          try clear ar
          try clear ah
          try clear ai
          try clear au
          try clear av
          try clear al
          try clear am
          try clear p2
          try clear p4
          try clear bv
          try clear aU
          try clear bx
          try clear aX
          try clear q4
          try clear bw
          try clear aV
          try clear bA
          try clear aY
          obtain ⟨kq,af,aE,rfl,rfl,HA,HJ12,HB⟩:=hcut
          cases kq with
          | zero=>exact absurd HA.out (by simp [exergueref10_written.j4])
          | succ kj12=>
           have H:=HA.out
           clear HA
           simp only [exergueref10_written.j4] at H
           by_cases c16:0≤aa
           rotate_left
           ·rw [if_neg c16] at H
            exact absurd H (by simp)
           rw [if_pos c16] at H
           have d1:=zC c16
           clear c16
           by_cases c17:aa<(l0.length:Int)
           rotate_left
           ·rw [if_neg c17] at H
            exact absurd H (by simp)
           rw [if_pos c17] at H
           have d2:=zC c17
           clear c17
           by_cases c18:((rd_T114 l0 aa).f0)=0
           ·rw [if_pos c18] at H
            have aM:(((rd_T114 l0 aa).f0) == 0)=true:=zH c18
            have bX:(((rd_T114 l0 aa).f0) != 0)=false:=zG c18
            clear c18
            replace H:=Option.bind_eq_some_iff.mp H
            obtain ⟨aH,du,H⟩:=H
            try dsimp only at H
            have A19:=zS du
            clear du
            by_cases c20:af.size+aH.size≤9223372036854775807
            rotate_left
            ·rw [if_neg c20] at H
             exact absurd H (by simp)
            rw [if_pos c20] at H
            have d3:=eq_true c20
            have d4:=zC c20
            try have d5:(9223372036854775807<af.size+aH.size)=False:=eq_false (Nat.not_lt.2 c20)
            by_cases c21:bp=true
            ·subst c21
             rw [if_pos rfl] at H
             by_cases c22:(af ++ aH).size+1≤9223372036854775807
             rotate_left
             ·rw [if_neg c22] at H
              exact absurd H (by simp)
             rw [if_pos c22] at H
             have cu:=eq_true c22
             have d6:=zC c22
             try have d7:(9223372036854775807<(af ++ aH).size+1)=False:=eq_false (Nat.not_lt.2 c22)
             try have d8:(9223372036854775807<af.size+aH.size+1)=False:=eq_false (by have h_:=c22;simp only [ByteArray.size_append] at h_;omega)
             have H':=zS H
             clear H
             have aj:0≤(aa:Int):=zB (by first|(with_reducible assumption)|assumption)
             have ak:aa<(l0.length:Int):=zB (by first|(with_reducible assumption)|assumption)
             obtain ⟨ap,aJ,ab,ac⟩:=at_T114 HR0.out aa aj ak
             obtain rfl:ao=ap:=(by injection aJ)
             replace ab:=(HB.out.cell (World.block_lt_of_cell? w _ ab)).trans ab
             replace ac:=(HB.out.cell (World.block_lt_of_cell? w _ ac)).trans ac
             replace aj:=eq_true aj
             replace ak:=eq_true ak
             have bB:0≤(aa:Int):=zB (by first|(with_reducible assumption)|assumption)
             have bC:aa<(l0.length:Int):=zB (by first|(with_reducible assumption)|assumption)
             obtain ⟨b5,cU,aw,ax⟩:=at_T114 HR0.out aa bB bC
             obtain rfl:ao=b5:=(by injection cU)
             replace aw:=(HB.out.cell (World.block_lt_of_cell? w _ aw)).trans aw
             replace ax:=(HB.out.cell (World.block_lt_of_cell? w _ ax)).trans ax
             replace bB:=eq_true bB
             replace bC:=eq_true bC
             go_wp2_with (first|((with_reducible refine gate_callee (f:=115) rfl ?_);refine gL (some 67) Tryz.func115 #[.int .i32 ((rd_T114 l0 aa).f1)] ?_;(with_reducible refine (exergueref10_text.calls ((rd_T114 l0 aa).f1) aH _ A19.out).mono ?_);rintro e w23 ⟨rfl,hb⟩;refine ⟨_,rfl,?_⟩;replace HB:=bs HB hb;(try clear hb)))
             go_roundg kj12
             case measure=>have:=HK1.out;have:=HJ4.out;have:=HJ6.out;have:=HJ10.out;have:=HJ12.out;omega
             case rel=>exact ⟨((af ++ aH) ++ (⟨#[39]⟩:ByteArray)),(aE),(wrap64 (aa+1)),(by first|rfl|(simp;done)|(simp [*];done)),(by first|rfl|(simp;done)|(simp [*];done)),(by first|rfl|(simp;done)|(simp [*];done)),H',⟨by have:=HK1.out;have:=HJ4.out;have:=HJ6.out;have:=HJ10.out;have:=HJ12.out;omega⟩,⟨bl HB⟩⟩
            replace c21:=Bool.eq_false_iff.mpr c21
            subst c21
            rw [if_neg (show ¬ (false=true) by decide)] at H
            have H':=zS H
            clear H
            have aj:0≤(aa:Int):=zB (by first|(with_reducible assumption)|assumption)
            have ak:aa<(l0.length:Int):=zB (by first|(with_reducible assumption)|assumption)
            obtain ⟨ap,aJ,ab,ac⟩:=at_T114 HR0.out aa aj ak
            obtain rfl:ao=ap:=(by injection aJ)
            replace ab:=(HB.out.cell (World.block_lt_of_cell? w _ ab)).trans ab
            replace ac:=(HB.out.cell (World.block_lt_of_cell? w _ ac)).trans ac
            replace aj:=eq_true aj
            replace ak:=eq_true ak
            have bB:0≤(aa:Int):=zB (by first|(with_reducible assumption)|assumption)
            have bC:aa<(l0.length:Int):=zB (by first|(with_reducible assumption)|assumption)
            obtain ⟨b5,cU,aw,ax⟩:=at_T114 HR0.out aa bB bC
            obtain rfl:ao=b5:=(by injection cU)
            replace aw:=(HB.out.cell (World.block_lt_of_cell? w _ aw)).trans aw
            replace ax:=(HB.out.cell (World.block_lt_of_cell? w _ ax)).trans ax
            replace bB:=eq_true bB
            replace bC:=eq_true bC
            go_wp2_with (first|((with_reducible refine gate_callee (f:=115) rfl ?_);refine gL (some 67) Tryz.func115 #[.int .i32 ((rd_T114 l0 aa).f1)] ?_;(with_reducible refine (exergueref10_text.calls ((rd_T114 l0 aa).f1) aH _ A19.out).mono ?_);rintro e w24 ⟨rfl,hb⟩;refine ⟨_,rfl,?_⟩;replace HB:=bs HB hb;(try clear hb)))
            go_roundg kj12
            case measure=>have:=HK1.out;have:=HJ4.out;have:=HJ6.out;have:=HJ10.out;have:=HJ12.out;omega
            case rel=>exact ⟨(af ++ aH),(aE),(wrap64 (aa+1)),(by first|rfl|(simp;done)|(simp [*];done)),(by first|rfl|(simp;done)|(simp [*];done)),(by first|rfl|(simp;done)|(simp [*];done)),H',⟨by have:=HK1.out;have:=HJ4.out;have:=HJ6.out;have:=HJ10.out;have:=HJ12.out;omega⟩,⟨bl HB⟩⟩
           rw [if_neg c18] at H
           have aM:(((rd_T114 l0 aa).f0) == 0)=false:=zF c18
           have bX:(((rd_T114 l0 aa).f0) != 0)=true:=zI c18
           by_cases c25:((rd_T114 l0 aa).f0)=1
           ·rw [if_pos c25] at H
            have bY:(((rd_T114 l0 aa).f0) == 1)=true:=zH c25
            have dv:(((rd_T114 l0 aa).f0) != 1)=false:=zG c25
            clear c25
            by_cases c26:af.size+1≤9223372036854775807
            rotate_left
            ·rw [if_neg c26] at H
             exact absurd H (by simp)
            rw [if_pos c26] at H
            have d9:=eq_true c26
            have ea:=zC c26
            try have eb:(9223372036854775807<af.size+1)=False:=eq_false (Nat.not_lt.2 c26)
            have H':=zS H
            clear H
            have aj:0≤(aa:Int):=zB (by first|(with_reducible assumption)|assumption)
            have ak:aa<(l0.length:Int):=zB (by first|(with_reducible assumption)|assumption)
            obtain ⟨ap,aJ,ab,ac⟩:=at_T114 HR0.out aa aj ak
            obtain rfl:ao=ap:=(by injection aJ)
            replace ab:=(HB.out.cell (World.block_lt_of_cell? w _ ab)).trans ab
            replace ac:=(HB.out.cell (World.block_lt_of_cell? w _ ac)).trans ac
            replace aj:=eq_true aj
            replace ak:=eq_true ak
            go_wp2
            go_roundg kj12
            case measure=>have:=HK1.out;have:=HJ4.out;have:=HJ6.out;have:=HJ10.out;have:=HJ12.out;omega
            case rel=>exact ⟨(af ++ (⟨#[45]⟩:ByteArray)),(aE),(wrap64 (aa+1)),(by first|rfl|(simp;done)|(simp [*];done)),(by first|rfl|(simp;done)|(simp [*];done)),(by first|rfl|(simp;done)|(simp [*];done)),H',⟨by have:=HK1.out;have:=HJ4.out;have:=HJ6.out;have:=HJ10.out;have:=HJ12.out;omega⟩,⟨bl HB⟩⟩
           rw [if_neg c25] at H
           have bY:(((rd_T114 l0 aa).f0) == 1)=false:=zF c25
           have dv:(((rd_T114 l0 aa).f0) != 1)=true:=zI c25
           by_cases c27:((rd_T114 l0 aa).f0)=2
           ·rw [if_pos c27] at H
            have dw:(((rd_T114 l0 aa).f0) == 2)=true:=zH c27
            have dx:(((rd_T114 l0 aa).f0) != 2)=false:=zG c27
            clear c27
            by_cases c28:af.size+1≤9223372036854775807
            rotate_left
            ·rw [if_neg c28] at H
             exact absurd H (by simp)
            rw [if_pos c28] at H
            have ec:=eq_true c28
            have ed:=zC c28
            try have ee:(9223372036854775807<af.size+1)=False:=eq_false (Nat.not_lt.2 c28)
            have H':=zS H
            clear H
            have aj:0≤(aa:Int):=zB (by first|(with_reducible assumption)|assumption)
            have ak:aa<(l0.length:Int):=zB (by first|(with_reducible assumption)|assumption)
            obtain ⟨ap,aJ,ab,ac⟩:=at_T114 HR0.out aa aj ak
            obtain rfl:ao=ap:=(by injection aJ)
            replace ab:=(HB.out.cell (World.block_lt_of_cell? w _ ab)).trans ab
            replace ac:=(HB.out.cell (World.block_lt_of_cell? w _ ac)).trans ac
            replace aj:=eq_true aj
            replace ak:=eq_true ak
            go_wp2
            go_roundg kj12
            case measure=>have:=HK1.out;have:=HJ4.out;have:=HJ6.out;have:=HJ10.out;have:=HJ12.out;omega
            case rel=>exact ⟨(af ++ (⟨#[43]⟩:ByteArray)),(aE),(wrap64 (aa+1)),(by first|rfl|(simp;done)|(simp [*];done)),(by first|rfl|(simp;done)|(simp [*];done)),(by first|rfl|(simp;done)|(simp [*];done)),H',⟨by have:=HK1.out;have:=HJ4.out;have:=HJ6.out;have:=HJ10.out;have:=HJ12.out;omega⟩,⟨bl HB⟩⟩
           rw [if_neg c27] at H
           have dw:(((rd_T114 l0 aa).f0) == 2)=false:=zF c27
           have dx:(((rd_T114 l0 aa).f0) != 2)=true:=zI c27
           by_cases c29:((rd_T114 l0 aa).f0)=3
           ·rw [if_pos c29] at H
            have dy:(((rd_T114 l0 aa).f0) == 3)=true:=zH c29
            have dz:(((rd_T114 l0 aa).f0) != 3)=false:=zG c29
            clear c29
            by_cases c30:af.size+1≤9223372036854775807
            rotate_left
            ·rw [if_neg c30] at H
             exact absurd H (by simp)
            rw [if_pos c30] at H
            have ef:=eq_true c30
            have eg:=zC c30
            try have eh:(9223372036854775807<af.size+1)=False:=eq_false (Nat.not_lt.2 c30)
            have H':=zS H
            clear H
            have aj:0≤(aa:Int):=zB (by first|(with_reducible assumption)|assumption)
            have ak:aa<(l0.length:Int):=zB (by first|(with_reducible assumption)|assumption)
            obtain ⟨ap,aJ,ab,ac⟩:=at_T114 HR0.out aa aj ak
            obtain rfl:ao=ap:=(by injection aJ)
            replace ab:=(HB.out.cell (World.block_lt_of_cell? w _ ab)).trans ab
            replace ac:=(HB.out.cell (World.block_lt_of_cell? w _ ac)).trans ac
            replace aj:=eq_true aj
            replace ak:=eq_true ak
            go_wp2
            go_roundg kj12
            case measure=>have:=HK1.out;have:=HJ4.out;have:=HJ6.out;have:=HJ10.out;have:=HJ12.out;omega
            case rel=>exact ⟨(af ++ (⟨#[37]⟩:ByteArray)),(aE),(wrap64 (aa+1)),(by first|rfl|(simp;done)|(simp [*];done)),(by first|rfl|(simp;done)|(simp [*];done)),(by first|rfl|(simp;done)|(simp [*];done)),H',⟨by have:=HK1.out;have:=HJ4.out;have:=HJ6.out;have:=HJ10.out;have:=HJ12.out;omega⟩,⟨bl HB⟩⟩
           rw [if_neg c29] at H
           have dy:(((rd_T114 l0 aa).f0) == 3)=false:=zF c29
           have dz:(((rd_T114 l0 aa).f0) != 3)=true:=zI c29
           by_cases c31:((rd_T114 l0 aa).f0)=4
           rotate_left
           ·rw [if_neg c31] at H
            have dA:(((rd_T114 l0 aa).f0) == 4)=false:=zF c31
            have dB:(((rd_T114 l0 aa).f0) != 4)=true:=zI c31
            have H':=zS H
            clear H
            have aj:0≤(aa:Int):=zB (by first|(with_reducible assumption)|assumption)
            have ak:aa<(l0.length:Int):=zB (by first|(with_reducible assumption)|assumption)
            obtain ⟨ap,aJ,ab,ac⟩:=at_T114 HR0.out aa aj ak
            obtain rfl:ao=ap:=(by injection aJ)
            replace ab:=(HB.out.cell (World.block_lt_of_cell? w _ ab)).trans ab
            replace ac:=(HB.out.cell (World.block_lt_of_cell? w _ ac)).trans ac
            replace aj:=eq_true aj
            replace ak:=eq_true ak
            go_wp2
            go_roundg kj12
            case measure=>have:=HK1.out;have:=HJ4.out;have:=HJ6.out;have:=HJ10.out;have:=HJ12.out;omega
            case rel=>exact ⟨(af),(aE),(wrap64 (aa+1)),(by first|rfl|(simp;done)|(simp [*];done)),(by first|rfl|(simp;done)|(simp [*];done)),(by first|rfl|(simp;done)|(simp [*];done)),H',⟨by have:=HK1.out;have:=HJ4.out;have:=HJ6.out;have:=HJ10.out;have:=HJ12.out;omega⟩,⟨bl HB⟩⟩
           rw [if_pos c31] at H
           have dA:(((rd_T114 l0 aa).f0) == 4)=true:=zH c31
           have dB:(((rd_T114 l0 aa).f0) != 4)=false:=zG c31
           clear c31
           replace H:=Option.bind_eq_some_iff.mp H
           obtain ⟨bu,dC,H⟩:=H
           try dsimp only at H
           have A32:=zS dC
           clear dC
           by_cases c33:af.size+bu.size≤9223372036854775807
           rotate_left
           ·rw [if_neg c33] at H
            exact absurd H (by simp)
           rw [if_pos c33] at H
           have ei:=eq_true c33
           have ej:=zC c33
           try have ek:(9223372036854775807<af.size+bu.size)=False:=eq_false (Nat.not_lt.2 c33)
           have H':=zS H
           clear H
           have aj:0≤(aa:Int):=zB (by first|(with_reducible assumption)|assumption)
           have ak:aa<(l0.length:Int):=zB (by first|(with_reducible assumption)|assumption)
           obtain ⟨ap,aJ,ab,ac⟩:=at_T114 HR0.out aa aj ak
           obtain rfl:ao=ap:=(by injection aJ)
           replace ab:=(HB.out.cell (World.block_lt_of_cell? w _ ab)).trans ab
           replace ac:=(HB.out.cell (World.block_lt_of_cell? w _ ac)).trans ac
           replace aj:=eq_true aj
           replace ak:=eq_true ak
           go_wp2_with (first|((with_reducible refine gate_callee (f:=115) rfl ?_);refine gL (some 87) Tryz.func115 #[.int .i32 164] ?_;(with_reducible refine (exergueref10_text.calls 164 bu _ A32.out).mono ?_);rintro e w34 ⟨rfl,hb⟩;refine ⟨_,rfl,?_⟩;replace HB:=bs HB hb;(try clear hb)))
           go_roundg kj12
           case measure=>have:=HK1.out;have:=HJ4.out;have:=HJ6.out;have:=HJ10.out;have:=HJ12.out;omega
           case rel=>exact ⟨(af ++ bu),(aE),(wrap64 (aa+1)),(by first|rfl|(simp;done)|(simp [*];done)),(by first|rfl|(simp;done)|(simp [*];done)),(by first|rfl|(simp;done)|(simp [*];done)),H',⟨by have:=HK1.out;have:=HJ4.out;have:=HJ6.out;have:=HJ10.out;have:=HJ12.out;omega⟩,⟨bl HB⟩⟩
end Go.Proofs.YtklebhlanidloaaGreatDoor.PZ
end
end
