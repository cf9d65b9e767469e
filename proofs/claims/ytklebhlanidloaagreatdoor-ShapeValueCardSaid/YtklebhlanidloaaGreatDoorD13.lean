/- Texts of this seat, joined. Conditions: none beyond each statement's own. -/
import Derived.Test.YtklebhlanidloaaGreatDoorD08
import Derived.Test.YtklebhlanidloaaGreatDoorD11
set_option linter.all false
section
noncomputable section
namespace Go.Proofs.YtklebhlanidloaaGreatDoor.PZ
open Go.RowKit Go.Proofs.YtklebhlanidloaaGreatDoorW.PrintWords Go.Proofs.YtklebhlanidloaaGreatDoorW.PrintLast Go.Proofs.YtklebhlanidloaaGreatDoorW.PrintMore
attribute [local go_sem] max2_int min2_int max_two min_two max_three min_three max_four min_four   -- for this text's walks alone
def exergueref02_turning.f (a0:Int):Option (Bool):=if a0=1564 then (some true) else (if a0=8206 then (some true) else (if a0=8207 then (some true) else (if a0≥8234 then (if a0≤8238 then (some true) else (if a0≥8294 then (some (decide (a0≤8297))) else (some false))) else (if a0≥8294 then (some (decide (a0≤8297))) else (some false)))))
set_option maxHeartbeats 8000000 in
set_option maxRecDepth 100000 in
theorem exergueref02_turning.calls (a0:Int)(r:Bool)(w:World)(h:exergueref02_turning.f a0=some r) :
  Calls Tryz.prog 69 #[.int .i64 a0] w fun e w'=>e = .returned (.bool r)∧Drawn0 w w':=by
 have H:(if a0=1564 then (some true) else (if a0=8206 then (some true) else (if a0=8207 then (some true) else (if a0≥8234 then (if a0≤8238 then (some true) else (if a0≥8294 then (some (decide (a0≤8297))) else (some false))) else (if a0≥8294 then (some (decide (a0≤8297))) else (some false))))))=some r:=h
 clear h
 by_cases c2:a0=1564
 ·rw [if_pos c2] at H
  have a3:(a0 == 1564)=true:=zH c2
  have a4:(a0 != 1564)=false:=zG c2
  clear c2
  obtain rfl:=zE H
  go_enter Tryz.func69,Tryz.ntmps69
  go_wp2
  go_ret
  exact ⟨by first|rfl|(simp;done)|(simp [*];done),by repeat (first|exact Drawn0.refl _|apply Drawn0.step)⟩
 rw [if_neg c2] at H
 have a3:(a0 == 1564)=false:=zF c2
 have a4:(a0 != 1564)=true:=zI c2
 by_cases c3:a0=8206
 ·rw [if_pos c3] at H
  have a5:(a0 == 8206)=true:=zH c3
  have a6:(a0 != 8206)=false:=zG c3
  clear c3
  obtain rfl:=zE H
  go_enter Tryz.func69,Tryz.ntmps69
  go_wp2
  go_ret
  exact ⟨by first|rfl|(simp;done)|(simp [*];done),by repeat (first|exact Drawn0.refl _|apply Drawn0.step)⟩
 rw [if_neg c3] at H
 have a5:(a0 == 8206)=false:=zF c3
 have a6:(a0 != 8206)=true:=zI c3
 by_cases c4:a0=8207
 ·rw [if_pos c4] at H
  have aE:(a0 == 8207)=true:=zH c4
  have aL:(a0 != 8207)=false:=zG c4
  clear c4
  obtain rfl:=zE H
  go_enter Tryz.func69,Tryz.ntmps69
  go_wp2
  go_ret
  exact ⟨by first|rfl|(simp;done)|(simp [*];done),by repeat (first|exact Drawn0.refl _|apply Drawn0.step)⟩
 rw [if_neg c4] at H
 have aE:(a0 == 8207)=false:=zF c4
 have aL:(a0 != 8207)=true:=zI c4
 by_cases c5:a0≥8234
 ·rw [if_pos c5] at H
  have aJ:decide (8234≤a0)=true:=zC c5
  clear c5
  by_cases c6:a0≤8238
  ·rw [if_pos c6] at H
   have aO:=zC c6
   clear c6
   obtain rfl:=zE H
   go_enter Tryz.func69,Tryz.ntmps69
   go_wp2
   go_ret
   exact ⟨by first|rfl|(simp;done)|(simp [*];done),by repeat (first|exact Drawn0.refl _|apply Drawn0.step)⟩
  rw [if_neg c6] at H
  have aO:=zD c6
  clear c6
  by_cases c7:a0≥8294
  ·rw [if_pos c7] at H
   have aM:decide (8294≤a0)=true:=zC c7
   clear c7
   obtain rfl:=zE H
   go_enter Tryz.func69,Tryz.ntmps69
   go_wp2
   go_ret
   exact ⟨by first|rfl|(simp;done)|(simp [*];done),by repeat (first|exact Drawn0.refl _|apply Drawn0.step)⟩
  rw [if_neg c7] at H
  have aM:decide (8294≤a0)=false:=zD c7
  clear c7
  obtain rfl:=zE H
  go_enter Tryz.func69,Tryz.ntmps69
  go_wp2
  go_ret
  exact ⟨by first|rfl|(simp;done)|(simp [*];done),by repeat (first|exact Drawn0.refl _|apply Drawn0.step)⟩
 rw [if_neg c5] at H
 have aJ:decide (8234≤a0)=false:=zD c5
 clear c5
 by_cases c8:a0≥8294
 ·rw [if_pos c8] at H
  have a7:decide (8294≤a0)=true:=zC c8
  clear c8
  obtain rfl:=zE H
  go_enter Tryz.func69,Tryz.ntmps69
  go_wp2
  go_ret
  exact ⟨by first|rfl|(simp;done)|(simp [*];done),by repeat (first|exact Drawn0.refl _|apply Drawn0.step)⟩
 rw [if_neg c8] at H
 have a7:decide (8294≤a0)=false:=zD c8
 clear c8
 obtain rfl:=zE H
 go_enter Tryz.func69,Tryz.ntmps69
 go_wp2
 go_ret
 exact ⟨by first|rfl|(simp;done)|(simp [*];done),by repeat (first|exact Drawn0.refl _|apply Drawn0.step)⟩
def exergueref05_Right.l0:Nat→Int→Int→Bool→List Int→Int→Option (Bool)
 | 0,_,_,_,_,_=>none
 | k+1,x3,x4,aK,ai,aq=>if x4<x3 then (if 0≤x4 then (if x4<(ai.length:Int) then (if (rd ai x4)>9 then (some false) else (exergueref05_Right.l0 k x3 (wrap64 (x4+1)) aK ai aq)) else (none)) else (none)) else (if x3=0 then (some (aq == 0)) else (if x3≤1000 then (if 0<(ai.length:Int) then (if (rd ai 0)>0 then (if 0≤(wrap64 (x3 - 1)) then (if (wrap64 (x3 - 1))<(ai.length:Int) then (if (rd ai (wrap64 (x3 - 1)))>0 then (if aq≥(-1000) then (some (decide (aq≤1000))) else (some false)) else (some false)) else (none)) else (none)) else (some false)) else (none)) else (some false)))
def exergueref05_Right.f (k:Nat)(ag:Bool)(aa:List Int)(ac:Int):Option (Bool):=exergueref05_Right.l0 k (aa.length:Int) 0 ag aa ac
theorem exergueref05_Right.mono_l:∀ k,(∀ y0 y1 y2 y3 y4,LeO (exergueref05_Right.l0 k y0 y1 y2 y3 y4) (exergueref05_Right.l0 (k+1) y0 y1 y2 y3 y4))
 | 0=>fun _ _ _ _ _ r h=>by simp [exergueref05_Right.l0] at h
 | k+1=>by
  have ih0:=exergueref05_Right.mono_l k
  ·intro y0 y1 y2 y3 y4
   unfold exergueref05_Right.l0
   repeat' first|(with_reducible first|apply ih0|apply LeO.refl|apply LeO.none|refine LeO.ite ?_ ?_|refine LeO.bind ?_ (fun _=>?_))|apply ih0|apply LeO.none
theorem exergueref05_Right.mono:∀ a0 a1 a2 k,LeO (exergueref05_Right.f k a0 a1 a2) (exergueref05_Right.f (k+1) a0 a1 a2):=by
 intro a0 a1 a2 k
 have ih0:=exergueref05_Right.mono_l k
 unfold exergueref05_Right.f
 repeat' first|(with_reducible first|apply ih0|apply LeO.refl|apply LeO.none|refine LeO.ite ?_ ?_|refine LeO.bind ?_ (fun _=>?_))|apply ih0|apply LeO.none
set_option maxHeartbeats 8000000 in
set_option maxRecDepth 100000 in
theorem exergueref05_Right.calls (k:Nat)(ag:Bool)(am:Option Addr)(an:Nat)(aa:List Int)(ac:Int)(r:Bool)(w:World)(ax:Kd.C (Kd.int .u8) w am aa.length aa)(ay:aa.length≤an)(h:exergueref05_Right.f k ag aa ac=some r) :
  Calls Tryz.prog 33 #[.agg #[.bool ag,.slice am aa.length an,.int .i64 ac]] w fun e w'=>e = .returned (.bool r)∧Below w.heap.size w w':=by
 have hu29:=Tryz.underlying29
 have ah:=zS ax
 have az:=zS ay
 clear ax ay
 have HB:=zS (Below.refl w.heap.size w)
 have H:(exergueref05_Right.l0 k (aa.length:Int) 0 ag aa ac)=some r:=h
 clear h
 have H':=zS H
 clear H
 go_enter Tryz.func33,Tryz.ntmps33
 go_wp2_with (first|((with_reducible refine gate_dst (N:=1) rfl ?_);refine box_event ?hg (N:=1) ?hd (cs:=#[.bool ag,.slice am aa.length an,.int .i64 ac]) (t:=29) ?hr ?_;(case hd=>rfl);(case hg=>rfl);(case hr=>first|(go_simp;done)|(go_simp;rfl));intro aP hg w2 hbox hb;have ae:=zS (hbox);have bd:=bg HB hg;replace HB:=bs HB hb;clear hb hbox hg;have a8:=blkc3 ae.out;have a9:=blkf3 ae.out))
 go_loopg [4] k (fun kq v4 w'=>∃ (al:Int),v4 = .int .i64 al∧Sd (exergueref05_Right.l0 kq (aa.length:Int) al ag aa ac=some r)∧Sd (kq≤k)∧Sd (w'.heap[aP]?=some (.cells #[.bool ag,(.slice am aa.length an),.int .i64 ac] 29 (0,0)))∧Sd (Below w.heap.size w w'))
 case atStart=>exact ⟨(0),(by first|rfl|(simp;done)|(simp [*];done)),H',⟨Nat.le_refl _⟩,⟨ko ae⟩,⟨bl HB⟩⟩
 case round=>
  clear H'
  try clear p2
  try clear c3
  try clear a8
  try clear a9
  obtain ⟨al,rfl,HA,HK1,ae,HB⟩:=hrel
  cases gk with
  | zero=>exact absurd HA.out (by simp [exergueref05_Right.l0])
  | succ k1=>
   have H:=HA.out
   clear HA
   simp only [exergueref05_Right.l0] at H
   by_cases c4:al<(aa.length:Int)
   ·rw [if_pos c4] at H
    have aE:=zC c4
    clear c4
    by_cases c5:0≤al
    rotate_left
    ·rw [if_neg c5] at H
     exact absurd H (by simp)
    rw [if_pos c5] at H
    have aJ:=zC c5
    clear c5
    by_cases c6:al<(aa.length:Int)
    rotate_left
    ·rw [if_neg c6] at H
     exact absurd H (by simp)
    rw [if_pos c6] at H
    have aO:=zC c6
    clear c6
    by_cases c7:(rd aa al)>9
    ·rw [if_pos c7] at H
     have aM:decide (9<(rd aa al))=true:=zC c7
     clear c7
     obtain rfl:=zE H
     have bF:=blkc3 ae.out
     have bG:=blkf3 ae.out
     have aB:0≤(al:Int):=zB (by first|(with_reducible assumption)|assumption)
     have aC:al<(aa.length:Int):=zB (by first|(with_reducible assumption)|assumption)
     obtain ⟨aQ,aN,aj⟩:=Kd.at_int ah.out al aB aC
     cases aN
     replace aj:=(HB.out.cell (World.block_lt_of_cell? w _ aj)).trans aj
     replace aB:=eq_true aB
     replace aC:=eq_true aC
     go_wp2
     go_ret
     exact ⟨by first|rfl|(simp <;> rfl)|(simp [*] <;> rfl),bl HB⟩
    rw [if_neg c7] at H
    have aM:decide (9<(rd aa al))=false:=zD c7
    clear c7
    have H':=zS H
    clear H
    have ba:=blkc3 ae.out
    have bb:=blkf3 ae.out
    have aB:0≤(al:Int):=zB (by first|(with_reducible assumption)|assumption)
    have aC:al<(aa.length:Int):=zB (by first|(with_reducible assumption)|assumption)
    obtain ⟨aQ,aN,aj⟩:=Kd.at_int ah.out al aB aC
    cases aN
    replace aj:=(HB.out.cell (World.block_lt_of_cell? w _ aj)).trans aj
    replace aB:=eq_true aB
    replace aC:=eq_true aC
    go_wp2
    go_roundg k1
    case measure=>have:=HK1.out;omega
    case rel=>exact ⟨(wrap64 (al+1)),(by first|rfl|(simp;done)|(simp [*];done)),H',⟨by have:=HK1.out;omega⟩,⟨ko ae⟩,⟨bl HB⟩⟩
   rw [if_neg c4] at H
   have aE:=zD c4
   clear c4
   by_cases c10:(aa.length:Int)=0
   ·rw [if_pos c10] at H
    have aR:((aa.length:Int) == 0)=true:=zH c10
    have aS:((aa.length:Int) != 0)=false:=zG c10
    clear c10
    obtain rfl:=zE H
    have aT:=blkc3 ae.out
    have aU:=blkf3 ae.out
    go_wp2
    go_ret
    exact ⟨by first|rfl|(simp <;> rfl)|(simp [*] <;> rfl),bl HB⟩
   rw [if_neg c10] at H
   have aR:((aa.length:Int) == 0)=false:=zF c10
   have aS:((aa.length:Int) != 0)=true:=zI c10
   have be:¬ (aa=[]):=fun h_=>c10 (by rw [h_];rfl)
   by_cases c12:(aa.length:Int)≤1000
   rotate_left
   ·rw [if_neg c12] at H
    have aV:=zD c12
    have aW:decide (aa.length≤1000)=false:=zD (by omega)
    clear c12
    obtain rfl:=zE H
    go_wp2
    go_ret
    exact ⟨by first|rfl|(simp <;> rfl)|(simp [*] <;> rfl),bl HB⟩
   rw [if_pos c12] at H
   have aV:=zC c12
   have aW:decide (aa.length≤1000)=true:=zC (by omega)
   clear c12
   by_cases c13:0<(aa.length:Int)
   rotate_left
   ·rw [if_neg c13] at H
    exact absurd H (by simp)
   rw [if_pos c13] at H
   have bf:=zC c13
   have bh:decide (0<aa.length)=true:=zC (by omega)
   clear c13
   by_cases c14:(rd aa 0)>0
   rotate_left
   ·rw [if_neg c14] at H
    have aX:decide (0<(rd aa 0))=false:=zD c14
    clear c14
    obtain rfl:=zE H
    have bi:=blkc3 ae.out
    have bj:=blkf3 ae.out
    have ao:0≤(0:Int):=(by omega)
    have ap:0<(aa.length:Int):=zB (by first|(with_reducible assumption)|assumption)
    obtain ⟨av,aD,ab⟩:=Kd.at_int ah.out 0 ao ap
    cases aD
    have qi543:(0<aa.length)=True:=eq_true (by omega)
    (try rw [show ((0:Int)).toNat=0 from rfl] at ab)
    (try rw [Addr.add_zero'] at ab)
    replace ab:=(HB.out.cell (World.block_lt_of_cell? w _ ab)).trans ab
    replace ao:=eq_true ao
    replace ap:=eq_true ap
    go_wp2
    go_ret
    exact ⟨by first|rfl|(simp <;> rfl)|(simp [*] <;> rfl),bl HB⟩
   rw [if_pos c14] at H
   have aX:decide (0<(rd aa 0))=true:=zC c14
   clear c14
   obtain ⟨ak,aw⟩:∃ j_:Int,(wrap64 ((aa.length:Int) - 1))=j_:=⟨_,rfl⟩
   replace H:(if 0≤(ak) then (if (ak)<(aa.length:Int) then (if (rd aa (ak))>0 then (if ac≥(-1000) then (some (decide (ac≤1000))) else (some false)) else (some false)) else (none)) else (none))=some r:=by first|(rw [aw] at H;exact H)|(simp only [aw] at H ⊢;exact H)
   have bc:(IntKind.i64.wrap ((aa.length:Int) - 1))=ak:=(i64_w _).trans aw
   by_cases c16:0≤(ak)
   rotate_left
   ·rw [if_neg c16] at H
    exact absurd H (by simp)
   rw [if_pos c16] at H
   have bk:=zC c16
   clear c16
   by_cases c17:(ak)<(aa.length:Int)
   rotate_left
   ·rw [if_neg c17] at H
    exact absurd H (by simp)
   rw [if_pos c17] at H
   have bm:=zC c17
   clear c17
   by_cases c18:(rd aa (ak))>0
   rotate_left
   ·rw [if_neg c18] at H
    have aY:decide (0<(rd aa (ak)))=false:=zD c18
    clear c18
    obtain rfl:=zE H
    have bn:=blkc3 ae.out
    have bo:=blkf3 ae.out
    have ao:0≤(0:Int):=(by omega)
    have ap:0<(aa.length:Int):=zB (by first|(with_reducible assumption)|assumption)
    obtain ⟨av,aD,ab⟩:=Kd.at_int ah.out 0 ao ap
    cases aD
    have qi543:(0<aa.length)=True:=eq_true (by omega)
    (try rw [show ((0:Int)).toNat=0 from rfl] at ab)
    (try rw [Addr.add_zero'] at ab)
    replace ab:=(HB.out.cell (World.block_lt_of_cell? w _ ab)).trans ab
    replace ao:=eq_true ao
    replace ap:=eq_true ap
    have ar:0≤((ak):Int):=zB (by first|(with_reducible assumption)|assumption)
    have au:(ak)<(aa.length:Int):=zB (by first|(with_reducible assumption)|assumption)
    obtain ⟨aA,aF,af⟩:=Kd.at_int ah.out (ak) ar au
    obtain rfl:av=aA:=(by injection aF)
    replace af:=(HB.out.cell (World.block_lt_of_cell? w _ af)).trans af
    replace ar:=eq_true ar
    replace au:=eq_true au
    go_wp2
    go_ret
    exact ⟨by first|rfl|(simp <;> rfl)|(simp only [← aw];first|rfl|(simp <;> rfl))|(simp [*] <;> rfl),bl HB⟩
   rw [if_pos c18] at H
   have aY:decide (0<(rd aa (ak)))=true:=zC c18
   clear c18
   by_cases c19:ac≥(-1000)
   ·rw [if_pos c19] at H
    have aZ:decide ((-1000)≤ac)=true:=zC c19
    clear c19
    obtain rfl:=zE H
    have bp:=blkc3 ae.out
    have bq:=blkf3 ae.out
    have ao:0≤(0:Int):=(by omega)
    have ap:0<(aa.length:Int):=zB (by first|(with_reducible assumption)|assumption)
    obtain ⟨av,aD,ab⟩:=Kd.at_int ah.out 0 ao ap
    cases aD
    have qi543:(0<aa.length)=True:=eq_true (by omega)
    (try rw [show ((0:Int)).toNat=0 from rfl] at ab)
    (try rw [Addr.add_zero'] at ab)
    replace ab:=(HB.out.cell (World.block_lt_of_cell? w _ ab)).trans ab
    replace ao:=eq_true ao
    replace ap:=eq_true ap
    have ar:0≤((ak):Int):=zB (by first|(with_reducible assumption)|assumption)
    have au:(ak)<(aa.length:Int):=zB (by first|(with_reducible assumption)|assumption)
    obtain ⟨aA,aF,af⟩:=Kd.at_int ah.out (ak) ar au
    obtain rfl:av=aA:=(by injection aF)
    replace af:=(HB.out.cell (World.block_lt_of_cell? w _ af)).trans af
    replace ar:=eq_true ar
    replace au:=eq_true au
    go_wp2
    go_ret
    exact ⟨by first|rfl|(simp <;> rfl)|(simp only [← aw];first|rfl|(simp <;> rfl))|(simp [*] <;> rfl),bl HB⟩
   rw [if_neg c19] at H
   have aZ:decide ((-1000)≤ac)=false:=zD c19
   clear c19
   obtain rfl:=zE H
   have br:=blkc3 ae.out
   have bu:=blkf3 ae.out
   have ao:0≤(0:Int):=(by omega)
   have ap:0<(aa.length:Int):=zB (by first|(with_reducible assumption)|assumption)
   obtain ⟨av,aD,ab⟩:=Kd.at_int ah.out 0 ao ap
   cases aD
   have qi543:(0<aa.length)=True:=eq_true (by omega)
   (try rw [show ((0:Int)).toNat=0 from rfl] at ab)
   (try rw [Addr.add_zero'] at ab)
   replace ab:=(HB.out.cell (World.block_lt_of_cell? w _ ab)).trans ab
   replace ao:=eq_true ao
   replace ap:=eq_true ap
   have ar:0≤((ak):Int):=zB (by first|(with_reducible assumption)|assumption)
   have au:(ak)<(aa.length:Int):=zB (by first|(with_reducible assumption)|assumption)
   obtain ⟨aA,aF,af⟩:=Kd.at_int ah.out (ak) ar au
   obtain rfl:av=aA:=(by injection aF)
   replace af:=(HB.out.cell (World.block_lt_of_cell? w _ af)).trans af
   replace ar:=eq_true ar
   replace au:=eq_true au
   go_wp2
   go_ret
   exact ⟨by first|rfl|(simp <;> rfl)|(simp only [← aw];first|rfl|(simp <;> rfl))|(simp [*] <;> rfl),bl HB⟩
def exergueref06_Near.f (k:Nat)(ag:Bool)(aa:List Int)(ac:Int):Option (Bool):=(exergueref05_Right.f k ag aa ac).bind fun aG=>(if aG=true then (if (aa.length:Int)≤40 then (if ac≥(-60) then (some (decide (ac≤60))) else (some false)) else (some false)) else (some false))
theorem exergueref06_Near.mono:∀ a0 a1 a2 k,LeO (exergueref06_Near.f k a0 a1 a2) (exergueref06_Near.f (k+1) a0 a1 a2):=by
 intro a0 a1 a2 k
 unfold exergueref06_Near.f
 repeat' first|(with_reducible first|apply exergueref05_Right.mono|apply LeO.refl|apply LeO.none|refine LeO.ite ?_ ?_|refine LeO.bind ?_ (fun _=>?_))|apply exergueref05_Right.mono|apply LeO.none
set_option maxHeartbeats 8000000 in
set_option maxRecDepth 100000 in
theorem exergueref06_Near.calls (k:Nat)(ag:Bool)(am:Option Addr)(an:Nat)(aa:List Int)(ac:Int)(r:Bool)(w:World)(ax:Kd.C (Kd.int .u8) w am aa.length aa)(ay:aa.length≤an)(h:exergueref06_Near.f k ag aa ac=some r) :
  Calls Tryz.prog 14 #[.agg #[.bool ag,.slice am aa.length an,.int .i64 ac]] w fun e w'=>e = .returned (.bool r)∧Below w.heap.size w w':=by
 have hu29:=Tryz.underlying29
 have ah:=zS ax
 have az:=zS ay
 clear ax ay
 have HB:=zS (Below.refl w.heap.size w)
 have H:((exergueref05_Right.f k ag aa ac).bind fun aG=>(if aG=true then (if (aa.length:Int)≤40 then (if ac≥(-60) then (some (decide (ac≤60))) else (some false)) else (some false)) else (some false)))=some r:=h
 clear h
 replace H:=Option.bind_eq_some_iff.mp H
 obtain ⟨aG,A20,H⟩:=H
 try dsimp only at H
 have A2:=zS A20
 clear A20
 by_cases c3:aG=true
 rotate_left
 ·replace c3:=Bool.eq_false_iff.mpr c3
  subst c3
  rw [if_neg (show ¬ (false=true) by decide)] at H
  obtain rfl:=zE H
  go_enter Tryz.func14,Tryz.ntmps14
  go_wp2_with (first|((with_reducible refine gate_dst (N:=1) rfl ?_);(try (refine gate_guard (by rfl) ?_;dsimp only));refine box_event ?hg (N:=1) ?hd (cs:=#[.bool ag,.slice am aa.length an,.int .i64 ac]) (t:=29) ?hr ?_;(case hd=>rfl);(case hg=>rfl);(case hr=>first|(go_simp;done)|(go_simp;rfl));intro aH hg w18 hbox hb;have ad:=zS (hbox);have aI:=bg HB hg;replace HB:=bs HB hb;clear hb hbox hg;have bv:=blkc3 ad.out;have bw:=blkf3 ad.out)|((with_reducible refine gate_callee (f:=33) rfl ?_);refine gL (some 5) Tryz.func33 #[.agg #[.bool ag,.slice am aa.length an,.int .i64 ac]] ?_;(with_reducible refine (exergueref05_Right.calls k ag _ _ aa ac false _ (cb ah HB) az.out A2.out).mono ?_);rintro e w20 ⟨rfl,hb⟩;refine ⟨_,rfl,?_⟩;replace ad:=kb ad hb;replace HB:=bs HB hb;(try clear hb)))
  go_ret
  exact ⟨by first|rfl|(simp <;> rfl)|(simp [*] <;> rfl),bl HB⟩
 subst c3
 rw [if_pos rfl] at H
 by_cases c4:(aa.length:Int)≤40
 ·rw [if_pos c4] at H
  have aE:=zC c4
  have aL:decide (aa.length≤40)=true:=zC (by omega)
  clear c4
  by_cases c5:ac≥(-60)
  ·rw [if_pos c5] at H
   have aJ:decide ((-60)≤ac)=true:=zC c5
   clear c5
   obtain rfl:=zE H
   go_enter Tryz.func14,Tryz.ntmps14
   go_wp2_with (first|((with_reducible refine gate_dst (N:=1) rfl ?_);(try (refine gate_guard (by rfl) ?_;dsimp only));refine box_event ?hg (N:=1) ?hd (cs:=#[.bool ag,.slice am aa.length an,.int .i64 ac]) (t:=29) ?hr ?_;(case hd=>rfl);(case hg=>rfl);(case hr=>first|(go_simp;done)|(go_simp;rfl));intro aH hg w6 hbox hb;have ad:=zS (hbox);have aI:=bg HB hg;replace HB:=bs HB hb;clear hb hbox hg;have bH:=blkc3 ad.out;have bI:=blkf3 ad.out)|((with_reducible refine gate_callee (f:=33) rfl ?_);refine gL (some 5) Tryz.func33 #[.agg #[.bool ag,.slice am aa.length an,.int .i64 ac]] ?_;(with_reducible refine (exergueref05_Right.calls k ag _ _ aa ac true _ (cb ah HB) az.out A2.out).mono ?_);rintro e w8 ⟨rfl,hb⟩;refine ⟨_,rfl,?_⟩;replace ad:=kb ad hb;replace HB:=bs HB hb;(try clear hb);have ba:=blkc3 ad.out;have bb:=blkf3 ad.out))
   go_ret
   exact ⟨by first|rfl|(simp <;> rfl)|(simp [*] <;> rfl),bl HB⟩
  rw [if_neg c5] at H
  have aJ:decide ((-60)≤ac)=false:=zD c5
  clear c5
  obtain rfl:=zE H
  go_enter Tryz.func14,Tryz.ntmps14
  go_wp2_with (first|((with_reducible refine gate_dst (N:=1) rfl ?_);(try (refine gate_guard (by rfl) ?_;dsimp only));refine box_event ?hg (N:=1) ?hd (cs:=#[.bool ag,.slice am aa.length an,.int .i64 ac]) (t:=29) ?hr ?_;(case hd=>rfl);(case hg=>rfl);(case hr=>first|(go_simp;done)|(go_simp;rfl));intro aH hg w10 hbox hb;have ad:=zS (hbox);have aI:=bg HB hg;replace HB:=bs HB hb;clear hb hbox hg;have aT:=blkc3 ad.out;have aU:=blkf3 ad.out)|((with_reducible refine gate_callee (f:=33) rfl ?_);refine gL (some 5) Tryz.func33 #[.agg #[.bool ag,.slice am aa.length an,.int .i64 ac]] ?_;(with_reducible refine (exergueref05_Right.calls k ag _ _ aa ac true _ (cb ah HB) az.out A2.out).mono ?_);rintro e w12 ⟨rfl,hb⟩;refine ⟨_,rfl,?_⟩;replace ad:=kb ad hb;replace HB:=bs HB hb;(try clear hb);have bx:=blkc3 ad.out;have bA:=blkf3 ad.out))
  go_ret
  exact ⟨by first|rfl|(simp <;> rfl)|(simp [*] <;> rfl),bl HB⟩
 rw [if_neg c4] at H
 have aE:=zD c4
 have aL:decide (aa.length≤40)=false:=zD (by omega)
 clear c4
 obtain rfl:=zE H
 go_enter Tryz.func14,Tryz.ntmps14
 go_wp2_with (first|((with_reducible refine gate_dst (N:=1) rfl ?_);(try (refine gate_guard (by rfl) ?_;dsimp only));refine box_event ?hg (N:=1) ?hd (cs:=#[.bool ag,.slice am aa.length an,.int .i64 ac]) (t:=29) ?hr ?_;(case hd=>rfl);(case hg=>rfl);(case hr=>first|(go_simp;done)|(go_simp;rfl));intro aH hg w14 hbox hb;have ad:=zS (hbox);have aI:=bg HB hg;replace HB:=bs HB hb;clear hb hbox hg;have bB:=blkc3 ad.out;have bC:=blkf3 ad.out)|((with_reducible refine gate_callee (f:=33) rfl ?_);refine gL (some 5) Tryz.func33 #[.agg #[.bool ag,.slice am aa.length an,.int .i64 ac]] ?_;(with_reducible refine (exergueref05_Right.calls k ag _ _ aa ac true _ (cb ah HB) az.out A2.out).mono ?_);rintro e w16 ⟨rfl,hb⟩;refine ⟨_,rfl,?_⟩;replace ad:=kb ad hb;replace HB:=bs HB hb;(try clear hb);have bD:=blkc3 ad.out;have bE:=blkf3 ad.out))
 go_ret
 exact ⟨by first|rfl|(simp <;> rfl)|(simp [*] <;> rfl),bl HB⟩
end Go.Proofs.YtklebhlanidloaaGreatDoor.PZ
end
end
section
set_option maxRecDepth 100000
namespace Go.Proofs.YtklebhlanidloaaGreatDoor.PZ
open Go.RowKit Go.Shelf Go.Proofs.YtklebhlanidloaaGreatDoorW.PrintWords Go.Proofs.YtklebhlanidloaaGreatDoorW.PrintLast
section
attribute [local go_sem] Oper.semAt_some
def timesStep (k:Int)(s:Int×List Int)(c:Int):Int×List Int:=
  (wrap64 ((wrap64 (s.1+wrap64 (wrap64 c * k))).tdiv 10),s.2 ++ [(wrap64 (s.1+wrap64 (wrap64 c * k))).tmod 10 % 256])
def timesS (k:Int)(pre:List (Int×Int)):Int×List Int:=(pre.map Prod.snd).foldl (timesStep k) (0,[])
theorem timesS_snoc (k:Int)(pre:List (Int×Int))(x:Int×Int):timesS k (pre ++ [x])=timesStep k (timesS k pre) x.2:=by simp [timesS]
theorem timesS_len (k:Int)(pre:List (Int×Int)):(timesS k pre).2.length=pre.length:=by
 unfold timesS
 have:∀ (l:List Int) (s:Int×List Int),(l.foldl (timesStep k) s).2.length=s.2.length+l.length:=by
  intro l
  induction l with
  | nil=>intro s;simp
  | cons c l ih=>intro s;rw [List.foldl_cons,ih];simp [timesStep];omega
 rw [this];simp
def lowD (c:Nat):List Int:=if h:c=0 then [] else ((c % 10:Nat):Int) :: lowD (c / 10)
termination_by c
decreasing_by omega
theorem lowD_zero:lowD 0=[]:=by unfold lowD;simp
theorem lowD_pos {c:Nat}(h:0<c):lowD c=((c % 10:Nat):Int) :: lowD (c / 10):=by
 conv=>lhs;unfold lowD
 rw [dif_neg (by omega)]
theorem lowD_len (m c:Nat)(h:c<10 ^ m):(lowD c).length≤m:=by
 induction m generalizing c with
 | zero => have : c = 0 := by simpa using h
           subst this;simp [lowD_zero]
 | succ m ih=>
  by_cases h0:0<c
  ·rw [lowD_pos h0,List.length_cons]
   have:=ih (c / 10) (by rw [Nat.pow_succ] at h;omega)
   omega
  have:c=0:=by omega
  subst this;simp [lowD_zero]
def Parked (p:Prop):Prop:=p
theorem parked {p:Prop}(h:Parked p):p:=h
theorem timesByteInfo:(Tryz.prog.info? 5).map (fun i=>(i.zero,i.size,i.bytes))=some (some (.int .u8 0),1,1):=by kernel_rfl
set_option maxRecDepth 100000 in
set_option maxHeartbeats 4000000 in
theorem times_in (F:Fence)(n:Nat)(hf:F.fn 98)(hf1:F.fn 125)(hf2:F.fn 138)(hf3:F.fn 126)(hro:F.round=none)(hn:3≤n)(A:Option Addr)(cap:Nat)(zs:List Int)(k:Int)(hlen:zs.length≤70368744177664)(hcar:0≤(timesS k (backK zs zs.length)).1∧(timesS k (backK zs zs.length)).1<9223372036854775808)(w:World)(hC:Kd.C (Kd.int .u8) w A zs.length zs)
    (hRev:∀ (v:Value) (outs:List Int) (W:World),Below w.heap.size w W→W.ownsRow w.heap.size 5 1 v outs.length (outs.map (Value.int .u8))→outs.length≤70368744177664+64→CallsIn F (n - 1) Tryz.prog 126 #[v] W fun e W'=>e = .returned (.tuple #[])∧Kd.R (Kd.int .u8) 5 W' w.heap.size (fun _=>True) v outs.reverse∧Below w.heap.size w W'∧Kept W W' (fun k_=>v.ownBlock=some k_)) :
    CallsIn F n Tryz.prog 98 #[.slice A zs.length cap,.int .i64 k] w fun e W'=>∃ v0_:Value,e = .returned v0_∧Kd.R (Kd.int .u8) 5 W' w.heap.size (fun _=>True) v0_ ((timesS k (backK zs zs.length)).2 ++ lowD (timesS k (backK zs zs.length)).1.toNat).reverse∧Below w.heap.size w W':=by
 have h1:1≤n:=by omega
 obtain ⟨i0,hi,hz0,hz1,hz2⟩:=info_parts timesByteInfo
 refine callsIn_of_wp_marks Tryz.func98 rfl hf ?_ hro
 simp only [Tryz.ntmps98,List.size_toArray,List.length_cons,List.length_nil,Nat.reduceAdd,Nat.reduceSub,Array.replicate_succ,Array.replicate_zero,List.push_toArray,List.append_toArray,List.nil_append,List.cons_append]
 gi_wp2_with (gi_at_call 125;refine (backward_in F (n - 1) hf1 hro _ _ _ _).mono ?_;rintro e w' ⟨rfl,rfl⟩)
 have bK:=Boxed.new w 3 (.int .i64 k)
 have bO:=Boxed.new (w.alloc (.cells #[.int .i64 k] 3)) 27 (.slice none 0 0)
 have bC:=Boxed.new ((w.alloc (.cells #[.int .i64 k] 3)).alloc (.cells #[.slice none 0 0] 27)) 3 (.int .i64 0)
 have bS:=Boxed.new (((w.alloc (.cells #[.int .i64 k] 3)).alloc (.cells #[.slice none 0 0] 27)).alloc (.cells #[.int .i64 0] 3)) 27 (.slice A zs.length cap)
 have hB0:Below w.heap.size w ((((w.alloc (.cells #[.int .i64 k] 3)).alloc (.cells #[.slice none 0 0] 27)).alloc (.cells #[.int .i64 0] 3)).alloc (.cells #[.slice A zs.length cap] 27)):=((((Below.refl _ w).alloc (Nat.le_refl _) _).alloc (by simp) _).alloc (by simp;omega) _).alloc (by simp;omega) _
 simp only [World.size_alloc] at bO bC bS
 refine wpIn_rangeFunc_ownG hro h1 (gf:=138) (lb:=#[.pointer (some ⟨w.heap.size+1+1+1,0,none⟩)]) rfl hf2 (enters_of Tryz.func138 (by kernel_rfl) rfl)
  (backward_stops F (n - 1) hf2 hro (by omega) (w.heap.size+1+1+1) w.heap.size A cap zs (by omega) _ (by simp) (by simp;omega) bS.cell (fun W' h=>Kd.C_below hC (hB0.trans h))) backKp_t (backKp_b (by simp;omega) (by simp)) (Below.refl _ _) (fun _=>rfl)
  (fun pre W=>(((∃ v,Boxed W (w.heap.size+1) 27 v∧W.ownsRow w.heap.size 5 1 v (timesS k pre).2.length ((timesS k pre).2.map (Value.int .u8))∧True)∧Boxed W w.heap.size 3 (.int .i64 k))∧(Boxed W (w.heap.size+1+1) 3 (.int .i64 (timesS k pre).1)∧Boxed W (w.heap.size+1+1+1) 27 (.slice A zs.length cap)))∧Below w.heap.size w W)
  (fun _ _ _=>False)
  (OwnFrom.and (OwnFrom.and (OwnFrom.and (Own.from (holdsRow_own w.heap.size (w.heap.size+1) 27 5 1 (fun pre=>(timesS k pre).2.length) (fun pre=>(timesS k pre).2.map (Value.int .u8)) (fun _ _=>True)) _) (Own.from (boxed_own w.heap.size 3 (fun _=>.int .i64 k)) _))
    (OwnFrom.and (Own.from (boxed_own (w.heap.size+1+1) 3 (fun pre=>.int .i64 (timesS k pre).1)) _) (Own.from (boxed_own (w.heap.size+1+1+1) 27 (fun _=>.slice A zs.length cap)) _))) (ownFrom_below (Nat.le_refl _) (by simp;omega)))
  (fun _ _ _ _ _ hs _ _=>hs)
  ⟨⟨⟨⟨_,((bO.alloc _).alloc _),World.ownsRow_nil _ _ _ _,trivial⟩,(((bK.alloc _).alloc _).alloc _)⟩,(bC.alloc _),bS⟩,hB0⟩
  (fun x=>{ tmps:=#[.slice A zs.length cap,.int .i64 k,undef,.pointer (some ⟨w.heap.size,0,none⟩),.slice none 0 0,.pointer (some ⟨w.heap.size+1,0,none⟩),.pointer (some ⟨w.heap.size+1+1,0,none⟩),undef,.int .u8 x.2,.slice A zs.length cap,.func (.func 138) #[] #[.pointer (some ⟨w.heap.size+1+1+1,0,none⟩)],.int .i64 x.1,.int .u8 x.2,undef,undef,undef,undef,undef,undef,undef,undef,undef,undef,undef,undef,undef,undef,undef,undef,undef,undef,undef,undef,undef,undef,undef,undef,undef,undef,undef],defers:=[] }) ?assign ?body ?done ?stop
 case assign=>
  intro l x W K hK
  gi_wp2
  exact hK
 case body=>
  rintro l pre x W ⟨⟨⟨⟨v,hv,hrow,_⟩,hk⟩,hcy,hbs⟩,hB⟩ hlt
  obtain ⟨t,ht⟩:∃ t,t=wrap64 ((timesS k pre).1+wrap64 (wrap64 x.2 * k)):=⟨_,rfl⟩
  have hkc:=hk.cell
  have hcc:=hcy.cell
  have hcf:=hcy.frozen
  have hpl:=timesS_len k pre
  obtain ⟨W1,hW1⟩:∃ W1,W1=W.setCell ⟨w.heap.size+1+1,0,none⟩ (.int .i64 t):=⟨_,rfl⟩
  have hsz1:W1.heap.size=W.heap.size:=by rw [hW1,World.size_setCell]
  have hv1:Boxed W1 (w.heap.size+1) 27 v:=by rw [hW1];exact hv.other (by omega) _
  have hk1:Boxed W1 w.heap.size 3 (.int .i64 k):=by rw [hW1];exact hk.other (by omega) _
  have hs1:Boxed W1 (w.heap.size+1+1+1) 27 (.slice A zs.length cap):=by rw [hW1];exact hbs.other (by omega) _
  have hcy1:Boxed W1 (w.heap.size+1+1) 3 (.int .i64 t):=by rw [hW1];exact hcy.set _
  have hrow1:W1.ownsRow w.heap.size 5 1 v (timesS k pre).2.length ((timesS k pre).2.map (Value.int .u8)):=by rw [hW1];exact hrow.kept (grownBy_setCell' W _ _) (.inr (hcy.not_row (by decide) hrow).symm)
  have hB1:Below w.heap.size w W1:=by rw [hW1];exact hB.setCell (p:=⟨w.heap.size+1+1,0,none⟩) (by simp;omega) _
  have hK1:KeepsOthers W W1:=by rw [hW1];exact KeepsOthers.setCell _ _ _
  have hBW1:Below w.heap.size W W1:=by rw [hW1];exact (Below.refl _ W).setCell (p:=⟨w.heap.size+1+1,0,none⟩) (by simp;omega) _
  have hc:=hv1.cell
  have hcc1:=hcy1.cell
  rw [hW1,ht] at hc hcc1
  have hone:∀ j u,[Value.int .u8 (t.tmod 10 % 256)][j]?=some u→(W1.alloc (.cells #[.int .u8 (t.tmod 10 % 256)] 5)).cell? ((⟨W.heap.size,0,none⟩:Addr).add j)=some u:=by
   have:=cell_one_new W1 (.int .u8 (t.tmod 10 % 256)) 5
   rwa [hsz1] at this
  have hbase:w.heap.size≤(W1.alloc (.cells #[.int .u8 (t.tmod 10 % 256)] 5)).heap.size:=by
   have:=hB1.size
   simp only [World.size_alloc]
   omega
  gi_wp2_with (gi_at_builtin;apply parked)
  unfold Parked
  rw [← ht,← hW1]
  refine wpListIn_append_own _ rfl _ _ 27 rfl w.heap.size 5 i0 (.int .u8 0) 1 1 Tryz.underlying27 hi hz0 hz1 hz2 rfl (by decide) _ _ _ rfl (hrow1.alloc _) ⟨W.heap.size,0,none⟩ 1 1 [.int .u8 (t.tmod 10 % 256)] rfl rfl hone (by simp [Value.oneCell']) (by simp only [maxLen];omega) (by omega) hbase ?_
  intro v' w1 hown' hgrow _
  obtain ⟨g',cap',rfl⟩:=ownsRow_succ hown'
  obtain ⟨hv1',hv2,hr2,hk2,hb2⟩:=hv1.appended (by decide) hrow1 hB1.size (by omega) hown' hgrow
  have hc1:=hv1'.cell
  have hf1:=hv1'.frozen
  have hcy2:=((hcy1.alloc _).kept hgrow (hcy1.not_row (by decide) hrow1)).other (B':=w.heap.size+1) (by omega) (.slice (some ⟨g',0,none⟩) ((timesS k pre).2.length+1) cap')
  have hk2':=((hk1.alloc _).kept hgrow (hk1.not_row (by decide) hrow1)).other (B':=w.heap.size+1) (by omega) (.slice (some ⟨g',0,none⟩) ((timesS k pre).2.length+1) cap')
  have hbs1:Boxed w1 (w.heap.size+1+1+1) 27 (.slice A zs.length cap):=(hs1.alloc _).kept hgrow (hs1.not_row (by decide) hrow1)
  have hs2:=hbs1.other (B':=w.heap.size+1) (by omega) (.slice (some ⟨g',0,none⟩) ((timesS k pre).2.length+1) cap')
  have hcc2:=hcy2.cell
  have hcf2:=hcy2.frozen
  have HP:=zA hpl
  have HT:=zA ht
  have HW1:=zA hW1
  clear hpl ht hW1 hc hcc hcf hkc hcc1
  gi_wp2
  refine ⟨((hK1.trans hk2).trans (KeepsOthers.setCell _ _ _)).from _,⟨(hBW1.trans hb2).setCell (p:=⟨w.heap.size+1+1,0,none⟩) (by simp;omega) _,?_⟩,⟨⟨⟨_,hv2.other (by omega) _,?_,trivial⟩,hk2'.other (by omega) _⟩,?_,hs2.other (by omega) _⟩,((hB1.trans hb2).setCell (p:=⟨w.heap.size+1+1,0,none⟩) (by simp;omega) _)⟩
  · rw [(hs2.other (by omega) _).cell,hbs.cell]
  ·rw [timesS_snoc,timesStep,← HT.out]
   have:=hr2.kept (grownBy_setCell' _ (w.heap.size+1+1) (.int .i64 (wrap64 (t.tdiv 10)))) (.inr (hcy2.not_row (by decide) hr2).symm)
   simpa using this
  rw [timesS_snoc,timesStep,← HT.out]
  exact hcy2.set _
 case done=>
  rintro D ys W hD rfl ⟨⟨⟨⟨v,hv,hrow,_⟩,hk⟩,hcy,hbs⟩,hB⟩ hK
  have hcc:=hcy.cell
  obtain ⟨TT,hT⟩:∃ TT,TT=(timesS k (backK zs zs.length)).2 ++ lowD (timesS k (backK zs zs.length)).1.toNat:=⟨_,rfl⟩
  gi_wp2
  have hTT:TT.length≤70368744177664+64:=by
   have h1:=lowD_len 19 (timesS k (backK zs zs.length)).1.toNat (by omega)
   have h2:=timesS_len k (backK zs zs.length)
   rw [backK_length] at h2
   rw [hT,List.length_append]
   omega
  gi_loopw [27] (fun _ wr=>∃ (c:Nat) (outs:List Int) (v:Value),Boxed wr (w.heap.size+1+1) 3 (.int .i64 c)∧Boxed wr (w.heap.size+1) 27 v∧wr.ownsRow w.heap.size 5 1 v outs.length (outs.map (Value.int .u8))∧Below w.heap.size w wr∧wr.heap[D]?=some (.deferred (some []))∧D<wr.heap.size∧outs ++ lowD c=TT∧c≤9223372036854775807)
   (fun _ wr=>match wr.cell? ⟨w.heap.size+1+1,0,none⟩ with|some (.int _ c)=>c.toNat|_=>0)
  case atStart=>
   exact ⟨(timesS k (backK zs zs.length)).1.toNat,(timesS k (backK zs zs.length)).2,v,by rw [Int.toNat_of_nonneg hcar.1];exact hcy,hv,hrow,hB,hK,(Array.getElem?_eq_some_iff.1 hK).1,hT.symm,by omega⟩
  case round=>
   obtain ⟨c,outs,v1,hcy1,hv1,hrow1,hB1,hK1,hD1,hl1,hk1⟩:=hrel
   have hc1:=hcy1.cell
   have hf1:=hcy1.frozen
   have hol:outs.length≤70368744177664+64:=by rw [← hl1,List.length_append] at hTT;omega
   have hv1c:=hv1.cell
   by_cases hpos:0<c
   ·have hd:=zC hpos
    gi_wp2_with (gi_at_builtin;apply parked)
    unfold Parked
    obtain ⟨y,hy⟩:∃ y,y=(c:Int) % 10:=⟨_,rfl⟩
    have hone:∀ j u,[Value.int .u8 y][j]?=some u→(wr.alloc (.cells #[.int .u8 y] 5)).cell? ((⟨wr.heap.size,0,none⟩:Addr).add j)=some u:=cell_one_new wr (.int .u8 y) 5
    have hbase:w.heap.size≤(wr.alloc (.cells #[.int .u8 y] 5)).heap.size:=by
     have:=hB1.size
     simp only [World.size_alloc]
     omega
    rw [← hy]
    refine wpListIn_append_own _ rfl _ _ 27 rfl w.heap.size 5 i0 (.int .u8 0) 1 1 Tryz.underlying27 hi hz0 hz1 hz2 rfl (by decide) _ _ _ rfl (hrow1.alloc _) ⟨wr.heap.size,0,none⟩ 1 1 [.int .u8 y] rfl rfl hone (by simp [Value.oneCell']) (by simp only [maxLen];omega) (by omega) hbase ?_
    intro v' w1 hown' hgrow _
    obtain ⟨g',cap',rfl⟩:=ownsRow_succ hown'
    obtain ⟨hv1',hv2,hr2,hk2,hb2⟩:=hv1.appended (by decide) hrow1 hB1.size (by omega) hown' hgrow
    have hc1':=hv1'.cell
    have hf1':=hv1'.frozen
    have hcy2:=((hcy1.alloc _).kept hgrow (hcy1.not_row (by decide) hrow1)).other (B':=w.heap.size+1) (by omega) (.slice (some ⟨g',0,none⟩) (outs.length+1) cap')
    have hcc2:=hcy2.cell
    have hcf2:=hcy2.frozen
    gi_wp2
    have hcy3:=hcy2.set (.int .i64 ((c:Int) / 10))
    have hK3:=(hk2.trans (KeepsOthers.setCell _ ⟨w.heap.size+1+1,0,none⟩ (.int .i64 ((c:Int) / 10)))).same D _ hK1 rfl
    refine ⟨⟨c / 10,outs ++ [y],_,hcy3,hv2.other (by omega) _,?_,((hB1.trans hb2).setCell (p:=⟨w.heap.size+1+1,0,none⟩) (by simp;omega) _),hK3,(Array.getElem?_eq_some_iff.1 hK3).1,?_,by omega⟩,?_⟩
    ·have:=hr2.kept (grownBy_setCell' _ (w.heap.size+1+1) (.int .i64 ((c:Int) / 10))) (.inr (hcy2.not_row (by decide) hr2).symm)
     simpa using this
    · rw [List.append_assoc,hy,← hl1,lowD_pos hpos];simp
    rw [hcy3.cell,hc1]
    simp
    omega
   have hd:=zD hpos
   have hc0:c=0:=by omega
   rw [hc0,lowD_zero,List.append_nil] at hl1
   have hnr:=hv1.not_row (by decide) hrow1
   have hDr:some D≠v1.ownBlock:=by
    rcases hrow1.2 with ⟨rfl,_⟩|⟨g,cp,cur,rfl,_,hgb,_⟩
    · simp [Value.ownBlock]
    intro e'
    obtain rfl:D=g:=by simpa [Value.ownBlock] using e'
    rw [hK1] at hgb
    cases hgb
   have hlt5:=hv1.lt
   gi_wp2_with (gi_at_call 126;refine (hRev v1 outs wr hB1 hrow1 hol).mono ?_;rintro e w2 ⟨rfl,hR2,hB2,hK2⟩;have hv2:Boxed w2 (w.heap.size+1) 27 v1:=(hK2.2 _ hlt5 (fun h=>hnr h.symm)).trans hv1;have hD2:w2.heap[D]?=some (.deferred (some [])):=(hK2.2 _ hD1 (fun h=>hDr h.symm)).trans hK1;have hvc2:=hv2.cell)
   refine ⟨by simp,.inl ⟨_,_,rfl,run_takeDeferred hD2,?_⟩⟩
   refine ⟨_,results_tmp rfl _ _ _,v1,rfl,?_,hB2.trans (belowK_b (w:=w) (Nat.le_refl _) w2 D _ _ (by simp at hD;omega) hD2 rfl rfl)⟩
   rw [← hT,← hl1]
   exact Kd.R_of_own (ownsRow_putObj (Kd.own_of_R hR2) _ hD2 rfl) (fun _ _=>trivial)
 case stop=>
  rintro D c pre W _ _ h _
  exact h.elim
end
end Go.Proofs.YtklebhlanidloaaGreatDoor.PZ
end
section
set_option maxRecDepth 100000
namespace Go.Proofs.YtklebhlanidloaaGreatDoor.PZ
open Go.RowKit Go.Proofs.YtklebhlanidloaaGreatDoorW.PrintWords Go.Proofs.YtklebhlanidloaaGreatDoorW.PrintLast
theorem row_l0 (a b:List Int)(hl:a.length=b.length)(hm:a.length≤9223372036854775807)(n:Nat):∀ i:Nat,i+n=a.length→exergueref01_Row.l0 (n+1) a b (i:Int)=some (decide (a.drop i=b.drop i)):=by
 induction n with
 | zero=>
  intro i hi
  have h1:¬ ((i:Int)<(a.length:Int)):=by omega
  rw [exergueref01_Row.l0,if_neg h1,List.drop_of_length_le (by omega),List.drop_of_length_le (by omega)]
  rfl
 | succ n ih=>
  intro i hi
  have h1:(i:Int)<(a.length:Int):=by omega
  have h2:wrap64 ((i:Int)+1)=((i+1:Nat):Int):=by rw [w64 _ (by omega) (by omega)];omega
  rw [exergueref01_Row.l0,if_pos h1,if_pos (by omega),if_pos (by omega),drop_cons a i (by omega),drop_cons b i (by omega)]
  by_cases he:rd a i=rd b i
  ·rw [if_pos he,h2,ih (i+1) (by omega),he]
   simp
  rw [if_neg he]
  simp [he]
theorem row_e (a b:List Int)(hm:a.length≤9223372036854775807):Ev (fun k=>exergueref01_Row.f k a b) (decide (a=b)):=by
 unfold exergueref01_Row.f
 by_cases hl:a.length=b.length
 ·simp only [if_pos (show (a.length:Int)=(b.length:Int) by omega)]
  refine Ev.of (k:=a.length+1) (fun k=>exergueref01_Row.mono_l k _ _ _) ?_
  have:=row_l0 a b hl hm a.length 0 (by omega)
  simpa using this
 simp only [if_neg (show ¬ (a.length:Int)=(b.length:Int) by omega)]
 have:decide (a=b)=false:=by
  rw [decide_eq_false_iff_not]
  rintro rfl
  exact hl rfl
 rw [this]
 exact Ev.now _
end Go.Proofs.YtklebhlanidloaaGreatDoor.PZ
end
