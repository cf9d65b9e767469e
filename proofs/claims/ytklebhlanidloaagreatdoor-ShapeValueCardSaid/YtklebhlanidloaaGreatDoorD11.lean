/- Texts of this seat, joined. Conditions: none beyond each statement's own. -/
import Derived.Test.YtklebhlanidloaaGreatDoorD07
import Derived.RangeFuncBox
import Derived.RangeFuncNested
import Derived.RangeFuncBound
import Derived.RangeFuncCalls
import Derived.RangeFuncLeaves
import Derived.Shelf.Abstract
import Derived.Shelf.RegionOpen
import Derived.OwnWalkIn
import Derived.TacticsInMore
import Derived.LoopNIn
import Derived.LoopIn
set_option linter.all false
section
noncomputable section
namespace Go.Proofs.YtklebhlanidloaaGreatDoor.PZ
open Go.RowKit Go.Proofs.YtklebhlanidloaaGreatDoorW.PrintWords Go.Proofs.YtklebhlanidloaaGreatDoorW.PrintLast Go.Proofs.YtklebhlanidloaaGreatDoorW.PrintMore
attribute [local go_sem] max2_int min2_int max_two min_two max_three min_three max_four min_four   -- for this text's walks alone
def exergueref01_Row.l0:Nat→List Int→List Int→Int→Option (Bool)
 | 0,_,_,_=>none
 | k+1,x0,x1,x5=>if x5<(x0.length:Int) then (if 0≤x5 then (if x5<(x1.length:Int) then (if (rd x0 x5)=(rd x1 x5) then (exergueref01_Row.l0 k x0 x1 (wrap64 (x5+1))) else (some false)) else (none)) else (none)) else (some true)
def exergueref01_Row.f (k:Nat)(l0:List Int)(l1:List Int):Option (Bool):=if (l0.length:Int)=(l1.length:Int) then (exergueref01_Row.l0 k l0 l1 0) else (some false)
theorem exergueref01_Row.mono_l:∀ k,(∀ y0 y1 y2,LeO (exergueref01_Row.l0 k y0 y1 y2) (exergueref01_Row.l0 (k+1) y0 y1 y2))
 | 0=>fun _ _ _ r h=>by simp [exergueref01_Row.l0] at h
 | k+1=>by
  have ih0:=exergueref01_Row.mono_l k
  ·intro y0 y1 y2
   unfold exergueref01_Row.l0
   repeat' first|(with_reducible first|apply ih0|apply LeO.refl|apply LeO.none|refine LeO.ite ?_ ?_|refine LeO.bind ?_ (fun _=>?_))|apply ih0|apply LeO.none
theorem exergueref01_Row.mono:∀ a0 a1 k,LeO (exergueref01_Row.f k a0 a1) (exergueref01_Row.f (k+1) a0 a1):=by
 intro a0 a1 k
 have ih0:=exergueref01_Row.mono_l k
 unfold exergueref01_Row.f
 repeat' first|(with_reducible first|apply ih0|apply LeO.refl|apply LeO.none|refine LeO.ite ?_ ?_|refine LeO.bind ?_ (fun _=>?_))|apply ih0|apply LeO.none
set_option maxHeartbeats 8000000 in
set_option maxRecDepth 100000 in
theorem exergueref01_Row.calls (k:Nat)(A0:Option Addr)(c0:Nat)(l0:List Int)(A1:Option Addr)(c1:Nat)(l1:List Int)(r:Bool)(w:World)(hr0:Kd.C (Kd.int .u8) w A0 l0.length l0)(hc0:l0.length≤c0)(hr1:Kd.C (Kd.int .u8) w A1 l1.length l1)(hc1:l1.length≤c1)(h:exergueref01_Row.f k l0 l1=some r) :
  Calls Tryz.prog 20 #[.slice A0 l0.length c0,.slice A1 l1.length c1] w fun e w'=>e = .returned (.bool r)∧Drawn0 w w':=by
 have HR0:=zS hr0
 have HC0:=zS hc0
 clear hr0 hc0
 have HR1:=zS hr1
 have HC1:=zS hc1
 clear hr1 hc1
 have H:(if (l0.length:Int)=(l1.length:Int) then (exergueref01_Row.l0 k l0 l1 0) else (some false))=some r:=h
 clear h
 by_cases c3:(l0.length:Int)=(l1.length:Int)
 rotate_left
 ·rw [if_neg c3] at H
  have aM:((l0.length:Int) == (l1.length:Int))=false:=zF c3
  have aN:((l0.length:Int) != (l1.length:Int))=true:=zI c3
  have aO:(l0.length == l1.length)=false:=by first|simpa using c3|(simp at c3 ⊢;omega)
  obtain rfl:=zE H
  go_enter Tryz.func20,Tryz.ntmps20
  go_wp2
  repeat (go_quiet (fail);try go_wp2)
  go_ret
  exact ⟨by first|rfl|(simp;done)|(simp [*];done),by repeat (first|exact Drawn0.refl _|apply Drawn0.step)⟩
 rw [if_pos c3] at H
 have aM:((l0.length:Int) == (l1.length:Int))=true:=zH c3
 have aN:((l0.length:Int) != (l1.length:Int))=false:=zG c3
 have aO:(l0.length == l1.length)=true:=by first|simpa using c3|(simp at c3 ⊢;omega)
 clear c3
 have H':=zS H
 clear H
 go_enter Tryz.func20,Tryz.ntmps20
 go_wp2
 repeat (go_quiet (fail);try go_wp2)
 go_loopg [5] k (fun kq v5 w'=>∃ (ab:Int),v5 = .int .i64 ab∧Sd (exergueref01_Row.l0 kq l0 l1 ab=some r)∧Sd (kq≤k)∧Drawn0 w w')
 case atStart=>exact ⟨(0),(by first|rfl|(simp;done)|(simp [*];done)),H',⟨Nat.le_refl _⟩,by repeat (first|exact Drawn0.refl _|apply Drawn0.step)⟩
 case round=>
  clear H'
  try clear c1
  try clear c2
  try clear p2
  try clear c3
  try clear aM
  try clear aN
  try clear aO
  obtain ⟨ab,rfl,HA,HK1,⟨m1,rfl⟩⟩:=hrel
  cases gk with
  | zero=>exact absurd HA.out (by simp [exergueref01_Row.l0])
  | succ k1=>
   have H:=HA.out
   clear HA
   simp only [exergueref01_Row.l0] at H
   by_cases c4:ab<(l0.length:Int)
   rotate_left
   ·rw [if_neg c4] at H
    have aS:=zD c4
    clear c4
    obtain rfl:=zE H
    go_wp2
    repeat (go_quiet (fail);try go_wp2)
    go_ret
    exact ⟨by first|rfl|(simp;done)|(simp [*];done),by repeat (first|exact Drawn0.refl _|apply Drawn0.step)⟩
   rw [if_pos c4] at H
   have aS:=zC c4
   clear c4
   by_cases c5:0≤ab
   rotate_left
   ·rw [if_neg c5] at H
    exact absurd H (by simp)
   rw [if_pos c5] at H
   have aP:=zC c5
   clear c5
   by_cases c6:ab<(l1.length:Int)
   rotate_left
   ·rw [if_neg c6] at H
    exact absurd H (by simp)
   rw [if_pos c6] at H
   have bi:=zC c6
   clear c6
   by_cases c7:(rd l0 ab)=(rd l1 ab)
   ·rw [if_pos c7] at H
    have aT:((rd l0 ab) == (rd l1 ab))=true:=zH c7
    have aU:((rd l0 ab) != (rd l1 ab))=false:=zG c7
    clear c7
    have H':=zS H
    clear H
    have ap:0≤(ab:Int):=zB (by first|(with_reducible assumption)|assumption)
    have aq:ab<(l0.length:Int):=zB (by first|(with_reducible assumption)|assumption)
    obtain ⟨aQ,aK,aA⟩:=Kd.at_int HR0.out ab ap aq
    cases aK
    replace ap:=eq_true ap
    replace aq:=eq_true aq
    have ar:0≤(ab:Int):=zB (by first|(with_reducible assumption)|assumption)
    have au:ab<(l1.length:Int):=zB (by first|(with_reducible assumption)|assumption)
    obtain ⟨aR,aL,aB⟩:=Kd.at_int HR1.out ab ar au
    cases aL
    replace ar:=eq_true ar
    replace au:=eq_true au
    go_wp2
    repeat (go_quiet (fail);try go_wp2)
    go_roundg k1
    case measure=>have:=HK1.out;omega
    case rel=>exact ⟨(wrap64 (ab+1)),(by first|rfl|(simp;done)|(simp [*];done)),H',⟨by have:=HK1.out;omega⟩,by repeat (first|exact Drawn0.refl _|apply Drawn0.step)⟩
   rw [if_neg c7] at H
   have aT:((rd l0 ab) == (rd l1 ab))=false:=zF c7
   have aU:((rd l0 ab) != (rd l1 ab))=true:=zI c7
   obtain rfl:=zE H
   have ap:0≤(ab:Int):=zB (by first|(with_reducible assumption)|assumption)
   have aq:ab<(l0.length:Int):=zB (by first|(with_reducible assumption)|assumption)
   obtain ⟨aQ,aK,aA⟩:=Kd.at_int HR0.out ab ap aq
   cases aK
   replace ap:=eq_true ap
   replace aq:=eq_true aq
   have ar:0≤(ab:Int):=zB (by first|(with_reducible assumption)|assumption)
   have au:ab<(l1.length:Int):=zB (by first|(with_reducible assumption)|assumption)
   obtain ⟨aR,aL,aB⟩:=Kd.at_int HR1.out ab ar au
   cases aL
   replace ar:=eq_true ar
   replace au:=eq_true au
   go_wp2
   repeat (go_quiet (fail);try go_wp2)
   go_ret
   exact ⟨by first|rfl|(simp;done)|(simp [*];done),by repeat (first|exact Drawn0.refl _|apply Drawn0.step)⟩
def exergueref05_Same.f (k:Nat)(ag:Bool)(ae:List Int)(aj:Int)(ah:Bool)(af:List Int)(ak:Int):Option (Bool):=(exergueref01_Row.f k ae af).bind fun av=>(if av=true then (if (ag == ah)=true then (some (aj == ak)) else (some false)) else (some false))
theorem exergueref05_Same.mono:∀ a0 a1 a2 a3 a4 a5 k,LeO (exergueref05_Same.f k a0 a1 a2 a3 a4 a5) (exergueref05_Same.f (k+1) a0 a1 a2 a3 a4 a5):=by
 intro a0 a1 a2 a3 a4 a5 k
 unfold exergueref05_Same.f
 repeat' first|(with_reducible first|apply exergueref01_Row.mono|apply LeO.refl|apply LeO.none|refine LeO.ite ?_ ?_|refine LeO.bind ?_ (fun _=>?_))|apply exergueref01_Row.mono|apply LeO.none
set_option maxHeartbeats 8000000 in
set_option maxRecDepth 100000 in
theorem exergueref05_Same.calls (k:Nat)(ag:Bool)(al:Option Addr)(am:Nat)(ae:List Int)(aj:Int)(ah:Bool)(an:Option Addr)(ao:Nat)(af:List Int)(ak:Int)(r:Bool)(w:World)(aC:Kd.C (Kd.int .u8) w al ae.length ae)(aD:ae.length≤am)(aE:Kd.C (Kd.int .u8) w an af.length af)(aF:af.length≤ao)(h:exergueref05_Same.f k ag ae aj ah af ak=some r) :
  Calls Tryz.prog 19 #[.agg #[.bool ag,.slice al ae.length am,.int .i64 aj],.agg #[.bool ah,.slice an af.length ao,.int .i64 ak]] w fun e w'=>e = .returned (.bool r)∧Below w.heap.size w w':=by
 have hu29:=Tryz.underlying29
 have aw:=zS aC
 have ax:=zS aD
 clear aC aD
 have ay:=zS aE
 have az:=zS aF
 clear aE aF
 have HB:=zS (Below.refl w.heap.size w)
 have H:((exergueref01_Row.f k ae af).bind fun av=>(if av=true then (if (ag == ah)=true then (some (aj == ak)) else (some false)) else (some false)))=some r:=h
 clear h
 replace H:=Option.bind_eq_some_iff.mp H
 obtain ⟨av,A30,H⟩:=H
 try dsimp only at H
 have A3:=zS A30
 clear A30
 by_cases c4:av=true
 rotate_left
 ·replace c4:=Bool.eq_false_iff.mpr c4
  subst c4
  rw [if_neg (show ¬ (false=true) by decide)] at H
  obtain rfl:=zE H
  go_enter Tryz.func19,Tryz.ntmps19
  go_wp2_with (first|((with_reducible refine gate_dst (N:=2) rfl ?_);refine box_event ?hg (N:=2) ?hd (cs:=#[.bool ag,.slice al ae.length am,.int .i64 aj]) (t:=29) ?hr ?_;(case hd=>rfl);(case hg=>rfl);(case hr=>first|(go_simp;done)|(go_simp;rfl));intro aG hg w16 hbox hb;have aa:=zS (hbox);have aH:=bg HB hg;replace HB:=bs HB hb;clear hb hbox hg)|((with_reducible refine gate_dst (N:=3) rfl ?_);refine box_event ?hg (N:=3) ?hd (cs:=#[.bool ah,.slice an af.length ao,.int .i64 ak]) (t:=29) ?hr ?_;(case hd=>rfl);(case hg=>rfl);(case hr=>first|(go_simp;done)|(go_simp;rfl));intro aI hg w17 hbox hb;have ai:=zS (hbox);have aJ:=bg HB hg;replace HB:=bs HB hb;have ac:=kn aa hg;have ad:=km aa hg;replace aa:=kb aa hb;clear hb hbox hg;have aX:=ac.out;have aY:=ad.out;have aZ:=blkc3 aa.out;have a6:=blkf3 aa.out;have a7:=blkc3 ai.out;have a8:=blkf3 ai.out)|((with_reducible refine gate_callee (f:=20) rfl ?_);refine gL (some 10) Tryz.func20 #[.slice al ae.length am,.slice an af.length ao] ?_;(with_reducible refine (exergueref01_Row.calls k _ _ ae _ _ af false _ (cb aw HB) ax.out (cb ay HB) az.out A3.out).mono ?_);rintro e w' ⟨rfl,⟨nd,rfl⟩⟩;refine ⟨_,rfl,?_⟩))
  go_ret
  exact ⟨by first|rfl|(simp <;> rfl)|(simp [*] <;> rfl),bl HB⟩
 subst c4
 rw [if_pos rfl] at H
 by_cases c5:(ag == ah)=true
 ·rw [if_pos c5] at H
  have aP:(ag == ah)=true:=c5
  (try (have aV:decide (ag=ah)=true:=by simpa using c5))
  (try (have aW:(ag == ah)=true:=by simpa using c5))
  clear c5
  obtain rfl:=zE H
  go_enter Tryz.func19,Tryz.ntmps19
  go_wp2_with (first|((with_reducible refine gate_dst (N:=2) rfl ?_);refine box_event ?hg (N:=2) ?hd (cs:=#[.bool ag,.slice al ae.length am,.int .i64 aj]) (t:=29) ?hr ?_;(case hd=>rfl);(case hg=>rfl);(case hr=>first|(go_simp;done)|(go_simp;rfl));intro aG hg w6 hbox hb;have aa:=zS (hbox);have aH:=bg HB hg;replace HB:=bs HB hb;clear hb hbox hg)|((with_reducible refine gate_dst (N:=3) rfl ?_);refine box_event ?hg (N:=3) ?hd (cs:=#[.bool ah,.slice an af.length ao,.int .i64 ak]) (t:=29) ?hr ?_;(case hd=>rfl);(case hg=>rfl);(case hr=>first|(go_simp;done)|(go_simp;rfl));intro aI hg w7 hbox hb;have ai:=zS (hbox);have aJ:=bg HB hg;replace HB:=bs HB hb;have ac:=kn aa hg;have ad:=km aa hg;replace aa:=kb aa hb;clear hb hbox hg;have bj:=ac.out;have bk:=ad.out;have bm:=blkc3 aa.out;have bn:=blkf3 aa.out;have a9:=blkc3 ai.out;have ba:=blkf3 ai.out)|((with_reducible refine gate_callee (f:=20) rfl ?_);refine gL (some 10) Tryz.func20 #[.slice al ae.length am,.slice an af.length ao] ?_;(with_reducible refine (exergueref01_Row.calls k _ _ ae _ _ af true _ (cb aw HB) ax.out (cb ay HB) az.out A3.out).mono ?_);rintro e w' ⟨rfl,⟨nd,rfl⟩⟩;refine ⟨_,rfl,?_⟩))
  go_ret
  exact ⟨by first|rfl|(simp <;> rfl)|(simp [*] <;> rfl),bl HB⟩
 rw [if_neg c5] at H
 have aP:(ag == ah)=false:=by simpa using c5
 (try (have aV:decide (ag=ah)=false:=by simpa using c5))
 (try (have aW:(ag == ah)=false:=by simpa using c5))
 (try (have bo:¬ (ag=ah):=by simpa using c5))
 clear c5
 obtain rfl:=zE H
 go_enter Tryz.func19,Tryz.ntmps19
 go_wp2_with (first|((with_reducible refine gate_dst (N:=2) rfl ?_);refine box_event ?hg (N:=2) ?hd (cs:=#[.bool ag,.slice al ae.length am,.int .i64 aj]) (t:=29) ?hr ?_;(case hd=>rfl);(case hg=>rfl);(case hr=>first|(go_simp;done)|(go_simp;rfl));intro aG hg w11 hbox hb;have aa:=zS (hbox);have aH:=bg HB hg;replace HB:=bs HB hb;clear hb hbox hg)|((with_reducible refine gate_dst (N:=3) rfl ?_);refine box_event ?hg (N:=3) ?hd (cs:=#[.bool ah,.slice an af.length ao,.int .i64 ak]) (t:=29) ?hr ?_;(case hd=>rfl);(case hg=>rfl);(case hr=>first|(go_simp;done)|(go_simp;rfl));intro aI hg w12 hbox hb;have ai:=zS (hbox);have aJ:=bg HB hg;replace HB:=bs HB hb;have ac:=kn aa hg;have ad:=km aa hg;replace aa:=kb aa hb;clear hb hbox hg;have bb:=ac.out;have bc:=ad.out;have bd:=blkc3 aa.out;have be:=blkf3 aa.out;have bf:=blkc3 ai.out;have bh:=blkf3 ai.out)|((with_reducible refine gate_callee (f:=20) rfl ?_);refine gL (some 10) Tryz.func20 #[.slice al ae.length am,.slice an af.length ao] ?_;(with_reducible refine (exergueref01_Row.calls k _ _ ae _ _ af true _ (cb aw HB) ax.out (cb ay HB) az.out A3.out).mono ?_);rintro e w' ⟨rfl,⟨nd,rfl⟩⟩;refine ⟨_,rfl,?_⟩))
 go_ret
 exact ⟨by first|rfl|(simp <;> rfl)|(simp [*] <;> rfl),bl HB⟩
end Go.Proofs.YtklebhlanidloaaGreatDoor.PZ
end
end
section
set_option maxRecDepth 100000
namespace Go.Proofs.YtklebhlanidloaaGreatDoor.PZ
open Go.RowKit Go.Proofs.YtklebhlanidloaaGreatDoorW.PrintWords Go.Proofs.YtklebhlanidloaaGreatDoorW.PrintLast Go.Proofs.YtklebhlanidloaaGreatDoorW.PrintMore
section
attribute [local go_sem] max2_int min2_int max_two min_two max_three min_three max_four min_four
theorem fresh_V (W:World)(L:List Int)(tail:Array Value)(base:Nat)(hb:base≤W.heap.size)(c:Nat)(hc:L.length≤c)(hl:L.length≤maxLen)(P0:Nat→Prop)(hP2:∀ k,base≤k→P0 k) :
    Kd.V (Kd.int .u8) 5 (W.alloc (.cells ((L.map (Value.int .u8)).toArray ++ tail) 5)) base P0 (.slice (some ⟨W.heap.size,0,none⟩) L.length c) L:=by
 refine Kd.V_mk hc ?_
 intro W' hW
 have hg:=hW W.heap.size (hP2 _ hb) (by simp)
 refine Kd.C_of_reads (d:=(0:Int)) (h1:=fun _=>rfl) ⟨rfl,by simp only [maxLen] at hl;omega,fun _=>⟨_,rfl,fun j hj=>?_⟩⟩
 rw [add_plain,World.cell?_of_block (w:=W.alloc (.cells ((L.map (Value.int .u8)).toArray ++ tail) 5)) hg,cell_of_row _ _ _ _ _ _ (heap_alloc_new W _)]
 rw [Array.getElem?_append_left (by simpa using hj)]
 simp [rd,List.getD_eq_getElem?_getD,List.getElem?_eq_getElem hj]
theorem clip_run (t e:TypeId){P:Program}{i:TypeInfo}(ht:P.underlying t=some (.slice e))(hi:P.info? e=some i)(A:Option Addr)(n c:Nat)(hc:n≤c) :
    ∀ W:World,(Instr.slice t (.slice A n c) none (some (.int .i64 n)) (some (.int .i64 n))).run P W = .ok (.slice A n n) W:=by
 intro W
 have hel:P.elem t=e:=by simp [Program.elem,ht]
 have hu:P.underlying t=some (.slice (P.elem t)):=by rw [hel];exact ht
 have ha:(A.map fun x=>x.add 0)=A:=by cases A <;> simp [Addr.add]
 have hn:((n:Int))≤(c:Int):=by omega
 rw [run_slice_any W t A n c hu,hel]
 simp [Instr.sliceBounds,run_sliceBound,hn,sizeOf,typeInfo,hi,sliced,Result.andThen,ha]
theorem zerosByteInfo:(Tryz.prog.info? 5).map (fun i=>(i.zero,i.size,i.bytes))=some (some (.int .u8 0),1,1):=by kernel_rfl
theorem zero_cells (m:Nat):Builtin.zeroCells (Value.int .u8 0).cells m=(List.replicate m (Value.int .u8 0)).toArray:=by
 apply Array.ext
 · simp [Builtin.zeroCells,Value.cells]
 intro j h1 h2
 simp [Builtin.zeroCells,Value.cells,Nat.mod_one]
set_option maxRecDepth 100000 in
theorem clip_zeros_run (P0:Nat→Prop)(A:Option Addr)(l:List Int)(w:World)(hF:Kd.F (Kd.int .u8) w P0 A l.length l)(m:Nat)(hm:l.length+m≤140737488355328)(ty:TypeId) :
    ∃ v' w',(Builtin.append_ #[27,3] ty #[.slice A l.length l.length,.int .i64 m]).run Tryz.prog w = .ok v' w'∧Kd.V (Kd.int .u8) 5 w' w.heap.size (fun k=>P0 k∨w.heap.size≤k) v' (l ++ List.replicate m 0)∧Below w.heap.size w w':=by
 obtain ⟨i,hi,hz,hsz,hby⟩:=info_parts zerosByteInfo
 have ht:=Tryz.underlying27
 have hti:=Tryz.underlying3
 have hw:IntKind.i64.wrap (m:Int)=m:=by rw [IntKind.wrap_i64];omega
 have hw0:IntKind.i64.wrap 0=0:=by rw [IntKind.wrap_i64];rfl
 by_cases h0:m=0
 ·subst h0
  refine ⟨.slice A l.length l.length,w,?_,?_,Below.refl _ _⟩
  · cases A <;> simp [Builtin.append_,run_underlying ht,run_underlying hti,sizeOf,typeInfo,hi,asInt,asIntOf,hw0,storeCells]
  rw [List.replicate_zero,List.append_nil]
  exact Kd.V_mono (Kd.V_mk (Nat.le_refl _) hF) (fun _ hk=>.inl hk)
 have hn:¬ (l.length+m≤l.length):=by omega
 have h63':¬ (9223372036854775807<((l.length:Int)+(m:Int))):=by omega
 have hfit:=growslice_fits (need:=l.length+m) (old:=l.length) (bytes:=1) (by omega) (by omega)
 have h48':¬ (281474976710656<Builtin.nextslicecap (l.length+m) l.length * i.bytes):=by rw [hby];omega
 have hneg:¬ ((m:Int)<0):=by omega
 have hbig:¬ (281474976710656<(m:Int) * (i.bytes:Int)):=by rw [hby];omega
 have hmz:¬ (m * i.size=0):=by rw [hsz];omega
 have hfo:(Builtin.firstCells i.size l.length (.slice A l.length l.length)).run Tryz.prog w.drew = .ok ((l.map (Value.int .u8)).toArray) w.drew:=by
  cases A with
  | none=>
   have:l=[]:=by
    cases l with
    | nil=>rfl
    | cons x l=>obtain ⟨ad,he,_⟩:=Kd.at_int (Kd.F_now hF) 0 (by omega) (by simp);cases he
   subst this
   exact run_firstCells_none _ _ _ _ _
  | some a=>
   refine run_firstCells_some w.drew i.size l.length a l.length l.length _ (by rw [hsz,List.length_map,Nat.mul_one]) ?_
   intro j u hu
   have hj:j<l.length:=by have:=(List.getElem?_eq_some_iff.1 hu).1;simpa using this
   obtain ⟨ad,he,hcell⟩:=Kd.at_int (Kd.F_now hF) (j:Int) (by omega) (by omega)
   cases he
   simp only [Int.toNat_natCast] at hcell
   rw [World.cell?_drew,hcell]
   rw [List.getElem?_map,List.getElem?_eq_getElem hj] at hu
   simp [rd,List.getD_eq_getElem?_getD,List.getElem?_eq_getElem hj]
   simpa using hu
 refine ⟨.slice (some ⟨w.heap.size,0,none⟩) (l.length+m) (grownCap w (l.length+m) l.length 5),w.drew.alloc (.cells (((l ++ List.replicate m 0).map (Value.int .u8)).toArray ++ Builtin.zeroCells (Value.int .u8 0).cells (grownCap w (l.length+m) l.length 5 - (l.length+m))) 5),?_,?_,?_⟩
 ·simp [Builtin.append_,run_underlying ht,run_underlying hti,sizeOf,typeInfo,zeroValue,hi,hz,asInt,asIntOf,hw,hneg,hbig,hn,h63',h48',Question.forced,hfo,newRow,grownCap,hmz,zero_cells]
  congr 2
  apply Array.ext'
  simp only [Array.toList_append,Array.toList_replicate,List.toList_toArray,List.append_assoc,List.append_cancel_left_eq]
  exact List.replicate_append_replicate.symm
 ·have:=fresh_V w.drew (l ++ List.replicate m 0) (Builtin.zeroCells (Value.int .u8 0).cells (grownCap w (l.length+m) l.length 5 - (l.length+m))) w.heap.size (by simp) (grownCap w (l.length+m) l.length 5) (by simp only [List.length_append,List.length_replicate];exact grownCap_ge _ _ _ _) (by simp only [List.length_append,List.length_replicate,maxLen];omega) (fun k=>P0 k∨w.heap.size≤k) (fun k hk=>.inr hk)
  simpa using this
 exact (pw_below_drewN (Below.refl _ w) 1).alloc (by simp) _
theorem wpList_append_runs {P:Program}{ops:Array Oper}{rest:List Oper}{o:Oper}{a:Act}{Q:Exit→Act→World→Prop}{W w':World}(hgd:o.guard=none)(s x:Operand)(t ti:TypeId)(v y v':Value)
    (ho:o.op = .call { callee:=.builtin .append,args:=#[s,x],argTypes:=#[t,ti] }) (hs:a.eval s=v) (hx:a.eval x=y)
    (hr:(Builtin.append_ #[t,ti] o.type #[v,y]).run P W = .ok v' w') (h:wpList P ops Q rest (a.put o.dst v') w'):wpList P ops Q (o :: rest) a W:=by
 refine wpList_plain hgd fun K hK=>?_
 unfold Oper.wp execOp
 simp only [ho,resolve,invoke,builtin,Sem.run_bind,Sem.run_pure,Result.andThen_ok,List.map_toArray,List.map_cons,List.map_nil,hs,hx,hr]
 exact hK _ _ h
theorem Clip_calls (A0:Option Addr)(n c0:Nat)(hc0:n≤c0)(hn:n≤140737488355328)(w:World) :
    Calls Tryz.prog 134 #[.slice A0 n c0] w fun e w'=>e = .returned (.slice A0 n n)∧w'=w:=by
 obtain ⟨i0,hi0,_,hsz,_⟩:=info_parts zerosByteInfo
 have hcut:=clip_run (P:=Tryz.prog) 27 5 Tryz.underlying27 hi0 A0 n c0 hc0
 clear hi0 hsz hc0
 go_enter Tryz.func134,Tryz.ntmps134
 go_wp2
 go_ret
 exact ⟨rfl,rfl⟩
def round_zeros.f (l:List Int)(n:Int):Option (List Int):=if (l.length:Int)+n≤140737488355328∧l.length≤140737488355328 then some (l ++ List.replicate n.toNat 0) else none
theorem round_zeros.calls (P0_:Nat→Prop)(A0:Option Addr)(c0:Nat)(l0:List Int)(a1:Int)(r:List Int)(w:World)(hs0:Kd.V (Kd.int .u8) 5 w w.heap.size (fun k_=>P0_ k_) (.slice A0 l0.length c0) l0)(h:round_zeros.f l0 a1=some r) :
    Calls Tryz.prog 118 #[.slice A0 l0.length c0,.int .i64 a1] w fun e w'=>∃ v0_:Value,e = .returned (v0_)∧Kd.V (Kd.int .u8) 5 w' w.heap.size (fun k_=>(P0_ k_∨w.heap.size≤k_)) v0_ r∧Below w.heap.size w w':=by
 unfold round_zeros.f at h
 by_cases hb:(l0.length:Int)+a1≤140737488355328∧l0.length≤140737488355328
 rotate_left
 ·rw [if_neg hb] at h
  cases h
 rw [if_pos hb] at h
 obtain rfl:=zE h
 clear h
 obtain ⟨_,hc,hF⟩:=Kd.V_at hs0
 have hcl:=Clip_calls A0 l0.length c0 hc hb.2 w
 obtain ⟨m,hm⟩:∃ m:Nat,m=a1.toNat:=⟨_,rfl⟩
 have hmx:(if a1<0 then (0:Int) else a1)=(m:Int):=by split <;> omega
 have hrun:=fun ty=>clip_zeros_run P0_ A0 l0 w hF m (by omega) ty
 rw [← hm]
 clear hs0 hb hF hc hm
 obtain ⟨v',w',hr,hV,hB⟩:=hrun 27
 have HV:=zA hV
 have HB:=zA hB
 clear hrun hV hB
 go_enter Tryz.func118,Tryz.ntmps118
 go_wp2_with (first|(go_at_call 134;refine hcl.mono ?_;rintro e w1 ⟨rfl,rfl⟩)|(at_builtin;refine wpList_append_runs rfl (.tmp 6) (.tmp 8) 27 3 _ _ _ rfl rfl rfl hr ?_))
 go_ret
 exact ⟨_,rfl,HV.out,HB.out⟩
end
end Go.Proofs.YtklebhlanidloaaGreatDoor.PZ
end
section
noncomputable section
namespace Go.Proofs.YtklebhlanidloaaGreatDoor.PZ
open Go.RowKit Go.Proofs.YtklebhlanidloaaGreatDoorW.PrintWords Go.Proofs.YtklebhlanidloaaGreatDoorW.PrintLast Go.Proofs.YtklebhlanidloaaGreatDoorW.PrintMore
attribute [local go_sem] max2_int min2_int max_two min_two max_three min_three max_four min_four   -- for this text's walks alone
def round_compared.f (k:Nat)(l0:List Int)(l1:List Int):Option (Int):=(round_bare.f k l0).bind fun aa=>((round_bare.f k l1).bind fun ab=>(if (aa.length:Int)=(ab.length:Int) then ((bytes_Compare.f aa ab).bind fun ae=>(some ae)) else (some (wrap64 ((aa.length:Int) - (ab.length:Int))))))
theorem round_compared.mono:∀ a0 a1 k,LeO (round_compared.f k a0 a1) (round_compared.f (k+1) a0 a1):=by
 intro a0 a1 k
 unfold round_compared.f
 repeat' first|(with_reducible first|apply round_bare.mono|apply LeO.refl|apply LeO.none|refine LeO.ite ?_ ?_|refine LeO.bind ?_ (fun _=>?_))|apply round_bare.mono|apply LeO.none
set_option maxHeartbeats 8000000 in
set_option maxRecDepth 100000 in
theorem round_compared.calls (k:Nat)(A0:Option Addr)(c0:Nat)(l0:List Int)(A1:Option Addr)(c1:Nat)(l1:List Int)(r:Int)(w:World)(hr0:Kd.C (Kd.int .u8) w A0 l0.length l0)(hc0:l0.length≤c0)(hr1:Kd.C (Kd.int .u8) w A1 l1.length l1)(hc1:l1.length≤c1)(h:round_compared.f k l0 l1=some r) :
  Calls Tryz.prog 121 #[.slice A0 l0.length c0,.slice A1 l1.length c1] w fun e w'=>e = .returned (.int .i64 r)∧Below w.heap.size w w':=by
 have HR0:=zS hr0
 have HC0:=zS hc0
 clear hr0 hc0
 have HR1:=zS hr1
 have HC1:=zS hc1
 clear hr1 hc1
 have HB:=zS (Below.refl w.heap.size w)
 have H:((round_bare.f k l0).bind fun aa=>((round_bare.f k l1).bind fun ab=>(if (aa.length:Int)=(ab.length:Int) then ((bytes_Compare.f aa ab).bind fun ae=>(some ae)) else (some (wrap64 ((aa.length:Int) - (ab.length:Int)))))))=some r:=h
 clear h
 replace H:=Option.bind_eq_some_iff.mp H
 obtain ⟨aa,A30,H⟩:=H
 try dsimp only at H
 have A3:=zS A30
 clear A30
 replace H:=Option.bind_eq_some_iff.mp H
 obtain ⟨ab,A40,H⟩:=H
 try dsimp only at H
 have A4:=zS A40
 clear A40
 by_cases c5:(aa.length:Int)=(ab.length:Int)
 ·rw [if_pos c5] at H
  have af:((aa.length:Int) == (ab.length:Int))=true:=zH c5
  have ag:((aa.length:Int) != (ab.length:Int))=false:=zG c5
  have ah:(aa.length == ab.length)=true:=by first|simpa using c5|(simp at c5 ⊢;omega)
  clear c5
  replace H:=Option.bind_eq_some_iff.mp H
  obtain ⟨ae,A60,H⟩:=H
  try dsimp only at H
  have A6:=zS A60
  clear A60
  obtain rfl:=zE H
  go_enter Tryz.func121,Tryz.ntmps121
  go_wp2_with (first|((with_reducible refine gate_callee (f:=120) rfl ?_);refine gL (some 6) Tryz.func120 #[.slice A0 l0.length c0] ?_;(with_reducible refine (round_bare.calls k (fun k_=>k_<w.heap.size) _ _ l0 aa _ ?side1 A3.out).mono ?_);(case side1=>exact Kd.V_mk HC0.out (Kd.F_below (Kd.C_F (Kd.heap_int .u8) HR0.out) (bl HB)));rintro e w7 ⟨ai,rfl,ho0,hb⟩;refine ⟨_,rfl,?_⟩;have ac:=zS (Kd.V_lower (Kd.V_mono (ok':=fun k_=>True) ho0 (fun k_ hk_=>trivial)) (bz HB));replace HB:=bs HB hb;(try clear hb);(try clear ho0))|((with_reducible refine gate_callee (f:=120) rfl ?_);refine gL (some 8) Tryz.func120 #[.slice A1 l1.length c1] ?_;(with_reducible refine (round_bare.calls k (fun k_=>k_<w.heap.size) _ _ l1 ab _ ?side1 A4.out).mono ?_);(case side1=>exact Kd.V_mk HC1.out (Kd.F_below (Kd.C_F (Kd.heap_int .u8) HR1.out) (bl HB)));rintro e w8 ⟨aj,rfl,ho0,hb⟩;refine ⟨_,rfl,?_⟩;replace ac:=vb ac hb;have ad:=zS (Kd.V_lower (Kd.V_mono (ok':=fun k_=>True) ho0 (fun k_ hk_=>trivial)) (bz HB));replace HB:=bs HB hb;(try clear hb);(try clear hb2);(try clear hk);(try clear hi);(try clear ho0);obtain ⟨Ao9,co9,eo9⟩:=Kd.V_slice ac.out;subst eo9;obtain ⟨ak,al,am⟩:=Kd.V_slice ad.out;subst am)|((with_reducible refine gate_callee (f:=135) rfl ?_);refine gL (some 21) Tryz.func135 #[.slice Ao9 aa.length co9,.slice ak ab.length al] ?_;(with_reducible refine (bytes_Compare.calls _ _ aa _ _ ab ae _ (vc ac) (vl ac) (vc ad) (vl ad) A6.out).mono ?_);rintro e w' ⟨rfl,⟨nd,rfl⟩⟩;refine ⟨_,rfl,?_⟩))
  go_ret
  exact ⟨by first|rfl|(simp <;> rfl)|(simp [*] <;> rfl),bl HB⟩
 rw [if_neg c5] at H
 have af:((aa.length:Int) == (ab.length:Int))=false:=zF c5
 have ag:((aa.length:Int) != (ab.length:Int))=true:=zI c5
 have ah:(aa.length == ab.length)=false:=by first|simpa using c5|(simp at c5 ⊢;omega)
 obtain rfl:=zE H
 go_enter Tryz.func121,Tryz.ntmps121
 go_wp2_with (first|((with_reducible refine gate_callee (f:=120) rfl ?_);refine gL (some 6) Tryz.func120 #[.slice A0 l0.length c0] ?_;(with_reducible refine (round_bare.calls k (fun k_=>k_<w.heap.size) _ _ l0 aa _ ?side1 A3.out).mono ?_);(case side1=>exact Kd.V_mk HC0.out (Kd.F_below (Kd.C_F (Kd.heap_int .u8) HR0.out) (bl HB)));rintro e w11 ⟨ai,rfl,ho0,hb⟩;refine ⟨_,rfl,?_⟩;have ac:=zS (Kd.V_lower (Kd.V_mono (ok':=fun k_=>True) ho0 (fun k_ hk_=>trivial)) (bz HB));replace HB:=bs HB hb;(try clear hb);(try clear ho0))|((with_reducible refine gate_callee (f:=120) rfl ?_);refine gL (some 8) Tryz.func120 #[.slice A1 l1.length c1] ?_;(with_reducible refine (round_bare.calls k (fun k_=>k_<w.heap.size) _ _ l1 ab _ ?side1 A4.out).mono ?_);(case side1=>exact Kd.V_mk HC1.out (Kd.F_below (Kd.C_F (Kd.heap_int .u8) HR1.out) (bl HB)));rintro e w12 ⟨aj,rfl,ho0,hb⟩;refine ⟨_,rfl,?_⟩;replace ac:=vb ac hb;have ad:=zS (Kd.V_lower (Kd.V_mono (ok':=fun k_=>True) ho0 (fun k_ hk_=>trivial)) (bz HB));replace HB:=bs HB hb;(try clear hb);(try clear hb2);(try clear hk);(try clear hi);(try clear ho0);obtain ⟨ap,aq,an⟩:=Kd.V_slice ac.out;subst an;obtain ⟨ar,au,ao⟩:=Kd.V_slice ad.out;subst ao))
 go_ret
 exact ⟨by first|rfl|(simp <;> rfl)|(simp [*] <;> rfl),bl HB⟩
end Go.Proofs.YtklebhlanidloaaGreatDoor.PZ
end
end
section
set_option maxRecDepth 100000
namespace Go.Proofs.YtklebhlanidloaaGreatDoor.PZ
open Go.RowKit Go.Shelf Go.Proofs.YtklebhlanidloaaGreatDoorW.PrintWords Go.Proofs.YtklebhlanidloaaGreatDoorW.PrintLast
section
attribute [local go_sem] Oper.semAt_some
def backK (zs:List Int)(k:Nat):List (Int×Int):=(List.range k).map fun j:Nat=>(((zs.length:Int) - 1 - j),rd zs ((zs.length:Int) - 1 - j))
theorem backK_succ (zs:List Int)(k:Nat):backK zs (k+1)=backK zs k ++ [(((zs.length:Int) - 1 - k),rd zs ((zs.length:Int) - 1 - k))]:=by simp [backK,List.range_succ]
theorem backK_length (zs:List Int)(k:Nat):(backK zs k).length=k:=by simp [backK]
def BackKp (n₀ Bs:Nat)(A B:World):Prop:=Below n₀ A B∧B.cell? ⟨Bs,0,none⟩=A.cell? ⟨Bs,0,none⟩
set_option maxRecDepth 100000 in
set_option maxHeartbeats 2000000 in
theorem backward1_in (F:Fence)(n:Nat)(hf:F.fn 138)(hro:F.round=none)(hn:1≤n)(l Bs n₀:Nat)(A:Option Addr)(cap:Nat)(zs:List Int)(hlen:zs.length≤140737488351232)(J Jx:List (Int×Int)→World→Prop)
    (hY:∀ pre x W,J pre W→pre.length<zs.length→YieldAt F (n - 1) Tryz.prog l #[.int .i64 x.1,.int .u8 x.2] W fun e W'=>
      (e = .returned (.bool true)∧J (pre ++ [x]) W'∧BackKp n₀ Bs W W')∨(e = .returned (.bool false)∧Jx (pre ++ [x]) W'))
    (W:World) (hBs:W.cell? ⟨Bs,0,none⟩=some (.slice A zs.length cap)) (hc:∀ W',Below n₀ W W'→Kd.C (Kd.int .u8) W' A zs.length zs) (h0:J [] W) :
    CallsIn F n Tryz.prog 138 #[.func (.yield l) #[] #[],.pointer (some ⟨Bs,0,none⟩)] W fun e W'=>(∃ v,e = .returned v) ∧
      ((∃ ys,ys=backK zs zs.length∧J ys W')∨(∃ pre,(∃ k,k≤zs.length∧pre=backK zs k)∧Jx pre W')):=by
 refine callsIn_of_wp Tryz.func138 rfl hf ?_ hro
 simp only [Tryz.ntmps138,List.size_toArray,List.length_cons,List.length_nil,Nat.reduceAdd,Nat.reduceSub,Array.replicate_succ,Array.replicate_zero,List.push_toArray,List.append_toArray,List.nil_append,List.cons_append]
 gi_wp2
 gi_loopw [3] (fun i wr=>∃ k:Nat,k≤zs.length∧i = .int .i64 ((zs.length:Int) - 1 - k)∧J (backK zs k) wr∧BackKp n₀ Bs W wr)
  (fun i _=>(intOf i+1).toNat)
 case atStart=>exact ⟨0,Nat.zero_le _,by go_num,h0,Below.refl _ _,rfl⟩
 case round=>
  obtain ⟨k,hk,rfl,hJs,hnx⟩:=hrel
  by_cases hlt:k<zs.length
  ·obtain ⟨fn,tmps,assign,body,hy,hR⟩:=hY _ (((zs.length:Int) - 1 - k),rd zs ((zs.length:Int) - 1 - k)) wr hJs (by rw [backK_length];exact hlt)
   dsimp only at hy
   obtain ⟨ad,e1,hcell⟩:=Kd.at_int (hc wr hnx.1) ((zs.length:Int) - 1 - k) (by omega) (by omega)
   cases e1
   have hbx:=hnx.2.trans hBs
   rw [show ((zs.length:Int) - 1 - k).toNat=zs.length - 1 - k by omega] at hcell
   have hge:decide ((k:Int)≤(zs.length:Int) - 1)=true:=zC (by omega)
   gi_wp2
   refine hR.mono ?_
   rintro e W3 (⟨rfl,hJ3,hk3⟩|⟨rfl,hJx3⟩)
   ·gi_wp2
    go_roundw
    case rel=>exact ⟨k+1,by omega,by go_num,by rw [backK_succ];exact hJ3,hnx.1.trans hk3.1,hk3.2.trans hnx.2⟩
    case measure=>simp [intOf];omega
   gi_wp2
   refine bodyPost_ret (results_none rfl _ _ _) rfl ?_
   exact ⟨⟨_,rfl⟩,.inr ⟨_,⟨k+1,by omega,(backK_succ _ _).symm⟩,hJx3⟩⟩
  have hge:decide ((k:Int)≤(zs.length:Int) - 1)=false:=zD (by omega)
  obtain rfl:k=zs.length:=by omega
  gi_wp2
  go_end0
  exact ⟨⟨_,rfl⟩,.inl ⟨_,rfl,hJs⟩⟩
theorem backward_stops (F:Fence)(n:Nat)(hf:F.fn 138)(hro:F.round=none)(hn:1≤n)(Bs n₀:Nat)(A:Option Addr)(cap:Nat)(zs:List Int)(hlen:zs.length≤140737488351232)(w:World)(hBs:Bs<w.heap.size)(hn₀:n₀≤w.heap.size)
    (hb:w.cell? ⟨Bs,0,none⟩=some (.slice A zs.length cap)) (hC:∀ W',Below n₀ w W'→Kd.C (Kd.int .u8) W' A zs.length zs) :
    SeqStopsK F n Tryz.prog 138 #[.pointer (some ⟨Bs,0,none⟩)] (fun x:Int×Int=>#[Value.int .i64 x.1,Value.int .u8 x.2]) (BackKp n₀ Bs) (fun ys=>ys=backK zs zs.length) (fun pre=>∃ k,k≤zs.length∧pre=backK zs k) zs.length w:=
  fun l J Jx W hW _ _ hY h0=>backward1_in F n hf hro hn l Bs n₀ A cap zs hlen J Jx hY W ((hW.cell (p:=⟨Bs,0,none⟩) hBs).trans hb) (fun W' h=>hC W' ((hW.mono hn₀).trans h)) h0
theorem backKp_t {n₀ Bs:Nat}{A B C:World}(h:BackKp n₀ Bs A B)(k:BackKp n₀ Bs B C):BackKp n₀ Bs A C:=⟨h.1.trans k.1,k.2.trans h.2⟩
theorem backKp_b {n₀ Bs:Nat}{w:World}(hn:n₀≤w.heap.size)(hB:Bs<w.heap.size)(W:World)(l:Nat)(o o':Obj)(hl:w.heap.size≤l)(h:W.heap[l]?=some o)(h1:o.isCells=false)(h2:o.isWalk=false):BackKp n₀ Bs W (W.putObj l o'):=by
 have hlt:l<W.heap.size:=(Array.getElem?_eq_some_iff.1 h).1
 have:=(grownBy_putObj' W l o').block Bs (by omega) (by intro e;cases e;omega)
 exact ⟨belowK_b hn W l o o' hl h h1 h2,by simp only [World.cell?,this]⟩
theorem backward_in (F:Fence)(n:Nat)(hf:F.fn 125)(hro:F.round=none)(a:Option Addr)(len cap:Nat)(w:World) :
    CallsIn F n Tryz.prog 125 #[.slice a len cap] w fun e w'=>e = .returned (.func (.func 138) #[] #[.pointer (some ⟨w.heap.size,0,none⟩)])∧w'=w.alloc (.cells #[.slice a len cap] 27):=by
 refine callsIn_of_wp Tryz.func125 rfl hf ?_ hro
 simp only [Tryz.ntmps125,List.size_toArray,List.length_cons,List.length_nil,Nat.reduceAdd,Nat.reduceSub,Array.replicate_succ,Array.replicate_zero,List.push_toArray,List.append_toArray,List.nil_append,List.cons_append]
 gi_wp2
 go_ret
 exact ⟨rfl,rfl⟩
end
end Go.Proofs.YtklebhlanidloaaGreatDoor.PZ
end
