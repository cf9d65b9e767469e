/- Texts of this seat, joined. Conditions: none beyond each statement's own. -/
import Derived.Test.YtgfajgkjbckkgaaGreatDoorPb07
import Derived.Test.YtgfajgkjbckkgaaGreatDoorPb06
set_option linter.all false
section
noncomputable section
namespace Go.Proofs.YtgfajgkjbckkgaaGreatDoor.PZ
open Go.RowKit Go.Proofs.YtgfajgkjbckkgaaGreatDoorW.PrintWords Go.Proofs.YtgfajgkjbckkgaaGreatDoorW.PrintLast Go.Proofs.YtgfajgkjbckkgaaGreatDoorW.PrintMore
attribute [local go_sem] max2_int min2_int max_two min_two max_three min_three max_four min_four   -- for this text's walks alone
def exergueref07_Operand.f (k:Nat)(ag:List Int)(ae:List Int)(af:Int)(ah:Int)(a1:Int):Option (List Int×Bool):=if a1=110 then (if af>0 then (some (([]:List Int),false)) else (some (ag,true))) else (if a1=105 then (some (ag,true)) else (if a1=118 then ((exergueref07_number.f k (ae.length:Int)).bind fun au=>(some (au,true))) else (if a1=119 then ((exergueref07_number.f k af).bind fun av=>(some (av,true))) else (if a1=102 then ((exergueref07_Bare.f k ae).bind fun aw=>(some (aw,true))) else (if a1=116 then (if 0≤af then (if af≤(ae.length:Int) then ((exergueref07_Bare.f k (ae.take (af:Int).toNat)).bind fun aq=>(some (aq,true))) else (none)) else (none)) else (if a1=99 then ((exergueref07_number.f k ah).bind fun ax=>(some (ax,true))) else (if a1=101 then ((exergueref07_number.f k ah).bind fun ay=>(some (ay,true))) else (some (([]:List Int),false)))))))))
theorem exergueref07_Operand.mono:∀ a0 a1 a2 a3 a4 k,LeO (exergueref07_Operand.f k a0 a1 a2 a3 a4) (exergueref07_Operand.f (k+1) a0 a1 a2 a3 a4):=by
 intro a0 a1 a2 a3 a4 k
 unfold exergueref07_Operand.f
 repeat' first|(with_reducible first|apply exergueref07_Bare.mono|apply exergueref07_number.mono|apply LeO.refl|apply LeO.none|refine LeO.ite ?_ ?_|refine LeO.bind ?_ (fun _=>?_))|apply exergueref07_Bare.mono|apply exergueref07_number.mono|apply LeO.none
set_option maxHeartbeats 8000000 in
set_option maxRecDepth 100000 in
theorem exergueref07_Operand.calls (k:Nat)(an:Nat→Prop)(al:Option Addr)(am:Nat)(ag:List Int)(ao:Nat→Prop)(aj:Option Addr)(ai:Nat)(ae:List Int)(af:Int)(ah:Int)(a1:Int)(r1:List Int)(r2:Bool)(w:World)(aD:Kd.V (Kd.int .u8) 5 w w.heap.size (fun k_=>an k_) (.slice al ag.length am) ag)(aE:Kd.V (Kd.int .u8) 5 w w.heap.size (fun k_=>ao k_) (.slice aj ae.length ai) ae)(h:exergueref07_Operand.f k ag ae af ah a1=some (r1,r2)) :
  Calls Tryz.prog 40 #[.agg #[.slice al ag.length am,.slice aj ae.length ai,.int .i64 af,.int .i64 ah],.int .u8 a1] w fun e w'=>∃ v0_:Value,e = .returned (.tuple #[v0_,.bool r2])∧Kd.V (Kd.int .u8) 5 w' w.heap.size (fun k_=>((an k_∨ao k_)∨w.heap.size≤k_)) v0_ r1∧Below w.heap.size w w':=by
 have hu36:=Tryz.underlying36
 have ac:=zS (show Kd.V (Kd.int .u8) 5 w w.heap.size (fun k_=>((an k_∨ao k_)∨w.heap.size≤k_)) (.slice al ag.length am) ag from Kd.V_mono aD (fun k_ hk=>.inl (.inl hk)))
 have ab:=zS (show Kd.V (Kd.int .u8) 5 w w.heap.size (fun k_=>((an k_∨ao k_)∨w.heap.size≤k_)) (.slice aj ae.length ai) ae from Kd.V_mono aE (fun k_ hk=>.inl (.inr hk)))
 have HB:=zS (Below.refl w.heap.size w)
 have H:(if a1=110 then (if af>0 then (some (([]:List Int),false)) else (some (ag,true))) else (if a1=105 then (some (ag,true)) else (if a1=118 then ((exergueref07_number.f k (ae.length:Int)).bind fun au=>(some (au,true))) else (if a1=119 then ((exergueref07_number.f k af).bind fun av=>(some (av,true))) else (if a1=102 then ((exergueref07_Bare.f k ae).bind fun aw=>(some (aw,true))) else (if a1=116 then (if 0≤af then (if af≤(ae.length:Int) then ((exergueref07_Bare.f k (ae.take (af:Int).toNat)).bind fun aq=>(some (aq,true))) else (none)) else (none)) else (if a1=99 then ((exergueref07_number.f k ah).bind fun ax=>(some (ax,true))) else (if a1=101 then ((exergueref07_number.f k ah).bind fun ay=>(some (ay,true))) else (some (([]:List Int),false))))))))))=some (r1,r2):=h
 clear h
 by_cases c3:a1=110
 ·rw [if_pos c3] at H
  have a8:(a1 == 110)=true:=zH c3
  have a9:(a1 != 110)=false:=zG c3
  clear c3
  by_cases c4:af>0
  ·rw [if_pos c4] at H
   have ba:decide (0<af)=true:=zC c4
   clear c4
   simp only [Option.some.injEq,Prod.mk.injEq] at H
   obtain ⟨rfl,rfl⟩:=H
   go_enter Tryz.func40,Tryz.ntmps40
   go_wp2_with (first|((with_reducible refine gate_dst (N:=2) rfl ?_);refine box_event ?hg (N:=2) ?hd (cs:=#[.slice al ag.length am,.slice aj ae.length ai,.int .i64 af,.int .i64 ah]) (t:=36) ?hr ?_;(case hd=>rfl);(case hg=>rfl);(case hr=>first|(go_simp;done)|(go_simp;rfl));intro ad hg w5 hbox hb;replace ac:=zS (Kd.V_below (Kd.V_elderB (vo ac) ad (Nat.le_of_eq hg.symm)) hb);replace ab:=zS (Kd.V_below (Kd.V_elderB (vo ab) ad (Nat.le_of_eq hg.symm)) hb);have aa:=zS (hbox);have ak:=bg HB hg;replace HB:=bs HB hb;clear hb hbox hg;have bC:=blkc4 aa.out;have bD:=blkf4 aa.out))
   go_ret2
   exact ⟨_,by first|rfl|(simp <;> rfl)|(simp [*] <;> rfl),(by first|exact Kd.V_nil _ _ _ _ _|exact (Kd.V_mono (Kd.R_V (by first|exact Kd.R_nil _ _ _ _ _|exact Kd.R_nil _ _ _ 0 _|exact Kd.N_nil _ _ _ _ _|exact Kd.V_nil _ _ _ _ _|exact Kd.Q_nil _ _ _ _ _|exact Kd.S_nil _ _ _ _ _)) (fun k_ hk=>by first|exact ⟨(.inr (hk.1)),hk.2⟩|exact (.inr (hk))))),bQ HB⟩
  rw [if_neg c4] at H
  have ba:decide (0<af)=false:=zD c4
  clear c4
  simp only [Option.some.injEq,Prod.mk.injEq] at H
  obtain ⟨rfl,rfl⟩:=H
  go_enter Tryz.func40,Tryz.ntmps40
  go_wp2_with (first|((with_reducible refine gate_dst (N:=2) rfl ?_);refine box_event ?hg (N:=2) ?hd (cs:=#[.slice al ag.length am,.slice aj ae.length ai,.int .i64 af,.int .i64 ah]) (t:=36) ?hr ?_;(case hd=>rfl);(case hg=>rfl);(case hr=>first|(go_simp;done)|(go_simp;rfl));intro ad hg w7 hbox hb;replace ac:=zS (Kd.V_below (Kd.V_elderB (vo ac) ad (Nat.le_of_eq hg.symm)) hb);replace ab:=zS (Kd.V_below (Kd.V_elderB (vo ab) ad (Nat.le_of_eq hg.symm)) hb);have aa:=zS (hbox);have ak:=bg HB hg;replace HB:=bs HB hb;clear hb hbox hg;have bE:=blkc4 aa.out;have bF:=blkf4 aa.out))
  go_ret2
  exact ⟨_,by first|rfl|(simp <;> rfl)|(simp [*] <;> rfl),by (with_reducible repeat (first|apply Kd.V_alloc|apply Kd.V_drewN|apply Kd.V_drew));exact Kd.V_mono ac.out (fun _ hk=>hk.1),bQ HB⟩
 rw [if_neg c3] at H
 have a8:(a1 == 110)=false:=zF c3
 have a9:(a1 != 110)=true:=zI c3
 by_cases c9:a1=105
 ·rw [if_pos c9] at H
  have bb:(a1 == 105)=true:=zH c9
  have bc:(a1 != 105)=false:=zG c9
  clear c9
  simp only [Option.some.injEq,Prod.mk.injEq] at H
  obtain ⟨rfl,rfl⟩:=H
  go_enter Tryz.func40,Tryz.ntmps40
  go_wp2_with (first|((with_reducible refine gate_dst (N:=2) rfl ?_);refine box_event ?hg (N:=2) ?hd (cs:=#[.slice al ag.length am,.slice aj ae.length ai,.int .i64 af,.int .i64 ah]) (t:=36) ?hr ?_;(case hd=>rfl);(case hg=>rfl);(case hr=>first|(go_simp;done)|(go_simp;rfl));intro ad hg w10 hbox hb;replace ac:=zS (Kd.V_below (Kd.V_elderB (vo ac) ad (Nat.le_of_eq hg.symm)) hb);replace ab:=zS (Kd.V_below (Kd.V_elderB (vo ab) ad (Nat.le_of_eq hg.symm)) hb);have aa:=zS (hbox);have ak:=bg HB hg;replace HB:=bs HB hb;clear hb hbox hg;have bd:=blkc4 aa.out;have be:=blkf4 aa.out))
  go_ret2
  exact ⟨_,by first|rfl|(simp <;> rfl)|(simp [*] <;> rfl),by (with_reducible repeat (first|apply Kd.V_alloc|apply Kd.V_drewN|apply Kd.V_drew));exact Kd.V_mono ac.out (fun _ hk=>hk.1),bQ HB⟩
 rw [if_neg c9] at H
 have bb:(a1 == 105)=false:=zF c9
 have bc:(a1 != 105)=true:=zI c9
 by_cases c12:a1=118
 ·rw [if_pos c12] at H
  have aF:(a1 == 118)=true:=zH c12
  have aG:(a1 != 118)=false:=zG c12
  clear c12
  replace H:=Option.bind_eq_some_iff.mp H
  obtain ⟨au,aH,H⟩:=H
  try dsimp only at H
  have A13:=zS aH
  clear aH
  simp only [Option.some.injEq,Prod.mk.injEq] at H
  obtain ⟨rfl,rfl⟩:=H
  go_enter Tryz.func40,Tryz.ntmps40
  go_wp2_with (first|((with_reducible refine gate_dst (N:=2) rfl ?_);refine box_event ?hg (N:=2) ?hd (cs:=#[.slice al ag.length am,.slice aj ae.length ai,.int .i64 af,.int .i64 ah]) (t:=36) ?hr ?_;(case hd=>rfl);(case hg=>rfl);(case hr=>first|(go_simp;done)|(go_simp;rfl));intro ad hg w14 hbox hb;replace ac:=zS (Kd.V_below (Kd.V_elderB (vo ac) ad (Nat.le_of_eq hg.symm)) hb);replace ab:=zS (Kd.V_below (Kd.V_elderB (vo ab) ad (Nat.le_of_eq hg.symm)) hb);have aa:=zS (hbox);have ak:=bg HB hg;replace HB:=bs HB hb;clear hb hbox hg;have bf:=blkc4 aa.out;have bh:=blkf4 aa.out)|((with_reducible refine gate_callee (f:=68) rfl ?_);refine gL (some 23) Tryz.func68 #[.int .i64 (ae.length:Int)] ?_;(with_reducible refine (exergueref07_number.calls k (ae.length:Int) au _ A13.out).mono ?_);rintro e w16 ⟨bG,rfl,ho0,hb⟩;refine ⟨_,rfl,?_⟩;replace ac:=zS (Kd.V_elder' (vo ac) (Kd.R_base ho0) hb);replace ab:=zS (Kd.V_elder' (vo ab) (Kd.R_base ho0) hb);have aI:=zS (Kd.R_lower (Kd.R_newM (M:=fun k_=>(w.heap.size≤k_)) ho0 (bz HB) (fun k_ h_=>h_)) (bz HB));replace aa:=kb aa hb;replace HB:=bs HB hb;(try clear hb);(try clear ho0)))
  go_ret2
  exact ⟨_,by first|rfl|(simp <;> rfl)|(simp [*] <;> rfl),Kd.V_mono (Kd.R_V (by (with_reducible repeat (first|apply Kd.R_alloc|apply Kd.R_drewN|apply Kd.R_drew));exact Kd.R_mono aI.out (fun _ hk=>hk.1))) (fun k_ hk=>by first|exact ⟨(.inr (hk.1)),hk.2⟩|exact (.inr (hk))),bQ HB⟩
 rw [if_neg c12] at H
 have aF:(a1 == 118)=false:=zF c12
 have aG:(a1 != 118)=true:=zI c12
 by_cases c17:a1=119
 ·rw [if_pos c17] at H
  have aJ:(a1 == 119)=true:=zH c17
  have aK:(a1 != 119)=false:=zG c17
  clear c17
  replace H:=Option.bind_eq_some_iff.mp H
  obtain ⟨av,aL,H⟩:=H
  try dsimp only at H
  have A18:=zS aL
  clear aL
  simp only [Option.some.injEq,Prod.mk.injEq] at H
  obtain ⟨rfl,rfl⟩:=H
  go_enter Tryz.func40,Tryz.ntmps40
  go_wp2_with (first|((with_reducible refine gate_dst (N:=2) rfl ?_);refine box_event ?hg (N:=2) ?hd (cs:=#[.slice al ag.length am,.slice aj ae.length ai,.int .i64 af,.int .i64 ah]) (t:=36) ?hr ?_;(case hd=>rfl);(case hg=>rfl);(case hr=>first|(go_simp;done)|(go_simp;rfl));intro ad hg w19 hbox hb;replace ac:=zS (Kd.V_below (Kd.V_elderB (vo ac) ad (Nat.le_of_eq hg.symm)) hb);replace ab:=zS (Kd.V_below (Kd.V_elderB (vo ab) ad (Nat.le_of_eq hg.symm)) hb);have aa:=zS (hbox);have ak:=bg HB hg;replace HB:=bs HB hb;clear hb hbox hg;have bi:=blkc4 aa.out;have bj:=blkf4 aa.out)|((with_reducible refine gate_callee (f:=68) rfl ?_);refine gL (some 28) Tryz.func68 #[.int .i64 af] ?_;(with_reducible refine (exergueref07_number.calls k af av _ A18.out).mono ?_);rintro e w21 ⟨bH,rfl,ho0,hb⟩;refine ⟨_,rfl,?_⟩;replace ac:=zS (Kd.V_elder' (vo ac) (Kd.R_base ho0) hb);replace ab:=zS (Kd.V_elder' (vo ab) (Kd.R_base ho0) hb);have aM:=zS (Kd.R_lower (Kd.R_newM (M:=fun k_=>(w.heap.size≤k_)) ho0 (bz HB) (fun k_ h_=>h_)) (bz HB));replace aa:=kb aa hb;replace HB:=bs HB hb;(try clear hb);(try clear ho0)))
  go_ret2
  exact ⟨_,by first|rfl|(simp <;> rfl)|(simp [*] <;> rfl),Kd.V_mono (Kd.R_V (by (with_reducible repeat (first|apply Kd.R_alloc|apply Kd.R_drewN|apply Kd.R_drew));exact Kd.R_mono aM.out (fun _ hk=>hk.1))) (fun k_ hk=>by first|exact ⟨(.inr (hk.1)),hk.2⟩|exact (.inr (hk))),bQ HB⟩
 rw [if_neg c17] at H
 have aJ:(a1 == 119)=false:=zF c17
 have aK:(a1 != 119)=true:=zI c17
 by_cases c22:a1=102
 ·rw [if_pos c22] at H
  have aN:(a1 == 102)=true:=zH c22
  have aO:(a1 != 102)=false:=zG c22
  clear c22
  replace H:=Option.bind_eq_some_iff.mp H
  obtain ⟨aw,aP,H⟩:=H
  try dsimp only at H
  have A23:=zS aP
  clear aP
  simp only [Option.some.injEq,Prod.mk.injEq] at H
  obtain ⟨rfl,rfl⟩:=H
  go_enter Tryz.func40,Tryz.ntmps40
  go_wp2_with (first|((with_reducible refine gate_dst (N:=2) rfl ?_);refine box_event ?hg (N:=2) ?hd (cs:=#[.slice al ag.length am,.slice aj ae.length ai,.int .i64 af,.int .i64 ah]) (t:=36) ?hr ?_;(case hd=>rfl);(case hg=>rfl);(case hr=>first|(go_simp;done)|(go_simp;rfl));intro ad hg w24 hbox hb;replace ac:=zS (Kd.V_below (Kd.V_elderB (vo ac) ad (Nat.le_of_eq hg.symm)) hb);replace ab:=zS (Kd.V_below (Kd.V_elderB (vo ab) ad (Nat.le_of_eq hg.symm)) hb);have aa:=zS (hbox);have ak:=bg HB hg;replace HB:=bs HB hb;clear hb hbox hg;have bk:=blkc4 aa.out;have bm:=blkf4 aa.out)|((with_reducible refine gate_callee (f:=69) rfl ?_);refine gL (some 33) Tryz.func69 #[.slice aj ae.length ai] ?_;(with_reducible refine (exergueref07_Bare.calls k (fun k_=>(((an k_∨ao k_)∨w.heap.size≤k_)∧k_≠ad)) _ _ ae aw _ ?side1 A23.out).mono ?_);(case side1=>exact ab.out);rintro e w26 ⟨bI,rfl,ho0,hb⟩;refine ⟨_,rfl,?_⟩;replace ac:=vb ac hb;replace ab:=vb ab hb;have aQ:=zS (Kd.V_lower (Kd.V_mono (ok':=fun k_=>((an k_∨ao k_)∨w.heap.size≤k_)∧k_≠ad) ho0 (fun k_ hk_=>⟨Or.elim hk_ (fun hs_=>hs_.1) (fun hn_=>(.inr (Nat.le_trans (bz HB) hn_))),Or.elim hk_ (fun hs_=>hs_.2) (fun hn_=>(Kd.freshB (ko aa) k_ hn_))⟩)) (bz HB));replace aa:=kb aa hb;replace HB:=bs HB hb;(try clear hb);(try clear ho0)))
  go_ret2
  exact ⟨_,by first|rfl|(simp <;> rfl)|(simp [*] <;> rfl),by (with_reducible repeat (first|apply Kd.V_alloc|apply Kd.V_drewN|apply Kd.V_drew));exact Kd.V_mono aQ.out (fun _ hk=>hk.1),bQ HB⟩
 rw [if_neg c22] at H
 have aN:(a1 == 102)=false:=zF c22
 have aO:(a1 != 102)=true:=zI c22
 by_cases c27:a1=116
 ·rw [if_pos c27] at H
  have aR:(a1 == 116)=true:=zH c27
  have aS:(a1 != 116)=false:=zG c27
  clear c27
  by_cases c28:0≤af
  rotate_left
  ·rw [if_neg c28] at H
   exact absurd H (by simp)
  rw [if_pos c28] at H
  have bn:=eq_true c28
  have bo:=zC c28
  clear c28
  by_cases c29:af≤(ae.length:Int)
  rotate_left
  ·rw [if_neg c29] at H
   exact absurd H (by simp)
  rw [if_pos c29] at H
  have bp:=eq_true c29
  have bq:=zC c29
  clear c29
  obtain ⟨ar,ap⟩:∃ y_:List Int,y_=(ae.take (af:Int).toNat):=⟨_,rfl⟩
  replace H:((exergueref07_Bare.f k ar).bind fun aq=>(some (aq,true)))=some (r1,r2):=by first|(rw [ap];with_reducible exact H)|(have H2_:=(Option.bind_some _ _).symm.trans H;rw [ap];with_reducible exact H2_)|(have H2_:=(Option.bind_some _ _).symm.trans H;with_reducible exact H2_)|with_reducible exact H|(rw [ap];exact H)|exact H
  have aA:=zS ap
  clear ap
  replace H:=Option.bind_eq_some_iff.mp H
  obtain ⟨aq,aT,H⟩:=H
  try dsimp only at H
  have A30:=zS aT
  clear aT
  simp only [Option.some.injEq,Prod.mk.injEq] at H
  obtain ⟨rfl,rfl⟩:=H
  go_enter Tryz.func40,Tryz.ntmps40
  go_wp2_with (first|((with_reducible refine gate_dst (N:=2) rfl ?_);refine box_event ?hg (N:=2) ?hd (cs:=#[.slice al ag.length am,.slice aj ae.length ai,.int .i64 af,.int .i64 ah]) (t:=36) ?hr ?_;(case hd=>rfl);(case hg=>rfl);(case hr=>first|(go_simp;done)|(go_simp;rfl));intro ad hg w31 hbox hb;replace ac:=zS (Kd.V_below (Kd.V_elderB (vo ac) ad (Nat.le_of_eq hg.symm)) hb);replace ab:=zS (Kd.V_below (Kd.V_elderB (vo ab) ad (Nat.le_of_eq hg.symm)) hb);have aa:=zS (hbox);have ak:=bg HB hg;replace HB:=bs HB hb;clear hb hbox hg;have br:=blkc4 aa.out;have bu:=blkf4 aa.out;have q33:(af:Int)≤((ae.length:Int):Int):=zB (by first|(with_reducible assumption)|assumption);obtain ⟨i033,hi033,_,hsz33,_⟩:=info_parts info5;have hroom33:ae.length≤ai:=(Kd.V_reads' ab.out).2.1;have hC33:Kd.F (Kd.int .u8) _ _ aj ae.length ae:=(Kd.V_at (base:=w.heap.size) ab.out).2.2;have hcut33:=cut_to (P:=Tryz.prog) 34 5 .i64 Tryz.underlying34 hi033 aj ae.length ai af (zB (by first|(with_reducible assumption)|assumption)) q33 hroom33;have aB:=Kd.F_take (m:=(af:Int).toNat) hC33 (by omega);have aC:ar.length=(af:Int).toNat:=(by rw [aA.out,List.length_take];omega);rw [← aA.out] at aB;rw [← aC] at hcut33;have az:=zS (show Kd.V (Kd.int .u8) 5 _ w.heap.size _ (.slice aj ar.length ai) ar from Kd.V_mk (by omega) aB);have bv:=zS (show ar.length≤ai from by omega);clear aB hC33 hroom33 hi033 hsz33;have KY33:=zS aC;clear aC;replace q33:=eq_true q33)|((with_reducible refine gate_callee (f:=69) rfl ?_);refine gL (some 41) Tryz.func69 #[.slice aj ar.length ai] ?_;(with_reducible refine (exergueref07_Bare.calls k (fun k_=>(((an k_∨ao k_)∨w.heap.size≤k_)∧k_≠ad)) _ _ ar aq _ ?side1 A30.out).mono ?_);(case side1=>exact az.out);rintro e w34 ⟨bJ,rfl,ho0,hb⟩;refine ⟨_,rfl,?_⟩;replace ac:=vb ac hb;replace ab:=vb ab hb;replace az:=vb az hb;have aU:=zS (Kd.V_lower (Kd.V_mono (ok':=fun k_=>((an k_∨ao k_)∨w.heap.size≤k_)∧k_≠ad) ho0 (fun k_ hk_=>⟨Or.elim hk_ (fun hs_=>hs_.1) (fun hn_=>(.inr (Nat.le_trans (bz HB) hn_))),Or.elim hk_ (fun hs_=>hs_.2) (fun hn_=>(Kd.freshB (ko aa) k_ hn_))⟩)) (bz HB));replace aa:=kb aa hb;replace HB:=bs HB hb;(try clear hb);(try clear ho0)))
  go_ret2
  exact ⟨_,by first|rfl|(simp <;> rfl)|(simp [*] <;> rfl),by (with_reducible repeat (first|apply Kd.V_alloc|apply Kd.V_drewN|apply Kd.V_drew));exact Kd.V_mono aU.out (fun _ hk=>hk.1),bQ HB⟩
 rw [if_neg c27] at H
 have aR:(a1 == 116)=false:=zF c27
 have aS:(a1 != 116)=true:=zI c27
 by_cases c35:a1=99
 ·rw [if_pos c35] at H
  have aV:(a1 == 99)=true:=zH c35
  have aW:(a1 != 99)=false:=zG c35
  clear c35
  replace H:=Option.bind_eq_some_iff.mp H
  obtain ⟨ax,aX,H⟩:=H
  try dsimp only at H
  have A36:=zS aX
  clear aX
  simp only [Option.some.injEq,Prod.mk.injEq] at H
  obtain ⟨rfl,rfl⟩:=H
  go_enter Tryz.func40,Tryz.ntmps40
  go_wp2_with (first|((with_reducible refine gate_dst (N:=2) rfl ?_);refine box_event ?hg (N:=2) ?hd (cs:=#[.slice al ag.length am,.slice aj ae.length ai,.int .i64 af,.int .i64 ah]) (t:=36) ?hr ?_;(case hd=>rfl);(case hg=>rfl);(case hr=>first|(go_simp;done)|(go_simp;rfl));intro ad hg w37 hbox hb;replace ac:=zS (Kd.V_below (Kd.V_elderB (vo ac) ad (Nat.le_of_eq hg.symm)) hb);replace ab:=zS (Kd.V_below (Kd.V_elderB (vo ab) ad (Nat.le_of_eq hg.symm)) hb);have aa:=zS (hbox);have ak:=bg HB hg;replace HB:=bs HB hb;clear hb hbox hg;have bw:=blkc4 aa.out;have bx:=blkf4 aa.out)|((with_reducible refine gate_callee (f:=68) rfl ?_);refine gL (some 47) Tryz.func68 #[.int .i64 ah] ?_;(with_reducible refine (exergueref07_number.calls k ah ax _ A36.out).mono ?_);rintro e w39 ⟨bK,rfl,ho0,hb⟩;refine ⟨_,rfl,?_⟩;replace ac:=zS (Kd.V_elder' (vo ac) (Kd.R_base ho0) hb);replace ab:=zS (Kd.V_elder' (vo ab) (Kd.R_base ho0) hb);have aY:=zS (Kd.R_lower (Kd.R_newM (M:=fun k_=>(w.heap.size≤k_)) ho0 (bz HB) (fun k_ h_=>h_)) (bz HB));replace aa:=kb aa hb;replace HB:=bs HB hb;(try clear hb);(try clear ho0)))
  go_ret2
  exact ⟨_,by first|rfl|(simp <;> rfl)|(simp [*] <;> rfl),Kd.V_mono (Kd.R_V (by (with_reducible repeat (first|apply Kd.R_alloc|apply Kd.R_drewN|apply Kd.R_drew));exact Kd.R_mono aY.out (fun _ hk=>hk.1))) (fun k_ hk=>by first|exact ⟨(.inr (hk.1)),hk.2⟩|exact (.inr (hk))),bQ HB⟩
 rw [if_neg c35] at H
 have aV:(a1 == 99)=false:=zF c35
 have aW:(a1 != 99)=true:=zI c35
 by_cases c40:a1=101
 ·rw [if_pos c40] at H
  have aZ:(a1 == 101)=true:=zH c40
  have a5:(a1 != 101)=false:=zG c40
  clear c40
  replace H:=Option.bind_eq_some_iff.mp H
  obtain ⟨ay,a6,H⟩:=H
  try dsimp only at H
  have A41:=zS a6
  clear a6
  simp only [Option.some.injEq,Prod.mk.injEq] at H
  obtain ⟨rfl,rfl⟩:=H
  go_enter Tryz.func40,Tryz.ntmps40
  go_wp2_with (first|((with_reducible refine gate_dst (N:=2) rfl ?_);refine box_event ?hg (N:=2) ?hd (cs:=#[.slice al ag.length am,.slice aj ae.length ai,.int .i64 af,.int .i64 ah]) (t:=36) ?hr ?_;(case hd=>rfl);(case hg=>rfl);(case hr=>first|(go_simp;done)|(go_simp;rfl));intro ad hg w42 hbox hb;replace ac:=zS (Kd.V_below (Kd.V_elderB (vo ac) ad (Nat.le_of_eq hg.symm)) hb);replace ab:=zS (Kd.V_below (Kd.V_elderB (vo ab) ad (Nat.le_of_eq hg.symm)) hb);have aa:=zS (hbox);have ak:=bg HB hg;replace HB:=bs HB hb;clear hb hbox hg;have bA:=blkc4 aa.out;have bB:=blkf4 aa.out)|((with_reducible refine gate_callee (f:=68) rfl ?_);refine gL (some 47) Tryz.func68 #[.int .i64 ah] ?_;(with_reducible refine (exergueref07_number.calls k ah ay _ A41.out).mono ?_);rintro e w44 ⟨bL,rfl,ho0,hb⟩;refine ⟨_,rfl,?_⟩;replace ac:=zS (Kd.V_elder' (vo ac) (Kd.R_base ho0) hb);replace ab:=zS (Kd.V_elder' (vo ab) (Kd.R_base ho0) hb);have a7:=zS (Kd.R_lower (Kd.R_newM (M:=fun k_=>(w.heap.size≤k_)) ho0 (bz HB) (fun k_ h_=>h_)) (bz HB));replace aa:=kb aa hb;replace HB:=bs HB hb;(try clear hb);(try clear ho0)))
  go_ret2
  exact ⟨_,by first|rfl|(simp <;> rfl)|(simp [*] <;> rfl),Kd.V_mono (Kd.R_V (by (with_reducible repeat (first|apply Kd.R_alloc|apply Kd.R_drewN|apply Kd.R_drew));exact Kd.R_mono a7.out (fun _ hk=>hk.1))) (fun k_ hk=>by first|exact ⟨(.inr (hk.1)),hk.2⟩|exact (.inr (hk))),bQ HB⟩
 rw [if_neg c40] at H
 have aZ:(a1 == 101)=false:=zF c40
 have a5:(a1 != 101)=true:=zI c40
 simp only [Option.some.injEq,Prod.mk.injEq] at H
 obtain ⟨rfl,rfl⟩:=H
 go_enter Tryz.func40,Tryz.ntmps40
 go_wp2_with (first|((with_reducible refine gate_dst (N:=2) rfl ?_);refine box_event ?hg (N:=2) ?hd (cs:=#[.slice al ag.length am,.slice aj ae.length ai,.int .i64 af,.int .i64 ah]) (t:=36) ?hr ?_;(case hd=>rfl);(case hg=>rfl);(case hr=>first|(go_simp;done)|(go_simp;rfl));intro ad hg w45 hbox hb;replace ac:=zS (Kd.V_below (Kd.V_elderB (vo ac) ad (Nat.le_of_eq hg.symm)) hb);replace ab:=zS (Kd.V_below (Kd.V_elderB (vo ab) ad (Nat.le_of_eq hg.symm)) hb);have aa:=zS (hbox);have ak:=bg HB hg;replace HB:=bs HB hb;clear hb hbox hg))
 go_ret2
 exact ⟨_,by first|rfl|(simp <;> rfl)|(simp [*] <;> rfl),(by first|exact Kd.V_nil _ _ _ _ _|exact (Kd.V_mono (Kd.R_V (by first|exact Kd.R_nil _ _ _ _ _|exact Kd.R_nil _ _ _ 0 _|exact Kd.N_nil _ _ _ _ _|exact Kd.V_nil _ _ _ _ _|exact Kd.Q_nil _ _ _ _ _|exact Kd.S_nil _ _ _ _ _)) (fun k_ hk=>by first|exact ⟨(.inr (hk.1)),hk.2⟩|exact (.inr (hk))))),bQ HB⟩
end Go.Proofs.YtgfajgkjbckkgaaGreatDoor.PZ
end
end
section
set_option maxRecDepth 100000
namespace Go.Proofs.YtgfajgkjbckkgaaGreatDoor.PZ
open Go.RowKit Go.Proofs.YtgfajgkjbckkgaaGreatDoorW.PrintWords Go.Proofs.YtgfajgkjbckkgaaGreatDoorW.PrintLast
section
def exergueref07_Right.f (k:Nat)(l0_0:List Int)(l0_1:List Int)(a0_2:Int)(a0_3:Int):Option (Bool):=(exergueref07_Figures.f k l0_0).bind fun t354=>((exergueref07_Figures.f k l0_1).bind fun t355=>(if t354=true then (if t355=true then (if (l0_0.length:Int)>0 then (if (rd l0_0 0)=0 then (some false) else ((exergueref07_Full.f k l0_1).bind fun t357=>(some (decide (a0_2=t357) && (decide (0≤a0_3) && decide (a0_3≤1000)))))) else ((exergueref07_Full.f k l0_1).bind fun t358=>(some (decide (a0_2=t358) && (decide (0≤a0_3) && decide (a0_3≤1000)))))) else (some false)) else (some false)))
theorem exergueref07_Right.mono:∀ a0 a1 a2 a3 k,LeO (exergueref07_Right.f k a0 a1 a2 a3) (exergueref07_Right.f (k+1) a0 a1 a2 a3):=by
 intro a0 a1 a2 a3 k
 unfold exergueref07_Right.f
 refine LeO.bind (exergueref07_Figures.mono _ k) fun _=>LeO.bind (exergueref07_Figures.mono _ k) fun _=>LeO.ite (LeO.ite (LeO.ite (LeO.ite (LeO.refl _) (LeO.bind (exergueref07_Full.mono _ k) fun _=>LeO.refl _)) (LeO.bind (exergueref07_Full.mono _ k) fun _=>LeO.refl _)) (LeO.refl _)) (LeO.refl _)
section
variable (k:Nat)(A0:Option Addr)(c0:Nat)(l0:List Int)(A1:Option Addr)(c1:Nat)(l1:List Int)(a2 a3:Int)(w:World)
  (hr0:Kd.C (Kd.int .u8) w A0 l0.length l0) (hc0:l0.length≤c0) (hr1:Kd.C (Kd.int .u8) w A1 l1.length l1) (hc1:l1.length≤c1)
include hr0 hc0 hr1 hc1
set_option maxHeartbeats 4000000 in
set_option maxRecDepth 100000 in
theorem refRight_f_t (ht:exergueref07_Figures.f k l0=some false)(hu:exergueref07_Figures.f k l1=some true):Calls Tryz.prog 26 #[.agg #[.slice A0 l0.length c0,.slice A1 l1.length c1,.int .i64 a2,.int .i64 a3]] w (RPost w (false)):=by
 have k0:=fun W (hb:Below w.heap.size w W)=>exergueref07_Figures.calls k A0 c0 l0 _ W (Kd.C_below hr0 hb) hc0 ht
 have hb:=zA (fun (o:Obj) (n:Nat)=>pw_below_drewN ((Below.refl _ w).alloc (Nat.le_refl _) o) n)
 have hb0:=zA (fun (o:Obj)=>(Below.refl _ w).alloc (Nat.le_refl _) o)
 have K0:=zA k0
 have k1:=fun W (hb:Below w.heap.size w W)=>exergueref07_Figures.calls k A1 c1 l1 _ W (Kd.C_below hr1 hb) hc1 hu
 have K1:=zA k1
 clear hr0 hc0 hr1 hc1 k0 k1 ht hu
 generalize l0.length=n0 at K0 ⊢
 generalize l1.length=n1 at K1 ⊢
 go_enter Tryz.func26,Tryz.ntmps26
 go_wp2_with (first|(go_at_call 48;(with_reducible refine (K0.out _ (hb0.out _)).mono ?_);rintro e w1 ⟨rfl,⟨q,rfl⟩⟩)|(go_at_call 48;(with_reducible refine (K1.out _ (hb.out _ q)).mono ?_);rintro e w1 ⟨rfl,⟨q2,rfl⟩⟩))
 repeat (go_quiet (fail);try go_wp2)
 go_ret
 exact ⟨rfl,by repeat (first|exact hb.out _ _|apply pw_below_drewN)⟩
set_option maxHeartbeats 4000000 in
set_option maxRecDepth 100000 in
theorem refRight_f_f (ht:exergueref07_Figures.f k l0=some false)(hu:exergueref07_Figures.f k l1=some false):Calls Tryz.prog 26 #[.agg #[.slice A0 l0.length c0,.slice A1 l1.length c1,.int .i64 a2,.int .i64 a3]] w (RPost w (false)):=by
 have k0:=fun W (hb:Below w.heap.size w W)=>exergueref07_Figures.calls k A0 c0 l0 _ W (Kd.C_below hr0 hb) hc0 ht
 have hb:=zA (fun (o:Obj) (n:Nat)=>pw_below_drewN ((Below.refl _ w).alloc (Nat.le_refl _) o) n)
 have hb0:=zA (fun (o:Obj)=>(Below.refl _ w).alloc (Nat.le_refl _) o)
 have K0:=zA k0
 have k1:=fun W (hb:Below w.heap.size w W)=>exergueref07_Figures.calls k A1 c1 l1 _ W (Kd.C_below hr1 hb) hc1 hu
 have K1:=zA k1
 clear hr0 hc0 hr1 hc1 k0 k1 ht hu
 generalize l0.length=n0 at K0 ⊢
 generalize l1.length=n1 at K1 ⊢
 go_enter Tryz.func26,Tryz.ntmps26
 go_wp2_with (first|(go_at_call 48;(with_reducible refine (K0.out _ (hb0.out _)).mono ?_);rintro e w1 ⟨rfl,⟨q,rfl⟩⟩)|(go_at_call 48;(with_reducible refine (K1.out _ (hb.out _ q)).mono ?_);rintro e w1 ⟨rfl,⟨q2,rfl⟩⟩))
 repeat (go_quiet (fail);try go_wp2)
 go_ret
 exact ⟨rfl,by repeat (first|exact hb.out _ _|apply pw_below_drewN)⟩
set_option maxHeartbeats 4000000 in
set_option maxRecDepth 100000 in
theorem refRight_t_f (ht:exergueref07_Figures.f k l0=some true)(hu:exergueref07_Figures.f k l1=some false):Calls Tryz.prog 26 #[.agg #[.slice A0 l0.length c0,.slice A1 l1.length c1,.int .i64 a2,.int .i64 a3]] w (RPost w (false)):=by
 have k0:=fun W (hb:Below w.heap.size w W)=>exergueref07_Figures.calls k A0 c0 l0 _ W (Kd.C_below hr0 hb) hc0 ht
 have hb:=zA (fun (o:Obj) (n:Nat)=>pw_below_drewN ((Below.refl _ w).alloc (Nat.le_refl _) o) n)
 have hb0:=zA (fun (o:Obj)=>(Below.refl _ w).alloc (Nat.le_refl _) o)
 have K0:=zA k0
 have k1:=fun W (hb:Below w.heap.size w W)=>exergueref07_Figures.calls k A1 c1 l1 _ W (Kd.C_below hr1 hb) hc1 hu
 have K1:=zA k1
 clear hr0 hc0 hr1 hc1 k0 k1 ht hu
 generalize l0.length=n0 at K0 ⊢
 generalize l1.length=n1 at K1 ⊢
 go_enter Tryz.func26,Tryz.ntmps26
 go_wp2_with (first|(go_at_call 48;(with_reducible refine (K0.out _ (hb0.out _)).mono ?_);rintro e w1 ⟨rfl,⟨q,rfl⟩⟩)|(go_at_call 48;(with_reducible refine (K1.out _ (hb.out _ q)).mono ?_);rintro e w1 ⟨rfl,⟨q2,rfl⟩⟩))
 repeat (go_quiet (fail);try go_wp2)
 go_ret
 exact ⟨rfl,by repeat (first|exact hb.out _ _|apply pw_below_drewN)⟩
set_option maxHeartbeats 4000000 in
set_option maxRecDepth 100000 in
theorem refRight_nought (ht:exergueref07_Figures.f k l0=some true)(hu:exergueref07_Figures.f k l1=some true)(h0:0<l0.length)(h1:rd l0 0=0):Calls Tryz.prog 26 #[.agg #[.slice A0 l0.length c0,.slice A1 l1.length c1,.int .i64 a2,.int .i64 a3]] w (RPost w (false)):=by
 have k0:=fun W (hb:Below w.heap.size w W)=>exergueref07_Figures.calls k A0 c0 l0 _ W (Kd.C_below hr0 hb) hc0 ht
 have hb:=zA (fun (o:Obj) (n:Nat)=>pw_below_drewN ((Below.refl _ w).alloc (Nat.le_refl _) o) n)
 have hb0:=zA (fun (o:Obj)=>(Below.refl _ w).alloc (Nat.le_refl _) o)
 have K0:=zA k0
 have k1:=fun W (hb:Below w.heap.size w W)=>exergueref07_Figures.calls k A1 c1 l1 _ W (Kd.C_below hr1 hb) hc1 hu
 have K1:=zA k1
 clear k0 k1 ht hu
 obtain ⟨ad,e1,hcell⟩:=Kd.at_int hr0 0 (by omega) (by omega)
 cases e1
 rw [show ((0:Int)).toNat=0 from rfl,Addr.add_zero',h1] at hcell
 have hlt:ad.block<w.heap.size:=World.block_lt_of_cell? w _ hcell
 clear hr0 hc0 hr1 hc1 h1
 have d1:decide (0<l0.length)=true:=zC h0
 have d2:decide (0<(l0.length:Int))=true:=zC (by omega)
 have d3:(0<l0.length)=True:=eq_true h0
 generalize l0.length=n0 at K0 d1 d2 d3 ⊢
 generalize l1.length=n1 at K1 ⊢
 clear h0
 go_enter Tryz.func26,Tryz.ntmps26
 go_wp2_with (first|(go_at_call 48;(with_reducible refine (K0.out _ (hb0.out _)).mono ?_);rintro e w1 ⟨rfl,⟨q,rfl⟩⟩)|(go_at_call 48;(with_reducible refine (K1.out _ (hb.out _ q)).mono ?_);rintro e w1 ⟨rfl,⟨q2,rfl⟩⟩))
 repeat (go_quiet (fail);try go_wp2)
 go_ret
 exact ⟨rfl,by repeat (first|exact hb.out _ _|apply pw_below_drewN)⟩
set_option maxHeartbeats 4000000 in
set_option maxRecDepth 100000 in
theorem refRight_none (nf:Int)(ht:exergueref07_Figures.f k l0=some true)(hu:exergueref07_Figures.f k l1=some true)(hn:exergueref07_Full.f k l1=some nf)(h0:l0.length=0):Calls Tryz.prog 26 #[.agg #[.slice A0 l0.length c0,.slice A1 l1.length c1,.int .i64 a2,.int .i64 a3]] w (RPost w (decide (a2=nf) && (decide (0≤a3) && decide (a3≤1000)))):=by
 have k0:=fun W (hb:Below w.heap.size w W)=>exergueref07_Figures.calls k A0 c0 l0 _ W (Kd.C_below hr0 hb) hc0 ht
 have hb:=zA (fun (o:Obj) (n:Nat)=>pw_below_drewN ((Below.refl _ w).alloc (Nat.le_refl _) o) n)
 have hb0:=zA (fun (o:Obj)=>(Below.refl _ w).alloc (Nat.le_refl _) o)
 have K0:=zA k0
 have k1:=fun W (hb:Below w.heap.size w W)=>exergueref07_Figures.calls k A1 c1 l1 _ W (Kd.C_below hr1 hb) hc1 hu
 have K1:=zA k1
 clear k0 k1 ht hu
 have k2:=fun W (hb:Below w.heap.size w W)=>(exergueref07_Full.calls k A1 c1 l1 nf W (Kd.C_below hr1 hb) hc1 hn).mono (fun e w' (h:e = .returned (.int .i64 nf)∧Drawn0 W w')=>(⟨h.1,h.2.out⟩:e = .returned (.int .i64 nf)∧∃ m,w'=W.drewN m))
 have K2:=zA k2
 clear hr0 hc0 hr1 hc1 k2 hn
 have d1:decide (0<l0.length)=false:=zD (by omega)
 have d2:decide (0<(l0.length:Int))=false:=zD (by omega)
 generalize l0.length=n0 at K0 d1 d2 h0 ⊢
 clear h0
 generalize l1.length=n1 at K1 K2 ⊢
 by_cases e2:a2=nf
 ·have f2:(a2 == nf)=true:=by simpa using e2
  rw [zC e2]
  clear e2
  by_cases e3:0≤a3
  ·have f3:decide (0≤a3)=true:=zC e3
   rw [f3]
   clear e3
   go_enter Tryz.func26,Tryz.ntmps26
   go_wp2_with (first|(go_at_call 48;(with_reducible refine (K0.out _ (hb0.out _)).mono ?_);rintro e w1 ⟨rfl,⟨q,rfl⟩⟩)|(go_at_call 48;(with_reducible refine (K1.out _ (hb.out _ q)).mono ?_);rintro e w1 ⟨rfl,⟨q2,rfl⟩⟩))
   repeat (go_quiet ((go_at_call 49;exact quiet_addO (K2.out _ (hb.out _ _))));try go_wp2)
   go_ret
   exact ⟨rfl,by repeat (first|exact hb.out _ _|apply pw_below_drewN)⟩
  have f3:decide (0≤a3)=false:=zD e3
  rw [f3]
  clear e3
  go_enter Tryz.func26,Tryz.ntmps26
  go_wp2_with (first|(go_at_call 48;(with_reducible refine (K0.out _ (hb0.out _)).mono ?_);rintro e w1 ⟨rfl,⟨q,rfl⟩⟩)|(go_at_call 48;(with_reducible refine (K1.out _ (hb.out _ q)).mono ?_);rintro e w1 ⟨rfl,⟨q2,rfl⟩⟩))
  repeat (go_quiet ((go_at_call 49;exact quiet_addO (K2.out _ (hb.out _ _))));try go_wp2)
  go_ret
  exact ⟨rfl,by repeat (first|exact hb.out _ _|apply pw_below_drewN)⟩
 have f2:(a2 == nf)=false:=by simpa using e2
 rw [zD e2]
 clear e2
 go_enter Tryz.func26,Tryz.ntmps26
 go_wp2_with (first|(go_at_call 48;(with_reducible refine (K0.out _ (hb0.out _)).mono ?_);rintro e w1 ⟨rfl,⟨q,rfl⟩⟩)|(go_at_call 48;(with_reducible refine (K1.out _ (hb.out _ q)).mono ?_);rintro e w1 ⟨rfl,⟨q2,rfl⟩⟩))
 repeat (go_quiet ((go_at_call 49;exact quiet_addO (K2.out _ (hb.out _ _))));try go_wp2)
 go_ret
 exact ⟨rfl,by repeat (first|exact hb.out _ _|apply pw_below_drewN)⟩
set_option maxHeartbeats 4000000 in
set_option maxRecDepth 100000 in
theorem refRight_some (nf:Int)(ht:exergueref07_Figures.f k l0=some true)(hu:exergueref07_Figures.f k l1=some true)(hn:exergueref07_Full.f k l1=some nf)(h0:0<l0.length)(h1:¬ rd l0 0=0):Calls Tryz.prog 26 #[.agg #[.slice A0 l0.length c0,.slice A1 l1.length c1,.int .i64 a2,.int .i64 a3]] w (RPost w (decide (a2=nf) && (decide (0≤a3) && decide (a3≤1000)))):=by
 have k0:=fun W (hb:Below w.heap.size w W)=>exergueref07_Figures.calls k A0 c0 l0 _ W (Kd.C_below hr0 hb) hc0 ht
 have hb:=zA (fun (o:Obj) (n:Nat)=>pw_below_drewN ((Below.refl _ w).alloc (Nat.le_refl _) o) n)
 have hb0:=zA (fun (o:Obj)=>(Below.refl _ w).alloc (Nat.le_refl _) o)
 have K0:=zA k0
 have k1:=fun W (hb:Below w.heap.size w W)=>exergueref07_Figures.calls k A1 c1 l1 _ W (Kd.C_below hr1 hb) hc1 hu
 have K1:=zA k1
 clear k0 k1 ht hu
 have k2:=fun W (hb:Below w.heap.size w W)=>(exergueref07_Full.calls k A1 c1 l1 nf W (Kd.C_below hr1 hb) hc1 hn).mono (fun e w' (h:e = .returned (.int .i64 nf)∧Drawn0 W w')=>(⟨h.1,h.2.out⟩:e = .returned (.int .i64 nf)∧∃ m,w'=W.drewN m))
 have K2:=zA k2
 obtain ⟨ad,e1,hcell⟩:=Kd.at_int hr0 0 (by omega) (by omega)
 cases e1
 rw [show ((0:Int)).toNat=0 from rfl,Addr.add_zero'] at hcell
 have hlt:ad.block<w.heap.size:=World.block_lt_of_cell? w _ hcell
 clear hr0 hc0 hr1 hc1 k2 hn
 have d0:(rd l0 0 == 0)=false:=by simpa using h1
 generalize rd l0 0=v0 at hcell d0 h1
 have d1:decide (0<l0.length)=true:=zC h0
 have d2:decide (0<(l0.length:Int))=true:=zC (by omega)
 have d3:(0<l0.length)=True:=eq_true h0
 generalize l0.length=n0 at K0 d1 d2 d3 ⊢
 clear h0 h1
 generalize l1.length=n1 at K1 K2 ⊢
 by_cases e2:a2=nf
 ·have f2:(a2 == nf)=true:=by simpa using e2
  rw [zC e2]
  clear e2
  by_cases e3:0≤a3
  ·have f3:decide (0≤a3)=true:=zC e3
   rw [f3]
   clear e3
   go_enter Tryz.func26,Tryz.ntmps26
   go_wp2_with (first|(go_at_call 48;(with_reducible refine (K0.out _ (hb0.out _)).mono ?_);rintro e w1 ⟨rfl,⟨q,rfl⟩⟩)|(go_at_call 48;(with_reducible refine (K1.out _ (hb.out _ q)).mono ?_);rintro e w1 ⟨rfl,⟨q2,rfl⟩⟩))
   repeat (go_quiet ((go_at_call 49;exact quiet_addO (K2.out _ (hb.out _ _))));try go_wp2)
   go_ret
   exact ⟨rfl,by repeat (first|exact hb.out _ _|apply pw_below_drewN)⟩
  have f3:decide (0≤a3)=false:=zD e3
  rw [f3]
  clear e3
  go_enter Tryz.func26,Tryz.ntmps26
  go_wp2_with (first|(go_at_call 48;(with_reducible refine (K0.out _ (hb0.out _)).mono ?_);rintro e w1 ⟨rfl,⟨q,rfl⟩⟩)|(go_at_call 48;(with_reducible refine (K1.out _ (hb.out _ q)).mono ?_);rintro e w1 ⟨rfl,⟨q2,rfl⟩⟩))
  repeat (go_quiet ((go_at_call 49;exact quiet_addO (K2.out _ (hb.out _ _))));try go_wp2)
  go_ret
  exact ⟨rfl,by repeat (first|exact hb.out _ _|apply pw_below_drewN)⟩
 have f2:(a2 == nf)=false:=by simpa using e2
 rw [zD e2]
 clear e2
 go_enter Tryz.func26,Tryz.ntmps26
 go_wp2_with (first|(go_at_call 48;(with_reducible refine (K0.out _ (hb0.out _)).mono ?_);rintro e w1 ⟨rfl,⟨q,rfl⟩⟩)|(go_at_call 48;(with_reducible refine (K1.out _ (hb.out _ q)).mono ?_);rintro e w1 ⟨rfl,⟨q2,rfl⟩⟩))
 repeat (go_quiet ((go_at_call 49;exact quiet_addO (K2.out _ (hb.out _ _))));try go_wp2)
 go_ret
 exact ⟨rfl,by repeat (first|exact hb.out _ _|apply pw_below_drewN)⟩
end
theorem exergueref07_Right.calls (k:Nat)(A0_0:Option Addr)(c0_0:Nat)(l0_0:List Int)(A0_1:Option Addr)(c0_1:Nat)(l0_1:List Int)(a0_2:Int)(a0_3:Int)(r:Bool)(w:World)(hr0_0:Kd.C (Kd.int .u8) w A0_0 l0_0.length l0_0)(hc0_0:l0_0.length≤c0_0)(hr0_1:Kd.C (Kd.int .u8) w A0_1 l0_1.length l0_1)(hc0_1:l0_1.length≤c0_1)(h:exergueref07_Right.f k l0_0 l0_1 a0_2 a0_3=some r) :
    Calls Tryz.prog 26 #[.agg #[.slice A0_0 l0_0.length c0_0,.slice A0_1 l0_1.length c0_1,.int .i64 a0_2,.int .i64 a0_3]] w fun e w'=>e = .returned (.bool r)∧Below w.heap.size w w':=by
 unfold exergueref07_Right.f at h
 obtain ⟨t,ht,h⟩:=Option.bind_eq_some_iff.1 h
 obtain ⟨u,hu,h⟩:=Option.bind_eq_some_iff.1 h
 cases t with
 | false=>
  obtain rfl:false=r:=by simpa using h
  cases u with
  | false=>exact refRight_f_f k A0_0 c0_0 l0_0 A0_1 c0_1 l0_1 a0_2 a0_3 w hr0_0 hc0_0 hr0_1 hc0_1 ht hu
  | true=>exact refRight_f_t k A0_0 c0_0 l0_0 A0_1 c0_1 l0_1 a0_2 a0_3 w hr0_0 hc0_0 hr0_1 hc0_1 ht hu
 | true=>
  cases u with
  | false=>
   obtain rfl:false=r:=by simpa using h
   exact refRight_t_f k A0_0 c0_0 l0_0 A0_1 c0_1 l0_1 a0_2 a0_3 w hr0_0 hc0_0 hr0_1 hc0_1 ht hu
  | true=>
   simp only [if_true] at h
   by_cases h0:(l0_0.length:Int)>0
   ·rw [if_pos h0] at h
    by_cases h1:rd l0_0 0=0
    ·rw [if_pos h1] at h
     obtain rfl:=zE h
     exact refRight_nought k A0_0 c0_0 l0_0 A0_1 c0_1 l0_1 a0_2 a0_3 w hr0_0 hc0_0 hr0_1 hc0_1 ht hu (by omega) h1
    rw [if_neg h1] at h
    obtain ⟨nf,hn,h⟩:=Option.bind_eq_some_iff.1 h
    obtain rfl:=zE h
    exact refRight_some k A0_0 c0_0 l0_0 A0_1 c0_1 l0_1 a0_2 a0_3 w hr0_0 hc0_0 hr0_1 hc0_1 nf ht hu hn (by omega) h1
   rw [if_neg h0] at h
   obtain ⟨nf,hn,h⟩:=Option.bind_eq_some_iff.1 h
   obtain rfl:=zE h
   exact refRight_none k A0_0 c0_0 l0_0 A0_1 c0_1 l0_1 a0_2 a0_3 w hr0_0 hc0_0 hr0_1 hc0_1 nf ht hu hn (by omega)
end
end Go.Proofs.YtgfajgkjbckkgaaGreatDoor.PZ
end
section
noncomputable section
namespace Go.Proofs.YtgfajgkjbckkgaaGreatDoor.PZ
open Go.RowKit Go.Proofs.YtgfajgkjbckkgaaGreatDoorW.PrintWords Go.Proofs.YtgfajgkjbckkgaaGreatDoorW.PrintLast Go.Proofs.YtgfajgkjbckkgaaGreatDoorW.PrintMore
attribute [local go_sem] max2_int min2_int max_two min_two max_three min_three max_four min_four   -- for this text's walks alone
mutual
def exergueref11_number.l0:Nat→ByteArray→Int→Int→Int→Int→Option (Int×Int)
 | 0,_,_,_,_,_=>none
 | k+1,x0,x2,x8,x9,x10=>if x9<(x0.size:Int) then (if 0≤x9 then (if (bt x0 x9)≥48 then (exergueref11_number.j1 k x0 x2 x8 x9 x10 (decide ((bt x0 x9)≤57))) else (exergueref11_number.j1 k x0 x2 x8 x9 x10 false)) else (none)) else (exergueref11_number.j1 k x0 x2 x8 x9 x10 false)
def exergueref11_number.j1:Nat→ByteArray→Int→Int→Int→Int→Bool→Option (Int×Int)
 | 0,_,_,_,_,_,_=>none
 | k+1,x0,x2,x8,x9,x10,x30=>if x30=true then (if (wrap64 (x9 - x8))<9 then (if 0≤x9 then (if x9<(x0.size:Int) then (exergueref11_number.l0 k x0 x2 x8 (wrap64 (x9+1)) (wrap64 ((wrap64 (x10 * 10))+(((bt x0 x9) - 48) % 256)))) else (none)) else (none)) else (exergueref11_number.l0 k x0 x2 x8 (wrap64 (x9+1)) x10)) else (if x9=x8 then (some ((-1),x8)) else (if (wrap64 (x9 - x8))>9 then (some ((-1),x8)) else (if 0≤x8 then (if x8<(x0.size:Int) then (if (bt x0 x8)=48 then (if (wrap64 (x9 - x8))>1 then (some ((-1),x8)) else (if x10<x2 then (some ((-1),x8)) else (some (x10,x9)))) else (if x10<x2 then (some ((-1),x8)) else (some (x10,x9)))) else (none)) else (none))))
end
def exergueref11_number.f (k:Nat)(a0:ByteArray)(a1:Int)(a2:Int):Option (Int×Int):=(exergueref11_over.f k a0 a1).bind fun aa=>(exergueref11_number.l0 k a0 a2 aa aa 0)
theorem exergueref11_number.mono_l:∀ k,(∀ y0 y1 y2 y3 y4,LeO (exergueref11_number.l0 k y0 y1 y2 y3 y4) (exergueref11_number.l0 (k+1) y0 y1 y2 y3 y4))∧(∀ y0 y1 y2 y3 y4 y5,LeO (exergueref11_number.j1 k y0 y1 y2 y3 y4 y5) (exergueref11_number.j1 (k+1) y0 y1 y2 y3 y4 y5))
 | 0=>⟨fun _ _ _ _ _ r h=>by simp [exergueref11_number.l0] at h,fun _ _ _ _ _ _ r h=>by simp [exergueref11_number.j1] at h⟩
 | k+1=>by
  obtain ⟨ih0,ih1⟩:=exergueref11_number.mono_l k
  refine ⟨?_,?_⟩
  ·intro y0 y1 y2 y3 y4
   unfold exergueref11_number.l0
   repeat' first|(with_reducible first|apply ih0|apply ih1|apply exergueref11_over.mono|apply LeO.refl|apply LeO.none|refine LeO.ite ?_ ?_|refine LeO.bind ?_ (fun _=>?_))|apply ih0|apply ih1|apply exergueref11_over.mono|apply LeO.none
  ·intro y0 y1 y2 y3 y4 y5
   unfold exergueref11_number.j1
   repeat' first|(with_reducible first|apply ih0|apply ih1|apply exergueref11_over.mono|apply LeO.refl|apply LeO.none|refine LeO.ite ?_ ?_|refine LeO.bind ?_ (fun _=>?_))|apply ih0|apply ih1|apply exergueref11_over.mono|apply LeO.none
theorem exergueref11_number.mono:∀ a0 a1 a2 k,LeO (exergueref11_number.f k a0 a1 a2) (exergueref11_number.f (k+1) a0 a1 a2):=by
 intro a0 a1 a2 k
 obtain ⟨ih0,ih1⟩:=exergueref11_number.mono_l k
 unfold exergueref11_number.f
 repeat' first|(with_reducible first|apply ih0|apply ih1|apply exergueref11_over.mono|apply LeO.refl|apply LeO.none|refine LeO.ite ?_ ?_|refine LeO.bind ?_ (fun _=>?_))|apply ih0|apply ih1|apply exergueref11_over.mono|apply LeO.none
set_option maxHeartbeats 8000000 in
set_option maxRecDepth 100000 in
theorem exergueref11_number.calls (k:Nat)(a0:ByteArray)(a1:Int)(a2:Int)(r1:Int)(r2:Int)(w:World)(h:exergueref11_number.f k a0 a1 a2=some (r1,r2)) :
  Calls Tryz.prog 96 #[.string a0,.int .i64 a1,.int .i64 a2] w fun e w'=>e = .returned (.tuple #[.int .i64 r1,.int .i64 r2])∧Drawn0 w w':=by
 have H:((exergueref11_over.f k a0 a1).bind fun aa=>(exergueref11_number.l0 k a0 a2 aa aa 0))=some (r1,r2):=h
 clear h
 replace H:=Option.bind_eq_some_iff.mp H
 obtain ⟨aa,A40,H⟩:=H
 try dsimp only at H
 have A4:=zS A40
 clear A40
 have H':=zS H
 clear H
 go_enter Tryz.func96,Tryz.ntmps96
 go_wp2_with (first|((with_reducible refine gate_callee (f:=72) rfl ?_);refine gL (some 13) Tryz.func72 #[.string a0,.int .i64 a1] ?_;(with_reducible refine (exergueref11_over.calls k a0 a1 aa _ A4.out).mono ?_);rintro e w' ⟨rfl,⟨nd,rfl⟩⟩;refine ⟨_,rfl,?_⟩))
 go_loopg [9,10] k (fun kq v9 v10 w'=>∃ (ab:Int) (ac:Int),v9 = .int .i64 ab∧v10 = .int .i64 ac∧Sd (exergueref11_number.l0 kq a0 a2 aa ab ac=some (r1,r2))∧Sd (kq≤k)∧Drawn0 w w')
 case atStart=>exact ⟨(aa),(0),(by first|rfl|(simp;done)|(simp [*];done)),(by first|rfl|(simp;done)|(simp [*];done)),H',⟨Nat.le_refl _⟩,by repeat (first|exact Drawn0.refl _|apply Drawn0.step)⟩
 case round=>
  clear H'
  try clear p2
  obtain ⟨ab,ac,rfl,rfl,HA,HK1,⟨m1,rfl⟩⟩:=hrel
  cases gk with
  | zero=>exact absurd HA.out (by simp [exergueref11_number.l0])
  | succ k1=>
   have H:=HA.out
   clear HA
   simp only [exergueref11_number.l0] at H
   have HC5:=zS H
   clear H
   go_upto_region 4 with (fail)
   go_cut [30] (fun v30 wc=>∃ (kq:Nat) (ad:Bool),v30 = .bool ad∧Sd (exergueref11_number.j1 kq a0 a2 aa ab ac ad=some (r1,r2))∧Sd (kq≤k1)∧Drawn0 w wc)
   case first=>
    have H:=HC5.out
    clear HC5
    by_cases c6:ab<(a0.size:Int)
    rotate_left
    ·rw [if_neg c6] at H
     have ae:=zD c6
     clear c6
     (first|rw [ae]|(simp only [i64_w,i32_w];rw [ae])|rw [aq]|skip)
     have H':=zS H
     clear H
     go_wp2
     go_meet
     case rel=>exact ⟨_,(false),(by first|rfl|(simp;done)|(simp [*];done)),H',⟨by have:=HK1.out;first|omega|exact Nat.le_refl _⟩,by repeat (first|exact Drawn0.refl _|apply Drawn0.step)⟩
    rw [if_pos c6] at H
    have ae:=zC c6
    clear c6
    (first|rw [ae]|(simp only [i64_w,i32_w];rw [ae])|rw [aq]|skip)
    by_cases c7:0≤ab
    rotate_left
    ·rw [if_neg c7] at H
     exact absurd H (by simp)
    rw [if_pos c7] at H
    have ar:=zC c7
    clear c7
    by_cases c9:(bt a0 ab)≥48
    ·rw [if_pos c9] at H
     have ag:decide (48≤(bt a0 ab))=true:=zC c9
     clear c9
     have H':=zS H
     clear H
     have p8:0≤(ab:Int):=zB (by first|(with_reducible assumption)|assumption)
     have q8:ab<(a0.size:Int):=zB (by first|(with_reducible assumption)|assumption)
     have hx8:=bt_at a0 ab
     replace p8:=eq_true p8
     replace q8:=eq_true q8
     have p10:0≤(ab:Int):=zB (by first|(with_reducible assumption)|assumption)
     have q10:ab<(a0.size:Int):=zB (by first|(with_reducible assumption)|assumption)
     have au:=bt_at a0 ab
     replace p10:=eq_true p10
     replace q10:=eq_true q10
     go_wp2
     go_meet
     case rel=>exact ⟨_,(decide ((bt a0 ab)≤57)),(by first|rfl|(simp;done)|(simp [*];done)),H',⟨by have:=HK1.out;first|omega|exact Nat.le_refl _⟩,by repeat (first|exact Drawn0.refl _|apply Drawn0.step)⟩
    rw [if_neg c9] at H
    have ag:decide (48≤(bt a0 ab))=false:=zD c9
    clear c9
    have H':=zS H
    clear H
    have p8:0≤(ab:Int):=zB (by first|(with_reducible assumption)|assumption)
    have q8:ab<(a0.size:Int):=zB (by first|(with_reducible assumption)|assumption)
    have hx8:=bt_at a0 ab
    replace p8:=eq_true p8
    replace q8:=eq_true q8
    go_wp2
    go_meet
    case rel=>exact ⟨_,(false),(by first|rfl|(simp;done)|(simp [*];done)),H',⟨by have:=HK1.out;first|omega|exact Nat.le_refl _⟩,by repeat (first|exact Drawn0.refl _|apply Drawn0.step)⟩
   case rest=>
    clear HC5
    try clear p1
    try clear q1
    try clear hx1
    try clear p2
    try clear c6
    try clear ae
    try clear c7
    try clear ar
    try clear p8
    try clear q8
    try clear hx8
    try clear c9
    try clear ag
    try clear p10
    try clear q10
    try clear au
    try clear p10
    try clear p2
    try clear p8
    try clear q10
    try clear q8
    obtain ⟨kq,ad,rfl,HA,HJ4,⟨mc4,rfl⟩⟩:=hcut
    cases kq with
    | zero=>exact absurd HA.out (by simp [exergueref11_number.j1])
    | succ kj4=>
     have H:=HA.out
     clear HA
     simp only [exergueref11_number.j1] at H
     by_cases c11:ad=true
     ·subst c11
      rw [if_pos rfl] at H
      by_cases c12:(wrap64 (ab - aa))<9
      rotate_left
      ·rw [if_neg c12] at H
       have ah:=zD c12
       clear c12
       have H':=zS H
       clear H
       go_wp2
       go_roundg kj4
       case measure=>have:=HK1.out;have:=HJ4.out;omega
       case rel=>exact ⟨(wrap64 (ab+1)),(ac),(by first|rfl|(simp;done)|(simp [*];done)),(by first|rfl|(simp;done)|(simp [*];done)),H',⟨by have:=HK1.out;have:=HJ4.out;omega⟩,by repeat (first|exact Drawn0.refl _|apply Drawn0.step)⟩
      rw [if_pos c12] at H
      have ah:=zC c12
      clear c12
      by_cases c13:0≤ab
      rotate_left
      ·rw [if_neg c13] at H
       exact absurd H (by simp)
      rw [if_pos c13] at H
      have av:=zC c13
      clear c13
      by_cases c14:ab<(a0.size:Int)
      ·rw [if_pos c14] at H
       have aw:=zC c14
       clear c14
       have H':=zS H
       clear H
       have p15:0≤(ab:Int):=zB (by first|(with_reducible assumption)|assumption)
       have q15:ab<(a0.size:Int):=zB (by first|(with_reducible assumption)|assumption)
       have az:=bt_at a0 ab
       replace p15:=eq_true p15
       replace q15:=eq_true q15
       go_wp2
       go_roundg kj4
       case measure=>have:=HK1.out;have:=HJ4.out;omega
       case rel=>(try simp only [show wrap64 ((bt a0 ab - 48) % 256)=(bt a0 ab - 48) % 256 from by (unfold wrap64;omega)]);exact ⟨(wrap64 (ab+1)),(wrap64 ((wrap64 (ac * 10))+(((bt a0 ab) - 48) % 256))),(by first|rfl|(simp;done)|(simp [*];done)),(by first|rfl|(simp;done)|(simp [*];done)),H',⟨by have:=HK1.out;have:=HJ4.out;omega⟩,by repeat (first|exact Drawn0.refl _|apply Drawn0.step)⟩
      rw [if_neg c14] at H
      exact absurd H (by simp)
     replace c11:=Bool.eq_false_iff.mpr c11
     subst c11
     rw [if_neg (show ¬ (false=true) by decide)] at H
     by_cases c16:ab=aa
     ·rw [if_pos c16] at H
      have ai:(ab == aa)=true:=zH c16
      have aj:(ab != aa)=false:=zG c16
      clear c16
      simp only [Option.some.injEq,Prod.mk.injEq] at H
      obtain ⟨rfl,rfl⟩:=H
      go_wp2
      go_ret2
      exact ⟨by first|rfl|(simp;done)|(simp [*];done),by repeat (first|exact Drawn0.refl _|apply Drawn0.step)⟩
     rw [if_neg c16] at H
     have ai:(ab == aa)=false:=zF c16
     have aj:(ab != aa)=true:=zI c16
     by_cases c17:(wrap64 (ab - aa))>9
     ·rw [if_pos c17] at H
      have ak:decide (9<(wrap64 (ab - aa)))=true:=zC c17
      clear c17
      simp only [Option.some.injEq,Prod.mk.injEq] at H
      obtain ⟨rfl,rfl⟩:=H
      go_wp2
      go_ret2
      exact ⟨by first|rfl|(simp;done)|(simp [*];done),by repeat (first|exact Drawn0.refl _|apply Drawn0.step)⟩
     rw [if_neg c17] at H
     have ak:decide (9<(wrap64 (ab - aa)))=false:=zD c17
     clear c17
     by_cases c18:0≤aa
     rotate_left
     ·rw [if_neg c18] at H
      exact absurd H (by simp)
     rw [if_pos c18] at H
     have ax:=zC c18
     clear c18
     by_cases c19:aa<(a0.size:Int)
     rotate_left
     ·rw [if_neg c19] at H
      exact absurd H (by simp)
     rw [if_pos c19] at H
     have ay:=zC c19
     clear c19
     by_cases c21:(bt a0 aa)=48
     rotate_left
     ·rw [if_neg c21] at H
      have al:((bt a0 aa) == 48)=false:=zF c21
      have am:((bt a0 aa) != 48)=true:=zI c21
      by_cases c24:ac<a2
      ·rw [if_pos c24] at H
       have an:=zC c24
       clear c24
       simp only [Option.some.injEq,Prod.mk.injEq] at H
       obtain ⟨rfl,rfl⟩:=H
       have p20:0≤(aa:Int):=zB (by first|(with_reducible assumption)|assumption)
       have q20:aa<(a0.size:Int):=zB (by first|(with_reducible assumption)|assumption)
       have af:=bt_at a0 aa
       replace p20:=eq_true p20
       replace q20:=eq_true q20
       go_wp2
       go_ret2
       exact ⟨by first|rfl|(simp;done)|(simp [*];done),by repeat (first|exact Drawn0.refl _|apply Drawn0.step)⟩
      rw [if_neg c24] at H
      have an:=zD c24
      clear c24
      simp only [Option.some.injEq,Prod.mk.injEq] at H
      obtain ⟨rfl,rfl⟩:=H
      have p20:0≤(aa:Int):=zB (by first|(with_reducible assumption)|assumption)
      have q20:aa<(a0.size:Int):=zB (by first|(with_reducible assumption)|assumption)
      have af:=bt_at a0 aa
      replace p20:=eq_true p20
      replace q20:=eq_true q20
      go_wp2
      go_ret2
      exact ⟨by first|rfl|(simp;done)|(simp [*];done),by repeat (first|exact Drawn0.refl _|apply Drawn0.step)⟩
     rw [if_pos c21] at H
     have al:((bt a0 aa) == 48)=true:=zH c21
     have am:((bt a0 aa) != 48)=false:=zG c21
     clear c21
     by_cases c22:(wrap64 (ab - aa))>1
     ·rw [if_pos c22] at H
      have ao:decide (1<(wrap64 (ab - aa)))=true:=zC c22
      clear c22
      simp only [Option.some.injEq,Prod.mk.injEq] at H
      obtain ⟨rfl,rfl⟩:=H
      have p20:0≤(aa:Int):=zB (by first|(with_reducible assumption)|assumption)
      have q20:aa<(a0.size:Int):=zB (by first|(with_reducible assumption)|assumption)
      have af:=bt_at a0 aa
      replace p20:=eq_true p20
      replace q20:=eq_true q20
      go_wp2
      go_ret2
      exact ⟨by first|rfl|(simp;done)|(simp [*];done),by repeat (first|exact Drawn0.refl _|apply Drawn0.step)⟩
     rw [if_neg c22] at H
     have ao:decide (1<(wrap64 (ab - aa)))=false:=zD c22
     clear c22
     by_cases c23:ac<a2
     ·rw [if_pos c23] at H
      have ap:=zC c23
      clear c23
      simp only [Option.some.injEq,Prod.mk.injEq] at H
      obtain ⟨rfl,rfl⟩:=H
      have p20:0≤(aa:Int):=zB (by first|(with_reducible assumption)|assumption)
      have q20:aa<(a0.size:Int):=zB (by first|(with_reducible assumption)|assumption)
      have af:=bt_at a0 aa
      replace p20:=eq_true p20
      replace q20:=eq_true q20
      go_wp2
      go_ret2
      exact ⟨by first|rfl|(simp;done)|(simp [*];done),by repeat (first|exact Drawn0.refl _|apply Drawn0.step)⟩
     rw [if_neg c23] at H
     have ap:=zD c23
     clear c23
     simp only [Option.some.injEq,Prod.mk.injEq] at H
     obtain ⟨rfl,rfl⟩:=H
     have p20:0≤(aa:Int):=zB (by first|(with_reducible assumption)|assumption)
     have q20:aa<(a0.size:Int):=zB (by first|(with_reducible assumption)|assumption)
     have af:=bt_at a0 aa
     replace p20:=eq_true p20
     replace q20:=eq_true q20
     go_wp2
     go_ret2
     exact ⟨by first|rfl|(simp;done)|(simp [*];done),by repeat (first|exact Drawn0.refl _|apply Drawn0.step)⟩
end Go.Proofs.YtgfajgkjbckkgaaGreatDoor.PZ
end
end
section
noncomputable section
namespace Go.Proofs.YtgfajgkjbckkgaaGreatDoor.PZ
open Go.RowKit Go.Proofs.YtgfajgkjbckkgaaGreatDoorW.PrintWords Go.Proofs.YtgfajgkjbckkgaaGreatDoorW.PrintLast Go.Proofs.YtgfajgkjbckkgaaGreatDoorW.PrintMore
attribute [local go_sem] max2_int min2_int max_two min_two max_three min_three max_four min_four   -- for this text's walks alone
mutual
def exergueref05_Number.l0:Nat→Int→ByteArray→Option (ByteArray)
 | 0,_,_=>none
 | k+1,x0,x3=>if x0≥10 then ((some (([(wrap64 (48+(Int.tmod (wrap64 (Int.tdiv x0 10)) 10))) % 256]:List Int):List Int)).bind fun ac=>(if (strOfNums ac).size+x3.size≤9223372036854775807 then (exergueref05_Number.l0 k (wrap64 (Int.tdiv x0 10)) ((strOfNums ac) ++ x3)) else (none))) else (some x3)
def exergueref05_Number.f:Nat→Int→Option (ByteArray)
 | 0,_=>none
 | k+1,a0=>if a0<0 then ((exergueref05_Number.f k (wrap64 (-a0))).bind fun ab=>(if 1+ab.size≤9223372036854775807 then (some ((⟨#[45]⟩:ByteArray) ++ ab)) else (none))) else (exergueref05_Number.l0 k a0 (strOfNums (([(wrap64 (48+(Int.tmod a0 10))) % 256]:List Int))))
end
theorem exergueref05_Number.mono_l:∀ k,(∀ y0,LeO (exergueref05_Number.f k y0) (exergueref05_Number.f (k+1) y0))∧(∀ y0 y1,LeO (exergueref05_Number.l0 k y0 y1) (exergueref05_Number.l0 (k+1) y0 y1))
 | 0=>⟨fun _ r h=>by simp [exergueref05_Number.f] at h,fun _ _ r h=>by simp [exergueref05_Number.l0] at h⟩
 | k+1=>by
  obtain ⟨ih0,ih1⟩:=exergueref05_Number.mono_l k
  refine ⟨?_,?_⟩
  ·intro y0
   unfold exergueref05_Number.f
   repeat' first|(with_reducible first|apply ih0|apply ih1|apply LeO.refl|apply LeO.none|refine LeO.ite ?_ ?_|refine LeO.bind ?_ (fun _=>?_))|apply ih0|apply ih1|apply LeO.none
  ·intro y0 y1
   unfold exergueref05_Number.l0
   repeat' first|(with_reducible first|apply ih0|apply ih1|apply LeO.refl|apply LeO.none|refine LeO.ite ?_ ?_|refine LeO.bind ?_ (fun _=>?_))|apply ih0|apply ih1|apply LeO.none
theorem exergueref05_Number.mono:∀ a0 k,LeO (exergueref05_Number.f k a0) (exergueref05_Number.f (k+1) a0):=by
 intro a0 k
 obtain ⟨ih0,ih1⟩:=exergueref05_Number.mono_l k
 exact ih0 a0
set_option maxHeartbeats 8000000 in
set_option maxRecDepth 100000 in
theorem exergueref05_Number.calls (k:Nat):∀ (a0:Int) (r:ByteArray) (w:World) (h:exergueref05_Number.f k a0=some r),
  Calls Tryz.prog 58 #[.int .i64 a0] w fun e w'=>e = .returned (.string r)∧Below w.heap.size w w':=by
 induction k using Nat.strongRecOn with
 | _ k ih=>
 intro a0 r w h
 cases k with
 | zero=>exact absurd h (by simp [exergueref05_Number.f])
 | succ k=>
 simp only [exergueref05_Number.f] at h
 have HB:=zS (Below.refl w.heap.size w)
 have H:(if a0<0 then ((exergueref05_Number.f k (wrap64 (-a0))).bind fun ab=>(if 1+ab.size≤9223372036854775807 then (some ((⟨#[45]⟩:ByteArray) ++ ab)) else (none))) else (exergueref05_Number.l0 k a0 (strOfNums (([(wrap64 (48+(Int.tmod a0 10))) % 256]:List Int)))))=some r:=h
 clear h
 by_cases c2:a0<0
 ·rw [if_pos c2] at H
  have aj:=zC c2
  clear c2
  replace H:=Option.bind_eq_some_iff.mp H
  obtain ⟨ab,A30,H⟩:=H
  try dsimp only at H
  have A3:=zS A30
  clear A30
  by_cases c4:1+ab.size≤9223372036854775807
  ·rw [if_pos c4] at H
   have an:=eq_true c4
   have ao:=zC c4
   try have ap:(9223372036854775807<1+ab.size)=False:=eq_false (Nat.not_lt.2 c4)
   obtain rfl:=zE H
   go_enter Tryz.func58,Tryz.ntmps58
   go_wp2_with (first|((with_reducible refine gate_callee (f:=58) rfl ?_);refine gL (some 8) Tryz.func58 #[.int .i64 (wrap64 (-a0))] ?_;(with_reducible refine (ih k (by omega) (wrap64 (-a0)) ab _ A3.out).mono ?_);rintro e w5 ⟨rfl,hb⟩;refine ⟨_,rfl,?_⟩;replace HB:=bs HB hb;(try clear hb)))
   go_ret
   exact ⟨by first|rfl|(simp <;> rfl)|(simp [*] <;> rfl),bQ HB⟩
  rw [if_neg c4] at H
  exact absurd H (by simp)
 rw [if_neg c2] at H
 have aj:=zD c2
 clear c2
 obtain ⟨ak,ad⟩:∃ y_:List Int,y_=(([(wrap64 (48+(Int.tmod a0 10))) % 256]:List Int)):=⟨_,rfl⟩
 replace H:(exergueref05_Number.l0 k a0 (strOfNums ak))=some r:=by first|(rw [ad];with_reducible exact H)|(have H2_:=(Option.bind_some _ _).symm.trans H;rw [ad];with_reducible exact H2_)|(have H2_:=(Option.bind_some _ _).symm.trans H;with_reducible exact H2_)|with_reducible exact H|(rw [ad];exact H)|exact H
 have ah:=zS ad
 clear ad
 have H':=zS H
 clear H
 go_enter Tryz.func58,Tryz.ntmps58
 go_wp2_with (first|((with_reducible refine gate_dst (N:=14) rfl ?_);refine Kd.R_lit (Kd.int .u8) _ 5 ?hg (N:=14) ?hd (xs:=([(wrap64 (48+(Int.tmod a0 10))) % 256]:List Int)) (inner:=[.int .u8 ((wrap64 (48+(Int.tmod a0 10))) % 256)]) (ok:=fun _=>True) (okp:=fun _=>True) ?hr ?hp (fun _ hk=>hk) trivial (Below.refl _ _) (Nat.le_refl _) (by simp) ?_;(case hd=>rfl);(case hg=>rfl);(case hr=>first|(go_simp;done)|(go_simp;rfl));(case hp=>exact (Reps.one (show Kd.M (Kd.int .u8) _ _ _ ((wrap64 (48+(Int.tmod a0 10))) % 256) [.int .u8 ((wrap64 (48+(Int.tmod a0 10))) % 256)] from rfl) (Reps.none _ _)));intro aw w6 ho7 hb hg_ hnew_;clear hg_ hnew_;(first|rw [← ah.out] at ho7|(simp only [Int.reduceToNat] at ho7;rw [← ah.out] at ho7));have al:=zS (Kd.R_lower ho7 (bz HB));replace HB:=bs HB hb;clear hb ho7;have hcv8:=own_string (P:=Tryz.prog) Tryz.underlying34 Tryz.underlying5 Tryz.underlying9 (Kd.own_of_R al.out)))
 go_loopg [0,3] k (fun kq v0 v3 w'=>∃ (aa:Int) (ae:ByteArray),v0 = .int .i64 aa∧v3 = .string ae∧Sd (exergueref05_Number.l0 kq aa ae=some r)∧Sd (kq≤k)∧Sd (Below w.heap.size w w'))
 case atStart=>exact ⟨(a0),(strOfNums ak),(by first|rfl|(simp;done)|(simp [*];done)),(by first|rfl|(simp;done)|(simp [*];done)),H',⟨Nat.le_refl _⟩,⟨bQ HB⟩⟩
 case round=>
  clear H'
  try clear c2
  try clear aj
  try clear p2
  try clear c4
  try clear an
  try clear ao
  try clear ap
  try clear c5
  try clear p6
  try clear hcv8
  obtain ⟨aa,ae,rfl,rfl,HA,HK1,HB⟩:=hrel
  cases gk with
  | zero=>exact absurd HA.out (by simp [exergueref05_Number.l0])
  | succ k1=>
   have H:=HA.out
   clear HA
   simp only [exergueref05_Number.l0] at H
   by_cases c9:aa≥10
   rotate_left
   ·rw [if_neg c9] at H
    have aq:decide (10≤aa)=false:=zD c9
    clear c9
    obtain rfl:=zE H
    go_wp2
    go_ret
    exact ⟨by first|rfl|(simp <;> rfl)|(simp [*] <;> rfl),bQ HB⟩
   rw [if_pos c9] at H
   have aq:decide (10≤aa)=true:=zC c9
   clear c9
   obtain ⟨ac,af⟩:∃ y_:List Int,y_=(([(wrap64 (48+(Int.tmod (wrap64 (Int.tdiv aa 10)) 10))) % 256]:List Int)):=⟨_,rfl⟩
   replace H:(if (strOfNums ac).size+ae.size≤9223372036854775807 then (exergueref05_Number.l0 k1 (wrap64 (Int.tdiv aa 10)) ((strOfNums ac) ++ ae)) else (none))=some r:=by first|(rw [af];with_reducible exact H)|(have H2_:=(Option.bind_some _ _).symm.trans H;rw [af];with_reducible exact H2_)|(have H2_:=(Option.bind_some _ _).symm.trans H;with_reducible exact H2_)|with_reducible exact H|(rw [af];exact H)|exact H
   have ai:=zS af
   clear af
   by_cases c10:(strOfNums ac).size+ae.size≤9223372036854775807
   ·rw [if_pos c10] at H
    have ar:=eq_true c10
    have au:=zC c10
    try have av:(9223372036854775807<(strOfNums ac).size+ae.size)=False:=eq_false (Nat.not_lt.2 c10)
    have H':=zS H
    clear H
    go_wp2_with (first|((with_reducible refine gate_dst (N:=24) rfl ?_);refine Kd.R_lit (Kd.int .u8) _ 5 ?hg (N:=24) ?hd (xs:=([(wrap64 (48+(Int.tmod (wrap64 (Int.tdiv aa 10)) 10))) % 256]:List Int)) (inner:=[.int .u8 ((wrap64 (48+(Int.tmod (wrap64 (Int.tdiv aa 10)) 10))) % 256)]) (ok:=fun _=>True) (okp:=fun _=>True) ?hr ?hp (fun _ hk=>hk) trivial (Below.refl _ _) (Nat.le_refl _) (by simp) ?_;(case hd=>rfl);(case hg=>rfl);(case hr=>first|(go_simp;done)|(go_simp;rfl));(case hp=>exact (Reps.one (show Kd.M (Kd.int .u8) _ _ _ ((wrap64 (48+(Int.tmod (wrap64 (Int.tdiv aa 10)) 10))) % 256) [.int .u8 ((wrap64 (48+(Int.tmod (wrap64 (Int.tdiv aa 10)) 10))) % 256)] from rfl) (Reps.none _ _)));intro ax w11 ag hb hg_ hnew_;clear hg_ hnew_;(first|rw [← ai.out] at ag|(simp only [Int.reduceToNat] at ag;rw [← ai.out] at ag));have am:=zS (Kd.R_lower ag (bz HB));replace HB:=bs HB hb;clear hb ag;have hcv13:=own_string (P:=Tryz.prog) Tryz.underlying34 Tryz.underlying5 Tryz.underlying9 (Kd.own_of_R am.out)))
    go_roundg k1
    case measure=>have:=HK1.out;omega
    case rel=>exact ⟨(wrap64 (Int.tdiv aa 10)),((strOfNums ac) ++ ae),(by first|rfl|(simp;done)|(simp [*];done)),(by first|rfl|(simp;done)|(simp [*];done)),H',⟨by have:=HK1.out;omega⟩,⟨bQ HB⟩⟩
   rw [if_neg c10] at H
   exact absurd H (by simp)
end Go.Proofs.YtgfajgkjbckkgaaGreatDoor.PZ
end
end
