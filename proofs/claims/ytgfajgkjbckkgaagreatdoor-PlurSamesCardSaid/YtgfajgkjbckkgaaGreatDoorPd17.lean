/- Texts of this seat, joined. Conditions: none beyond each statement's own. -/
import Derived.Test.YtgfajgkjbckkgaaGreatDoorPd16
set_option linter.all false
section
noncomputable section
namespace Go.Proofs.YtgfajgkjbckkgaaGreatDoor.PZ
open Go.RowKit Go.Proofs.YtgfajgkjbckkgaaGreatDoorW.PrintWords Go.Proofs.YtgfajgkjbckkgaaGreatDoorW.PrintLast Go.Proofs.YtgfajgkjbckkgaaGreatDoorW.PrintMore
attribute [local go_sem] max2_int min2_int max_two min_two max_three min_three max_four min_four   -- for this text's walks alone
def rule_Right.f (k:Nat)(l0:List (List (S60))):Option (Bool):=(rule_Text.f k l0).bind fun aa=>((rule_Parse.f aa).bind fun ac=>(if ac.2.2=0 then ((rule_Same.f l0 ac.1).bind fun ae=>(some ae)) else (some false)))
theorem rule_Right.mono:∀ a0 k,LeO (rule_Right.f k a0) (rule_Right.f (k+1) a0):=by
 intro a0 k
 unfold rule_Right.f
 repeat' first|(with_reducible first|apply rule_Text.mono|apply LeO.refl|apply LeO.none|refine LeO.ite ?_ ?_|refine LeO.bind ?_ (fun _=>?_))|apply rule_Text.mono|apply LeO.none
set_option maxHeartbeats 8000000 in
set_option maxRecDepth 100000 in
theorem rule_Right.calls (k:Nat)(A0:Option Addr)(c0:Nat)(l0:List (List (S60)))(r:Bool)(w:World)(hG:GL w)(hr0:Kd.C (Kd.slice 60 k60) w A0 l0.length l0)(hc0:l0.length≤c0)(h:rule_Right.f k l0=some r) :
  Calls Tryz.prog 32 #[.slice A0 l0.length c0] w fun e w'=>e = .returned (.bool r)∧Below w.heap.size w w':=by
 have HR0:=zS hr0
 have HC0:=zS hc0
 clear hr0 hc0
 have HB:=zS (Below.refl w.heap.size w)
 have HG:=zS hG
 clear hG
 have H:((rule_Text.f k l0).bind fun aa=>((rule_Parse.f aa).bind fun ac=>(if ac.2.2=0 then ((rule_Same.f l0 ac.1).bind fun ae=>(some ae)) else (some false))))=some r:=h
 clear h
 replace H:=Option.bind_eq_some_iff.mp H
 obtain ⟨aa,A20,H⟩:=H
 try dsimp only at H
 have A2:=zS A20
 clear A20
 replace H:=Option.bind_eq_some_iff.mp H
 obtain ⟨⟨af,ag,ad⟩,A30,H⟩:=H
 try dsimp only at H
 have A3:=zS A30
 clear A30
 by_cases c4:ad=0
 ·rw [if_pos c4] at H
  have ah:(ad == 0)=true:=zH c4
  have ai:(ad != 0)=false:=zG c4
  clear c4
  replace H:=Option.bind_eq_some_iff.mp H
  obtain ⟨ae,A50,H⟩:=H
  try dsimp only at H
  have A5:=zS A50
  clear A50
  obtain rfl:=zE H
  go_enter Tryz.func32,Tryz.ntmps32
  go_wp2_with (first|((with_reducible refine gate_callee (f:=35) rfl ?_);refine gL (some 8) Tryz.func35 #[.slice A0 l0.length c0] ?_;(with_reducible refine (rule_Text.calls k _ _ l0 aa _ ?side3 ?side1 HC0.out A2.out).mono ?_);(case side1=>repeat (first|exact HR0.out|(with_reducible refine Kd.C_alloc ?_ _)|(with_reducible refine Kd.C_drewN ?_ _)|(with_reducible refine Kd.C_drew ?_)));(case side3=>refine GL.below HG.out ?_;exact bQ HB);rintro e w6 ⟨rfl,hb⟩;refine ⟨_,rfl,?_⟩;replace HB:=bs HB hb;(try clear hb))|((with_reducible refine gate_callee (f:=39) rfl ?_);refine gL (some 9) Tryz.func39 #[.string aa] ?_;(with_reducible refine (rule_Parse.calls aa af ag ad _ ?side1 A3.out).mono ?_);(case side1=>refine GL.below HG.out ?_;exact bQ HB);rintro e w7 ⟨aj,rfl,ho0,hb⟩;refine ⟨_,rfl,?_⟩;have ab:=zS (Kd.R_lower ho0 (bz HB));replace HB:=bs HB hb;(try clear hb);(try clear hb2);(try clear hk);(try clear hi);(try clear ho0);obtain ⟨Ao8,co8,eo8⟩:=Kd.R_slice ab.out;subst eo8)|(go_at_call 33;(with_reducible refine (rule_Same.calls _ _ l0 _ _ af ae _ (cb HR0 HB) HC0.out (rc ab) (rl ab) A5.out).mono ?_);rintro e w9 ⟨rfl,hb⟩;replace ab:=rb ab hb;replace HB:=bs HB hb;(try clear hb);(try clear hb2);(try clear hk);(try clear hi)))
  go_ret
  exact ⟨by first|rfl|(simp <;> rfl)|(simp [*] <;> rfl),bQ HB⟩
 rw [if_neg c4] at H
 have ah:(ad == 0)=false:=zF c4
 have ai:(ad != 0)=true:=zI c4
 obtain rfl:=zE H
 go_enter Tryz.func32,Tryz.ntmps32
 go_wp2_with (first|((with_reducible refine gate_callee (f:=35) rfl ?_);refine gL (some 8) Tryz.func35 #[.slice A0 l0.length c0] ?_;(with_reducible refine (rule_Text.calls k _ _ l0 aa _ ?side3 ?side1 HC0.out A2.out).mono ?_);(case side1=>repeat (first|exact HR0.out|(with_reducible refine Kd.C_alloc ?_ _)|(with_reducible refine Kd.C_drewN ?_ _)|(with_reducible refine Kd.C_drew ?_)));(case side3=>refine GL.below HG.out ?_;exact bQ HB);rintro e w10 ⟨rfl,hb⟩;refine ⟨_,rfl,?_⟩;replace HB:=bs HB hb;(try clear hb);(try clear hb2);(try clear hk);(try clear hi))|((with_reducible refine gate_callee (f:=39) rfl ?_);refine gL (some 9) Tryz.func39 #[.string aa] ?_;(with_reducible refine (rule_Parse.calls aa af ag ad _ ?side1 A3.out).mono ?_);(case side1=>refine GL.below HG.out ?_;exact bQ HB);rintro e w11 ⟨aj,rfl,ho0,hb⟩;refine ⟨_,rfl,?_⟩;have ab:=zS (Kd.R_lower ho0 (bz HB));replace HB:=bs HB hb;(try clear hb);(try clear hb2);(try clear hk);(try clear hi);(try clear ho0)))
 go_ret
 exact ⟨by first|rfl|(simp <;> rfl)|(simp [*] <;> rfl),bQ HB⟩
end Go.Proofs.YtgfajgkjbckkgaaGreatDoor.PZ
end
end
section
noncomputable section
namespace Go.Proofs.YtgfajgkjbckkgaaGreatDoor.PZ
open Go.RowKit Go.Proofs.YtgfajgkjbckkgaaGreatDoorW.PrintWords Go.Proofs.YtgfajgkjbckkgaaGreatDoorW.PrintLast Go.Proofs.YtgfajgkjbckkgaaGreatDoorW.PrintMore
attribute [local go_sem] max2_int min2_int max_two min_two max_three min_three max_four min_four   -- for this text's walks alone
def plur_Read.l0:Nat→List (S65)→Int→List (S68)→Int→Int→Option ((List (S65))×Int×Int)
 | 0,_,_,_,_,_=>none
 | k+1,x5,x6,x12,x13,x14=>if x14<x13 then (if 0≤x14 then (if x14<(x12.length:Int) then ((plur_next.f x6 ((rd_T68 x12 x14).f0)).bind fun ar=>(if ar=true then ((rule_Parse.f ((rd_T68 x12 x14).f1)).bind fun ao=>(if ao.2.2=0 then ((rule_Right.f k ao.1).bind fun au=>(if au=true then (if x5.length<4398046511104 then (plur_Read.l0 k (x5 ++ [(⟨(rd_T68 x12 x14).f0,ao.1⟩:S65)]) ((rd_T68 x12 x14).f0) x12 x13 (wrap64 (x14+1))) else (none)) else (some (([]:List (S65)),x14,2)))) else (some (([]:List (S65)),x14,2)))) else (some (([]:List (S65)),x14,1)))) else (none)) else (none)) else (some (x5,0,0))
def plur_Read.f (k:Nat)(l0:List (S68)):Option ((List (S65))×Int×Int):=plur_Read.l0 k ([]:List (S65)) 0 l0 (l0.length:Int) 0
theorem plur_Read.mono_l:∀ k,(∀ y0 y1 y2 y3 y4,LeO (plur_Read.l0 k y0 y1 y2 y3 y4) (plur_Read.l0 (k+1) y0 y1 y2 y3 y4))
 | 0=>fun _ _ _ _ _ r h=>by simp [plur_Read.l0] at h
 | k+1=>by
  have ih0:=plur_Read.mono_l k
  ·intro y0 y1 y2 y3 y4
   unfold plur_Read.l0
   repeat' first|(with_reducible first|apply ih0|apply rule_Right.mono|apply LeO.refl|apply LeO.none|refine LeO.ite ?_ ?_|refine LeO.bind ?_ (fun _=>?_))|apply ih0|apply rule_Right.mono|apply LeO.none
theorem plur_Read.mono:∀ a0 k,LeO (plur_Read.f k a0) (plur_Read.f (k+1) a0):=by
 intro a0 k
 have ih0:=plur_Read.mono_l k
 unfold plur_Read.f
 repeat' first|(with_reducible first|apply ih0|apply rule_Right.mono|apply LeO.refl|apply LeO.none|refine LeO.ite ?_ ?_|refine LeO.bind ?_ (fun _=>?_))|apply ih0|apply rule_Right.mono|apply LeO.none
set_option maxHeartbeats 8000000 in
set_option maxRecDepth 100000 in
theorem plur_Read.calls (k:Nat)(A0:Option Addr)(c0:Nat)(l0:List (S68))(r1:List (S65))(r2:Int)(r3:Int)(w:World)(hG:GL w)(hr0:Kd.C k68 w A0 l0.length l0)(hc0:l0.length≤c0)(h:plur_Read.f k l0=some (r1,r2,r3)) :
  Calls Tryz.prog 18 #[.slice A0 l0.length c0] w fun e w'=>∃ v0_:Value,e = .returned (.tuple #[v0_,.int .i64 r2,.int .i64 r3])∧Kd.R k65 65 w' w.heap.size (fun _=>True) v0_ r1∧Below w.heap.size w w':=by
 have hu68:=Tryz.underlying68
 have hu65:=Tryz.underlying65
 have HR0:=zS hr0
 have HC0:=zS hc0
 clear hr0 hc0
 have HB:=zS (Below.refl w.heap.size w)
 have HG:=zS hG
 clear hG
 have H:(plur_Read.l0 k ([]:List (S65)) 0 l0 (l0.length:Int) 0)=some (r1,r2,r3):=h
 clear h
 have H':=zS H
 clear H
 go_enter Tryz.func18,Tryz.ntmps18
 go_wp2
 go_loopg [5,6,14] k (fun kq v5 v6 v14 w'=>∃ (an:List (S65)) (ai:Int) (aa:Int),v6 = .int .i64 ai∧v14 = .int .i64 aa∧Sd (plur_Read.l0 kq an ai l0 (l0.length:Int) aa=some (r1,r2,r3))∧Sd (kq≤k)∧Sd (Kd.R k65 65 w' w.heap.size (fun _=>True) v5 an)∧Sd (Below w.heap.size w w'))
 case atStart=>exact ⟨(([]:List (S65))),(0),(0),(by first|rfl|(simp;done)|(simp [*];done)),(by first|rfl|(simp;done)|(simp [*];done)),H',⟨Nat.le_refl _⟩,⟨by first|exact Kd.R_nil _ _ _ _ _|exact Kd.N_nil _ _ _ _ _|exact Kd.V_nil _ _ _ _ _|exact Kd.Q_nil _ _ _ _ _|exact Kd.S_nil _ _ _ _ _⟩,⟨bQ HB⟩⟩
 case round=>
  clear H'
  try clear c1
  obtain ⟨an,ai,aa,rfl,rfl,HA,HK1,HO_5,HB⟩:=hrel
  cases gk with
  | zero=>exact absurd HA.out (by simp [plur_Read.l0])
  | succ k1=>
   have H:=HA.out
   clear HA
   simp only [plur_Read.l0] at H
   by_cases c2:aa<(l0.length:Int)
   rotate_left
   ·rw [if_neg c2] at H
    have aA:=zD c2
    clear c2
    simp only [Option.some.injEq,Prod.mk.injEq] at H
    obtain ⟨rfl,rfl,rfl⟩:=H
    go_wp2
    go_ret3
    exact ⟨_,by first|rfl|(simp <;> rfl)|(simp [*] <;> rfl),by (with_reducible repeat (first|apply Kd.R_alloc|apply Kd.R_drewN|apply Kd.R_drew));exact HO_5.out,bQ HB⟩
   rw [if_pos c2] at H
   have aA:=zC c2
   clear c2
   by_cases c3:0≤aa
   rotate_left
   ·rw [if_neg c3] at H
    exact absurd H (by simp)
   rw [if_pos c3] at H
   have aZ:=zC c3
   clear c3
   by_cases c4:aa<(l0.length:Int)
   rotate_left
   ·rw [if_neg c4] at H
    exact absurd H (by simp)
   rw [if_pos c4] at H
   have a1:=zC c4
   clear c4
   replace H:=Option.bind_eq_some_iff.mp H
   obtain ⟨ar,A50,H⟩:=H
   try dsimp only at H
   have A5:=zS A50
   clear A50
   by_cases c6:ar=true
   rotate_left
   ·replace c6:=Bool.eq_false_iff.mpr c6
    subst c6
    rw [if_neg (show ¬ (false=true) by decide)] at H
    simp only [Option.some.injEq,Prod.mk.injEq] at H
    obtain ⟨rfl,rfl,rfl⟩:=H
    have ag:0≤(aa:Int):=zB (by first|(with_reducible assumption)|assumption)
    have ah:aa<(l0.length:Int):=zB (by first|(with_reducible assumption)|assumption)
    obtain ⟨ap,am,ac,ad⟩:=at_T68 HR0.out aa ag ah
    cases am
    replace ac:=(HB.out.cell (World.block_lt_of_cell? w _ ac)).trans ac
    replace ad:=(HB.out.cell (World.block_lt_of_cell? w _ ad)).trans ad
    replace ag:=eq_true ag
    replace ah:=eq_true ah
    go_wp2_with (first|((with_reducible refine gate_dst (N:=8) rfl ?_);refine box_event ?hg (N:=8) ?hd (cs:=#[.int .i64 0,.string (⟨#[]⟩:ByteArray)]) (t:=68) ?hr ?_;(case hd=>rfl);(case hg=>rfl);(case hr=>first|(go_simp;done)|(go_simp;rfl));intro af hg w28 hbox hb;replace HO_5:=rb HO_5 hb;have ab:=zS (hbox);have aq:=bg HB hg;replace HB:=bs HB hb;clear hb hbox hg;have aJ:=blkc2 ab.out;have aK:=blkf2 ab.out)|((with_reducible refine gate_callee (f:=45) rfl ?_);refine gL (some 22) Tryz.func45 #[.int .i64 ai,.int .i64 ((rd_T68 l0 aa).f0)] ?_;(with_reducible refine (plur_next.calls ai ((rd_T68 l0 aa).f0) false _ A5.out).mono ?_);rintro e w' ⟨rfl,⟨nd,rfl⟩⟩;refine ⟨_,rfl,?_⟩))
    go_ret3
    exact ⟨_,by first|rfl|(simp <;> rfl)|(simp [*] <;> rfl),by first|exact Kd.R_nil _ _ _ _ _|exact Kd.N_nil _ _ _ _ _|exact Kd.V_nil _ _ _ _ _|exact Kd.Q_nil _ _ _ _ _|exact Kd.S_nil _ _ _ _ _,bQ HB⟩
   subst c6
   rw [if_pos rfl] at H
   replace H:=Option.bind_eq_some_iff.mp H
   obtain ⟨⟨aj,av,ak⟩,A70,H⟩:=H
   try dsimp only at H
   have A7:=zS A70
   clear A70
   by_cases c8:ak=0
   rotate_left
   ·rw [if_neg c8] at H
    have aC:(ak == 0)=false:=zF c8
    have aD:(ak != 0)=true:=zI c8
    simp only [Option.some.injEq,Prod.mk.injEq] at H
    obtain ⟨rfl,rfl,rfl⟩:=H
    have ag:0≤(aa:Int):=zB (by first|(with_reducible assumption)|assumption)
    have ah:aa<(l0.length:Int):=zB (by first|(with_reducible assumption)|assumption)
    obtain ⟨ap,am,ac,ad⟩:=at_T68 HR0.out aa ag ah
    cases am
    replace ac:=(HB.out.cell (World.block_lt_of_cell? w _ ac)).trans ac
    replace ad:=(HB.out.cell (World.block_lt_of_cell? w _ ad)).trans ad
    replace ag:=eq_true ag
    replace ah:=eq_true ah
    go_wp2_with (first|((with_reducible refine gate_dst (N:=8) rfl ?_);refine box_event ?hg (N:=8) ?hd (cs:=#[.int .i64 0,.string (⟨#[]⟩:ByteArray)]) (t:=68) ?hr ?_;(case hd=>rfl);(case hg=>rfl);(case hr=>first|(go_simp;done)|(go_simp;rfl));intro af hg w25 hbox hb;replace HO_5:=rb HO_5 hb;have ab:=zS (hbox);have aq:=bg HB hg;replace HB:=bs HB hb;clear hb hbox hg;have aM:=blkc2 ab.out;have aN:=blkf2 ab.out)|((with_reducible refine gate_callee (f:=45) rfl ?_);refine gL (some 22) Tryz.func45 #[.int .i64 ai,.int .i64 ((rd_T68 l0 aa).f0)] ?_;(with_reducible refine (plur_next.calls ai ((rd_T68 l0 aa).f0) true _ A5.out).mono ?_);rintro e w' ⟨rfl,⟨nd,rfl⟩⟩;refine ⟨_,rfl,?_⟩)|((with_reducible refine gate_callee (f:=39) rfl ?_);refine gL (some 28) Tryz.func39 #[.string ((rd_T68 l0 aa).f1)] ?_;(with_reducible refine (rule_Parse.calls ((rd_T68 l0 aa).f1) aj av ak _ ?side1 A7.out).mono ?_);(case side1=>refine GL.below HG.out ?_;exact bQ HB);rintro e w27 ⟨aw,rfl,ho0,hb⟩;refine ⟨_,rfl,?_⟩;replace HO_5:=zS (Kd.R_elder' (by (with_reducible repeat (first|apply Kd.R_alloc|apply Kd.R_drewN|apply Kd.R_drew));exact (Kd.R_mono (Kd.R_far (p:=⟨af,1,none⟩) (Kd.R_far (p:=⟨af,0,none⟩) (Kd.R_types HO_5.out ab.out (by decide)) (fun _ hk=>hk.2) (.int .i64 ((rd_T68 l0 aa).f0))) (fun _ hk=>hk.2) (.string ((rd_T68 l0 aa).f1))) (fun _ h_=>h_.1))) (Kd.R_base ho0) hb);have ae:=zS (Kd.R_lower ho0 (bz HB));replace ab:=zS (blk_below (g:=af) (o:=.cells #[.int .i64 ((rd_T68 l0 aa).f0),.string ((rd_T68 l0 aa).f1)] 68 (0,0)) (kp ab rfl) hb);replace HB:=bs HB hb;(try clear hb);(try clear hk);(try clear ho0)))
    go_ret3
    exact ⟨_,by first|rfl|(simp <;> rfl)|(simp [*] <;> rfl),by first|exact Kd.R_nil _ _ _ _ _|exact Kd.N_nil _ _ _ _ _|exact Kd.V_nil _ _ _ _ _|exact Kd.Q_nil _ _ _ _ _|exact Kd.S_nil _ _ _ _ _,bQ HB⟩
   rw [if_pos c8] at H
   have aC:(ak == 0)=true:=zH c8
   have aD:(ak != 0)=false:=zG c8
   clear c8
   replace H:=Option.bind_eq_some_iff.mp H
   obtain ⟨au,A90,H⟩:=H
   try dsimp only at H
   have A9:=zS A90
   clear A90
   by_cases c10:au=true
   ·subst c10
    rw [if_pos rfl] at H
    by_cases c11:an.length<4398046511104
    rotate_left
    ·rw [if_neg c11] at H
     exact absurd H (by simp)
    rw [if_pos c11] at H
    have LMc11:=zS c11
    clear c11
    obtain ⟨ax,al⟩:∃ y_:List (S65),y_=(an ++ [(⟨(rd_T68 l0 aa).f0,aj⟩:S65)]):=⟨_,rfl⟩
    replace H:(plur_Read.l0 k1 ax ((rd_T68 l0 aa).f0) l0 (l0.length:Int) (wrap64 (aa+1)))=some (r1,r2,r3):=by first|(rw [al];with_reducible exact H)|(have H2_:=(Option.bind_some _ _).symm.trans H;rw [al];with_reducible exact H2_)|(have H2_:=(Option.bind_some _ _).symm.trans H;with_reducible exact H2_)|with_reducible exact H|(rw [al];exact H)|exact H
    have ay:=zS al
    clear al
    have H':=zS H
    clear H
    have ag:0≤(aa:Int):=zB (by first|(with_reducible assumption)|assumption)
    have ah:aa<(l0.length:Int):=zB (by first|(with_reducible assumption)|assumption)
    obtain ⟨ap,am,ac,ad⟩:=at_T68 HR0.out aa ag ah
    cases am
    replace ac:=(HB.out.cell (World.block_lt_of_cell? w _ ac)).trans ac
    replace ad:=(HB.out.cell (World.block_lt_of_cell? w _ ad)).trans ad
    replace ag:=eq_true ag
    replace ah:=eq_true ah
    go_wp2_with (first|((with_reducible refine gate_dst (N:=8) rfl ?_);refine box_event ?hg (N:=8) ?hd (cs:=#[.int .i64 0,.string (⟨#[]⟩:ByteArray)]) (t:=68) ?hr ?_;(case hd=>rfl);(case hg=>rfl);(case hr=>first|(go_simp;done)|(go_simp;rfl));intro af hg w12 hbox hb;replace HO_5:=rb HO_5 hb;have ab:=zS (hbox);have aq:=bg HB hg;replace HB:=bs HB hb;clear hb hbox hg;have aQ:=blkc2 ab.out;have aR:=blkf2 ab.out)|((with_reducible refine gate_callee (f:=45) rfl ?_);refine gL (some 22) Tryz.func45 #[.int .i64 ai,.int .i64 ((rd_T68 l0 aa).f0)] ?_;(with_reducible refine (plur_next.calls ai ((rd_T68 l0 aa).f0) true _ A5.out).mono ?_);rintro e w' ⟨rfl,⟨nd,rfl⟩⟩;refine ⟨_,rfl,?_⟩)|((with_reducible refine gate_callee (f:=39) rfl ?_);refine gL (some 28) Tryz.func39 #[.string ((rd_T68 l0 aa).f1)] ?_;(with_reducible refine (rule_Parse.calls ((rd_T68 l0 aa).f1) aj av ak _ ?side1 A7.out).mono ?_);(case side1=>refine GL.below HG.out ?_;exact bQ HB);rintro e w14 ⟨aw,rfl,ho0,hb⟩;refine ⟨_,rfl,?_⟩;replace HO_5:=zS (Kd.R_elder' (by (with_reducible repeat (first|apply Kd.R_alloc|apply Kd.R_drewN|apply Kd.R_drew));exact (Kd.R_mono (Kd.R_far (p:=⟨af,1,none⟩) (Kd.R_far (p:=⟨af,0,none⟩) (Kd.R_types HO_5.out ab.out (by decide)) (fun _ hk=>hk.2) (.int .i64 ((rd_T68 l0 aa).f0))) (fun _ hk=>hk.2) (.string ((rd_T68 l0 aa).f1))) (fun _ h_=>h_.1))) (Kd.R_base ho0) hb);have ae:=zS (Kd.R_lower ho0 (bz HB));replace ab:=zS (blk_below (g:=af) (o:=.cells #[.int .i64 ((rd_T68 l0 aa).f0),.string ((rd_T68 l0 aa).f1)] 68 (0,0)) (kp ab rfl) hb);replace HB:=bs HB hb;(try clear hb);(try clear hk);(try clear ho0);obtain ⟨aE,aG,aH⟩:=Kd.R_slice ae.out;subst aH)|(go_at_call 32;(with_reducible refine (rule_Right.calls k1 _ _ aj true _ ?side3 (rc ae) (rl ae) A9.out).mono ?_);(case side3=>refine GL.below HG.out ?_;exact bQ HB);rintro e w16 ⟨rfl,hb⟩;replace HO_5:=rb HO_5 hb;replace ae:=rb ae hb;replace ab:=kb ab hb;replace HB:=bs HB hb;(try clear hb);(try clear hb2);(try clear hk);(try clear hi);have aT:=blkc2 ab.out;have aU:=blkf2 ab.out)|((with_reducible refine gate_builtin (b:=.append) (xs:=#[.tmp 40,.tmp 45]) rfl ?_);at_builtin;refine Kd.R_append k65 (w0:=w) w.heap.size rfl (.tmp 40) (.tmp 45) 28 65 (.agg #[(.int .i64 0),(.slice none 0 0)]) 32 rfl Tryz.underlying28 info65 rfl (by decide) (by omega) u5 an (⟨(rd_T68 l0 aa).f0,aj⟩:S65) [.int .i64 ((rd_T68 l0 aa).f0),.slice aE aj.length aG] (fun _=>True) (fun k_=>((fun _=>True)) k_∧some k_≠(u5:Value).ownBlock) rfl rfl ?aP (fun _ hk=>hk) ?aF ?aO ?aB ?aS ?aL ?_;(case aP=>exact k65_mkM _ _ _ (⟨(rd_T68 l0 aa).f0,aj⟩:S65) (Kd.R_mono (Kd.R_apart' (ae.out) (Kd.R_typed HO_5.out) (by decide)) (fun k_ hk=>⟨trivial,hk.2⟩)));(case aB=>exact (bQ HB));(case aF=>exact (fun _ _=>trivial));(case aO=>exact (by (with_reducible repeat (first|apply Kd.R_alloc|apply Kd.R_drewN|apply Kd.R_drew));exact Kd.R_mono HO_5.out (fun _ hk=>trivial)));(case aS=>exact (bz HB));(case aL=>have:=LMc11.out;omega);intro a2 w18 ho hb hg hat;rw [← ay.out] at ho;replace ab:=zS (blk_grown (ko ab) hg (Kd.R_ne HO_5.out ab.out (by decide)));replace HB:=zS (hb);have az:=zS (ho);clear HO_5 ae;clear ho hb hg hat;have aV:=blkc2 ab.out;have aW:=blkf2 ab.out))
    go_roundg k1
    case measure=>have:=HK1.out;omega
    case rel=>exact ⟨(ax),((rd_T68 l0 aa).f0),(wrap64 (aa+1)),(by first|rfl|(simp;done)|(simp [*];done)),(by first|rfl|(simp;done)|(simp [*];done)),H',⟨by have:=HK1.out;omega⟩,⟨ro az⟩,⟨bQ HB⟩⟩
   replace c10:=Bool.eq_false_iff.mpr c10
   subst c10
   rw [if_neg (show ¬ (false=true) by decide)] at H
   simp only [Option.some.injEq,Prod.mk.injEq] at H
   obtain ⟨rfl,rfl,rfl⟩:=H
   have ag:0≤(aa:Int):=zB (by first|(with_reducible assumption)|assumption)
   have ah:aa<(l0.length:Int):=zB (by first|(with_reducible assumption)|assumption)
   obtain ⟨ap,am,ac,ad⟩:=at_T68 HR0.out aa ag ah
   cases am
   replace ac:=(HB.out.cell (World.block_lt_of_cell? w _ ac)).trans ac
   replace ad:=(HB.out.cell (World.block_lt_of_cell? w _ ad)).trans ad
   replace ag:=eq_true ag
   replace ah:=eq_true ah
   go_wp2_with (first|((with_reducible refine gate_dst (N:=8) rfl ?_);refine box_event ?hg (N:=8) ?hd (cs:=#[.int .i64 0,.string (⟨#[]⟩:ByteArray)]) (t:=68) ?hr ?_;(case hd=>rfl);(case hg=>rfl);(case hr=>first|(go_simp;done)|(go_simp;rfl));intro af hg w20 hbox hb;replace HO_5:=rb HO_5 hb;have ab:=zS (hbox);have aq:=bg HB hg;replace HB:=bs HB hb;clear hb hbox hg;have aX:=blkc2 ab.out;have aY:=blkf2 ab.out)|((with_reducible refine gate_callee (f:=45) rfl ?_);refine gL (some 22) Tryz.func45 #[.int .i64 ai,.int .i64 ((rd_T68 l0 aa).f0)] ?_;(with_reducible refine (plur_next.calls ai ((rd_T68 l0 aa).f0) true _ A5.out).mono ?_);rintro e w' ⟨rfl,⟨nd,rfl⟩⟩;refine ⟨_,rfl,?_⟩)|((with_reducible refine gate_callee (f:=39) rfl ?_);refine gL (some 28) Tryz.func39 #[.string ((rd_T68 l0 aa).f1)] ?_;(with_reducible refine (rule_Parse.calls ((rd_T68 l0 aa).f1) aj av ak _ ?side1 A7.out).mono ?_);(case side1=>refine GL.below HG.out ?_;exact bQ HB);rintro e w22 ⟨aw,rfl,ho0,hb⟩;refine ⟨_,rfl,?_⟩;replace HO_5:=zS (Kd.R_elder' (by (with_reducible repeat (first|apply Kd.R_alloc|apply Kd.R_drewN|apply Kd.R_drew));exact (Kd.R_mono (Kd.R_far (p:=⟨af,1,none⟩) (Kd.R_far (p:=⟨af,0,none⟩) (Kd.R_types HO_5.out ab.out (by decide)) (fun _ hk=>hk.2) (.int .i64 ((rd_T68 l0 aa).f0))) (fun _ hk=>hk.2) (.string ((rd_T68 l0 aa).f1))) (fun _ h_=>h_.1))) (Kd.R_base ho0) hb);have ae:=zS (Kd.R_lower ho0 (bz HB));replace ab:=zS (blk_below (g:=af) (o:=.cells #[.int .i64 ((rd_T68 l0 aa).f0),.string ((rd_T68 l0 aa).f1)] 68 (0,0)) (kp ab rfl) hb);replace HB:=bs HB hb;(try clear hb);(try clear hk);(try clear ho0);obtain ⟨a3,a4,aI⟩:=Kd.R_slice ae.out;subst aI)|(go_at_call 32;(with_reducible refine (rule_Right.calls k1 _ _ aj false _ ?side3 (rc ae) (rl ae) A9.out).mono ?_);(case side3=>refine GL.below HG.out ?_;exact bQ HB);rintro e w24 ⟨rfl,hb⟩;replace HO_5:=rb HO_5 hb;replace ae:=rb ae hb;replace ab:=kb ab hb;replace HB:=bs HB hb;(try clear hb);(try clear hb2);(try clear hk);(try clear hi)))
   go_ret3
   exact ⟨_,by first|rfl|(simp <;> rfl)|(simp [*] <;> rfl),by first|exact Kd.R_nil _ _ _ _ _|exact Kd.N_nil _ _ _ _ _|exact Kd.V_nil _ _ _ _ _|exact Kd.Q_nil _ _ _ _ _|exact Kd.S_nil _ _ _ _ _,bQ HB⟩
end Go.Proofs.YtgfajgkjbckkgaaGreatDoor.PZ
end
end
section
noncomputable section
namespace Go.Proofs.YtgfajgkjbckkgaaGreatDoor.PZ
open Go.RowKit Go.Proofs.YtgfajgkjbckkgaaGreatDoorW.PrintWords Go.Proofs.YtgfajgkjbckkgaaGreatDoorW.PrintLast Go.Proofs.YtgfajgkjbckkgaaGreatDoorW.PrintMore
attribute [local go_sem] max2_int min2_int max_two min_two max_three min_three max_four min_four   -- for this text's walks alone
def plur_Right.l0:Nat→Int→List (S65)→Int→Int→Option (Bool)
 | 0,_,_,_,_=>none
 | k+1,x3,x6,x7,x8=>if x8<x7 then (if 0≤x8 then (if x8<(x6.length:Int) then ((plur_next.f x3 ((rd_T65 x6 x8).f0)).bind fun ap=>(if ap=true then ((rule_Right.f k ((rd_T65 x6 x8).f1)).bind fun aq=>(if aq=true then (plur_Right.l0 k ((rd_T65 x6 x8).f0) x6 x7 (wrap64 (x8+1))) else (some false))) else (some false))) else (none)) else (none)) else (some true)
def plur_Right.f (k:Nat)(l0:List (S65)):Option (Bool):=plur_Right.l0 k 0 l0 (l0.length:Int) 0
theorem plur_Right.mono_l:∀ k,(∀ y0 y1 y2 y3,LeO (plur_Right.l0 k y0 y1 y2 y3) (plur_Right.l0 (k+1) y0 y1 y2 y3))
 | 0=>fun _ _ _ _ r h=>by simp [plur_Right.l0] at h
 | k+1=>by
  have ih0:=plur_Right.mono_l k
  ·intro y0 y1 y2 y3
   unfold plur_Right.l0
   repeat' first|(with_reducible first|apply ih0|apply rule_Right.mono|apply LeO.refl|apply LeO.none|refine LeO.ite ?_ ?_|refine LeO.bind ?_ (fun _=>?_))|apply ih0|apply rule_Right.mono|apply LeO.none
theorem plur_Right.mono:∀ a0 k,LeO (plur_Right.f k a0) (plur_Right.f (k+1) a0):=by
 intro a0 k
 have ih0:=plur_Right.mono_l k
 unfold plur_Right.f
 repeat' first|(with_reducible first|apply ih0|apply rule_Right.mono|apply LeO.refl|apply LeO.none|refine LeO.ite ?_ ?_|refine LeO.bind ?_ (fun _=>?_))|apply ih0|apply rule_Right.mono|apply LeO.none
set_option maxHeartbeats 8000000 in
set_option maxRecDepth 100000 in
theorem plur_Right.calls (k:Nat)(A0:Option Addr)(c0:Nat)(l0:List (S65))(r:Bool)(w:World)(hG:GL w)(hr0:Kd.C k65 w A0 l0.length l0)(hc0:l0.length≤c0)(h:plur_Right.f k l0=some r) :
  Calls Tryz.prog 22 #[.slice A0 l0.length c0] w fun e w'=>e = .returned (.bool r)∧Below w.heap.size w w':=by
 have hu65:=Tryz.underlying65
 have HR0:=zS hr0
 have HC0:=zS hc0
 clear hr0 hc0
 have HB:=zS (Below.refl w.heap.size w)
 have HG:=zS hG
 clear hG
 have H:(plur_Right.l0 k 0 l0 (l0.length:Int) 0)=some r:=h
 clear h
 have H':=zS H
 clear H
 go_enter Tryz.func22,Tryz.ntmps22
 go_wp2
 go_loopg [3,8] k (fun kq v3 v8 w'=>∃ (ai:Int) (aa:Int),v3 = .int .i64 ai∧v8 = .int .i64 aa∧Sd (plur_Right.l0 kq ai l0 (l0.length:Int) aa=some r)∧Sd (kq≤k)∧Sd (Below w.heap.size w w'))
 case atStart=>exact ⟨(0),(0),(by first|rfl|(simp;done)|(simp [*];done)),(by first|rfl|(simp;done)|(simp [*];done)),H',⟨Nat.le_refl _⟩,⟨bQ HB⟩⟩
 case round=>
  clear H'
  obtain ⟨ai,aa,rfl,rfl,HA,HK1,HB⟩:=hrel
  cases gk with
  | zero=>exact absurd HA.out (by simp [plur_Right.l0])
  | succ k1=>
   have H:=HA.out
   clear HA
   simp only [plur_Right.l0] at H
   by_cases c2:aa<(l0.length:Int)
   rotate_left
   ·rw [if_neg c2] at H
    have ar:=zD c2
    clear c2
    obtain rfl:=zE H
    go_wp2
    go_ret
    exact ⟨by first|rfl|(simp <;> rfl)|(simp [*] <;> rfl),bQ HB⟩
   rw [if_pos c2] at H
   have ar:=zC c2
   clear c2
   by_cases c3:0≤aa
   rotate_left
   ·rw [if_neg c3] at H
    exact absurd H (by simp)
   rw [if_pos c3] at H
   have aC:=zC c3
   clear c3
   by_cases c4:aa<(l0.length:Int)
   rotate_left
   ·rw [if_neg c4] at H
    exact absurd H (by simp)
   rw [if_pos c4] at H
   have aD:=zC c4
   clear c4
   replace H:=Option.bind_eq_some_iff.mp H
   obtain ⟨ap,A50,H⟩:=H
   try dsimp only at H
   have A5:=zS A50
   clear A50
   by_cases c6:ap=true
   rotate_left
   ·replace c6:=Bool.eq_false_iff.mpr c6
    subst c6
    rw [if_neg (show ¬ (false=true) by decide)] at H
    obtain rfl:=zE H
    have ag:0≤(aa:Int):=zB (by first|(with_reducible assumption)|assumption)
    have ah:aa<(l0.length:Int):=zB (by first|(with_reducible assumption)|assumption)
    obtain ⟨an,aj,ak,am,ab,ac,hl445_1,hi445_1⟩:=at_T65 HR0.out aa ag ah
    cases am
    replace ab:=(HB.out.cell (World.block_lt_of_cell? w _ ab)).trans ab
    replace ac:=(HB.out.cell (World.block_lt_of_cell? w _ ac)).trans ac
    have ae:=zS hi445_1
    have af:=zS hl445_1
    clear hi445_1 hl445_1
    replace ag:=eq_true ag
    replace ah:=eq_true ah
    go_wp2_with (first|((with_reducible refine gate_dst (N:=5) rfl ?_);refine box_event ?hg (N:=5) ?hd (cs:=#[.int .i64 0,.slice none 0 0]) (t:=65) ?hr ?_;(case hd=>rfl);(case hg=>rfl);(case hr=>first|(go_simp;done)|(go_simp;rfl));intro al hg w16 hbox hb;have ad:=zS (hbox);have ao:=bg HB hg;replace HB:=bs HB hb;clear hb hbox hg;have au:=blkc2 ad.out;have av:=blkf2 ad.out)|((with_reducible refine gate_callee (f:=45) rfl ?_);refine gL (some 15) Tryz.func45 #[.int .i64 ai,.int .i64 ((rd_T65 l0 aa).f0)] ?_;(with_reducible refine (plur_next.calls ai ((rd_T65 l0 aa).f0) false _ A5.out).mono ?_);rintro e w' ⟨rfl,⟨nd,rfl⟩⟩;refine ⟨_,rfl,?_⟩))
    go_ret
    exact ⟨by first|rfl|(simp <;> rfl)|(simp [*] <;> rfl),bQ HB⟩
   subst c6
   rw [if_pos rfl] at H
   replace H:=Option.bind_eq_some_iff.mp H
   obtain ⟨aq,A70,H⟩:=H
   try dsimp only at H
   have A7:=zS A70
   clear A70
   by_cases c8:aq=true
   ·subst c8
    rw [if_pos rfl] at H
    have H':=zS H
    clear H
    have ag:0≤(aa:Int):=zB (by first|(with_reducible assumption)|assumption)
    have ah:aa<(l0.length:Int):=zB (by first|(with_reducible assumption)|assumption)
    obtain ⟨an,aj,ak,am,ab,ac,hl445_1,hi445_1⟩:=at_T65 HR0.out aa ag ah
    cases am
    replace ab:=(HB.out.cell (World.block_lt_of_cell? w _ ab)).trans ab
    replace ac:=(HB.out.cell (World.block_lt_of_cell? w _ ac)).trans ac
    have ae:=zS hi445_1
    have af:=zS hl445_1
    clear hi445_1 hl445_1
    replace ag:=eq_true ag
    replace ah:=eq_true ah
    go_wp2_with (first|((with_reducible refine gate_dst (N:=5) rfl ?_);refine box_event ?hg (N:=5) ?hd (cs:=#[.int .i64 0,.slice none 0 0]) (t:=65) ?hr ?_;(case hd=>rfl);(case hg=>rfl);(case hr=>first|(go_simp;done)|(go_simp;rfl));intro al hg w9 hbox hb;have ad:=zS (hbox);have ao:=bg HB hg;replace HB:=bs HB hb;clear hb hbox hg;have aw:=blkc2 ad.out;have ax:=blkf2 ad.out)|((with_reducible refine gate_callee (f:=45) rfl ?_);refine gL (some 15) Tryz.func45 #[.int .i64 ai,.int .i64 ((rd_T65 l0 aa).f0)] ?_;(with_reducible refine (plur_next.calls ai ((rd_T65 l0 aa).f0) true _ A5.out).mono ?_);rintro e w' ⟨rfl,⟨nd,rfl⟩⟩;refine ⟨_,rfl,?_⟩)|(go_at_call 32;(with_reducible refine (rule_Right.calls k1 _ _ ((rd_T65 l0 aa).f1) true _ ?side3 (cb ae HB) af.out A7.out).mono ?_);(case side3=>refine GL.below HG.out ?_;exact bQ HB);rintro e w11 ⟨rfl,hb⟩;replace ad:=zS (blk_below (g:=al) (o:=.cells #[.int .i64 ((rd_T65 l0 aa).f0),.slice aj ((rd_T65 l0 aa).f1).length ak] 65 (0,0)) (kp ad rfl) hb);replace HB:=bs HB hb;(try clear hb);have ay:=blkc2 ad.out;have az:=blkf2 ad.out))
    go_roundg k1
    case measure=>have:=HK1.out;omega
    case rel=>exact ⟨((rd_T65 l0 aa).f0),(wrap64 (aa+1)),(by first|rfl|(simp;done)|(simp [*];done)),(by first|rfl|(simp;done)|(simp [*];done)),H',⟨by have:=HK1.out;omega⟩,⟨bQ HB⟩⟩
   replace c8:=Bool.eq_false_iff.mpr c8
   subst c8
   rw [if_neg (show ¬ (false=true) by decide)] at H
   obtain rfl:=zE H
   have ag:0≤(aa:Int):=zB (by first|(with_reducible assumption)|assumption)
   have ah:aa<(l0.length:Int):=zB (by first|(with_reducible assumption)|assumption)
   obtain ⟨an,aj,ak,am,ab,ac,hl445_1,hi445_1⟩:=at_T65 HR0.out aa ag ah
   cases am
   replace ab:=(HB.out.cell (World.block_lt_of_cell? w _ ab)).trans ab
   replace ac:=(HB.out.cell (World.block_lt_of_cell? w _ ac)).trans ac
   have ae:=zS hi445_1
   have af:=zS hl445_1
   clear hi445_1 hl445_1
   replace ag:=eq_true ag
   replace ah:=eq_true ah
   go_wp2_with (first|((with_reducible refine gate_dst (N:=5) rfl ?_);refine box_event ?hg (N:=5) ?hd (cs:=#[.int .i64 0,.slice none 0 0]) (t:=65) ?hr ?_;(case hd=>rfl);(case hg=>rfl);(case hr=>first|(go_simp;done)|(go_simp;rfl));intro al hg w13 hbox hb;have ad:=zS (hbox);have ao:=bg HB hg;replace HB:=bs HB hb;clear hb hbox hg;have aA:=blkc2 ad.out;have aB:=blkf2 ad.out)|((with_reducible refine gate_callee (f:=45) rfl ?_);refine gL (some 15) Tryz.func45 #[.int .i64 ai,.int .i64 ((rd_T65 l0 aa).f0)] ?_;(with_reducible refine (plur_next.calls ai ((rd_T65 l0 aa).f0) true _ A5.out).mono ?_);rintro e w' ⟨rfl,⟨nd,rfl⟩⟩;refine ⟨_,rfl,?_⟩)|(go_at_call 32;(with_reducible refine (rule_Right.calls k1 _ _ ((rd_T65 l0 aa).f1) false _ ?side3 (cb ae HB) af.out A7.out).mono ?_);(case side3=>refine GL.below HG.out ?_;exact bQ HB);rintro e w15 ⟨rfl,hb⟩;replace ad:=zS (blk_below (g:=al) (o:=.cells #[.int .i64 ((rd_T65 l0 aa).f0),.slice aj ((rd_T65 l0 aa).f1).length ak] 65 (0,0)) (kp ad rfl) hb);replace HB:=bs HB hb;(try clear hb)))
   go_ret
   exact ⟨by first|rfl|(simp <;> rfl)|(simp [*] <;> rfl),bQ HB⟩
end Go.Proofs.YtgfajgkjbckkgaaGreatDoor.PZ
end
end
section
set_option maxRecDepth 100000
namespace Go.Proofs.YtgfajgkjbckkgaaGreatDoor.PZ
open Go.RowKit Go.Proofs.YtgfajgkjbckkgaaGreatDoorW.PrintWords Go.Proofs.YtgfajgkjbckkgaaGreatDoorW.PrintLast
section
section
variable {i f:List Int}{w c:Int}(h:OpOk i f w c)
include h
end
theorem ruleRight11 {c:List (List Rl)}(hc:TxtOk c):Ev (fun k=>rule_Right.f k c) (rightP c):=by
 have hlen:=condT_len hc.n
 have hw:=hc.w
 unfold rule_Right.f rightP
 refine Ev.bind (text_ev hc) ?_
 unfold rule_Parse.f
 rw [condB_bytes hc.n,strOfNums_size]
 simp only [if_pos (show (condT [32] c).length≤140737488351232 by omega),Option.bind_some]
 generalize parseP (condT [32] c)=p
 obtain ⟨d,n,e⟩:=p
 simp only
 by_cases he:e=0
 ·simp only [if_pos he,zC he,Bool.true_and]
  unfold rule_Same.f
  exact Ev.now _
 simp only [if_neg he,zD he,Bool.false_and]
 exact Ev.now _
theorem mem_rows:∀ {r:List (Rl×Bool)} {l:List Rl} {row:List Rl} {x:Rl},row ∈ rowsOf l r→x ∈ row→x ∈ l∨∃ o,(x,o) ∈ r
  | [],l,row,x,h1,h2=>by
    simp only [rowsOf,List.mem_singleton] at h1
    subst h1;exact .inl h2
  | (y,true) :: r,l,row,x,h1,h2=>by
    simp only [rowsOf,List.mem_cons] at h1
    rcases h1 with rfl|h1
    · rcases List.mem_append.1 h2 with h|h
      · exact .inl h
      · rw [List.mem_singleton] at h;subst h;exact .inr ⟨true,by simp⟩
    · rcases mem_rows h1 h2 with h|⟨o,h⟩
      · cases h
      · exact .inr ⟨o,by simp [h]⟩
  | (y,false) :: r,l,row,x,h1,h2=>by
    simp only [rowsOf] at h1
    rcases mem_rows h1 h2 with h|⟨o,h⟩
    · rcases List.mem_append.1 h with h|h
      · exact .inl h
      · rw [List.mem_singleton] at h;subst h;exact .inr ⟨false,by simp⟩
    · exact .inr ⟨o,by simp [h]⟩
theorem wC_rows:∀ (r:List (Rl×Bool)) (l:List Rl),wC (rowsOf l r)≤1+r.length+(l.map wR).sum+(r.map fun x=>wR x.1).sum
  | [],l=>by simp [rowsOf,wC,wRow]
  | (y,true) :: r,l=>by
    have:=wC_rows r []
    simp only [rowsOf]
    unfold wC at this ⊢
    rw [List.map_cons,List.sum_cons]
    simp only [wRow,List.map_append,List.sum_append,List.map_cons,List.map_nil,List.sum_cons,List.sum_nil,List.length_cons] at this ⊢
    omega
  | (y,false) :: r,l=>by
    have:=wC_rows r (l ++ [y])
    simp only [rowsOf]
    simp only [List.map_append,List.sum_append,List.map_cons,List.map_nil,List.sum_cons,List.sum_nil,List.length_cons] at this ⊢
    omega
theorem wC_full {r:List (Rl×Bool)}(h:fullP r=false):wC (rowsOf [] r)≤1000:=by
 unfold fullP at h
 rw [Bool.or_eq_false_iff,decide_eq_false_iff_not,List.any_eq_false] at h
 have h1:=wC_rows r []
 have h2:=sum_le (f:=fun x:Rl×Bool=>wR x.1) (g:=fun _=>21) (l:=r) (fun x hx=>by
  have:=h.2 x hx
  simp at this
  unfold wR;omega)
 rw [sum_const] at h2
 simp only [List.map_nil,List.sum_nil] at h1
 omega
structure GoodC (c:List (List Rl)):Prop where
  gw:wC c≤1000
  gx:∀ row ∈ c,∀ x ∈ row,GoodX x
theorem goodC_nil:GoodC []:=⟨by simp [wC],by simp⟩
theorem parse_good (t:List Int):GoodC (parseP t).1:=by
 unfold parseP
 split
 · exact goodC_nil
 rcases hh:relsP t with ⟨_|r,n⟩
 · exact goodC_nil
 obtain ⟨hE,hg⟩:=rels_some _ _ _ _ hh
 by_cases hf:fullP r=true
 · simp only [if_pos hf];exact goodC_nil
 simp only [if_neg hf]
 refine ⟨wC_full (by simpa using hf),fun row hr x hx=>?_⟩
 rcases mem_rows hr hx with h|⟨o,h⟩
 · cases h
 exact hg (x,o) h
theorem right_good {c:List (List Rl)}(h:rightP c=true):GoodC c:=by
 obtain ⟨r,_,hg,hr,_,hf,_⟩:=right_runs h
 subst hr
 refine ⟨wC_full hf,fun row hrow x hx=>?_⟩
 rcases mem_rows hrow hx with h|⟨o,h⟩
 · cases h
 exact hg (x,o) h
theorem isOp_byte {c:Int}(h:isOp c=true):0≤c∧c≤255:=by
 have:=op_low h
 unfold isLo at this
 simp at this
 omega
theorem GoodC.txt {c:List (List Rl)}(h:GoodC c):TxtOk c:=by
 refine ⟨by have:=h.gw;omega,fun row hr x hx=>?_⟩
 obtain ⟨g0,g1,g2,_,g3⟩:=h.gx row hr x hx
 refine ⟨isOp_byte g0,⟨by omega,by omega⟩,fun r hrr=>?_⟩
 obtain ⟨r0,r1,r2⟩:=g3 r hrr
 exact ⟨⟨by omega,by omega⟩,⟨by omega,by omega⟩⟩
theorem GoodC.len {c:List (List Rl)}(h:GoodC c):LenOk c:=by
 have hw:=h.gw
 refine ⟨by have:=len_wC c;omega,fun row hr=>?_,fun row hr x hx=>?_⟩
 · have:=wRow_le hr;have:=len_wRow row;omega
 have:=wRow_le hr;have:=wR_le hx;unfold wR at this;omega
theorem GoodC.num {c:List (List Rl)}(h:GoodC c):∀ row ∈ c,∀ x ∈ row,NumX x:=fun row hr x hx=>(h.gx row hr x hx).numX
theorem parse_f {s:ByteArray}(h:s.size≤140737488351232):rule_Parse.f s=some (parseP (bytesOf s)):=by
 unfold rule_Parse.f;rw [if_pos h]
end
end Go.Proofs.YtgfajgkjbckkgaaGreatDoor.PZ
end
section
noncomputable section
namespace Go.Proofs.YtgfajgkjbckkgaaGreatDoor.PZ
open Go.RowKit Go.Proofs.YtgfajgkjbckkgaaGreatDoorW.PrintWords Go.Proofs.YtgfajgkjbckkgaaGreatDoorW.PrintLast Go.Proofs.YtgfajgkjbckkgaaGreatDoorW.PrintMore
attribute [local go_sem] max2_int min2_int max_two min_two max_three min_three max_four min_four   -- for this text's walks alone
end Go.Proofs.YtgfajgkjbckkgaaGreatDoor.PZ
end
end
