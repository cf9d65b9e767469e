/- Texts of this seat, joined. Conditions: none beyond each statement's own. -/
import Derived.Test.YtgfajgkjbckkgaaGreatDoorPc22
import Derived.RangeFuncBox
import Derived.RangeFuncNested
import Derived.RangeFuncBound
import Derived.RangeFuncCalls
import Derived.RangeFuncLeaves
import Derived.Shelf.RegionOpen
import Derived.OwnWalkIn
import Derived.TacticsInMore
import Derived.LoopNIn
import Derived.LoopIn
import Derived.Laws.ResultCell
set_option linter.all false
section
namespace Go.Proofs.YtgfajgkjbckkgaaGreatDoor.PZ
open Go.RowKit Go.Proofs.YtgfajgkjbckkgaaGreatDoorW.PrintWords Go.Proofs.YtgfajgkjbckkgaaGreatDoorW.PrintLast Go.Proofs.YtgfajgkjbckkgaaGreatDoorW.PrintMore
section
attribute [local go_sem] max2_int min2_int max_two min_two max_three min_three max_four min_four   -- for this text's walks alone
def plur_next.f (a0:Int)(a1:Int):Option (Bool):=if a1>a0 then (some (decide (a1≤5))) else (some false)
set_option maxHeartbeats 8000000 in
set_option maxRecDepth 100000 in
theorem plur_next.calls (a0:Int)(a1:Int)(r:Bool)(w:World)(h:plur_next.f a0 a1=some r) :
    Calls Tryz.prog 45 #[.int .i64 a0,.int .i64 a1] w fun e w'=>e = .returned (.bool r)∧Drawn0 w w':=by
 have H:(if a1>a0 then (some (decide (a1≤5))) else (some false))=some r:=h
 clear h
 by_cases c3:a1>a0
 ·rw [if_pos c3] at H
  have aa:decide (a0<a1)=true:=zC c3
  clear c3
  obtain rfl:=zE H
  go_enter Tryz.func45,Tryz.ntmps45
  go_wp2
  go_ret
  exact ⟨by first|rfl|(simp;done)|(simp [*];done),by repeat (first|exact Drawn0.refl _|apply Drawn0.step)⟩
 rw [if_neg c3] at H
 have aa:decide (a0<a1)=false:=zD c3
 clear c3
 obtain rfl:=zE H
 go_enter Tryz.func45,Tryz.ntmps45
 go_wp2
 go_ret
 exact ⟨by first|rfl|(simp;done)|(simp [*];done),by repeat (first|exact Drawn0.refl _|apply Drawn0.step)⟩
end
end Go.Proofs.YtgfajgkjbckkgaaGreatDoor.PZ
end
section
noncomputable section
namespace Go.Proofs.YtgfajgkjbckkgaaGreatDoor.PZ
open Go.RowKit Go.Proofs.YtgfajgkjbckkgaaGreatDoorW.PrintWords Go.Proofs.YtgfajgkjbckkgaaGreatDoorW.PrintLast Go.Proofs.YtgfajgkjbckkgaaGreatDoorW.PrintMore
attribute [local go_sem] max2_int min2_int max_two min_two max_three min_three max_four min_four   -- for this text's walks alone
def plur_Read.l0:Nat→List (S65)→Int→List (S68)→Int→Int→Option ((List (S65))×Int×Int)
 | 0,_,_,_,_,_=>none
 | k+1,x5,x6,x12,x13,x14=>if x14<x13 then (if 0≤x14 then (if x14<(x12.length:Int) then ((plur_next.f x6 ((rd_T68 x12 x14).f0)).bind fun ar=>(if ar=true then ((rule_Parse.f ((rd_T68 x12 x14).f1)).bind fun ao=>(if ao.2.2=0 then ((rule_Right.f k ao.1).bind fun au=>(if au=true then (if x5.length<4398046511104 then (plur_Read.l0 k (x5 ++ [(⟨(rd_T68 x12 x14).f0,ao.1⟩:S65)]) ((rd_T68 x12 x14).f0) x12 x13 (wrap64 (x14+1))) else (none)) else (some (([]:List (S65)),x14,2)))) else (some (([]:List (S65)),x14,2)))) else (some (([]:List (S65)),x14,1)))) else (none)) else (none)) else (some (x5,0,0))
def plur_Read.f (k:Nat)(l0:List (S68)):Option ((List (S65))×Int×Int):=plur_Read.l0 k ([]:List (S65)) 0 l0 (l0.length:Int) 0
theorem plur_Read.mono_l:∀ k,(∀ y0 y1 y2 y3 y4,LeO (plur_Read.l0 k y0 y1 y2 y3 y4) (plur_Read.l0 (k+1) y0 y1 y2 y3 y4))
 | 0=>fun _ _ _ _ _ r h=>by simp [plur_Read.l0] at h
 | k+1=>by
  have ih0:=plur_Read.mono_l k
  ·intro y0 y1 y2 y3 y4
   unfold plur_Read.l0
   repeat' first|(with_reducible first|apply ih0|apply rule_Right.mono|apply LeO.refl|apply LeO.none|refine LeO.ite ?_ ?_|refine LeO.bind ?_ (fun _=>?_))|apply ih0|apply rule_Right.mono|apply LeO.none
theorem plur_Read.mono:∀ a0 k,LeO (plur_Read.f k a0) (plur_Read.f (k+1) a0):=by
 intro a0 k
 have ih0:=plur_Read.mono_l k
 unfold plur_Read.f
 repeat' first|(with_reducible first|apply ih0|apply rule_Right.mono|apply LeO.refl|apply LeO.none|refine LeO.ite ?_ ?_|refine LeO.bind ?_ (fun _=>?_))|apply ih0|apply rule_Right.mono|apply LeO.none
set_option maxHeartbeats 8000000 in
set_option maxRecDepth 100000 in
theorem plur_Read.calls (k:Nat)(A0:Option Addr)(c0:Nat)(l0:List (S68))(r1:List (S65))(r2:Int)(r3:Int)(w:World)(hG:GL w)(hr0:Kd.C k68 w A0 l0.length l0)(hc0:l0.length≤c0)(h:plur_Read.f k l0=some (r1,r2,r3)) :
  Calls Tryz.prog 18 #[.slice A0 l0.length c0] w fun e w'=>∃ v0_:Value,e = .returned (.tuple #[v0_,.int .i64 r2,.int .i64 r3])∧Kd.R k65 65 w' w.heap.size (fun _=>True) v0_ r1∧Below w.heap.size w w':=by
 have hu68:=Tryz.underlying68
 have hu65:=Tryz.underlying65
 have HR0:=zS hr0
 have HC0:=zS hc0
 clear hr0 hc0
 have HB:=zS (Below.refl w.heap.size w)
 have HG:=zS hG
 clear hG
 have H:(plur_Read.l0 k ([]:List (S65)) 0 l0 (l0.length:Int) 0)=some (r1,r2,r3):=h
 clear h
 have H':=zS H
 clear H
 go_enter Tryz.func18,Tryz.ntmps18
 go_wp2
 go_loopg [5,6,14] k (fun kq v5 v6 v14 w'=>∃ (an:List (S65)) (ai:Int) (aa:Int),v6 = .int .i64 ai∧v14 = .int .i64 aa∧Sd (plur_Read.l0 kq an ai l0 (l0.length:Int) aa=some (r1,r2,r3))∧Sd (kq≤k)∧Sd (Kd.R k65 65 w' w.heap.size (fun _=>True) v5 an)∧Sd (Below w.heap.size w w'))
 case atStart=>exact ⟨(([]:List (S65))),(0),(0),(by first|rfl|(simp;done)|(simp [*];done)),(by first|rfl|(simp;done)|(simp [*];done)),H',⟨Nat.le_refl _⟩,⟨by first|exact Kd.R_nil _ _ _ _ _|exact Kd.N_nil _ _ _ _ _|exact Kd.V_nil _ _ _ _ _|exact Kd.Q_nil _ _ _ _ _|exact Kd.S_nil _ _ _ _ _⟩,⟨bQ HB⟩⟩
 case round=>
  clear H'
  try clear c1
  obtain ⟨an,ai,aa,rfl,rfl,HA,HK1,HO_5,HB⟩:=hrel
  cases gk with
  | zero=>exact absurd HA.out (by simp [plur_Read.l0])
  | succ k1=>
   have H:=HA.out
   clear HA
   simp only [plur_Read.l0] at H
   by_cases c2:aa<(l0.length:Int)
   rotate_left
   ·rw [if_neg c2] at H
    have aA:=zD c2
    clear c2
    simp only [Option.some.injEq,Prod.mk.injEq] at H
    obtain ⟨rfl,rfl,rfl⟩:=H
    go_wp2
    go_ret3
    exact ⟨_,by first|rfl|(simp <;> rfl)|(simp [*] <;> rfl),by (with_reducible repeat (first|apply Kd.R_alloc|apply Kd.R_drewN|apply Kd.R_drew));exact HO_5.out,bQ HB⟩
   rw [if_pos c2] at H
   have aA:=zC c2
   clear c2
   by_cases c3:0≤aa
   rotate_left
   ·rw [if_neg c3] at H
    exact absurd H (by simp)
   rw [if_pos c3] at H
   have aZ:=zC c3
   clear c3
   by_cases c4:aa<(l0.length:Int)
   rotate_left
   ·rw [if_neg c4] at H
    exact absurd H (by simp)
   rw [if_pos c4] at H
   have a1:=zC c4
   clear c4
   replace H:=Option.bind_eq_some_iff.mp H
   obtain ⟨ar,A50,H⟩:=H
   try dsimp only at H
   have A5:=zS A50
   clear A50
   by_cases c6:ar=true
   rotate_left
   ·replace c6:=Bool.eq_false_iff.mpr c6
    subst c6
    rw [if_neg (show ¬ (false=true) by decide)] at H
    simp only [Option.some.injEq,Prod.mk.injEq] at H
    obtain ⟨rfl,rfl,rfl⟩:=H
    have ag:0≤(aa:Int):=zB (by first|(with_reducible assumption)|assumption)
    have ah:aa<(l0.length:Int):=zB (by first|(with_reducible assumption)|assumption)
    obtain ⟨ap,am,ac,ad⟩:=at_T68 HR0.out aa ag ah
    cases am
    replace ac:=(HB.out.cell (World.block_lt_of_cell? w _ ac)).trans ac
    replace ad:=(HB.out.cell (World.block_lt_of_cell? w _ ad)).trans ad
    replace ag:=eq_true ag
    replace ah:=eq_true ah
    go_wp2_with (first|((with_reducible refine gate_dst (N:=8) rfl ?_);refine box_event ?hg (N:=8) ?hd (cs:=#[.int .i64 0,.string (⟨#[]⟩:ByteArray)]) (t:=68) ?hr ?_;(case hd=>rfl);(case hg=>rfl);(case hr=>first|(go_simp;done)|(go_simp;rfl));intro af hg w28 hbox hb;replace HO_5:=rb HO_5 hb;have ab:=zS (hbox);have aq:=bg HB hg;replace HB:=bs HB hb;clear hb hbox hg;have aJ:=blkc2 ab.out;have aK:=blkf2 ab.out)|((with_reducible refine gate_callee (f:=45) rfl ?_);refine gL (some 22) Tryz.func45 #[.int .i64 ai,.int .i64 ((rd_T68 l0 aa).f0)] ?_;(with_reducible refine (plur_next.calls ai ((rd_T68 l0 aa).f0) false _ A5.out).mono ?_);rintro e w' ⟨rfl,⟨nd,rfl⟩⟩;refine ⟨_,rfl,?_⟩))
    go_ret3
    exact ⟨_,by first|rfl|(simp <;> rfl)|(simp [*] <;> rfl),by first|exact Kd.R_nil _ _ _ _ _|exact Kd.N_nil _ _ _ _ _|exact Kd.V_nil _ _ _ _ _|exact Kd.Q_nil _ _ _ _ _|exact Kd.S_nil _ _ _ _ _,bQ HB⟩
   subst c6
   rw [if_pos rfl] at H
   replace H:=Option.bind_eq_some_iff.mp H
   obtain ⟨⟨aj,av,ak⟩,A70,H⟩:=H
   try dsimp only at H
   have A7:=zS A70
   clear A70
   by_cases c8:ak=0
   rotate_left
   ·rw [if_neg c8] at H
    have aC:(ak == 0)=false:=zF c8
    have aD:(ak != 0)=true:=zI c8
    simp only [Option.some.injEq,Prod.mk.injEq] at H
    obtain ⟨rfl,rfl,rfl⟩:=H
    have ag:0≤(aa:Int):=zB (by first|(with_reducible assumption)|assumption)
    have ah:aa<(l0.length:Int):=zB (by first|(with_reducible assumption)|assumption)
    obtain ⟨ap,am,ac,ad⟩:=at_T68 HR0.out aa ag ah
    cases am
    replace ac:=(HB.out.cell (World.block_lt_of_cell? w _ ac)).trans ac
    replace ad:=(HB.out.cell (World.block_lt_of_cell? w _ ad)).trans ad
    replace ag:=eq_true ag
    replace ah:=eq_true ah
    go_wp2_with (first|((with_reducible refine gate_dst (N:=8) rfl ?_);refine box_event ?hg (N:=8) ?hd (cs:=#[.int .i64 0,.string (⟨#[]⟩:ByteArray)]) (t:=68) ?hr ?_;(case hd=>rfl);(case hg=>rfl);(case hr=>first|(go_simp;done)|(go_simp;rfl));intro af hg w25 hbox hb;replace HO_5:=rb HO_5 hb;have ab:=zS (hbox);have aq:=bg HB hg;replace HB:=bs HB hb;clear hb hbox hg;have aM:=blkc2 ab.out;have aN:=blkf2 ab.out)|((with_reducible refine gate_callee (f:=45) rfl ?_);refine gL (some 22) Tryz.func45 #[.int .i64 ai,.int .i64 ((rd_T68 l0 aa).f0)] ?_;(with_reducible refine (plur_next.calls ai ((rd_T68 l0 aa).f0) true _ A5.out).mono ?_);rintro e w' ⟨rfl,⟨nd,rfl⟩⟩;refine ⟨_,rfl,?_⟩)|((with_reducible refine gate_callee (f:=39) rfl ?_);refine gL (some 28) Tryz.func39 #[.string ((rd_T68 l0 aa).f1)] ?_;(with_reducible refine (rule_Parse.calls ((rd_T68 l0 aa).f1) aj av ak _ ?side1 A7.out).mono ?_);(case side1=>refine GL.below HG.out ?_;exact bQ HB);rintro e w27 ⟨aw,rfl,ho0,hb⟩;refine ⟨_,rfl,?_⟩;replace HO_5:=zS (Kd.R_elder' (by (with_reducible repeat (first|apply Kd.R_alloc|apply Kd.R_drewN|apply Kd.R_drew));exact (Kd.R_mono (Kd.R_far (p:=⟨af,1,none⟩) (Kd.R_far (p:=⟨af,0,none⟩) (Kd.R_types HO_5.out ab.out (by decide)) (fun _ hk=>hk.2) (.int .i64 ((rd_T68 l0 aa).f0))) (fun _ hk=>hk.2) (.string ((rd_T68 l0 aa).f1))) (fun _ h_=>h_.1))) (Kd.R_base ho0) hb);have ae:=zS (Kd.R_lower ho0 (bz HB));replace ab:=zS (blk_below (g:=af) (o:=.cells #[.int .i64 ((rd_T68 l0 aa).f0),.string ((rd_T68 l0 aa).f1)] 68 (0,0)) (kp ab rfl) hb);replace HB:=bs HB hb;(try clear hb);(try clear hk);(try clear ho0)))
    go_ret3
    exact ⟨_,by first|rfl|(simp <;> rfl)|(simp [*] <;> rfl),by first|exact Kd.R_nil _ _ _ _ _|exact Kd.N_nil _ _ _ _ _|exact Kd.V_nil _ _ _ _ _|exact Kd.Q_nil _ _ _ _ _|exact Kd.S_nil _ _ _ _ _,bQ HB⟩
   rw [if_pos c8] at H
   have aC:(ak == 0)=true:=zH c8
   have aD:(ak != 0)=false:=zG c8
   clear c8
   replace H:=Option.bind_eq_some_iff.mp H
   obtain ⟨au,A90,H⟩:=H
   try dsimp only at H
   have A9:=zS A90
   clear A90
   by_cases c10:au=true
   ·subst c10
    rw [if_pos rfl] at H
    by_cases c11:an.length<4398046511104
    rotate_left
    ·rw [if_neg c11] at H
     exact absurd H (by simp)
    rw [if_pos c11] at H
    have LMc11:=zS c11
    clear c11
    obtain ⟨ax,al⟩:∃ y_:List (S65),y_=(an ++ [(⟨(rd_T68 l0 aa).f0,aj⟩:S65)]):=⟨_,rfl⟩
    replace H:(plur_Read.l0 k1 ax ((rd_T68 l0 aa).f0) l0 (l0.length:Int) (wrap64 (aa+1)))=some (r1,r2,r3):=by first|(rw [al];with_reducible exact H)|(have H2_:=(Option.bind_some _ _).symm.trans H;rw [al];with_reducible exact H2_)|(have H2_:=(Option.bind_some _ _).symm.trans H;with_reducible exact H2_)|with_reducible exact H|(rw [al];exact H)|exact H
    have ay:=zS al
    clear al
    have H':=zS H
    clear H
    have ag:0≤(aa:Int):=zB (by first|(with_reducible assumption)|assumption)
    have ah:aa<(l0.length:Int):=zB (by first|(with_reducible assumption)|assumption)
    obtain ⟨ap,am,ac,ad⟩:=at_T68 HR0.out aa ag ah
    cases am
    replace ac:=(HB.out.cell (World.block_lt_of_cell? w _ ac)).trans ac
    replace ad:=(HB.out.cell (World.block_lt_of_cell? w _ ad)).trans ad
    replace ag:=eq_true ag
    replace ah:=eq_true ah
    go_wp2_with (first|((with_reducible refine gate_dst (N:=8) rfl ?_);refine box_event ?hg (N:=8) ?hd (cs:=#[.int .i64 0,.string (⟨#[]⟩:ByteArray)]) (t:=68) ?hr ?_;(case hd=>rfl);(case hg=>rfl);(case hr=>first|(go_simp;done)|(go_simp;rfl));intro af hg w12 hbox hb;replace HO_5:=rb HO_5 hb;have ab:=zS (hbox);have aq:=bg HB hg;replace HB:=bs HB hb;clear hb hbox hg;have aQ:=blkc2 ab.out;have aR:=blkf2 ab.out)|((with_reducible refine gate_callee (f:=45) rfl ?_);refine gL (some 22) Tryz.func45 #[.int .i64 ai,.int .i64 ((rd_T68 l0 aa).f0)] ?_;(with_reducible refine (plur_next.calls ai ((rd_T68 l0 aa).f0) true _ A5.out).mono ?_);rintro e w' ⟨rfl,⟨nd,rfl⟩⟩;refine ⟨_,rfl,?_⟩)|((with_reducible refine gate_callee (f:=39) rfl ?_);refine gL (some 28) Tryz.func39 #[.string ((rd_T68 l0 aa).f1)] ?_;(with_reducible refine (rule_Parse.calls ((rd_T68 l0 aa).f1) aj av ak _ ?side1 A7.out).mono ?_);(case side1=>refine GL.below HG.out ?_;exact bQ HB);rintro e w14 ⟨aw,rfl,ho0,hb⟩;refine ⟨_,rfl,?_⟩;replace HO_5:=zS (Kd.R_elder' (by (with_reducible repeat (first|apply Kd.R_alloc|apply Kd.R_drewN|apply Kd.R_drew));exact (Kd.R_mono (Kd.R_far (p:=⟨af,1,none⟩) (Kd.R_far (p:=⟨af,0,none⟩) (Kd.R_types HO_5.out ab.out (by decide)) (fun _ hk=>hk.2) (.int .i64 ((rd_T68 l0 aa).f0))) (fun _ hk=>hk.2) (.string ((rd_T68 l0 aa).f1))) (fun _ h_=>h_.1))) (Kd.R_base ho0) hb);have ae:=zS (Kd.R_lower ho0 (bz HB));replace ab:=zS (blk_below (g:=af) (o:=.cells #[.int .i64 ((rd_T68 l0 aa).f0),.string ((rd_T68 l0 aa).f1)] 68 (0,0)) (kp ab rfl) hb);replace HB:=bs HB hb;(try clear hb);(try clear hk);(try clear ho0);obtain ⟨aE,aG,aH⟩:=Kd.R_slice ae.out;subst aH)|(go_at_call 32;(with_reducible refine (rule_Right.calls k1 _ _ aj true _ ?side3 (rc ae) (rl ae) A9.out).mono ?_);(case side3=>refine GL.below HG.out ?_;exact bQ HB);rintro e w16 ⟨rfl,hb⟩;replace HO_5:=rb HO_5 hb;replace ae:=rb ae hb;replace ab:=kb ab hb;replace HB:=bs HB hb;(try clear hb);(try clear hb2);(try clear hk);(try clear hi);have aT:=blkc2 ab.out;have aU:=blkf2 ab.out)|((with_reducible refine gate_builtin (b:=.append) (xs:=#[.tmp 40,.tmp 45]) rfl ?_);at_builtin;refine Kd.R_append k65 (w0:=w) w.heap.size rfl (.tmp 40) (.tmp 45) 28 65 (.agg #[(.int .i64 0),(.slice none 0 0)]) 32 rfl Tryz.underlying28 info65 rfl (by decide) (by omega) u5 an (⟨(rd_T68 l0 aa).f0,aj⟩:S65) [.int .i64 ((rd_T68 l0 aa).f0),.slice aE aj.length aG] (fun _=>True) (fun k_=>((fun _=>True)) k_∧some k_≠(u5:Value).ownBlock) rfl rfl ?aP (fun _ hk=>hk) ?aF ?aO ?aB ?aS ?aL ?_;(case aP=>exact k65_mkM _ _ _ (⟨(rd_T68 l0 aa).f0,aj⟩:S65) (Kd.R_mono (Kd.R_apart' (ae.out) (Kd.R_typed HO_5.out) (by decide)) (fun k_ hk=>⟨trivial,hk.2⟩)));(case aB=>exact (bQ HB));(case aF=>exact (fun _ _=>trivial));(case aO=>exact (by (with_reducible repeat (first|apply Kd.R_alloc|apply Kd.R_drewN|apply Kd.R_drew));exact Kd.R_mono HO_5.out (fun _ hk=>trivial)));(case aS=>exact (bz HB));(case aL=>have:=LMc11.out;omega);intro a2 w18 ho hb hg hat;rw [← ay.out] at ho;replace ab:=zS (blk_grown (ko ab) hg (Kd.R_ne HO_5.out ab.out (by decide)));replace HB:=zS (hb);have az:=zS (ho);clear HO_5 ae;clear ho hb hg hat;have aV:=blkc2 ab.out;have aW:=blkf2 ab.out))
    go_roundg k1
    case measure=>have:=HK1.out;omega
    case rel=>exact ⟨(ax),((rd_T68 l0 aa).f0),(wrap64 (aa+1)),(by first|rfl|(simp;done)|(simp [*];done)),(by first|rfl|(simp;done)|(simp [*];done)),H',⟨by have:=HK1.out;omega⟩,⟨ro az⟩,⟨bQ HB⟩⟩
   replace c10:=Bool.eq_false_iff.mpr c10
   subst c10
   rw [if_neg (show ¬ (false=true) by decide)] at H
   simp only [Option.some.injEq,Prod.mk.injEq] at H
   obtain ⟨rfl,rfl,rfl⟩:=H
   have ag:0≤(aa:Int):=zB (by first|(with_reducible assumption)|assumption)
   have ah:aa<(l0.length:Int):=zB (by first|(with_reducible assumption)|assumption)
   obtain ⟨ap,am,ac,ad⟩:=at_T68 HR0.out aa ag ah
   cases am
   replace ac:=(HB.out.cell (World.block_lt_of_cell? w _ ac)).trans ac
   replace ad:=(HB.out.cell (World.block_lt_of_cell? w _ ad)).trans ad
   replace ag:=eq_true ag
   replace ah:=eq_true ah
   go_wp2_with (first|((with_reducible refine gate_dst (N:=8) rfl ?_);refine box_event ?hg (N:=8) ?hd (cs:=#[.int .i64 0,.string (⟨#[]⟩:ByteArray)]) (t:=68) ?hr ?_;(case hd=>rfl);(case hg=>rfl);(case hr=>first|(go_simp;done)|(go_simp;rfl));intro af hg w20 hbox hb;replace HO_5:=rb HO_5 hb;have ab:=zS (hbox);have aq:=bg HB hg;replace HB:=bs HB hb;clear hb hbox hg;have aX:=blkc2 ab.out;have aY:=blkf2 ab.out)|((with_reducible refine gate_callee (f:=45) rfl ?_);refine gL (some 22) Tryz.func45 #[.int .i64 ai,.int .i64 ((rd_T68 l0 aa).f0)] ?_;(with_reducible refine (plur_next.calls ai ((rd_T68 l0 aa).f0) true _ A5.out).mono ?_);rintro e w' ⟨rfl,⟨nd,rfl⟩⟩;refine ⟨_,rfl,?_⟩)|((with_reducible refine gate_callee (f:=39) rfl ?_);refine gL (some 28) Tryz.func39 #[.string ((rd_T68 l0 aa).f1)] ?_;(with_reducible refine (rule_Parse.calls ((rd_T68 l0 aa).f1) aj av ak _ ?side1 A7.out).mono ?_);(case side1=>refine GL.below HG.out ?_;exact bQ HB);rintro e w22 ⟨aw,rfl,ho0,hb⟩;refine ⟨_,rfl,?_⟩;replace HO_5:=zS (Kd.R_elder' (by (with_reducible repeat (first|apply Kd.R_alloc|apply Kd.R_drewN|apply Kd.R_drew));exact (Kd.R_mono (Kd.R_far (p:=⟨af,1,none⟩) (Kd.R_far (p:=⟨af,0,none⟩) (Kd.R_types HO_5.out ab.out (by decide)) (fun _ hk=>hk.2) (.int .i64 ((rd_T68 l0 aa).f0))) (fun _ hk=>hk.2) (.string ((rd_T68 l0 aa).f1))) (fun _ h_=>h_.1))) (Kd.R_base ho0) hb);have ae:=zS (Kd.R_lower ho0 (bz HB));replace ab:=zS (blk_below (g:=af) (o:=.cells #[.int .i64 ((rd_T68 l0 aa).f0),.string ((rd_T68 l0 aa).f1)] 68 (0,0)) (kp ab rfl) hb);replace HB:=bs HB hb;(try clear hb);(try clear hk);(try clear ho0);obtain ⟨a3,a4,aI⟩:=Kd.R_slice ae.out;subst aI)|(go_at_call 32;(with_reducible refine (rule_Right.calls k1 _ _ aj false _ ?side3 (rc ae) (rl ae) A9.out).mono ?_);(case side3=>refine GL.below HG.out ?_;exact bQ HB);rintro e w24 ⟨rfl,hb⟩;replace HO_5:=rb HO_5 hb;replace ae:=rb ae hb;replace ab:=kb ab hb;replace HB:=bs HB hb;(try clear hb);(try clear hb2);(try clear hk);(try clear hi)))
   go_ret3
   exact ⟨_,by first|rfl|(simp <;> rfl)|(simp [*] <;> rfl),by first|exact Kd.R_nil _ _ _ _ _|exact Kd.N_nil _ _ _ _ _|exact Kd.V_nil _ _ _ _ _|exact Kd.Q_nil _ _ _ _ _|exact Kd.S_nil _ _ _ _ _,bQ HB⟩
end Go.Proofs.YtgfajgkjbckkgaaGreatDoor.PZ
end
end
section
noncomputable section
namespace Go.Proofs.YtgfajgkjbckkgaaGreatDoor.PZ
open Go.RowKit Go.Proofs.YtgfajgkjbckkgaaGreatDoorW.PrintWords Go.Proofs.YtgfajgkjbckkgaaGreatDoorW.PrintLast Go.Proofs.YtgfajgkjbckkgaaGreatDoorW.PrintMore
attribute [local go_sem] max2_int min2_int max_two min_two max_three min_three max_four min_four   -- for this text's walks alone
def plur_Right.l0:Nat→Int→List (S65)→Int→Int→Option (Bool)
 | 0,_,_,_,_=>none
 | k+1,x3,x6,x7,x8=>if x8<x7 then (if 0≤x8 then (if x8<(x6.length:Int) then ((plur_next.f x3 ((rd_T65 x6 x8).f0)).bind fun ap=>(if ap=true then ((rule_Right.f k ((rd_T65 x6 x8).f1)).bind fun aq=>(if aq=true then (plur_Right.l0 k ((rd_T65 x6 x8).f0) x6 x7 (wrap64 (x8+1))) else (some false))) else (some false))) else (none)) else (none)) else (some true)
def plur_Right.f (k:Nat)(l0:List (S65)):Option (Bool):=plur_Right.l0 k 0 l0 (l0.length:Int) 0
theorem plur_Right.mono_l:∀ k,(∀ y0 y1 y2 y3,LeO (plur_Right.l0 k y0 y1 y2 y3) (plur_Right.l0 (k+1) y0 y1 y2 y3))
 | 0=>fun _ _ _ _ r h=>by simp [plur_Right.l0] at h
 | k+1=>by
  have ih0:=plur_Right.mono_l k
  ·intro y0 y1 y2 y3
   unfold plur_Right.l0
   repeat' first|(with_reducible first|apply ih0|apply rule_Right.mono|apply LeO.refl|apply LeO.none|refine LeO.ite ?_ ?_|refine LeO.bind ?_ (fun _=>?_))|apply ih0|apply rule_Right.mono|apply LeO.none
theorem plur_Right.mono:∀ a0 k,LeO (plur_Right.f k a0) (plur_Right.f (k+1) a0):=by
 intro a0 k
 have ih0:=plur_Right.mono_l k
 unfold plur_Right.f
 repeat' first|(with_reducible first|apply ih0|apply rule_Right.mono|apply LeO.refl|apply LeO.none|refine LeO.ite ?_ ?_|refine LeO.bind ?_ (fun _=>?_))|apply ih0|apply rule_Right.mono|apply LeO.none
set_option maxHeartbeats 8000000 in
set_option maxRecDepth 100000 in
theorem plur_Right.calls (k:Nat)(A0:Option Addr)(c0:Nat)(l0:List (S65))(r:Bool)(w:World)(hG:GL w)(hr0:Kd.C k65 w A0 l0.length l0)(hc0:l0.length≤c0)(h:plur_Right.f k l0=some r) :
  Calls Tryz.prog 22 #[.slice A0 l0.length c0] w fun e w'=>e = .returned (.bool r)∧Below w.heap.size w w':=by
 have hu65:=Tryz.underlying65
 have HR0:=zS hr0
 have HC0:=zS hc0
 clear hr0 hc0
 have HB:=zS (Below.refl w.heap.size w)
 have HG:=zS hG
 clear hG
 have H:(plur_Right.l0 k 0 l0 (l0.length:Int) 0)=some r:=h
 clear h
 have H':=zS H
 clear H
 go_enter Tryz.func22,Tryz.ntmps22
 go_wp2
 go_loopg [3,8] k (fun kq v3 v8 w'=>∃ (ai:Int) (aa:Int),v3 = .int .i64 ai∧v8 = .int .i64 aa∧Sd (plur_Right.l0 kq ai l0 (l0.length:Int) aa=some r)∧Sd (kq≤k)∧Sd (Below w.heap.size w w'))
 case atStart=>exact ⟨(0),(0),(by first|rfl|(simp;done)|(simp [*];done)),(by first|rfl|(simp;done)|(simp [*];done)),H',⟨Nat.le_refl _⟩,⟨bQ HB⟩⟩
 case round=>
  clear H'
  obtain ⟨ai,aa,rfl,rfl,HA,HK1,HB⟩:=hrel
  cases gk with
  | zero=>exact absurd HA.out (by simp [plur_Right.l0])
  | succ k1=>
   have H:=HA.out
   clear HA
   simp only [plur_Right.l0] at H
   by_cases c2:aa<(l0.length:Int)
   rotate_left
   ·rw [if_neg c2] at H
    have ar:=zD c2
    clear c2
    obtain rfl:=zE H
    go_wp2
    go_ret
    exact ⟨by first|rfl|(simp <;> rfl)|(simp [*] <;> rfl),bQ HB⟩
   rw [if_pos c2] at H
   have ar:=zC c2
   clear c2
   by_cases c3:0≤aa
   rotate_left
   ·rw [if_neg c3] at H
    exact absurd H (by simp)
   rw [if_pos c3] at H
   have aC:=zC c3
   clear c3
   by_cases c4:aa<(l0.length:Int)
   rotate_left
   ·rw [if_neg c4] at H
    exact absurd H (by simp)
   rw [if_pos c4] at H
   have aD:=zC c4
   clear c4
   replace H:=Option.bind_eq_some_iff.mp H
   obtain ⟨ap,A50,H⟩:=H
   try dsimp only at H
   have A5:=zS A50
   clear A50
   by_cases c6:ap=true
   rotate_left
   ·replace c6:=Bool.eq_false_iff.mpr c6
    subst c6
    rw [if_neg (show ¬ (false=true) by decide)] at H
    obtain rfl:=zE H
    have ag:0≤(aa:Int):=zB (by first|(with_reducible assumption)|assumption)
    have ah:aa<(l0.length:Int):=zB (by first|(with_reducible assumption)|assumption)
    obtain ⟨an,aj,ak,am,ab,ac,hl445_1,hi445_1⟩:=at_T65 HR0.out aa ag ah
    cases am
    replace ab:=(HB.out.cell (World.block_lt_of_cell? w _ ab)).trans ab
    replace ac:=(HB.out.cell (World.block_lt_of_cell? w _ ac)).trans ac
    have ae:=zS hi445_1
    have af:=zS hl445_1
    clear hi445_1 hl445_1
    replace ag:=eq_true ag
    replace ah:=eq_true ah
    go_wp2_with (first|((with_reducible refine gate_dst (N:=5) rfl ?_);refine box_event ?hg (N:=5) ?hd (cs:=#[.int .i64 0,.slice none 0 0]) (t:=65) ?hr ?_;(case hd=>rfl);(case hg=>rfl);(case hr=>first|(go_simp;done)|(go_simp;rfl));intro al hg w16 hbox hb;have ad:=zS (hbox);have ao:=bg HB hg;replace HB:=bs HB hb;clear hb hbox hg;have au:=blkc2 ad.out;have av:=blkf2 ad.out)|((with_reducible refine gate_callee (f:=45) rfl ?_);refine gL (some 15) Tryz.func45 #[.int .i64 ai,.int .i64 ((rd_T65 l0 aa).f0)] ?_;(with_reducible refine (plur_next.calls ai ((rd_T65 l0 aa).f0) false _ A5.out).mono ?_);rintro e w' ⟨rfl,⟨nd,rfl⟩⟩;refine ⟨_,rfl,?_⟩))
    go_ret
    exact ⟨by first|rfl|(simp <;> rfl)|(simp [*] <;> rfl),bQ HB⟩
   subst c6
   rw [if_pos rfl] at H
   replace H:=Option.bind_eq_some_iff.mp H
   obtain ⟨aq,A70,H⟩:=H
   try dsimp only at H
   have A7:=zS A70
   clear A70
   by_cases c8:aq=true
   ·subst c8
    rw [if_pos rfl] at H
    have H':=zS H
    clear H
    have ag:0≤(aa:Int):=zB (by first|(with_reducible assumption)|assumption)
    have ah:aa<(l0.length:Int):=zB (by first|(with_reducible assumption)|assumption)
    obtain ⟨an,aj,ak,am,ab,ac,hl445_1,hi445_1⟩:=at_T65 HR0.out aa ag ah
    cases am
    replace ab:=(HB.out.cell (World.block_lt_of_cell? w _ ab)).trans ab
    replace ac:=(HB.out.cell (World.block_lt_of_cell? w _ ac)).trans ac
    have ae:=zS hi445_1
    have af:=zS hl445_1
    clear hi445_1 hl445_1
    replace ag:=eq_true ag
    replace ah:=eq_true ah
    go_wp2_with (first|((with_reducible refine gate_dst (N:=5) rfl ?_);refine box_event ?hg (N:=5) ?hd (cs:=#[.int .i64 0,.slice none 0 0]) (t:=65) ?hr ?_;(case hd=>rfl);(case hg=>rfl);(case hr=>first|(go_simp;done)|(go_simp;rfl));intro al hg w9 hbox hb;have ad:=zS (hbox);have ao:=bg HB hg;replace HB:=bs HB hb;clear hb hbox hg;have aw:=blkc2 ad.out;have ax:=blkf2 ad.out)|((with_reducible refine gate_callee (f:=45) rfl ?_);refine gL (some 15) Tryz.func45 #[.int .i64 ai,.int .i64 ((rd_T65 l0 aa).f0)] ?_;(with_reducible refine (plur_next.calls ai ((rd_T65 l0 aa).f0) true _ A5.out).mono ?_);rintro e w' ⟨rfl,⟨nd,rfl⟩⟩;refine ⟨_,rfl,?_⟩)|(go_at_call 32;(with_reducible refine (rule_Right.calls k1 _ _ ((rd_T65 l0 aa).f1) true _ ?side3 (cb ae HB) af.out A7.out).mono ?_);(case side3=>refine GL.below HG.out ?_;exact bQ HB);rintro e w11 ⟨rfl,hb⟩;replace ad:=zS (blk_below (g:=al) (o:=.cells #[.int .i64 ((rd_T65 l0 aa).f0),.slice aj ((rd_T65 l0 aa).f1).length ak] 65 (0,0)) (kp ad rfl) hb);replace HB:=bs HB hb;(try clear hb);have ay:=blkc2 ad.out;have az:=blkf2 ad.out))
    go_roundg k1
    case measure=>have:=HK1.out;omega
    case rel=>exact ⟨((rd_T65 l0 aa).f0),(wrap64 (aa+1)),(by first|rfl|(simp;done)|(simp [*];done)),(by first|rfl|(simp;done)|(simp [*];done)),H',⟨by have:=HK1.out;omega⟩,⟨bQ HB⟩⟩
   replace c8:=Bool.eq_false_iff.mpr c8
   subst c8
   rw [if_neg (show ¬ (false=true) by decide)] at H
   obtain rfl:=zE H
   have ag:0≤(aa:Int):=zB (by first|(with_reducible assumption)|assumption)
   have ah:aa<(l0.length:Int):=zB (by first|(with_reducible assumption)|assumption)
   obtain ⟨an,aj,ak,am,ab,ac,hl445_1,hi445_1⟩:=at_T65 HR0.out aa ag ah
   cases am
   replace ab:=(HB.out.cell (World.block_lt_of_cell? w _ ab)).trans ab
   replace ac:=(HB.out.cell (World.block_lt_of_cell? w _ ac)).trans ac
   have ae:=zS hi445_1
   have af:=zS hl445_1
   clear hi445_1 hl445_1
   replace ag:=eq_true ag
   replace ah:=eq_true ah
   go_wp2_with (first|((with_reducible refine gate_dst (N:=5) rfl ?_);refine box_event ?hg (N:=5) ?hd (cs:=#[.int .i64 0,.slice none 0 0]) (t:=65) ?hr ?_;(case hd=>rfl);(case hg=>rfl);(case hr=>first|(go_simp;done)|(go_simp;rfl));intro al hg w13 hbox hb;have ad:=zS (hbox);have ao:=bg HB hg;replace HB:=bs HB hb;clear hb hbox hg;have aA:=blkc2 ad.out;have aB:=blkf2 ad.out)|((with_reducible refine gate_callee (f:=45) rfl ?_);refine gL (some 15) Tryz.func45 #[.int .i64 ai,.int .i64 ((rd_T65 l0 aa).f0)] ?_;(with_reducible refine (plur_next.calls ai ((rd_T65 l0 aa).f0) true _ A5.out).mono ?_);rintro e w' ⟨rfl,⟨nd,rfl⟩⟩;refine ⟨_,rfl,?_⟩)|(go_at_call 32;(with_reducible refine (rule_Right.calls k1 _ _ ((rd_T65 l0 aa).f1) false _ ?side3 (cb ae HB) af.out A7.out).mono ?_);(case side3=>refine GL.below HG.out ?_;exact bQ HB);rintro e w15 ⟨rfl,hb⟩;replace ad:=zS (blk_below (g:=al) (o:=.cells #[.int .i64 ((rd_T65 l0 aa).f0),.slice aj ((rd_T65 l0 aa).f1).length ak] 65 (0,0)) (kp ad rfl) hb);replace HB:=bs HB hb;(try clear hb)))
   go_ret
   exact ⟨by first|rfl|(simp <;> rfl)|(simp [*] <;> rfl),bQ HB⟩
end Go.Proofs.YtgfajgkjbckkgaaGreatDoor.PZ
end
end
section
set_option maxRecDepth 100000
namespace Go.Proofs.YtgfajgkjbckkgaaGreatDoor.PZ
open Go.RowKit Go.Proofs.YtgfajgkjbckkgaaGreatDoorW.PrintWords Go.Proofs.YtgfajgkjbckkgaaGreatDoorW.PrintLast
def ixL:List ByteArray→ByteArray→Nat→Int
  | [],_,_=>-1
  | x :: t,a,k=>if a=x then (k:Int) else ixL t a (k+1)
theorem ixL_at {l:List ByteArray}{a:ByteArray}{k:Nat}(h:k<l.length):ixL (l.drop k) a k=if a=l.getD k ByteArray.empty then (k:Int) else ixL (l.drop (k+1)) a (k+1):=by
 rw [List.drop_eq_getElem_cons h,ixL]
 simp [List.getD_eq_getElem?_getD,List.getElem?_eq_getElem h]
theorem bytes_ext (a b:ByteArray):(a.toList == b.toList)=decide (a=b):=by
 by_cases h:a=b
 · subst h;simp
 rw [zD h]
 refine zF (fun e=>h ?_)
 simp only [ByteArray.toList_eq] at e
 exact ByteArray.ext (Array.toList_inj.mp e)
set_option maxHeartbeats 2000000 in
set_option maxRecDepth 100000 in
theorem ix_row (A0:Option Addr)(c0:Nat)(l0:List ByteArray)(a1:ByteArray)(w:World)(hr0:Kd.C Kd.string w A0 l0.length l0)(hc0:l0.length≤c0) :
    Calls Tryz.prog 44 #[.slice A0 l0.length c0,.string a1] w fun e w'=>e = .returned (.int .i64 (ixL l0 a1 0))∧w'=w:=by
 have hn:=hr0.2.1
 have HR0:=zA hr0
 clear hr0
 obtain ⟨R,hR⟩:∃ R,ixL l0 a1 0=R:=⟨_,rfl⟩
 rw [hR]
 have H0:=zA hR
 clear hR
 go_enter Tryz.func44,Tryz.ntmps44
 go_wp2
 go_loopg [8] l0.length (fun gg s8 wr=>∃ k:Nat,k≤l0.length∧l0.length - k≤gg∧s8 = .int .i64 k∧wr=w∧Aside0 (ixL (l0.drop k) a1 k=R))
 case atStart=>exact ⟨0,by omega,by omega,rfl,rfl,H0⟩
 case round=>
  obtain ⟨k,hk,hg,rfl,rfl,HK⟩:=hrel
  by_cases hlt:k<l0.length
  rotate_left
  ·have j1:decide ((k:Int)<(l0.length:Int))=false:=zD (by omega)
   have HN:=HK.out
   rw [List.drop_of_length_le (by omega)] at HN
   have HM:=zA HN
   clear HN
   go_wp2
   go_ret
   exact ⟨by rw [← HM.out];rfl,rfl⟩
  have j1:decide ((k:Int)<(l0.length:Int))=true:=zC (by omega)
  obtain ⟨ad,e1,x0⟩:=Kd.at_string HR0.out (k:Int) (by omega) (by omega)
  cases e1
  simp only [Int.toNat_natCast] at x0
  have p0:(0≤(k:Int))=True:=eq_true (by omega)
  have m2:decide (k<l0.length)=true:=zC hlt
  have m3:((k:Int)<(l0.length:Int))=True:=eq_true (by omega)
  have m4:(k<l0.length)=True:=eq_true hlt
  have HN:=HK.out
  rw [ixL_at hlt] at HN
  have hX:rdOf ByteArray.empty l0 (k:Int)=l0.getD k ByteArray.empty:=by simp [rdOf]
  rw [hX] at x0
  generalize l0.getD k ByteArray.empty=X at *
  have hb:=bytes_ext a1 X
  by_cases he:a1=X
  ·rw [zC he] at hb
   rw [if_pos he] at HN
   have HM:=zA HN
   clear he hX HN
   go_wp2
   go_ret
   exact ⟨by rw [← HM.out];rfl,rfl⟩
  rw [zD he] at hb
  rw [if_neg he] at HN
  have HM:=zA HN
  clear he hX HN
  go_wp2
  go_roundg (l0.length - (k+1))
  case measure=>omega
  case rel=>exact ⟨k+1,by omega,by omega,by go_num,rfl,HM⟩
def plNames:List ByteArray:=[⟨#[111,116,104,101,114]⟩,⟨#[122,101,114,111]⟩,⟨#[111,110,101]⟩,⟨#[116,119,111]⟩,⟨#[102,101,119]⟩,⟨#[109,97,110,121]⟩]
set_option maxHeartbeats 2000000 in
set_option maxRecDepth 100000 in
theorem pl_names (w:World):Calls Tryz.prog 43 #[] w fun e w'=>e = .returned (.agg #[.string ⟨#[111,116,104,101,114]⟩,.string ⟨#[122,101,114,111]⟩,.string ⟨#[111,110,101]⟩,.string ⟨#[116,119,111]⟩,.string ⟨#[102,101,119]⟩,.string ⟨#[109,97,110,121]⟩])∧Below w.heap.size w w':=by
 go_enter Tryz.func43,Tryz.ntmps43
 go_wp2
 go_returns
 exact ⟨rfl,below_alloc (Below.refl _ _) _⟩
def plur_Name.f (a0:Int):Option ByteArray:=some (if 0≤a0∧a0<6 then plNames.getD a0.toNat ⟨#[]⟩ else ⟨#[]⟩)
set_option maxHeartbeats 2000000 in
set_option maxRecDepth 100000 in
theorem plur_Name.calls (a0:Int)(r:ByteArray)(w:World)(h:plur_Name.f a0=some r) :
    Calls Tryz.prog 17 #[.int .i64 a0] w fun e w'=>e = .returned (.string r)∧Below w.heap.size w w':=by
 have HL:=zA (pl_names w)
 have e:=zE h
 clear h
 by_cases h0:a0<0
 ·have g1:decide (a0<0)=true:=zC h0
  rw [if_neg (by omega)] at e
  subst e
  clear h0
  go_enter Tryz.func17,Tryz.ntmps17
  go_wp2_with (go_at_call 43;refine HL.out.mono ?_;rintro e w5 ⟨rfl,hb5⟩;have HB:=zA hb5;clear hb5)
  go_ret
  exact ⟨rfl,below_alloc HB.out _⟩
 have g1:decide (a0<0)=false:=zD h0
 by_cases h6:a0≥6
 ·have g2:decide (a0≥6)=true:=zC h6
  rw [if_neg (by omega)] at e
  subst e
  clear h0 h6
  go_enter Tryz.func17,Tryz.ntmps17
  go_wp2_with (go_at_call 43;refine HL.out.mono ?_;rintro e w5 ⟨rfl,hb5⟩;have HB:=zA hb5;clear hb5)
  go_ret
  exact ⟨rfl,below_alloc HB.out _⟩
 have hc:a0=0∨a0=1∨a0=2∨a0=3∨a0=4∨a0=5:=by omega
 clear h0 h6 g1
 rcases hc with rfl|rfl|rfl|rfl|rfl|rfl
 all_goals
  (subst e
   go_enter Tryz.func17,Tryz.ntmps17
   go_wp2_with (go_at_call 43;refine HL.out.mono ?_;rintro e w5 ⟨rfl,hb5⟩;have HB:=zA hb5;clear hb5)
   go_ret
   exact ⟨rfl,below_alloc HB.out _⟩)
theorem names_row (W:World):Kd.C Kd.string (W.alloc (.cells #[.string ⟨#[111,116,104,101,114]⟩,.string ⟨#[122,101,114,111]⟩,.string ⟨#[111,110,101]⟩,.string ⟨#[116,119,111]⟩,.string ⟨#[102,101,119]⟩,.string ⟨#[109,97,110,121]⟩] 73)) (some ⟨W.heap.size,0,none⟩) plNames.length plNames:=by
 have hb:=heap_alloc_new W (.cells #[.string ⟨#[111,116,104,101,114]⟩,.string ⟨#[122,101,114,111]⟩,.string ⟨#[111,110,101]⟩,.string ⟨#[116,119,111]⟩,.string ⟨#[102,101,119]⟩,.string ⟨#[109,97,110,121]⟩] 73)
 refine ⟨rfl,by decide,fun _=>⟨_,rfl,fun j x hj=>⟨[.string x],rfl,rfl,fun i u hu=>?_⟩⟩⟩
 have hi:i=0:=by
  rcases i with _|i
  · rfl
  simp at hu
 subst hi
 obtain rfl:Value.string x=u:=by simpa using hu
 have hj6:j<6:=(List.getElem?_eq_some_iff.mp hj).1
 have hc:=blk_cell hb j
 have e1:(Addr.add ⟨W.heap.size,0,none⟩ (j * (Kd.string).sz+0))=⟨W.heap.size,j,none⟩:=by
  show Addr.add ⟨W.heap.size,0,none⟩ (j * 1+0)=_
  simp [Addr.add]
  omega
 rw [e1,hc]
 have:j=0∨j=1∨j=2∨j=3∨j=4∨j=5:=by omega
 rcases this with rfl|rfl|rfl|rfl|rfl|rfl <;> (simp [plNames] at hj;subst hj;rfl)
def plur_Cat.f (a0:ByteArray):Option (Int×Bool):=some (max (ixL plNames a0 0) 0,decide (0≤ixL plNames a0 0))
set_option maxHeartbeats 2000000 in
set_option maxRecDepth 100000 in
theorem plur_Cat.calls (a0:ByteArray)(r1:Int)(r2:Bool)(w:World)(h:plur_Cat.f a0=some (r1,r2)) :
    Calls Tryz.prog 16 #[.string a0] w fun e w'=>e = .returned (.tuple #[.int .i64 r1,.bool r2])∧Below w.heap.size w w':=by
 have HL:=zA (pl_names w)
 have e:=zE h
 obtain ⟨rfl,rfl⟩:=Prod.mk.inj e
 clear h e
 have HX:=zA (fun A0 c0 W hr hc=>ix_row A0 c0 plNames a0 W hr hc)
 generalize ixL plNames a0 0=R at *
 by_cases hR:R<0
 ·have g1:decide (R≥0)=false:=by simp;omega
  have HR:=zA hR
  have hlt:(R<0)=True:=eq_true hR
  have hm:max R 0=0:=by omega
  have hd:decide (0≤R)=false:=by simp;omega
  rw [hm,hd]
  clear hm hd hR
  go_enter Tryz.func16,Tryz.ntmps16
  go_wp2_with (first|(go_at_call 43;refine HL.out.mono ?_;rintro e w5 ⟨rfl,hb5⟩;have HB:=zA hb5;clear hb5)|(go_at_call 44;refine (HX.out _ _ _ (names_row _) (by decide)).mono ?_;rintro e w6 ⟨rfl,rfl⟩))
  go_ret2
  exact ⟨by first|rfl|(rw [show max R 0=0 by have:=HR.out;omega];rfl),below_alloc HB.out _⟩
 have g1:decide (R≥0)=true:=by simp;omega
 have HR:=zA hR
 have hlt:(R<0)=False:=eq_false hR
 have hm:max R 0=R:=by omega
 have hd:decide (0≤R)=true:=by simp;omega
 rw [hm,hd]
 clear hm hd hR
 go_enter Tryz.func16,Tryz.ntmps16
 go_wp2_with (first|(go_at_call 43;refine HL.out.mono ?_;rintro e w5 ⟨rfl,hb5⟩;have HB:=zA hb5;clear hb5)|(go_at_call 44;refine (HX.out _ _ _ (names_row _) (by decide)).mono ?_;rintro e w6 ⟨rfl,rfl⟩))
 go_ret2
 exact ⟨by first|rfl|(rw [show max R 0=R by have:=HR.out;omega];rfl),below_alloc HB.out _⟩
abbrev Ru:=S65
deriving instance DecidableEq for S65
theorem ruled_at {w:World}{A:Option Addr}{n:Nat}{xs:List Ru}(h:Kd.C k65 w A n xs)(i:Nat)(hi:i<n) :
    ∃ ad A1 c1,A=some ad∧w.cell? (ad.add (i * 2))=some (.int .i64 (xs.getD i ⟨0,[]⟩).f0)∧w.cell? ⟨(ad.add (i * 2)).block,(ad.add (i * 2)).off+1,none⟩=some (.slice A1 (xs.getD i ⟨0,[]⟩).f1.length c1) ∧
      (xs.getD i ⟨0,[]⟩).f1.length≤c1∧Kd.C (Kd.slice 60 k60) w A1 (xs.getD i ⟨0,[]⟩).f1.length (xs.getD i ⟨0,[]⟩).f1:=by
 have:=at_T65 h (i:Int) (by omega) (by omega)
 simpa [rd_T65,z65] using this
end Go.Proofs.YtgfajgkjbckkgaaGreatDoor.PZ
end
section
set_option maxRecDepth 100000
namespace Go.Proofs.YtgfajgkjbckkgaaGreatDoor.PZ
open Go.RowKit Go.Shelf Go.Proofs.YtgfajgkjbckkgaaGreatDoorW.PrintWords Go.Proofs.YtgfajgkjbckkgaaGreatDoorW.PrintLast
section
attribute [local go_sem] Oper.semAt_some
def hlist (q:Ru→Bool)(l:List Ru):List Int:=(l.filter q).map (·.f0)
theorem hlist_more {q:Ru→Bool}{l:List Ru}{k:Nat}(hk:k<l.length):hlist q (l.take (k+1))=hlist q (l.take k) ++ (if q (l.getD k ⟨0,[]⟩)=true then [(l.getD k ⟨0,[]⟩).f0] else []):=by
 unfold hlist
 have e:l.getD k ⟨0,[]⟩=l[k]:=by simp [List.getD_eq_getElem?_getD,List.getElem?_eq_getElem hk]
 rw [List.take_succ_eq_append_getElem hk,List.filter_append,List.map_append,e]
 congr 1
 by_cases h:q l[k]=true <;> simp [h]
theorem hlist_split (q:Ru→Bool)(l:List Ru)(k:Nat):hlist q l=hlist q (l.take k) ++ hlist q (l.drop k):=by
 unfold hlist
 conv=>lhs;rw [← List.take_append_drop k l,List.filter_append,List.map_append]
theorem hlist_lt {q:Ru→Bool}{l:List Ru}{k:Nat}(hk:k<l.length)(h:q (l.getD k ⟨0,[]⟩)=true):(hlist q (l.take k)).length<(hlist q l).length:=by
 have e1:=congrArg List.length (hlist_split q l (k+1))
 have e2:=congrArg List.length (hlist_more (q:=q) hk)
 rw [if_pos h] at e2
 simp only [List.length_append,List.length_cons,List.length_nil] at e1 e2
 omega
structure PlArgs (W:World)(Bl Bo:Nat)(A:Option Addr)(cap:Nat)(l:List Ru)(A0:Option Addr)(n0 c0:Nat)(A1:Option Addr)(n1 c1:Nat)(a2 a3:Int):Prop where
  bl:W.cell? ⟨Bl,0,none⟩=some (.slice A l.length cap)
  o0:W.cell? ⟨Bo,0,none⟩=some (.slice A0 n0 c0)
  o1:W.cell? ⟨Bo,1,none⟩=some (.slice A1 n1 c1)
  o2:W.cell? ⟨Bo,2,none⟩=some (.int .i64 a2)
  o3:W.cell? ⟨Bo,3,none⟩=some (.int .i64 a3)
  row:Kd.C k65 W A l.length l
theorem PlArgs.below {W W':World}{Bl Bo:Nat}{A:Option Addr}{cap:Nat}{l:List Ru}{A0:Option Addr}{n0 c0:Nat}{A1:Option Addr}{n1 c1:Nat}{a2 a3:Int}(h:PlArgs W Bl Bo A cap l A0 n0 c0 A1 n1 c1 a2 a3)(hb:Below W.heap.size W W'):PlArgs W' Bl Bo A cap l A0 n0 c0 A1 n1 c1 a2 a3:=by
 have hk:∀ {a:Addr} {u:Value},W.cell? a=some u→W'.cell? a=some u:=fun h=>(hb.cell (World.block_lt_of_cell? W _ h)).trans h
 exact ⟨hk h.bl,hk h.o0,hk h.o1,hk h.o2,hk h.o3,Kd.C_below h.row hb⟩
theorem below_none {W W':World}(hb:Below W.heap.size W W'):W.grownBy W' none:=⟨hb.os,hb.tape,hb.output,hb.size,fun k hk _=>hb.block k hk⟩
set_option maxRecDepth 100000 in
set_option maxHeartbeats 4000000 in
theorem holding1_in (F:Fence)(n:Nat)(hf:F.fn 70)(hf3:F.fn 37)(hro:F.round=none)(hn:2≤n)(lk Bl Bo:Nat)(A:Option Addr)(cap:Nat)(l:List Ru)(A0:Option Addr)(n0 c0:Nat)(A1:Option Addr)(n1 c1:Nat)(a2 a3:Int)(q:Ru→Bool)
    (w:World) (ha:PlArgs w Bl Bo A cap l A0 n0 c0 A1 n1 c1 a2 a3)
    (hH:∀ x ∈ l,∀ W Ax cx,Below w.heap.size w W→Kd.C (Kd.slice 60 k60) W Ax x.f1.length x.f1→x.f1.length≤cx→CallsIn F (n - 1) Tryz.prog 37 #[.slice Ax x.f1.length cx,.agg #[.slice A0 n0 c0,.slice A1 n1 c1,.int .i64 a2,.int .i64 a3]] W fun e w'=>e = .returned (.bool (q x))∧Below W.heap.size W w')
    (J Jx:List Int→World→Prop) (W:World) (hW:Below w.heap.size w W) (hJ:AbidesFrom W.heap.size J)
    (hY:∀ pre x W1,J pre W1→pre.length<(hlist q l).length→YieldAt F (n - 1) Tryz.prog lk #[.int .i64 x] W1 fun e W'=>
      (e = .returned (.bool true)∧J (pre ++ [x]) W'∧Below w.heap.size W1 W')∨(e = .returned (.bool false)∧Jx (pre ++ [x]) W'))
    (h0:J [] W) :
    CallsIn F n Tryz.prog 70 #[.func (.yield lk) #[] #[],.pointer (some ⟨Bl,0,none⟩),.pointer (some ⟨Bo,0,none⟩)] W fun e W'=>(∃ v,e = .returned v) ∧
      ((∃ ys,ys=hlist q l∧J ys W')∨(∃ pre,(∃ t,hlist q l=pre ++ t)∧Jx pre W')):=by
 have h1:1≤n - 1:=by omega
 have h2:1≤n:=by omega
 have hl:=ha.row.2.1
 have ha0:=ha.below hW
 have hb0:=ha0.bl
 have HA:=zA (fun W' (hb:Below w.heap.size w W')=>ha.below hb)
 have HH:=zA hH
 have HY:=zA hY
 have HJ:=zA hJ
 clear hH hY hJ ha ha0
 refine callsIn_of_wp Tryz.func70 rfl hf ?_ hro
 simp only [Tryz.ntmps70,List.size_toArray,List.length_cons,List.length_nil,Nat.reduceAdd,Nat.reduceSub,Array.replicate_succ,Array.replicate_zero,List.push_toArray,List.append_toArray,List.nil_append,List.cons_append]
 gi_wp2
 clear hb0
 gi_loopw [8] (fun i wr=>∃ k:Nat,k≤l.length∧i = .int .i64 k∧Aside0 (J (hlist q (l.take k)) wr)∧Aside0 (Below w.heap.size w wr)∧Aside0 (W.heap.size≤wr.heap.size))
  (fun i _=>l.length - (intOf i).toNat)
 case atStart=>exact ⟨0,Nat.zero_le _,rfl,⟨h0⟩,⟨hW⟩,⟨Nat.le_refl _⟩⟩
 case round=>
  obtain ⟨k,hk,rfl,HJs,HB,HZ⟩:=hrel
  by_cases hlt:k<l.length
  rotate_left
  ·have j1:decide ((k:Int)<(l.length:Int))=false:=zD (by omega)
   gi_wp2
   go_end0
   exact ⟨⟨_,rfl⟩,.inl ⟨_,by rw [List.take_of_length_le (by omega)],HJs.out⟩⟩
  have j1:decide ((k:Int)<(l.length:Int))=true:=zC (by omega)
  have HAr:=HA.out wr HB.out
  obtain ⟨ad,A3,c3,e3,x0,x1,hx3,HX⟩:=ruled_at HAr.row k hlt
  subst e3
  have p0:(0≤(k:Int))=True:=eq_true (by omega)
  have m2:decide (k<l.length)=true:=zC hlt
  have m3:((k:Int)<(l.length:Int))=True:=eq_true (by omega)
  have m4:(k<l.length)=True:=eq_true hlt
  have hmem:=getD_mem (⟨0,[]⟩:Ru) hlt
  have hmore:=hlist_more (q:=q) hlt
  have hlen:=zA (hlist_lt (q:=q) hlt)
  have hgo:=zA (hlist_split q l (k+1))
  generalize l.getD k ⟨0,[]⟩=X at *
  have HBx:=below_alloc (Below.refl wr.heap.size wr) (.cells #[.int .i64 X.f0,.slice A3 X.f1.length c3] 65)
  have hnew:=heap_alloc_new wr (.cells #[.int .i64 X.f0,.slice A3 X.f1.length c3] 65)
  have HC:=zA (HH.out X hmem _ A3 c3 (below_step HB.out HBx) (Kd.C_below HX HBx) hx3)
  have z0:=fun o=>((below_alloc (Below.refl wr.heap.size wr) o).cell (World.block_lt_of_cell? wr _ HAr.o0)).trans HAr.o0
  have z1:=fun o=>((below_alloc (Below.refl wr.heap.size wr) o).cell (World.block_lt_of_cell? wr _ HAr.o1)).trans HAr.o1
  have z2:=fun o=>((below_alloc (Below.refl wr.heap.size wr) o).cell (World.block_lt_of_cell? wr _ HAr.o2)).trans HAr.o2
  have z3:=fun o=>((below_alloc (Below.refl wr.heap.size wr) o).cell (World.block_lt_of_cell? wr _ HAr.o3)).trans HAr.o3
  have hcat:=zA ((blk_cell hnew 0).trans (rfl:_=some (Value.int .i64 X.f0)))
  replace HBx:=zA HBx
  replace hmore:=zA hmore
  clear HAr HX hx3 hmem hnew
  cases hq:q X with
  | false=>
   rw [hq] at HC
   gi_wp2_with (gi_at_call 37;refine (HC.out).mono ?_;rintro e w5 ⟨rfl,hb5⟩;have hB:=zA (below_step HBx.out hb5);clear hb5)
   refine ⟨(fun _ h_=>by cases h_),?_⟩
   gi_wp2
   go_roundw
   case rel=>
    refine ⟨k+1,by omega,by go_num,⟨?_⟩,⟨below_step HB.out hB.out⟩,⟨Nat.le_trans HZ.out hB.out.size⟩⟩
    rw [hmore.out,hq]
    simp only [Bool.false_eq_true,if_false,List.append_nil]
    exact HJ.out _ _ _ none HJs.out (below_none hB.out) (fun _ e=>by cases e)
   case measure=>first|omega|(simp [intOf];omega)
  | true=>
   rw [hq] at HC
   replace hlen:=zA (hlen.out hq)
   replace hmore:=zA (hmore.out.trans (by rw [hq,if_pos rfl]))
   clear hq
   gi_wp2_with (gi_at_call 37;refine (HC.out).mono ?_;rintro e w5 ⟨rfl,hb5⟩;have hcat5:=(hb5.cell (World.block_lt_of_cell? _ _ hcat.out)).trans hcat.out;have hB:=zA (below_step HBx.out hb5);clear hb5;obtain ⟨fn,tmps,assign,body,hy,hR⟩:=HY.out (hlist q (l.take k)) X.f0 w5 (HJ.out _ _ _ none HJs.out (below_none hB.out) (fun _ e=>by cases e)) hlen.out;(try dsimp only at hy);have HR:=zA hR;clear hR)
   refine HR.out.mono ?_
   rintro e W3 (⟨rfl,hJ3,hk3⟩|⟨rfl,hJx3⟩)
   ·gi_wp2
    go_roundw
    case rel=>
     exact ⟨k+1,by omega,by go_num,⟨by rw [hmore.out];exact hJ3⟩,⟨(below_step HB.out hB.out).trans hk3⟩,⟨Nat.le_trans (Nat.le_trans HZ.out hB.out.size) hk3.size⟩⟩
    case measure=>simp [intOf];omega
   gi_wp2
   refine bodyPost_ret (results_none rfl _ _ _) rfl ?_
   exact ⟨⟨_,rfl⟩,.inr ⟨_,⟨_,by rw [hgo.out,hmore.out]⟩,hJx3⟩⟩
theorem holding_in (F:Fence)(n:Nat)(hf:F.fn 50)(hro:F.round=none)(A:Option Addr)(ln cap:Nat)(A0:Option Addr)(n0 c0:Nat)(A1:Option Addr)(n1 c1:Nat)(a2 a3:Int)(w:World) :
    CallsIn F n Tryz.prog 50 #[.slice A ln cap,.agg #[.slice A0 n0 c0,.slice A1 n1 c1,.int .i64 a2,.int .i64 a3]] w fun e w'=>e = .returned (.func (.func 70) #[] #[.pointer (some ⟨w.heap.size,0,none⟩),.pointer (some ⟨w.heap.size+1,0,none⟩)]) ∧
      w'=(w.alloc (.cells #[.slice A ln cap] 28)).alloc (.cells #[.slice A0 n0 c0,.slice A1 n1 c1,.int .i64 a2,.int .i64 a3] 36):=by
 refine callsIn_of_wp Tryz.func50 rfl hf ?_ hro
 simp only [Tryz.ntmps50,List.size_toArray,List.length_cons,List.length_nil,Nat.reduceAdd,Nat.reduceSub,Array.replicate_succ,Array.replicate_zero,List.push_toArray,List.append_toArray,List.nil_append,List.cons_append]
 gi_wp2
 go_ret
 exact ⟨rfl,rfl⟩
set_option maxRecDepth 100000 in
set_option maxHeartbeats 4000000 in
theorem of_in (F:Fence)(n:Nat)(hf:F.fn 27)(hf1:F.fn 50)(hf2:F.fn 70)(hf3:F.fn 37)(hro:F.round=none)(hn:3≤n)(A:Option Addr)(cap:Nat)(l:List Ru)(A0:Option Addr)(n0 c0:Nat)(A1:Option Addr)(n1 c1:Nat)(a2 a3:Int)(q:Ru→Bool)
    (w:World) (hr:Kd.C k65 w A l.length l)
    (hH:∀ x ∈ l,∀ W Ax cx,Below w.heap.size w W→Kd.C (Kd.slice 60 k60) W Ax x.f1.length x.f1→x.f1.length≤cx→CallsIn F (n - 1 - 1) Tryz.prog 37 #[.slice Ax x.f1.length cx,.agg #[.slice A0 n0 c0,.slice A1 n1 c1,.int .i64 a2,.int .i64 a3]] W fun e w'=>e = .returned (.bool (q x))∧Below W.heap.size W w') :
    CallsIn F n Tryz.prog 27 #[.slice A l.length cap,.agg #[.slice A0 n0 c0,.slice A1 n1 c1,.int .i64 a2,.int .i64 a3]] w fun e W'=>e = .returned (.int .i64 ((hlist q l).headD 0))∧Below w.heap.size w W':=by
 have h1:1≤n:=by omega
 refine callsIn_of_wp_marks Tryz.func27 rfl hf ?_ hro
 simp only [Tryz.ntmps27,List.size_toArray,List.length_cons,List.length_nil,Nat.reduceAdd,Nat.reduceSub,Array.replicate_succ,Array.replicate_zero,List.push_toArray,List.append_toArray,List.nil_append,List.cons_append]
 have HR:=zA hr
 have HH:=zA hH
 clear hr hH
 gi_wp2_with (gi_at_call 50;refine (holding_in F (n - 1) hf1 hro _ _ _ _ _ _ _ _ _ _ _ _).mono ?_;rintro e w' ⟨rfl,rfl⟩)
 obtain ⟨w2,hw2⟩:∃ w2,w2=(w.alloc (.cells #[.slice A0 n0 c0,.slice A1 n1 c1,.int .i64 a2,.int .i64 a3] 36)).alloc (.cells #[.int .i64 0] 3):=⟨_,rfl⟩
 obtain ⟨w4,hw4⟩:∃ w4,w4=(w2.alloc (.cells #[.slice A l.length cap] 28)).alloc (.cells #[.slice A0 n0 c0,.slice A1 n1 c1,.int .i64 a2,.int .i64 a3] 36):=⟨_,rfl⟩
 have hs2:w2.heap.size=w.heap.size+1+1:=by rw [hw2];simp
 have hs4:w4.heap.size=w.heap.size+1+1+1+1:=by rw [hw4];simp [hs2]
 have hb2:Below w.heap.size w w2:=by rw [hw2];exact below_alloc (below_alloc (Below.refl _ _) _) _
 have hb4:Below w.heap.size w w4:=by rw [hw4];exact below_alloc (below_alloc hb2 _) _
 have bR2:Boxed w2 (w.heap.size+1) 3 (.int .i64 0):=by
  have:=Boxed.new (w.alloc (.cells #[.slice A0 n0 c0,.slice A1 n1 c1,.int .i64 a2,.int .i64 a3] 36)) 3 (.int .i64 0)
  simp only [World.size_alloc] at this
  rw [hw2];exact this
 have bR:Boxed w4 (w.heap.size+1) 3 (.int .i64 0):=by rw [hw4];exact (bR2.alloc _).alloc _
 have bL:Boxed w4 (w.heap.size+1+1) 28 (.slice A l.length cap):=by
  have:=(Boxed.new w2 28 (.slice A l.length cap)).alloc (.cells #[.slice A0 n0 c0,.slice A1 n1 c1,.int .i64 a2,.int .i64 a3] 36)
  rw [hs2] at this
  rw [hw4];exact this
 have bO:=heap_alloc_new (w2.alloc (.cells #[.slice A l.length cap] 28)) (.cells #[.slice A0 n0 c0,.slice A1 n1 c1,.int .i64 a2,.int .i64 a3] 36)
 rw [World.size_alloc,hs2,← hw4] at bO
 have ha:PlArgs w4 (w.heap.size+1+1) (w.heap.size+1+1+1) A cap l A0 n0 c0 A1 n1 c1 a2 a3:=
  ⟨bL.cell,(blk_cell bO 0).trans rfl,(blk_cell bO 1).trans rfl,(blk_cell bO 2).trans rfl,(blk_cell bO 3).trans rfl,Kd.C_below HR.out hb4⟩
 rw [← hw2,← hw4]
 refine wpIn_rangeFunc_ownG hro h1 (gf:=70) (lb:=#[.pointer (some ⟨w.heap.size+1+1,0,none⟩),.pointer (some ⟨w.heap.size+1+1+1,0,none⟩)]) rfl hf2 (enters_of Tryz.func70 (by kernel_rfl) rfl)
  (encs:=fun x:Int=>#[Value.int .i64 x]) (Kp:=Below w4.heap.size) (S:=fun ys=>ys=hlist q l) (Sp:=fun pre=>∃ t,hlist q l=pre ++ t) (N:=(hlist q l).length) (w0:=w4)
  (fun lk J Jx W hW hJ _ hY h0=>holding1_in F (n - 1) hf2 hf3 hro (by omega) lk _ _ A cap l A0 n0 c0 A1 n1 c1 a2 a3 q w4 ha (fun x hx W Ax cx hB hC hc=>HH.out x hx W Ax cx (below_step hb4 hB) hC hc) J Jx W hW hJ hY h0)
  belowK_t (belowK_b (Nat.le_refl _)) (Below.refl _ _) (fun _=>rfl)
  (fun pre W=>(pre=[]∧Boxed W (w.heap.size+1) 3 (.int .i64 0))∧Below w.heap.size w W)
  (fun c pre W=>(c = .ret∧∃ x,pre=[x]∧Boxed W (w.heap.size+1) 3 (.int .i64 x))∧Below w.heap.size w W)
  (OwnFrom.and (fun pre W W' row h hg hr=>⟨h.1,h.2.kept hg (fun e=>by obtain ⟨_,o,ho,hc⟩:=hr _ e.symm;rw [show W.heap[w.heap.size+1]?=_ from h.2] at ho;cases ho;cases hc)⟩) (ownFrom_below (Nat.le_refl _) (by omega)))
  (fun c=>OwnFrom.and (fun pre W W' row h hg hr=>by
    obtain ⟨hc,x,hx,hb⟩:=h
    exact ⟨hc,x,hx,hb.kept hg (fun e=>by obtain ⟨_,o,ho,hc⟩:=hr _ e.symm;rw [show W.heap[w.heap.size+1]?=_ from hb] at ho;cases ho;cases hc)⟩) (ownFrom_below (Nat.le_refl _) (by omega)))
  ⟨⟨rfl,bR⟩,hb4⟩
  (fun x=>{ tmps:=#[.slice A l.length cap,.agg #[.slice A0 n0 c0,.slice A1 n1 c1,.int .i64 a2,.int .i64 a3],undef,.pointer (some ⟨w.heap.size,0,none⟩),.pointer (some ⟨w.heap.size+1,0,none⟩),.int .i64 x,.slice A l.length cap,.agg #[.slice A0 n0 c0,.slice A1 n1 c1,.int .i64 a2,.int .i64 a3],.func (.func 70) #[] #[.pointer (some ⟨w.heap.size+1+1,0,none⟩),.pointer (some ⟨w.heap.size+1+1+1,0,none⟩)],.int .i64 x,undef],defers:=[] }) ?assign ?body ?done ?stop
 case assign=>
  intro lk x W K hK
  gi_wp2
  exact hK
 case body=>
  rintro lk pre x W ⟨⟨rfl,hb⟩,hB⟩ hlt
  have hc:=hb.cell
  have hfz:=hb.frozen
  gi_wp2
  exact ⟨(KeepsOthers.setCell _ _ _).from _,⟨rfl,x,rfl,hb.set _⟩,hB.setCell (p:=⟨w.heap.size+1,0,none⟩) (by simp) _⟩
 case done=>
  rintro D ys W hD hys ⟨⟨hnil,hb⟩,hB⟩ hK
  have hc:=hb.cell
  have hfz:=hb.frozen
  have HY:=zA (hys.symm.trans hnil)
  clear hys hnil
  gi_wp2
  have hD2:=(KeepsOthers.setCell W ⟨w.heap.size+1,0,none⟩ (.int .i64 0)).same D _ hK rfl
  have hb5:=hb.set (.int .i64 0)
  have hb6:Boxed ((W.setCell ⟨w.heap.size+1,0,none⟩ (.int .i64 0)).putObj D (.deferred none)) (w.heap.size+1) 3 (.int .i64 0):=hb5.kept (grownBy_putObj' _ D _) (fun e=>by cases e;rw [show (W.setCell ⟨w.heap.size+1,0,none⟩ (.int .i64 0)).heap[w.heap.size+1]?=_ from hb5] at hD2;cases hD2)
  have hc6:=hb6.cell
  refine ⟨by simp,.inl ⟨_,_,rfl,run_takeDeferred hD2,?_⟩⟩
  refine ⟨.int .i64 0,(by simp [results,Tryz.results27,go_sem,hc6]),by rw [HY.out];rfl,?_⟩
  exact (hB.setCell (p:=⟨w.heap.size+1,0,none⟩) (by simp) _).trans (belowK_b (w:=w) (Nat.le_refl _) _ D _ _ (by omega) hD2 rfl rfl)
 case stop=>
  rintro D c pre W hD ⟨t,ht⟩ ⟨⟨rfl,x,rfl,hb⟩,hB⟩ hK
  have HT:=zA ht
  clear ht
  have hc:=hb.cell
  gi_wp2
  have hb6:Boxed (W.putObj D (.deferred none)) (w.heap.size+1) 3 (.int .i64 x):=hb.kept (grownBy_putObj' _ D _) (fun e=>by cases e;rw [show W.heap[w.heap.size+1]?=_ from hb] at hK;cases hK)
  have hc6:=hb6.cell
  refine ⟨by simp,.inl ⟨_,_,rfl,run_takeDeferred hK,?_⟩⟩
  refine ⟨.int .i64 x,(by simp [results,Tryz.results27,go_sem,hc6]),by rw [HT.out];rfl,?_⟩
  exact hB.trans (belowK_b (w:=w) (Nat.le_refl _) _ D _ _ (by omega) hK rfl rfl)
def plur_Of.f (l:List Ru)(l0 l1:List Int)(a2 a3:Int):Option Int:=
  if ∀ x ∈ l,(rule_Holds.f x.f1 l0 l1 a2 a3).isSome then some ((hlist (fun x=>rule_Holds.f x.f1 l0 l1 a2 a3 == some true) l).headD 0) else none
theorem plur_Of.calls (A0:Option Addr)(c0:Nat)(l0:List Ru)(A1_0:Option Addr)(c1_0:Nat)(l1_0:List Int)(A1_1:Option Addr)(c1_1:Nat)(l1_1:List Int)(a1_2 a1_3:Int)(r:Int)(w:World)(hG:GL w)
    (hr0:Kd.C k65 w A0 l0.length l0) (hc0:l0.length≤c0) (hr1_0:Kd.C (Kd.int .u8) w A1_0 l1_0.length l1_0) (hc1_0:l1_0.length≤c1_0) (hr1_1:Kd.C (Kd.int .u8) w A1_1 l1_1.length l1_1) (hc1_1:l1_1.length≤c1_1)
    (h:plur_Of.f l0 l1_0 l1_1 a1_2 a1_3=some r) :
    Calls Tryz.prog 27 #[.slice A0 l0.length c0,.agg #[.slice A1_0 l1_0.length c1_0,.slice A1_1 l1_1.length c1_1,.int .i64 a1_2,.int .i64 a1_3]] w fun e w'=>e = .returned (.int .i64 r)∧Below w.heap.size w w':=by
 unfold plur_Of.f at h
 split at h
 ·rename_i hs
  obtain rfl:=zE h
  exact callsIn_wide.1 (of_in Fence.wide 3 trivial trivial trivial trivial rfl (Nat.le_refl _) A0 c0 l0 A1_0 l1_0.length c1_0 A1_1 l1_1.length c1_1 a1_2 a1_3 _ w hr0 (fun x hx W Ax cx hB hC hc=>by
   obtain ⟨b,hb⟩:=Option.isSome_iff_exists.mp (hs x hx)
   have hbb:(rule_Holds.f x.f1 l1_0 l1_1 a1_2 a1_3 == some true)=b:=by rw [hb];cases b <;> rfl
   rw [hbb]
   exact callsIn_wide.2 (rule_Holds.calls Ax cx x.f1 A1_0 c1_0 l1_0 A1_1 c1_1 l1_1 a1_2 a1_3 b W (hG.below hB) hC hc (Kd.C_below hr1_0 hB) hc1_0 (Kd.C_below hr1_1 hB) hc1_1 hb)))
 cases h
end
end Go.Proofs.YtgfajgkjbckkgaaGreatDoor.PZ
end
section
noncomputable section
namespace Go.Proofs.YtgfajgkjbckkgaaGreatDoor.PZ
open Go.RowKit Go.Proofs.YtgfajgkjbckkgaaGreatDoorW.PrintWords Go.Proofs.YtgfajgkjbckkgaaGreatDoorW.PrintLast Go.Proofs.YtgfajgkjbckkgaaGreatDoorW.PrintMore
attribute [local go_sem] max2_int min2_int max_two min_two max_three min_three max_four min_four   -- for this text's walks alone
def exerguelaw12_shown.f (k:Nat)  : Option (Bool):=(plur_Read.f k (([(⟨2,(⟨#[110,32,61,32,49]⟩:ByteArray)⟩:S68)]:List (S68)))).bind fun ab=>(if ab.2.2=0 then (if (ab.1.length:Int)=1 then ((plur_Of.f ab.1 (([1]:List Int)) ([]:List Int) 0 0).bind fun ah=>(if ah=2 then ((plur_Of.f ab.1 (([2]:List Int)) ([]:List Int) 0 0).bind fun ae=>(if ae=0 then ((plur_Name.f 2).bind fun af=>(if af.toList=([111,110,101]:List UInt8) then ((plur_Right.f k ab.1).bind fun aj=>(some aj)) else (none))) else (none))) else (none))) else (none)) else (none))
theorem exerguelaw12_shown.mono:∀ k,LeO (exerguelaw12_shown.f k ) (exerguelaw12_shown.f (k+1) ):=by
 intro  k
 unfold exerguelaw12_shown.f
 repeat' first|(with_reducible first|apply plur_Read.mono|apply plur_Right.mono|apply LeO.refl|apply LeO.none|refine LeO.ite ?_ ?_|refine LeO.bind ?_ (fun _=>?_))|apply plur_Read.mono|apply plur_Right.mono|apply LeO.none
set_option maxHeartbeats 8000000 in
set_option maxRecDepth 100000 in
theorem exerguelaw12_shown.calls (k:Nat)  (r:Bool)(w:World)(hG:GL w)(h:exerguelaw12_shown.f k  = some r) :
  Calls Tryz.prog 14 #[] w fun e w'=>e = .returned (.bool r)∧Below w.heap.size w w':=by
 have hu68:=Tryz.underlying68
 have hu36:=Tryz.underlying36
 have HB:=zS (Below.refl w.heap.size w)
 have HG:=zS hG
 clear hG
 have H:((plur_Read.f k (([(⟨2,(⟨#[110,32,61,32,49]⟩:ByteArray)⟩:S68)]:List (S68)))).bind fun ab=>(if ab.2.2=0 then (if (ab.1.length:Int)=1 then ((plur_Of.f ab.1 (([1]:List Int)) ([]:List Int) 0 0).bind fun ah=>(if ah=2 then ((plur_Of.f ab.1 (([2]:List Int)) ([]:List Int) 0 0).bind fun ae=>(if ae=0 then ((plur_Name.f 2).bind fun af=>(if af.toList=([111,110,101]:List UInt8) then ((plur_Right.f k ab.1).bind fun aj=>(some aj)) else (none))) else (none))) else (none))) else (none)) else (none)))=some r:=h
 clear h
 obtain ⟨aw,ak⟩:∃ y_:List (S68),y_=(([(⟨2,(⟨#[110,32,61,32,49]⟩:ByteArray)⟩:S68)]:List (S68))):=⟨_,rfl⟩
 replace H:((plur_Read.f k aw).bind fun ab=>(if ab.2.2=0 then (if (ab.1.length:Int)=1 then ((plur_Of.f ab.1 (([1]:List Int)) ([]:List Int) 0 0).bind fun ah=>(if ah=2 then ((plur_Of.f ab.1 (([2]:List Int)) ([]:List Int) 0 0).bind fun ae=>(if ae=0 then ((plur_Name.f 2).bind fun af=>(if af.toList=([111,110,101]:List UInt8) then ((plur_Right.f k ab.1).bind fun aj=>(some aj)) else (none))) else (none))) else (none))) else (none)) else (none)))=some r:=by first|(rw [ak];with_reducible exact H)|(have H2_:=(Option.bind_some _ _).symm.trans H;rw [ak];with_reducible exact H2_)|(have H2_:=(Option.bind_some _ _).symm.trans H;with_reducible exact H2_)|with_reducible exact H|(rw [ak];exact H)|exact H
 have ar:=zS ak
 clear ak
 replace H:=Option.bind_eq_some_iff.mp H
 obtain ⟨⟨ai,aA,aq⟩,A10,H⟩:=H
 try dsimp only at H
 have A1:=zS A10
 clear A10
 by_cases c2:aq=0
 rotate_left
 ·rw [if_neg c2] at H
  exact absurd H (by simp)
 rw [if_pos c2] at H
 have aH:(aq == 0)=true:=zH c2
 have aI:(aq != 0)=false:=zG c2
 clear c2
 by_cases c3:(ai.length:Int)=1
 rotate_left
 ·rw [if_neg c3] at H
  exact absurd H (by simp)
 rw [if_pos c3] at H
 have aJ:((ai.length:Int) == 1)=true:=zH c3
 have aK:((ai.length:Int) != 1)=false:=zG c3
 clear c3
 obtain ⟨ax,al⟩:∃ y_:List Int,y_=(([1]:List Int)):=⟨_,rfl⟩
 replace H:((plur_Of.f ai ax ([]:List Int) 0 0).bind fun ah=>(if ah=2 then ((plur_Of.f ai (([2]:List Int)) ([]:List Int) 0 0).bind fun ae=>(if ae=0 then ((plur_Name.f 2).bind fun af=>(if af.toList=([111,110,101]:List UInt8) then ((plur_Right.f k ai).bind fun aj=>(some aj)) else (none))) else (none))) else (none)))=some r:=by first|(rw [al];with_reducible exact H)|(have H2_:=(Option.bind_some _ _).symm.trans H;rw [al];with_reducible exact H2_)|(have H2_:=(Option.bind_some _ _).symm.trans H;with_reducible exact H2_)|with_reducible exact H|(rw [al];exact H)|exact H
 have au:=zS al
 clear al
 replace H:=Option.bind_eq_some_iff.mp H
 obtain ⟨ah,A40,H⟩:=H
 try dsimp only at H
 have A4:=zS A40
 clear A40
 by_cases c5:ah=2
 rotate_left
 ·rw [if_neg c5] at H
  exact absurd H (by simp)
 rw [if_pos c5] at H
 have aL:(ah == 2)=true:=zH c5
 have aM:(ah != 2)=false:=zG c5
 clear c5
 obtain ⟨ay,am⟩:∃ y_:List Int,y_=(([2]:List Int)):=⟨_,rfl⟩
 replace H:((plur_Of.f ai ay ([]:List Int) 0 0).bind fun ae=>(if ae=0 then ((plur_Name.f 2).bind fun af=>(if af.toList=([111,110,101]:List UInt8) then ((plur_Right.f k ai).bind fun aj=>(some aj)) else (none))) else (none)))=some r:=by first|(rw [am];with_reducible exact H)|(have H2_:=(Option.bind_some _ _).symm.trans H;rw [am];with_reducible exact H2_)|(have H2_:=(Option.bind_some _ _).symm.trans H;with_reducible exact H2_)|with_reducible exact H|(rw [am];exact H)|exact H
 have av:=zS am
 clear am
 replace H:=Option.bind_eq_some_iff.mp H
 obtain ⟨ae,A60,H⟩:=H
 try dsimp only at H
 have A6:=zS A60
 clear A60
 by_cases c7:ae=0
 rotate_left
 ·rw [if_neg c7] at H
  exact absurd H (by simp)
 rw [if_pos c7] at H
 have aN:(ae == 0)=true:=zH c7
 have aO:(ae != 0)=false:=zG c7
 clear c7
 replace H:=Option.bind_eq_some_iff.mp H
 obtain ⟨af,A80,H⟩:=H
 try dsimp only at H
 have A8:=zS A80
 clear A80
 by_cases c9:af.toList=([111,110,101]:List UInt8)
 rotate_left
 ·rw [if_neg c9] at H
  exact absurd H (by simp)
 rw [if_pos c9] at H
 have aP:(af.toList == ([111,110,101]:List UInt8))=true:=zH c9
 have aQ:(af.toList != ([111,110,101]:List UInt8))=false:=zG c9
 clear c9
 replace H:=Option.bind_eq_some_iff.mp H
 obtain ⟨aj,az,H⟩:=H
 try dsimp only at H
 have A10:=zS az
 clear az
 obtain rfl:=zE H
 go_enter Tryz.func14,Tryz.ntmps14
 have tok_0:=zA (show Aside0 (0=0) from ⟨rfl⟩)
 have tok_1:=zA (show Aside0 (1=1) from ⟨rfl⟩)
 go_wp2_with (first|((with_reducible refine gate_dst (N:=6) rfl ?_);(try (refine gate_guard (by rfl) ?_;dsimp only));refine Kd.R_lit k68 _ 68 ?hg (N:=6) ?hd (xs:=([(⟨2,(⟨#[110,32,61,32,49]⟩:ByteArray)⟩:S68)]:List (S68))) (inner:=[.int .i64 2,.string (⟨#[110,32,61,32,49]⟩:ByteArray)]) (ok:=fun _=>True) (okp:=fun _=>True) ?hr ?hp (fun _ hk=>hk) trivial (Below.refl _ _) (Nat.le_refl _) (by simp) ?_;(case hd=>rfl);(case hg=>rfl);(case hr=>first|(go_simp;done)|(go_simp;rfl));(case hp=>exact (Reps.c2 (show Kd.M k68 _ _ _ (⟨2,(⟨#[110,32,61,32,49]⟩:ByteArray)⟩:S68) [.int .i64 2,.string (⟨#[110,32,61,32,49]⟩:ByteArray)] from (k68_mkM _ _ _ (⟨2,(⟨#[110,32,61,32,49]⟩:ByteArray)⟩:S68) )) (Reps.none _ _)));intro aR w11 ao hb hg_ hnew_;clear hg_ hnew_;(first|rw [← ar.out] at ao|(simp only [Int.reduceToNat] at ao;rw [← ar.out] at ao));have ac:=zS (Kd.R_lower ao (bz HB));replace HB:=bs HB hb;clear hb ao;obtain ⟨aB,aC,aD⟩:=Kd.R_slice ac.out;subst aD)|((with_reducible refine gate_callee (f:=18) rfl ?_);refine gL (some 7) Tryz.func18 #[.slice aB aw.length aC] ?_;(with_reducible refine (plur_Read.calls k _ _ aw ai aA aq _ ?side3 (rc ac) (rl ac) A1.out).mono ?_);(case side3=>refine GL.below HG.out ?_;exact bQ HB);rintro e w14 ⟨aS,rfl,ho0,hb⟩;refine ⟨_,rfl,?_⟩;replace ac:=rb ac hb;have aa:=zS (Kd.R_lower ho0 (bz HB));replace HB:=bs HB hb;(try clear hb);(try clear ho0);obtain ⟨aT,aU,aE⟩:=Kd.R_slice aa.out;subst aE)|((with_reducible refine gate_dst (N:=20) rfl ?_);(try (refine gate_guard (by rfl) ?_;dsimp only));refine Kd.R_lit (Kd.int .u8) _ 5 ?hg (N:=20) ?hd (xs:=([1]:List Int)) (inner:=[.int .u8 1]) (ok:=fun _=>True) (okp:=fun _=>True) ?hr ?hp (fun _ hk=>hk) trivial (Below.refl _ _) (Nat.le_refl _) (by simp) ?_;(case hd=>rfl);(case hg=>rfl);(case hr=>first|(go_simp;done)|(go_simp;rfl));(case hp=>exact (Reps.one (show Kd.M (Kd.int .u8) _ _ _ 1 [.int .u8 1] from rfl) (Reps.none _ _)));intro aV w16 ap hb hg_ hnew_;clear hg_ hnew_;(first|rw [← au.out] at ap|(simp only [Int.reduceToNat] at ap;rw [← au.out] at ap));replace ac:=rb ac hb;replace aa:=rb aa hb;have ad:=zS (Kd.R_lower ap (bz HB));replace HB:=bs HB hb;clear hb ap;obtain ⟨aW,aX,aF⟩:=Kd.R_slice ad.out;subst aF)|(go_at_call 27;clear tok_0;(refine (plur_Of.calls _ _ ai _ _ ax _ _ ([]:List Int) 0 0 ah _ ?side7 (rc aa) (rl aa) (rc ad) (rl ad) ?side5 ?side6 A4.out).mono ?_);(case side5=>exact Kd.C_nil _ _);(case side6=>exact Nat.le_refl _);(case side7=>refine GL.below HG.out ?_;exact bQ HB);rintro e w19 ⟨rfl,hb⟩;replace ac:=rb ac hb;replace aa:=rb aa hb;replace ad:=rb ad hb;replace HB:=bs HB hb;(try clear hb);(try clear hk))|((with_reducible refine gate_dst (N:=27) rfl ?_);(try (refine gate_guard (by rfl) ?_;dsimp only));refine Kd.R_lit (Kd.int .u8) _ 5 ?hg (N:=27) ?hd (xs:=([2]:List Int)) (inner:=[.int .u8 2]) (ok:=fun _=>True) (okp:=fun _=>True) ?hr ?hp (fun _ hk=>hk) trivial (Below.refl _ _) (Nat.le_refl _) (by simp) ?_;(case hd=>rfl);(case hg=>rfl);(case hr=>first|(go_simp;done)|(go_simp;rfl));(case hp=>exact (Reps.one (show Kd.M (Kd.int .u8) _ _ _ 2 [.int .u8 2] from rfl) (Reps.none _ _)));intro aY w20 an hb hg_ hnew_;clear hg_ hnew_;(first|rw [← av.out] at an|(simp only [Int.reduceToNat] at an;rw [← av.out] at an));replace ac:=rb ac hb;replace aa:=rb aa hb;have ag:=zS (Kd.R_lower (Kd.R_new' an (Kd.R_lt (ro ad))) (bz HB));replace ad:=zS (Kd.R_elder' (ro ad) (Kd.R_base an) hb);replace HB:=bs HB hb;clear hb an;obtain ⟨aZ,a0,aG⟩:=Kd.R_slice ag.out;subst aG)|(go_at_call 27;clear tok_1;(refine (plur_Of.calls _ _ ai _ _ ay _ _ ([]:List Int) 0 0 ae _ ?side7 (rc aa) (rl aa) (rc ag) (rl ag) ?side5 ?side6 A6.out).mono ?_);(case side5=>exact Kd.C_nil _ _);(case side6=>exact Nat.le_refl _);(case side7=>refine GL.below HG.out ?_;exact bQ HB);rintro e w23 ⟨rfl,hb⟩;replace ac:=rb ac hb;replace aa:=rb aa hb;replace ad:=rb ad hb;replace ag:=rb ag hb;replace HB:=bs HB hb;(try clear hb);(try clear hk))|(go_at_call 17;(with_reducible refine (plur_Name.calls 2 af _ A8.out).mono ?_);rintro e w24 ⟨rfl,hb⟩;replace ac:=rb ac hb;replace aa:=rb aa hb;replace ad:=rb ad hb;replace ag:=rb ag hb;replace HB:=bs HB hb;(try clear hb);(try clear hb2);(try clear hk);(try clear hi))|(go_at_call 22;(with_reducible refine (plur_Right.calls k _ _ ai aj _ ?side3 (rc aa) (rl aa) A10.out).mono ?_);(case side3=>refine GL.below HG.out ?_;exact bQ HB);rintro e w25 ⟨rfl,hb⟩;replace ac:=rb ac hb;replace aa:=rb aa hb;replace ad:=rb ad hb;replace ag:=rb ag hb;replace HB:=bs HB hb;(try clear hb);(try clear hb2);(try clear hk);(try clear hi)))
 go_ret
 exact ⟨by first|rfl|(simp <;> rfl)|(simp [*] <;> rfl),bQ HB⟩
end Go.Proofs.YtgfajgkjbckkgaaGreatDoor.PZ
end
end
section
noncomputable section
namespace Go.Proofs.YtgfajgkjbckkgaaGreatDoor.PZ
open Go.RowKit Go.Proofs.YtgfajgkjbckkgaaGreatDoorW.PrintWords Go.Proofs.YtgfajgkjbckkgaaGreatDoorW.PrintLast Go.Proofs.YtgfajgkjbckkgaaGreatDoorW.PrintMore
attribute [local go_sem] max2_int min2_int max_two min_two max_three min_three max_four min_four   -- for this text's walks alone
def exerguelaw12_short.l0:Nat→List (S68)→Int→Option (Bool)
 | 0,_,_=>none
 | k+1,x0,x3=>if x3<(x0.length:Int) then (if x3≥8 then (some false) else (if 0≤x3 then (if (((rd_T68 x0 x3).f1).size:Int)>500 then (some false) else (exerguelaw12_short.l0 k x0 (wrap64 (x3+1)))) else (none))) else (some true)
def exerguelaw12_short.f (k:Nat)(l0:List (S68)):Option (Bool):=exerguelaw12_short.l0 k l0 0
theorem exerguelaw12_short.mono_l:∀ k,(∀ y0 y1,LeO (exerguelaw12_short.l0 k y0 y1) (exerguelaw12_short.l0 (k+1) y0 y1))
 | 0=>fun _ _ r h=>by simp [exerguelaw12_short.l0] at h
 | k+1=>by
  have ih0:=exerguelaw12_short.mono_l k
  ·intro y0 y1
   unfold exerguelaw12_short.l0
   repeat' first|(with_reducible first|apply ih0|apply LeO.refl|apply LeO.none|refine LeO.ite ?_ ?_|refine LeO.bind ?_ (fun _=>?_))|apply ih0|apply LeO.none
theorem exerguelaw12_short.mono:∀ a0 k,LeO (exerguelaw12_short.f k a0) (exerguelaw12_short.f (k+1) a0):=by
 intro a0 k
 have ih0:=exerguelaw12_short.mono_l k
 unfold exerguelaw12_short.f
 repeat' first|(with_reducible first|apply ih0|apply LeO.refl|apply LeO.none|refine LeO.ite ?_ ?_|refine LeO.bind ?_ (fun _=>?_))|apply ih0|apply LeO.none
set_option maxHeartbeats 8000000 in
set_option maxRecDepth 100000 in
theorem exerguelaw12_short.calls (k:Nat)(A0:Option Addr)(c0:Nat)(l0:List (S68))(r:Bool)(w:World)(hr0:Kd.C k68 w A0 l0.length l0)(hc0:l0.length≤c0)(h:exerguelaw12_short.f k l0=some r) :
  Calls Tryz.prog 15 #[.slice A0 l0.length c0] w fun e w'=>e = .returned (.bool r)∧Drawn0 w w':=by
 have HR0:=zS hr0
 have HC0:=zS hc0
 clear hr0 hc0
 have H:(exerguelaw12_short.l0 k l0 0)=some r:=h
 clear h
 have H':=zS H
 clear H
 go_enter Tryz.func15,Tryz.ntmps15
 go_wp2
 go_loopg [3] k (fun kq v3 w'=>∃ (aa:Int),v3 = .int .i64 aa∧Sd (exerguelaw12_short.l0 kq l0 aa=some r)∧Sd (kq≤k)∧Drawn0 w w')
 case atStart=>exact ⟨(0),(by first|rfl|(simp;done)|(simp [*];done)),H',⟨Nat.le_refl _⟩,by repeat (first|exact Drawn0.refl _|apply Drawn0.step)⟩
 case round=>
  clear H'
  try clear c1
  obtain ⟨aa,rfl,HA,HK1,⟨m1,rfl⟩⟩:=hrel
  cases gk with
  | zero=>exact absurd HA.out (by simp [exerguelaw12_short.l0])
  | succ k1=>
   have H:=HA.out
   clear HA
   simp only [exerguelaw12_short.l0] at H
   by_cases c2:aa<(l0.length:Int)
   rotate_left
   ·rw [if_neg c2] at H
    have ah:=zD c2
    clear c2
    obtain rfl:=zE H
    go_wp2
    go_ret
    exact ⟨by first|rfl|(simp;done)|(simp [*];done),by repeat (first|exact Drawn0.refl _|apply Drawn0.step)⟩
   rw [if_pos c2] at H
   have ah:=zC c2
   clear c2
   by_cases c3:aa≥8
   ·rw [if_pos c3] at H
    have ai:decide (8≤aa)=true:=zC c3
    clear c3
    obtain rfl:=zE H
    go_wp2
    go_ret
    exact ⟨by first|rfl|(simp;done)|(simp [*];done),by repeat (first|exact Drawn0.refl _|apply Drawn0.step)⟩
   rw [if_neg c3] at H
   have ai:decide (8≤aa)=false:=zD c3
   clear c3
   by_cases c4:0≤aa
   rotate_left
   ·rw [if_neg c4] at H
    exact absurd H (by simp)
   rw [if_pos c4] at H
   have al:=zC c4
   clear c4
   by_cases c5:(((rd_T68 l0 aa).f1).size:Int)>500
   ·rw [if_pos c5] at H
    have aj:decide (500<(((rd_T68 l0 aa).f1).size:Int))=true:=zC c5
    have ak:decide (500<((rd_T68 l0 aa).f1).size)=true:=zC (by omega)
    clear c5
    obtain rfl:=zE H
    have ab:0≤(aa:Int):=zB (by first|(with_reducible assumption)|assumption)
    have ac:aa<(l0.length:Int):=zB (by first|(with_reducible assumption)|assumption)
    obtain ⟨ag,af,ad,ae⟩:=at_T68 HR0.out aa ab ac
    cases af
    replace ab:=eq_true ab
    replace ac:=eq_true ac
    go_wp2
    go_ret
    exact ⟨by first|rfl|(simp;done)|(simp [*];done),by repeat (first|exact Drawn0.refl _|apply Drawn0.step)⟩
   rw [if_neg c5] at H
   have aj:decide (500<(((rd_T68 l0 aa).f1).size:Int))=false:=zD c5
   have ak:decide (500<((rd_T68 l0 aa).f1).size)=false:=zD (by omega)
   clear c5
   have H':=zS H
   clear H
   have ab:0≤(aa:Int):=zB (by first|(with_reducible assumption)|assumption)
   have ac:aa<(l0.length:Int):=zB (by first|(with_reducible assumption)|assumption)
   obtain ⟨ag,af,ad,ae⟩:=at_T68 HR0.out aa ab ac
   cases af
   replace ab:=eq_true ab
   replace ac:=eq_true ac
   go_wp2
   go_roundg k1
   case measure=>have:=HK1.out;omega
   case rel=>exact ⟨(wrap64 (aa+1)),(by first|rfl|(simp;done)|(simp [*];done)),H',⟨by have:=HK1.out;omega⟩,by repeat (first|exact Drawn0.refl _|apply Drawn0.step)⟩
end Go.Proofs.YtgfajgkjbckkgaaGreatDoor.PZ
end
end
section
noncomputable section
namespace Go.Proofs.YtgfajgkjbckkgaaGreatDoor.PZ
open Go.RowKit Go.Proofs.YtgfajgkjbckkgaaGreatDoorW.PrintWords Go.Proofs.YtgfajgkjbckkgaaGreatDoorW.PrintLast Go.Proofs.YtgfajgkjbckkgaaGreatDoorW.PrintMore
attribute [local go_sem] max2_int min2_int max_two min_two max_three min_three max_four min_four   -- for this text's walks alone
def exergueref12_Right.l0:Nat→List (S65)→Int→Option (Bool)
 | 0,_,_=>none
 | k+1,x0,x3=>if x3<(x0.length:Int) then (if 0≤x3 then ((exergueref11_Right.f k ((rd_T65 x0 x3).f1)).bind fun a4=>(if a4=true then (if ((rd_T65 x0 x3).f0)<1 then (some false) else (if ((rd_T65 x0 x3).f0)>5 then (some false) else (if x3>0 then (if 0≤(wrap64 (x3 - 1)) then (if (wrap64 (x3 - 1))<(x0.length:Int) then (if ((rd_T65 x0 x3).f0)≤((rd_T65 x0 (wrap64 (x3 - 1))).f0) then (some false) else (exergueref12_Right.l0 k x0 (wrap64 (x3+1)))) else (none)) else (none)) else (exergueref12_Right.l0 k x0 (wrap64 (x3+1)))))) else (some false))) else (none)) else (some true)
def exergueref12_Right.f (k:Nat)(l0:List (S65)):Option (Bool):=exergueref12_Right.l0 k l0 0
theorem exergueref12_Right.mono_l:∀ k,(∀ y0 y1,LeO (exergueref12_Right.l0 k y0 y1) (exergueref12_Right.l0 (k+1) y0 y1))
 | 0=>fun _ _ r h=>by simp [exergueref12_Right.l0] at h
 | k+1=>by
  have ih0:=exergueref12_Right.mono_l k
  ·intro y0 y1
   unfold exergueref12_Right.l0
   repeat' first|(with_reducible first|apply ih0|apply exergueref11_Right.mono|apply LeO.refl|apply LeO.none|refine LeO.ite ?_ ?_|refine LeO.bind ?_ (fun _=>?_))|apply ih0|apply exergueref11_Right.mono|apply LeO.none
theorem exergueref12_Right.mono:∀ a0 k,LeO (exergueref12_Right.f k a0) (exergueref12_Right.f (k+1) a0):=by
 intro a0 k
 have ih0:=exergueref12_Right.mono_l k
 unfold exergueref12_Right.f
 repeat' first|(with_reducible first|apply ih0|apply exergueref11_Right.mono|apply LeO.refl|apply LeO.none|refine LeO.ite ?_ ?_|refine LeO.bind ?_ (fun _=>?_))|apply ih0|apply exergueref11_Right.mono|apply LeO.none
set_option maxHeartbeats 8000000 in
set_option maxRecDepth 100000 in
theorem exergueref12_Right.calls (k:Nat)(A0:Option Addr)(c0:Nat)(l0:List (S65))(r:Bool)(w:World)(hr0:Kd.C k65 w A0 l0.length l0)(hc0:l0.length≤c0)(h:exergueref12_Right.f k l0=some r) :
  Calls Tryz.prog 19 #[.slice A0 l0.length c0] w fun e w'=>e = .returned (.bool r)∧Below w.heap.size w w':=by
 have HR0:=zS hr0
 have HC0:=zS hc0
 clear hr0 hc0
 have HB:=zS (Below.refl w.heap.size w)
 have H:(exergueref12_Right.l0 k l0 0)=some r:=h
 clear h
 have H':=zS H
 clear H
 go_enter Tryz.func19,Tryz.ntmps19
 go_wp2
 repeat (go_quiet (fail);try go_wp2)
 go_loopg [3] k (fun kq v3 w'=>∃ (ab:Int),v3 = .int .i64 ab∧Sd (exergueref12_Right.l0 kq l0 ab=some r)∧Sd (kq≤k)∧Sd (Below w.heap.size w w'))
 case atStart=>exact ⟨(0),(by first|rfl|(simp;done)|(simp [*];done)),H',⟨Nat.le_refl _⟩,⟨bQ HB⟩⟩
 case round=>
  clear H'
  try clear c1
  obtain ⟨ab,rfl,HA,HK1,HB⟩:=hrel
  cases gk with
  | zero=>exact absurd HA.out (by simp [exergueref12_Right.l0])
  | succ k1=>
   have H:=HA.out
   clear HA
   simp only [exergueref12_Right.l0] at H
   by_cases c2:ab<(l0.length:Int)
   rotate_left
   ·rw [if_neg c2] at H
    have a7:=zD c2
    clear c2
    obtain rfl:=zE H
    go_wp2
    repeat (go_quiet (fail);try go_wp2)
    go_ret
    exact ⟨by first|rfl|(simp <;> rfl)|(simp [*] <;> rfl),bQ HB⟩
   rw [if_pos c2] at H
   have a7:=zC c2
   clear c2
   by_cases c3:0≤ab
   rotate_left
   ·rw [if_neg c3] at H
    exact absurd H (by simp)
   rw [if_pos c3] at H
   have bd:=zC c3
   clear c3
   replace H:=Option.bind_eq_some_iff.mp H
   obtain ⟨a4,A40,H⟩:=H
   try dsimp only at H
   have A4:=zS A40
   clear A40
   by_cases c5:a4=true
   rotate_left
   ·replace c5:=Bool.eq_false_iff.mpr c5
    subst c5
    rw [if_neg (show ¬ (false=true) by decide)] at H
    obtain rfl:=zE H
    have aE:0≤(ab:Int):=zB (by first|(with_reducible assumption)|assumption)
    have aF:ab<(l0.length:Int):=zB (by first|(with_reducible assumption)|assumption)
    obtain ⟨ag,aT,aU,aV,ah,ai,hl468_1,hi468_1⟩:=at_T65 HR0.out ab aE aF
    cases aV
    replace ah:=(HB.out.cell (World.block_lt_of_cell? w _ ah)).trans ah
    replace ai:=(HB.out.cell (World.block_lt_of_cell? w _ ai)).trans ai
    have aj:=zS hi468_1
    have ak:=zS hl468_1
    clear hi468_1 hl468_1
    replace aE:=eq_true aE
    replace aF:=eq_true aF
    go_wp2_with (first|(go_at_call 31;(with_reducible refine (exergueref11_Right.calls k1 _ _ ((rd_T65 l0 ab).f1) false _ (cb aj HB) ak.out A4.out).mono ?_);rintro e w18 ⟨rfl,hb⟩;replace HB:=bs HB hb;(try clear hb)))
    repeat (go_quiet (first|(go_at_call 31;(with_reducible refine (exergueref11_Right.calls k1 _ _ ((rd_T65 l0 ab).f1) false _ (cb aj HB) ak.out A4.out).mono ?_);rintro e w18 ⟨rfl,hb⟩;replace HB:=bs HB hb;(try clear hb);(try clear hb2);(try clear hk);(try clear hi)));try go_wp2_with (first|(go_at_call 31;(with_reducible refine (exergueref11_Right.calls k1 _ _ ((rd_T65 l0 ab).f1) false _ (cb aj HB) ak.out A4.out).mono ?_);rintro e w18 ⟨rfl,hb⟩;replace HB:=bs HB hb;(try clear hb);(try clear hb2);(try clear hk);(try clear hi))))
    go_ret
    exact ⟨by first|rfl|(simp <;> rfl)|(simp [*] <;> rfl),bQ HB⟩
   subst c5
   rw [if_pos rfl] at H
   by_cases c6:((rd_T65 l0 ab).f0)<1
   ·rw [if_pos c6] at H
    have a8:=zC c6
    clear c6
    obtain rfl:=zE H
    have aE:0≤(ab:Int):=zB (by first|(with_reducible assumption)|assumption)
    have aF:ab<(l0.length:Int):=zB (by first|(with_reducible assumption)|assumption)
    obtain ⟨ag,aT,aU,aV,ah,ai,hl468_1,hi468_1⟩:=at_T65 HR0.out ab aE aF
    cases aV
    replace ah:=(HB.out.cell (World.block_lt_of_cell? w _ ah)).trans ah
    replace ai:=(HB.out.cell (World.block_lt_of_cell? w _ ai)).trans ai
    have aj:=zS hi468_1
    have ak:=zS hl468_1
    clear hi468_1 hl468_1
    replace aE:=eq_true aE
    replace aF:=eq_true aF
    go_wp2_with (first|(go_at_call 31;(with_reducible refine (exergueref11_Right.calls k1 _ _ ((rd_T65 l0 ab).f1) true _ (cb aj HB) ak.out A4.out).mono ?_);rintro e w7 ⟨rfl,hb⟩;replace HB:=bs HB hb;(try clear hb);have al:0≤(ab:Int):=zB (by first|(with_reducible assumption)|assumption);have am:ab<(l0.length:Int):=zB (by first|(with_reducible assumption)|assumption);obtain ⟨au,ay,az,aA,ac,aa,hl470_1,hi470_1⟩:=at_T65 HR0.out ab al am;obtain rfl:ag=au:=(by injection aA);replace ac:=(HB.out.cell (World.block_lt_of_cell? w _ ac)).trans ac;replace aa:=(HB.out.cell (World.block_lt_of_cell? w _ aa)).trans aa;have av:=zS hi470_1;have aw:=zS hl470_1;clear hi470_1 hl470_1;replace al:=eq_true al;replace am:=eq_true am))
    repeat (go_quiet (first|(go_at_call 31;(with_reducible refine (exergueref11_Right.calls k1 _ _ ((rd_T65 l0 ab).f1) true _ (cb aj HB) ak.out A4.out).mono ?_);rintro e w7 ⟨rfl,hb⟩;replace HB:=bs HB hb;(try clear hb);(try clear hb2);(try clear hk);(try clear hi);have al:0≤(ab:Int):=zB (by first|(with_reducible assumption)|assumption);have am:ab<(l0.length:Int):=zB (by first|(with_reducible assumption)|assumption);obtain ⟨au,ay,az,aA,ac,aa,hl470_1,hi470_1⟩:=at_T65 HR0.out ab al am;obtain rfl:ag=au:=(by injection aA);replace ac:=(HB.out.cell (World.block_lt_of_cell? w _ ac)).trans ac;replace aa:=(HB.out.cell (World.block_lt_of_cell? w _ aa)).trans aa;have av:=zS hi470_1;have aw:=zS hl470_1;clear hi470_1 hl470_1;replace al:=eq_true al;replace am:=eq_true am));try go_wp2_with (first|(go_at_call 31;(with_reducible refine (exergueref11_Right.calls k1 _ _ ((rd_T65 l0 ab).f1) true _ (cb aj HB) ak.out A4.out).mono ?_);rintro e w7 ⟨rfl,hb⟩;replace HB:=bs HB hb;(try clear hb);(try clear hb2);(try clear hk);(try clear hi);have al:0≤(ab:Int):=zB (by first|(with_reducible assumption)|assumption);have am:ab<(l0.length:Int):=zB (by first|(with_reducible assumption)|assumption);obtain ⟨au,ay,az,aA,ac,aa,hl470_1,hi470_1⟩:=at_T65 HR0.out ab al am;obtain rfl:ag=au:=(by injection aA);replace ac:=(HB.out.cell (World.block_lt_of_cell? w _ ac)).trans ac;replace aa:=(HB.out.cell (World.block_lt_of_cell? w _ aa)).trans aa;have av:=zS hi470_1;have aw:=zS hl470_1;clear hi470_1 hl470_1;replace al:=eq_true al;replace am:=eq_true am)))
    go_ret
    exact ⟨by first|rfl|(simp <;> rfl)|(simp [*] <;> rfl),bQ HB⟩
   rw [if_neg c6] at H
   have a8:=zD c6
   clear c6
   by_cases c8:((rd_T65 l0 ab).f0)>5
   ·rw [if_pos c8] at H
    have a9:decide (5<((rd_T65 l0 ab).f0))=true:=zC c8
    clear c8
    obtain rfl:=zE H
    have aE:0≤(ab:Int):=zB (by first|(with_reducible assumption)|assumption)
    have aF:ab<(l0.length:Int):=zB (by first|(with_reducible assumption)|assumption)
    obtain ⟨ag,aT,aU,aV,ah,ai,hl468_1,hi468_1⟩:=at_T65 HR0.out ab aE aF
    cases aV
    replace ah:=(HB.out.cell (World.block_lt_of_cell? w _ ah)).trans ah
    replace ai:=(HB.out.cell (World.block_lt_of_cell? w _ ai)).trans ai
    have aj:=zS hi468_1
    have ak:=zS hl468_1
    clear hi468_1 hl468_1
    replace aE:=eq_true aE
    replace aF:=eq_true aF
    go_wp2_with (first|(go_at_call 31;(with_reducible refine (exergueref11_Right.calls k1 _ _ ((rd_T65 l0 ab).f1) true _ (cb aj HB) ak.out A4.out).mono ?_);rintro e w9 ⟨rfl,hb⟩;replace HB:=bs HB hb;(try clear hb);have al:0≤(ab:Int):=zB (by first|(with_reducible assumption)|assumption);have am:ab<(l0.length:Int):=zB (by first|(with_reducible assumption)|assumption);obtain ⟨au,ay,az,aA,ac,aa,hl470_1,hi470_1⟩:=at_T65 HR0.out ab al am;obtain rfl:ag=au:=(by injection aA);replace ac:=(HB.out.cell (World.block_lt_of_cell? w _ ac)).trans ac;replace aa:=(HB.out.cell (World.block_lt_of_cell? w _ aa)).trans aa;have av:=zS hi470_1;have aw:=zS hl470_1;clear hi470_1 hl470_1;replace al:=eq_true al;replace am:=eq_true am;have aq:0≤(ab:Int):=zB (by first|(with_reducible assumption)|assumption);have ar:ab<(l0.length:Int):=zB (by first|(with_reducible assumption)|assumption);obtain ⟨ax,aG,aH,aI,ae,ad,hl471_1,hi471_1⟩:=at_T65 HR0.out ab aq ar;obtain rfl:ag=ax:=(by injection aI);replace ae:=(HB.out.cell (World.block_lt_of_cell? w _ ae)).trans ae;replace ad:=(HB.out.cell (World.block_lt_of_cell? w _ ad)).trans ad;have aB:=zS hi471_1;have aC:=zS hl471_1;clear hi471_1 hl471_1;replace aq:=eq_true aq;replace ar:=eq_true ar;have ea_:=zE (aa.symm.trans ad);injection ea_ with ea_ en_ ec_;subst ea_;subst ec_;clear en_))
    repeat (go_quiet (first|(go_at_call 31;(with_reducible refine (exergueref11_Right.calls k1 _ _ ((rd_T65 l0 ab).f1) true _ (cb aj HB) ak.out A4.out).mono ?_);rintro e w9 ⟨rfl,hb⟩;replace HB:=bs HB hb;(try clear hb);have al:0≤(ab:Int):=zB (by first|(with_reducible assumption)|assumption);have am:ab<(l0.length:Int):=zB (by first|(with_reducible assumption)|assumption);obtain ⟨au,ay,az,aA,ac,aa,hl470_1,hi470_1⟩:=at_T65 HR0.out ab al am;obtain rfl:ag=au:=(by injection aA);replace ac:=(HB.out.cell (World.block_lt_of_cell? w _ ac)).trans ac;replace aa:=(HB.out.cell (World.block_lt_of_cell? w _ aa)).trans aa;have av:=zS hi470_1;have aw:=zS hl470_1;clear hi470_1 hl470_1;replace al:=eq_true al;replace am:=eq_true am;have aq:0≤(ab:Int):=zB (by first|(with_reducible assumption)|assumption);have ar:ab<(l0.length:Int):=zB (by first|(with_reducible assumption)|assumption);obtain ⟨ax,aG,aH,aI,ae,ad,hl471_1,hi471_1⟩:=at_T65 HR0.out ab aq ar;obtain rfl:ag=ax:=(by injection aI);replace ae:=(HB.out.cell (World.block_lt_of_cell? w _ ae)).trans ae;replace ad:=(HB.out.cell (World.block_lt_of_cell? w _ ad)).trans ad;have aB:=zS hi471_1;have aC:=zS hl471_1;clear hi471_1 hl471_1;replace aq:=eq_true aq;replace ar:=eq_true ar;have ea_:=zE (aa.symm.trans ad);injection ea_ with ea_ en_ ec_;subst ea_;subst ec_;clear en_));try go_wp2_with (first|(go_at_call 31;(with_reducible refine (exergueref11_Right.calls k1 _ _ ((rd_T65 l0 ab).f1) true _ (cb aj HB) ak.out A4.out).mono ?_);rintro e w9 ⟨rfl,hb⟩;replace HB:=bs HB hb;(try clear hb);have al:0≤(ab:Int):=zB (by first|(with_reducible assumption)|assumption);have am:ab<(l0.length:Int):=zB (by first|(with_reducible assumption)|assumption);obtain ⟨au,ay,az,aA,ac,aa,hl470_1,hi470_1⟩:=at_T65 HR0.out ab al am;obtain rfl:ag=au:=(by injection aA);replace ac:=(HB.out.cell (World.block_lt_of_cell? w _ ac)).trans ac;replace aa:=(HB.out.cell (World.block_lt_of_cell? w _ aa)).trans aa;have av:=zS hi470_1;have aw:=zS hl470_1;clear hi470_1 hl470_1;replace al:=eq_true al;replace am:=eq_true am;have aq:0≤(ab:Int):=zB (by first|(with_reducible assumption)|assumption);have ar:ab<(l0.length:Int):=zB (by first|(with_reducible assumption)|assumption);obtain ⟨ax,aG,aH,aI,ae,ad,hl471_1,hi471_1⟩:=at_T65 HR0.out ab aq ar;obtain rfl:ag=ax:=(by injection aI);replace ae:=(HB.out.cell (World.block_lt_of_cell? w _ ae)).trans ae;replace ad:=(HB.out.cell (World.block_lt_of_cell? w _ ad)).trans ad;have aB:=zS hi471_1;have aC:=zS hl471_1;clear hi471_1 hl471_1;replace aq:=eq_true aq;replace ar:=eq_true ar;have ea_:=zE (aa.symm.trans ad);injection ea_ with ea_ en_ ec_;subst ea_;subst ec_;clear en_)))
    go_ret
    exact ⟨by first|rfl|(simp <;> rfl)|(simp [*] <;> rfl),bQ HB⟩
   rw [if_neg c8] at H
   have a9:decide (5<((rd_T65 l0 ab).f0))=false:=zD c8
   clear c8
   by_cases c10:ab>0
   rotate_left
   ·rw [if_neg c10] at H
    have a5:decide (0<ab)=false:=zD c10
    clear c10
    have H':=zS H
    clear H
    have aE:0≤(ab:Int):=zB (by first|(with_reducible assumption)|assumption)
    have aF:ab<(l0.length:Int):=zB (by first|(with_reducible assumption)|assumption)
    obtain ⟨ag,aT,aU,aV,ah,ai,hl468_1,hi468_1⟩:=at_T65 HR0.out ab aE aF
    cases aV
    replace ah:=(HB.out.cell (World.block_lt_of_cell? w _ ah)).trans ah
    replace ai:=(HB.out.cell (World.block_lt_of_cell? w _ ai)).trans ai
    have aj:=zS hi468_1
    have ak:=zS hl468_1
    clear hi468_1 hl468_1
    replace aE:=eq_true aE
    replace aF:=eq_true aF
    go_wp2_with (first|(go_at_call 31;(with_reducible refine (exergueref11_Right.calls k1 _ _ ((rd_T65 l0 ab).f1) true _ (cb aj HB) ak.out A4.out).mono ?_);rintro e w17 ⟨rfl,hb⟩;replace HB:=bs HB hb;(try clear hb);have al:0≤(ab:Int):=zB (by first|(with_reducible assumption)|assumption);have am:ab<(l0.length:Int):=zB (by first|(with_reducible assumption)|assumption);obtain ⟨au,ay,az,aA,ac,aa,hl470_1,hi470_1⟩:=at_T65 HR0.out ab al am;obtain rfl:ag=au:=(by injection aA);replace ac:=(HB.out.cell (World.block_lt_of_cell? w _ ac)).trans ac;replace aa:=(HB.out.cell (World.block_lt_of_cell? w _ aa)).trans aa;have av:=zS hi470_1;have aw:=zS hl470_1;clear hi470_1 hl470_1;replace al:=eq_true al;replace am:=eq_true am;have aq:0≤(ab:Int):=zB (by first|(with_reducible assumption)|assumption);have ar:ab<(l0.length:Int):=zB (by first|(with_reducible assumption)|assumption);obtain ⟨ax,aG,aH,aI,ae,ad,hl471_1,hi471_1⟩:=at_T65 HR0.out ab aq ar;obtain rfl:ag=ax:=(by injection aI);replace ae:=(HB.out.cell (World.block_lt_of_cell? w _ ae)).trans ae;replace ad:=(HB.out.cell (World.block_lt_of_cell? w _ ad)).trans ad;have aB:=zS hi471_1;have aC:=zS hl471_1;clear hi471_1 hl471_1;replace aq:=eq_true aq;replace ar:=eq_true ar;have ea_:=zE (aa.symm.trans ad);injection ea_ with ea_ en_ ec_;subst ea_;subst ec_;clear en_))
    repeat (go_quiet (first|(go_at_call 31;(with_reducible refine (exergueref11_Right.calls k1 _ _ ((rd_T65 l0 ab).f1) true _ (cb aj HB) ak.out A4.out).mono ?_);rintro e w17 ⟨rfl,hb⟩;replace HB:=bs HB hb;(try clear hb);have al:0≤(ab:Int):=zB (by first|(with_reducible assumption)|assumption);have am:ab<(l0.length:Int):=zB (by first|(with_reducible assumption)|assumption);obtain ⟨au,ay,az,aA,ac,aa,hl470_1,hi470_1⟩:=at_T65 HR0.out ab al am;obtain rfl:ag=au:=(by injection aA);replace ac:=(HB.out.cell (World.block_lt_of_cell? w _ ac)).trans ac;replace aa:=(HB.out.cell (World.block_lt_of_cell? w _ aa)).trans aa;have av:=zS hi470_1;have aw:=zS hl470_1;clear hi470_1 hl470_1;replace al:=eq_true al;replace am:=eq_true am;have aq:0≤(ab:Int):=zB (by first|(with_reducible assumption)|assumption);have ar:ab<(l0.length:Int):=zB (by first|(with_reducible assumption)|assumption);obtain ⟨ax,aG,aH,aI,ae,ad,hl471_1,hi471_1⟩:=at_T65 HR0.out ab aq ar;obtain rfl:ag=ax:=(by injection aI);replace ae:=(HB.out.cell (World.block_lt_of_cell? w _ ae)).trans ae;replace ad:=(HB.out.cell (World.block_lt_of_cell? w _ ad)).trans ad;have aB:=zS hi471_1;have aC:=zS hl471_1;clear hi471_1 hl471_1;replace aq:=eq_true aq;replace ar:=eq_true ar;have ea_:=zE (aa.symm.trans ad);injection ea_ with ea_ en_ ec_;subst ea_;subst ec_;clear en_));try go_wp2_with (first|(go_at_call 31;(with_reducible refine (exergueref11_Right.calls k1 _ _ ((rd_T65 l0 ab).f1) true _ (cb aj HB) ak.out A4.out).mono ?_);rintro e w17 ⟨rfl,hb⟩;replace HB:=bs HB hb;(try clear hb);have al:0≤(ab:Int):=zB (by first|(with_reducible assumption)|assumption);have am:ab<(l0.length:Int):=zB (by first|(with_reducible assumption)|assumption);obtain ⟨au,ay,az,aA,ac,aa,hl470_1,hi470_1⟩:=at_T65 HR0.out ab al am;obtain rfl:ag=au:=(by injection aA);replace ac:=(HB.out.cell (World.block_lt_of_cell? w _ ac)).trans ac;replace aa:=(HB.out.cell (World.block_lt_of_cell? w _ aa)).trans aa;have av:=zS hi470_1;have aw:=zS hl470_1;clear hi470_1 hl470_1;replace al:=eq_true al;replace am:=eq_true am;have aq:0≤(ab:Int):=zB (by first|(with_reducible assumption)|assumption);have ar:ab<(l0.length:Int):=zB (by first|(with_reducible assumption)|assumption);obtain ⟨ax,aG,aH,aI,ae,ad,hl471_1,hi471_1⟩:=at_T65 HR0.out ab aq ar;obtain rfl:ag=ax:=(by injection aI);replace ae:=(HB.out.cell (World.block_lt_of_cell? w _ ae)).trans ae;replace ad:=(HB.out.cell (World.block_lt_of_cell? w _ ad)).trans ad;have aB:=zS hi471_1;have aC:=zS hl471_1;clear hi471_1 hl471_1;replace aq:=eq_true aq;replace ar:=eq_true ar;have ea_:=zE (aa.symm.trans ad);injection ea_ with ea_ en_ ec_;subst ea_;subst ec_;clear en_)))
    go_roundg k1
    case measure=>have:=HK1.out;omega
    case rel=>exact ⟨(wrap64 (ab+1)),(by first|rfl|(simp;done)|(simp [*];done)),H',⟨by have:=HK1.out;omega⟩,⟨bQ HB⟩⟩
   rw [if_pos c10] at H
   have a5:decide (0<ab)=true:=zC c10
   clear c10
   obtain ⟨aD,a3⟩:∃ j_:Int,(wrap64 (ab - 1))=j_:=⟨_,rfl⟩
   replace H:(if 0≤(aD) then (if (aD)<(l0.length:Int) then (if ((rd_T65 l0 ab).f0)≤((rd_T65 l0 (aD)).f0) then (some false) else (exergueref12_Right.l0 k1 l0 (wrap64 (ab+1)))) else (none)) else (none))=some r:=by first|(rw [a3] at H;exact H)|(simp only [a3] at H ⊢;exact H)
   (try rw [a3] at A4)
   have ba:(IntKind.i64.wrap (ab - 1))=aD:=(i64_w _).trans a3
   by_cases c12:0≤(aD)
   rotate_left
   ·rw [if_neg c12] at H
    exact absurd H (by simp)
   rw [if_pos c12] at H
   have bb:=zC c12
   clear c12
   by_cases c13:(aD)<(l0.length:Int)
   rotate_left
   ·rw [if_neg c13] at H
    exact absurd H (by simp)
   rw [if_pos c13] at H
   have bc:=zC c13
   clear c13
   by_cases c14:((rd_T65 l0 ab).f0)≤((rd_T65 l0 (aD)).f0)
   ·rw [if_pos c14] at H
    have a6:=zC c14
    clear c14
    obtain rfl:=zE H
    have aE:0≤(ab:Int):=zB (by first|(with_reducible assumption)|assumption)
    have aF:ab<(l0.length:Int):=zB (by first|(with_reducible assumption)|assumption)
    obtain ⟨ag,aT,aU,aV,ah,ai,hl468_1,hi468_1⟩:=at_T65 HR0.out ab aE aF
    cases aV
    replace ah:=(HB.out.cell (World.block_lt_of_cell? w _ ah)).trans ah
    replace ai:=(HB.out.cell (World.block_lt_of_cell? w _ ai)).trans ai
    have aj:=zS hi468_1
    have ak:=zS hl468_1
    clear hi468_1 hl468_1
    replace aE:=eq_true aE
    replace aF:=eq_true aF
    go_wp2_with (first|(go_at_call 31;(with_reducible refine (exergueref11_Right.calls k1 _ _ ((rd_T65 l0 ab).f1) true _ (cb aj HB) ak.out A4.out).mono ?_);rintro e w15 ⟨rfl,hb⟩;replace HB:=bs HB hb;(try clear hb);have al:0≤(ab:Int):=zB (by first|(with_reducible assumption)|assumption);have am:ab<(l0.length:Int):=zB (by first|(with_reducible assumption)|assumption);obtain ⟨au,ay,az,aA,ac,aa,hl470_1,hi470_1⟩:=at_T65 HR0.out ab al am;obtain rfl:ag=au:=(by injection aA);replace ac:=(HB.out.cell (World.block_lt_of_cell? w _ ac)).trans ac;replace aa:=(HB.out.cell (World.block_lt_of_cell? w _ aa)).trans aa;have av:=zS hi470_1;have aw:=zS hl470_1;clear hi470_1 hl470_1;replace al:=eq_true al;replace am:=eq_true am;have aq:0≤(ab:Int):=zB (by first|(with_reducible assumption)|assumption);have ar:ab<(l0.length:Int):=zB (by first|(with_reducible assumption)|assumption);obtain ⟨ax,aG,aH,aI,ae,ad,hl471_1,hi471_1⟩:=at_T65 HR0.out ab aq ar;obtain rfl:ag=ax:=(by injection aI);replace ae:=(HB.out.cell (World.block_lt_of_cell? w _ ae)).trans ae;replace ad:=(HB.out.cell (World.block_lt_of_cell? w _ ad)).trans ad;have aB:=zS hi471_1;have aC:=zS hl471_1;clear hi471_1 hl471_1;replace aq:=eq_true aq;replace ar:=eq_true ar;have ea_:=zE (aa.symm.trans ad);injection ea_ with ea_ en_ ec_;subst ea_;subst ec_;clear en_;have aJ:0≤(ab:Int):=zB (by first|(with_reducible assumption)|assumption);have aK:ab<(l0.length:Int):=zB (by first|(with_reducible assumption)|assumption);obtain ⟨aN,aW,aX,aY,an,af,hl472_1,hi472_1⟩:=at_T65 HR0.out ab aJ aK;obtain rfl:ag=aN:=(by injection aY);replace an:=(HB.out.cell (World.block_lt_of_cell? w _ an)).trans an;replace af:=(HB.out.cell (World.block_lt_of_cell? w _ af)).trans af;have aP:=zS hi472_1;have aQ:=zS hl472_1;clear hi472_1 hl472_1;replace aJ:=eq_true aJ;replace aK:=eq_true aK;have ea_:=zE (aa.symm.trans af);injection ea_ with ea_ en_ ec_;subst ea_;subst ec_;clear en_;have aL:0≤((aD):Int):=zB (by first|(with_reducible assumption)|assumption);have aM:(aD)<(l0.length:Int):=zB (by first|(with_reducible assumption)|assumption);obtain ⟨aO,aZ,a1,a2,ao,ap,hl473_1,hi473_1⟩:=at_T65 HR0.out (aD) aL aM;obtain rfl:ag=aO:=(by injection a2);replace ao:=(HB.out.cell (World.block_lt_of_cell? w _ ao)).trans ao;replace ap:=(HB.out.cell (World.block_lt_of_cell? w _ ap)).trans ap;have aR:=zS hi473_1;have aS:=zS hl473_1;clear hi473_1 hl473_1;replace aL:=eq_true aL;replace aM:=eq_true aM))
    repeat (go_quiet (first|(go_at_call 31;(with_reducible refine (exergueref11_Right.calls k1 _ _ ((rd_T65 l0 ab).f1) true _ (cb aj HB) ak.out A4.out).mono ?_);rintro e w15 ⟨rfl,hb⟩;replace HB:=bs HB hb;(try clear hb);have al:0≤(ab:Int):=zB (by first|(with_reducible assumption)|assumption);have am:ab<(l0.length:Int):=zB (by first|(with_reducible assumption)|assumption);obtain ⟨au,ay,az,aA,ac,aa,hl470_1,hi470_1⟩:=at_T65 HR0.out ab al am;obtain rfl:ag=au:=(by injection aA);replace ac:=(HB.out.cell (World.block_lt_of_cell? w _ ac)).trans ac;replace aa:=(HB.out.cell (World.block_lt_of_cell? w _ aa)).trans aa;have av:=zS hi470_1;have aw:=zS hl470_1;clear hi470_1 hl470_1;replace al:=eq_true al;replace am:=eq_true am;have aq:0≤(ab:Int):=zB (by first|(with_reducible assumption)|assumption);have ar:ab<(l0.length:Int):=zB (by first|(with_reducible assumption)|assumption);obtain ⟨ax,aG,aH,aI,ae,ad,hl471_1,hi471_1⟩:=at_T65 HR0.out ab aq ar;obtain rfl:ag=ax:=(by injection aI);replace ae:=(HB.out.cell (World.block_lt_of_cell? w _ ae)).trans ae;replace ad:=(HB.out.cell (World.block_lt_of_cell? w _ ad)).trans ad;have aB:=zS hi471_1;have aC:=zS hl471_1;clear hi471_1 hl471_1;replace aq:=eq_true aq;replace ar:=eq_true ar;have ea_:=zE (aa.symm.trans ad);injection ea_ with ea_ en_ ec_;subst ea_;subst ec_;clear en_;have aJ:0≤(ab:Int):=zB (by first|(with_reducible assumption)|assumption);have aK:ab<(l0.length:Int):=zB (by first|(with_reducible assumption)|assumption);obtain ⟨aN,aW,aX,aY,an,af,hl472_1,hi472_1⟩:=at_T65 HR0.out ab aJ aK;obtain rfl:ag=aN:=(by injection aY);replace an:=(HB.out.cell (World.block_lt_of_cell? w _ an)).trans an;replace af:=(HB.out.cell (World.block_lt_of_cell? w _ af)).trans af;have aP:=zS hi472_1;have aQ:=zS hl472_1;clear hi472_1 hl472_1;replace aJ:=eq_true aJ;replace aK:=eq_true aK;have ea_:=zE (aa.symm.trans af);injection ea_ with ea_ en_ ec_;subst ea_;subst ec_;clear en_;have aL:0≤((aD):Int):=zB (by first|(with_reducible assumption)|assumption);have aM:(aD)<(l0.length:Int):=zB (by first|(with_reducible assumption)|assumption);obtain ⟨aO,aZ,a1,a2,ao,ap,hl473_1,hi473_1⟩:=at_T65 HR0.out (aD) aL aM;obtain rfl:ag=aO:=(by injection a2);replace ao:=(HB.out.cell (World.block_lt_of_cell? w _ ao)).trans ao;replace ap:=(HB.out.cell (World.block_lt_of_cell? w _ ap)).trans ap;have aR:=zS hi473_1;have aS:=zS hl473_1;clear hi473_1 hl473_1;replace aL:=eq_true aL;replace aM:=eq_true aM));try go_wp2_with (first|(go_at_call 31;(with_reducible refine (exergueref11_Right.calls k1 _ _ ((rd_T65 l0 ab).f1) true _ (cb aj HB) ak.out A4.out).mono ?_);rintro e w15 ⟨rfl,hb⟩;replace HB:=bs HB hb;(try clear hb);have al:0≤(ab:Int):=zB (by first|(with_reducible assumption)|assumption);have am:ab<(l0.length:Int):=zB (by first|(with_reducible assumption)|assumption);obtain ⟨au,ay,az,aA,ac,aa,hl470_1,hi470_1⟩:=at_T65 HR0.out ab al am;obtain rfl:ag=au:=(by injection aA);replace ac:=(HB.out.cell (World.block_lt_of_cell? w _ ac)).trans ac;replace aa:=(HB.out.cell (World.block_lt_of_cell? w _ aa)).trans aa;have av:=zS hi470_1;have aw:=zS hl470_1;clear hi470_1 hl470_1;replace al:=eq_true al;replace am:=eq_true am;have aq:0≤(ab:Int):=zB (by first|(with_reducible assumption)|assumption);have ar:ab<(l0.length:Int):=zB (by first|(with_reducible assumption)|assumption);obtain ⟨ax,aG,aH,aI,ae,ad,hl471_1,hi471_1⟩:=at_T65 HR0.out ab aq ar;obtain rfl:ag=ax:=(by injection aI);replace ae:=(HB.out.cell (World.block_lt_of_cell? w _ ae)).trans ae;replace ad:=(HB.out.cell (World.block_lt_of_cell? w _ ad)).trans ad;have aB:=zS hi471_1;have aC:=zS hl471_1;clear hi471_1 hl471_1;replace aq:=eq_true aq;replace ar:=eq_true ar;have ea_:=zE (aa.symm.trans ad);injection ea_ with ea_ en_ ec_;subst ea_;subst ec_;clear en_;have aJ:0≤(ab:Int):=zB (by first|(with_reducible assumption)|assumption);have aK:ab<(l0.length:Int):=zB (by first|(with_reducible assumption)|assumption);obtain ⟨aN,aW,aX,aY,an,af,hl472_1,hi472_1⟩:=at_T65 HR0.out ab aJ aK;obtain rfl:ag=aN:=(by injection aY);replace an:=(HB.out.cell (World.block_lt_of_cell? w _ an)).trans an;replace af:=(HB.out.cell (World.block_lt_of_cell? w _ af)).trans af;have aP:=zS hi472_1;have aQ:=zS hl472_1;clear hi472_1 hl472_1;replace aJ:=eq_true aJ;replace aK:=eq_true aK;have ea_:=zE (aa.symm.trans af);injection ea_ with ea_ en_ ec_;subst ea_;subst ec_;clear en_;have aL:0≤((aD):Int):=zB (by first|(with_reducible assumption)|assumption);have aM:(aD)<(l0.length:Int):=zB (by first|(with_reducible assumption)|assumption);obtain ⟨aO,aZ,a1,a2,ao,ap,hl473_1,hi473_1⟩:=at_T65 HR0.out (aD) aL aM;obtain rfl:ag=aO:=(by injection a2);replace ao:=(HB.out.cell (World.block_lt_of_cell? w _ ao)).trans ao;replace ap:=(HB.out.cell (World.block_lt_of_cell? w _ ap)).trans ap;have aR:=zS hi473_1;have aS:=zS hl473_1;clear hi473_1 hl473_1;replace aL:=eq_true aL;replace aM:=eq_true aM)))
    go_ret
    exact ⟨by first|rfl|(simp <;> rfl)|(simp only [← a3];first|rfl|(simp <;> rfl))|(simp [*] <;> rfl),bQ HB⟩
   rw [if_neg c14] at H
   have a6:=zD c14
   clear c14
   have H':=zS H
   clear H
   have aE:0≤(ab:Int):=zB (by first|(with_reducible assumption)|assumption)
   have aF:ab<(l0.length:Int):=zB (by first|(with_reducible assumption)|assumption)
   obtain ⟨ag,aT,aU,aV,ah,ai,hl468_1,hi468_1⟩:=at_T65 HR0.out ab aE aF
   cases aV
   replace ah:=(HB.out.cell (World.block_lt_of_cell? w _ ah)).trans ah
   replace ai:=(HB.out.cell (World.block_lt_of_cell? w _ ai)).trans ai
   have aj:=zS hi468_1
   have ak:=zS hl468_1
   clear hi468_1 hl468_1
   replace aE:=eq_true aE
   replace aF:=eq_true aF
   go_wp2_with (first|(go_at_call 31;(with_reducible refine (exergueref11_Right.calls k1 _ _ ((rd_T65 l0 ab).f1) true _ (cb aj HB) ak.out A4.out).mono ?_);rintro e w16 ⟨rfl,hb⟩;replace HB:=bs HB hb;(try clear hb);have al:0≤(ab:Int):=zB (by first|(with_reducible assumption)|assumption);have am:ab<(l0.length:Int):=zB (by first|(with_reducible assumption)|assumption);obtain ⟨au,ay,az,aA,ac,aa,hl470_1,hi470_1⟩:=at_T65 HR0.out ab al am;obtain rfl:ag=au:=(by injection aA);replace ac:=(HB.out.cell (World.block_lt_of_cell? w _ ac)).trans ac;replace aa:=(HB.out.cell (World.block_lt_of_cell? w _ aa)).trans aa;have av:=zS hi470_1;have aw:=zS hl470_1;clear hi470_1 hl470_1;replace al:=eq_true al;replace am:=eq_true am;have aq:0≤(ab:Int):=zB (by first|(with_reducible assumption)|assumption);have ar:ab<(l0.length:Int):=zB (by first|(with_reducible assumption)|assumption);obtain ⟨ax,aG,aH,aI,ae,ad,hl471_1,hi471_1⟩:=at_T65 HR0.out ab aq ar;obtain rfl:ag=ax:=(by injection aI);replace ae:=(HB.out.cell (World.block_lt_of_cell? w _ ae)).trans ae;replace ad:=(HB.out.cell (World.block_lt_of_cell? w _ ad)).trans ad;have aB:=zS hi471_1;have aC:=zS hl471_1;clear hi471_1 hl471_1;replace aq:=eq_true aq;replace ar:=eq_true ar;have ea_:=zE (aa.symm.trans ad);injection ea_ with ea_ en_ ec_;subst ea_;subst ec_;clear en_;have aJ:0≤(ab:Int):=zB (by first|(with_reducible assumption)|assumption);have aK:ab<(l0.length:Int):=zB (by first|(with_reducible assumption)|assumption);obtain ⟨aN,aW,aX,aY,an,af,hl472_1,hi472_1⟩:=at_T65 HR0.out ab aJ aK;obtain rfl:ag=aN:=(by injection aY);replace an:=(HB.out.cell (World.block_lt_of_cell? w _ an)).trans an;replace af:=(HB.out.cell (World.block_lt_of_cell? w _ af)).trans af;have aP:=zS hi472_1;have aQ:=zS hl472_1;clear hi472_1 hl472_1;replace aJ:=eq_true aJ;replace aK:=eq_true aK;have ea_:=zE (aa.symm.trans af);injection ea_ with ea_ en_ ec_;subst ea_;subst ec_;clear en_;have aL:0≤((aD):Int):=zB (by first|(with_reducible assumption)|assumption);have aM:(aD)<(l0.length:Int):=zB (by first|(with_reducible assumption)|assumption);obtain ⟨aO,aZ,a1,a2,ao,ap,hl473_1,hi473_1⟩:=at_T65 HR0.out (aD) aL aM;obtain rfl:ag=aO:=(by injection a2);replace ao:=(HB.out.cell (World.block_lt_of_cell? w _ ao)).trans ao;replace ap:=(HB.out.cell (World.block_lt_of_cell? w _ ap)).trans ap;have aR:=zS hi473_1;have aS:=zS hl473_1;clear hi473_1 hl473_1;replace aL:=eq_true aL;replace aM:=eq_true aM))
   repeat (go_quiet (first|(go_at_call 31;(with_reducible refine (exergueref11_Right.calls k1 _ _ ((rd_T65 l0 ab).f1) true _ (cb aj HB) ak.out A4.out).mono ?_);rintro e w16 ⟨rfl,hb⟩;replace HB:=bs HB hb;(try clear hb);have al:0≤(ab:Int):=zB (by first|(with_reducible assumption)|assumption);have am:ab<(l0.length:Int):=zB (by first|(with_reducible assumption)|assumption);obtain ⟨au,ay,az,aA,ac,aa,hl470_1,hi470_1⟩:=at_T65 HR0.out ab al am;obtain rfl:ag=au:=(by injection aA);replace ac:=(HB.out.cell (World.block_lt_of_cell? w _ ac)).trans ac;replace aa:=(HB.out.cell (World.block_lt_of_cell? w _ aa)).trans aa;have av:=zS hi470_1;have aw:=zS hl470_1;clear hi470_1 hl470_1;replace al:=eq_true al;replace am:=eq_true am;have aq:0≤(ab:Int):=zB (by first|(with_reducible assumption)|assumption);have ar:ab<(l0.length:Int):=zB (by first|(with_reducible assumption)|assumption);obtain ⟨ax,aG,aH,aI,ae,ad,hl471_1,hi471_1⟩:=at_T65 HR0.out ab aq ar;obtain rfl:ag=ax:=(by injection aI);replace ae:=(HB.out.cell (World.block_lt_of_cell? w _ ae)).trans ae;replace ad:=(HB.out.cell (World.block_lt_of_cell? w _ ad)).trans ad;have aB:=zS hi471_1;have aC:=zS hl471_1;clear hi471_1 hl471_1;replace aq:=eq_true aq;replace ar:=eq_true ar;have ea_:=zE (aa.symm.trans ad);injection ea_ with ea_ en_ ec_;subst ea_;subst ec_;clear en_;have aJ:0≤(ab:Int):=zB (by first|(with_reducible assumption)|assumption);have aK:ab<(l0.length:Int):=zB (by first|(with_reducible assumption)|assumption);obtain ⟨aN,aW,aX,aY,an,af,hl472_1,hi472_1⟩:=at_T65 HR0.out ab aJ aK;obtain rfl:ag=aN:=(by injection aY);replace an:=(HB.out.cell (World.block_lt_of_cell? w _ an)).trans an;replace af:=(HB.out.cell (World.block_lt_of_cell? w _ af)).trans af;have aP:=zS hi472_1;have aQ:=zS hl472_1;clear hi472_1 hl472_1;replace aJ:=eq_true aJ;replace aK:=eq_true aK;have ea_:=zE (aa.symm.trans af);injection ea_ with ea_ en_ ec_;subst ea_;subst ec_;clear en_;have aL:0≤((aD):Int):=zB (by first|(with_reducible assumption)|assumption);have aM:(aD)<(l0.length:Int):=zB (by first|(with_reducible assumption)|assumption);obtain ⟨aO,aZ,a1,a2,ao,ap,hl473_1,hi473_1⟩:=at_T65 HR0.out (aD) aL aM;obtain rfl:ag=aO:=(by injection a2);replace ao:=(HB.out.cell (World.block_lt_of_cell? w _ ao)).trans ao;replace ap:=(HB.out.cell (World.block_lt_of_cell? w _ ap)).trans ap;have aR:=zS hi473_1;have aS:=zS hl473_1;clear hi473_1 hl473_1;replace aL:=eq_true aL;replace aM:=eq_true aM));try go_wp2_with (first|(go_at_call 31;(with_reducible refine (exergueref11_Right.calls k1 _ _ ((rd_T65 l0 ab).f1) true _ (cb aj HB) ak.out A4.out).mono ?_);rintro e w16 ⟨rfl,hb⟩;replace HB:=bs HB hb;(try clear hb);have al:0≤(ab:Int):=zB (by first|(with_reducible assumption)|assumption);have am:ab<(l0.length:Int):=zB (by first|(with_reducible assumption)|assumption);obtain ⟨au,ay,az,aA,ac,aa,hl470_1,hi470_1⟩:=at_T65 HR0.out ab al am;obtain rfl:ag=au:=(by injection aA);replace ac:=(HB.out.cell (World.block_lt_of_cell? w _ ac)).trans ac;replace aa:=(HB.out.cell (World.block_lt_of_cell? w _ aa)).trans aa;have av:=zS hi470_1;have aw:=zS hl470_1;clear hi470_1 hl470_1;replace al:=eq_true al;replace am:=eq_true am;have aq:0≤(ab:Int):=zB (by first|(with_reducible assumption)|assumption);have ar:ab<(l0.length:Int):=zB (by first|(with_reducible assumption)|assumption);obtain ⟨ax,aG,aH,aI,ae,ad,hl471_1,hi471_1⟩:=at_T65 HR0.out ab aq ar;obtain rfl:ag=ax:=(by injection aI);replace ae:=(HB.out.cell (World.block_lt_of_cell? w _ ae)).trans ae;replace ad:=(HB.out.cell (World.block_lt_of_cell? w _ ad)).trans ad;have aB:=zS hi471_1;have aC:=zS hl471_1;clear hi471_1 hl471_1;replace aq:=eq_true aq;replace ar:=eq_true ar;have ea_:=zE (aa.symm.trans ad);injection ea_ with ea_ en_ ec_;subst ea_;subst ec_;clear en_;have aJ:0≤(ab:Int):=zB (by first|(with_reducible assumption)|assumption);have aK:ab<(l0.length:Int):=zB (by first|(with_reducible assumption)|assumption);obtain ⟨aN,aW,aX,aY,an,af,hl472_1,hi472_1⟩:=at_T65 HR0.out ab aJ aK;obtain rfl:ag=aN:=(by injection aY);replace an:=(HB.out.cell (World.block_lt_of_cell? w _ an)).trans an;replace af:=(HB.out.cell (World.block_lt_of_cell? w _ af)).trans af;have aP:=zS hi472_1;have aQ:=zS hl472_1;clear hi472_1 hl472_1;replace aJ:=eq_true aJ;replace aK:=eq_true aK;have ea_:=zE (aa.symm.trans af);injection ea_ with ea_ en_ ec_;subst ea_;subst ec_;clear en_;have aL:0≤((aD):Int):=zB (by first|(with_reducible assumption)|assumption);have aM:(aD)<(l0.length:Int):=zB (by first|(with_reducible assumption)|assumption);obtain ⟨aO,aZ,a1,a2,ao,ap,hl473_1,hi473_1⟩:=at_T65 HR0.out (aD) aL aM;obtain rfl:ag=aO:=(by injection a2);replace ao:=(HB.out.cell (World.block_lt_of_cell? w _ ao)).trans ao;replace ap:=(HB.out.cell (World.block_lt_of_cell? w _ ap)).trans ap;have aR:=zS hi473_1;have aS:=zS hl473_1;clear hi473_1 hl473_1;replace aL:=eq_true aL;replace aM:=eq_true aM)))
   go_roundg k1
   case measure=>have:=HK1.out;omega
   case rel=>exact ⟨(wrap64 (ab+1)),(by first|rfl|(simp;done)|(simp [*];done)),H',⟨by have:=HK1.out;omega⟩,⟨bQ HB⟩⟩
end Go.Proofs.YtgfajgkjbckkgaaGreatDoor.PZ
end
end
