/- Texts of this seat, joined. Conditions: none beyond each statement's own. -/
import Derived.Test.YtgfajgkjbckkgaaGreatDoorPb26
import Derived.Test.YtgfajgkjbckkgaaGreatDoorPb24
import Derived.Test.YtgfajgkjbckkgaaGreatDoorPb22
set_option linter.all false
section
noncomputable section
namespace Go.Proofs.YtgfajgkjbckkgaaGreatDoor.PZ
open Go.RowKit Go.Proofs.YtgfajgkjbckkgaaGreatDoorW.PrintWords Go.Proofs.YtgfajgkjbckkgaaGreatDoorW.PrintLast Go.Proofs.YtgfajgkjbckkgaaGreatDoorW.PrintMore
attribute [local go_sem] max2_int min2_int max_two min_two max_three min_three max_four min_four   -- for this text's walks alone
def plur_Read.l0:Nat→List (S65)→Int→List (S68)→Int→Int→Option ((List (S65))×Int×Int)
 | 0,_,_,_,_,_=>none
 | k+1,x5,x6,x12,x13,x14=>if x14<x13 then (if 0≤x14 then (if x14<(x12.length:Int) then ((plur_next.f x6 ((rd_T68 x12 x14).f0)).bind fun ar=>(if ar=true then ((rule_Parse.f ((rd_T68 x12 x14).f1)).bind fun ao=>(if ao.2.2=0 then ((rule_Right.f k ao.1).bind fun au=>(if au=true then (if x5.length<4398046511104 then (plur_Read.l0 k (x5 ++ [(⟨(rd_T68 x12 x14).f0,ao.1⟩:S65)]) ((rd_T68 x12 x14).f0) x12 x13 (wrap64 (x14+1))) else (none)) else (some (([]:List (S65)),x14,2)))) else (some (([]:List (S65)),x14,2)))) else (some (([]:List (S65)),x14,1)))) else (none)) else (none)) else (some (x5,0,0))
def plur_Read.f (k:Nat)(l0:List (S68)):Option ((List (S65))×Int×Int):=plur_Read.l0 k ([]:List (S65)) 0 l0 (l0.length:Int) 0
theorem plur_Read.mono_l:∀ k,(∀ y0 y1 y2 y3 y4,LeO (plur_Read.l0 k y0 y1 y2 y3 y4) (plur_Read.l0 (k+1) y0 y1 y2 y3 y4))
 | 0=>fun _ _ _ _ _ r h=>by simp [plur_Read.l0] at h
 | k+1=>by
  have ih0:=plur_Read.mono_l k
  ·intro y0 y1 y2 y3 y4
   unfold plur_Read.l0
   repeat' first|(with_reducible first|apply ih0|apply rule_Right.mono|apply LeO.refl|apply LeO.none|refine LeO.ite ?_ ?_|refine LeO.bind ?_ (fun _=>?_))|apply ih0|apply rule_Right.mono|apply LeO.none
theorem plur_Read.mono:∀ a0 k,LeO (plur_Read.f k a0) (plur_Read.f (k+1) a0):=by
 intro a0 k
 have ih0:=plur_Read.mono_l k
 unfold plur_Read.f
 repeat' first|(with_reducible first|apply ih0|apply rule_Right.mono|apply LeO.refl|apply LeO.none|refine LeO.ite ?_ ?_|refine LeO.bind ?_ (fun _=>?_))|apply ih0|apply rule_Right.mono|apply LeO.none
set_option maxHeartbeats 8000000 in
set_option maxRecDepth 100000 in
theorem plur_Read.calls (k:Nat)(A0:Option Addr)(c0:Nat)(l0:List (S68))(r1:List (S65))(r2:Int)(r3:Int)(w:World)(hG:GL w)(hr0:Kd.C k68 w A0 l0.length l0)(hc0:l0.length≤c0)(h:plur_Read.f k l0=some (r1,r2,r3)) :
  Calls Tryz.prog 18 #[.slice A0 l0.length c0] w fun e w'=>∃ v0_:Value,e = .returned (.tuple #[v0_,.int .i64 r2,.int .i64 r3])∧Kd.R k65 65 w' w.heap.size (fun _=>True) v0_ r1∧Below w.heap.size w w':=by
 have hu68:=Tryz.underlying68
 have hu65:=Tryz.underlying65
 have HR0:=zS hr0
 have HC0:=zS hc0
 clear hr0 hc0
 have HB:=zS (Below.refl w.heap.size w)
 have HG:=zS hG
 clear hG
 have H:(plur_Read.l0 k ([]:List (S65)) 0 l0 (l0.length:Int) 0)=some (r1,r2,r3):=h
 clear h
 have H':=zS H
 clear H
 go_enter Tryz.func18,Tryz.ntmps18
 go_wp2
 go_loopg [5,6,14] k (fun kq v5 v6 v14 w'=>∃ (an:List (S65)) (ai:Int) (aa:Int),v6 = .int .i64 ai∧v14 = .int .i64 aa∧Sd (plur_Read.l0 kq an ai l0 (l0.length:Int) aa=some (r1,r2,r3))∧Sd (kq≤k)∧Sd (Kd.R k65 65 w' w.heap.size (fun _=>True) v5 an)∧Sd (Below w.heap.size w w'))
 case atStart=>exact ⟨(([]:List (S65))),(0),(0),(by first|rfl|(simp;done)|(simp [*];done)),(by first|rfl|(simp;done)|(simp [*];done)),H',⟨Nat.le_refl _⟩,⟨by first|exact Kd.R_nil _ _ _ _ _|exact Kd.N_nil _ _ _ _ _|exact Kd.V_nil _ _ _ _ _|exact Kd.Q_nil _ _ _ _ _|exact Kd.S_nil _ _ _ _ _⟩,⟨bQ HB⟩⟩
 case round=>
  clear H'
  try clear c1
  obtain ⟨an,ai,aa,rfl,rfl,HA,HK1,HO_5,HB⟩:=hrel
  cases gk with
  | zero=>exact absurd HA.out (by simp [plur_Read.l0])
  | succ k1=>
   have H:=HA.out
   clear HA
   simp only [plur_Read.l0] at H
   by_cases c2:aa<(l0.length:Int)
   rotate_left
   ·rw [if_neg c2] at H
    have aA:=zD c2
    clear c2
    simp only [Option.some.injEq,Prod.mk.injEq] at H
    obtain ⟨rfl,rfl,rfl⟩:=H
    go_wp2
    go_ret3
    exact ⟨_,by first|rfl|(simp <;> rfl)|(simp [*] <;> rfl),by (with_reducible repeat (first|apply Kd.R_alloc|apply Kd.R_drewN|apply Kd.R_drew));exact HO_5.out,bQ HB⟩
   rw [if_pos c2] at H
   have aA:=zC c2
   clear c2
   by_cases c3:0≤aa
   rotate_left
   ·rw [if_neg c3] at H
    exact absurd H (by simp)
   rw [if_pos c3] at H
   have aZ:=zC c3
   clear c3
   by_cases c4:aa<(l0.length:Int)
   rotate_left
   ·rw [if_neg c4] at H
    exact absurd H (by simp)
   rw [if_pos c4] at H
   have a1:=zC c4
   clear c4
   replace H:=Option.bind_eq_some_iff.mp H
   obtain ⟨ar,A50,H⟩:=H
   try dsimp only at H
   have A5:=zS A50
   clear A50
   by_cases c6:ar=true
   rotate_left
   ·replace c6:=Bool.eq_false_iff.mpr c6
    subst c6
    rw [if_neg (show ¬ (false=true) by decide)] at H
    simp only [Option.some.injEq,Prod.mk.injEq] at H
    obtain ⟨rfl,rfl,rfl⟩:=H
    have ag:0≤(aa:Int):=zB (by first|(with_reducible assumption)|assumption)
    have ah:aa<(l0.length:Int):=zB (by first|(with_reducible assumption)|assumption)
    obtain ⟨ap,am,ac,ad⟩:=at_T68 HR0.out aa ag ah
    cases am
    replace ac:=(HB.out.cell (World.block_lt_of_cell? w _ ac)).trans ac
    replace ad:=(HB.out.cell (World.block_lt_of_cell? w _ ad)).trans ad
    replace ag:=eq_true ag
    replace ah:=eq_true ah
    go_wp2_with (first|((with_reducible refine gate_dst (N:=8) rfl ?_);refine box_event ?hg (N:=8) ?hd (cs:=#[.int .i64 0,.string (⟨#[]⟩:ByteArray)]) (t:=68) ?hr ?_;(case hd=>rfl);(case hg=>rfl);(case hr=>first|(go_simp;done)|(go_simp;rfl));intro af hg w28 hbox hb;replace HO_5:=rb HO_5 hb;have ab:=zS (hbox);have aq:=bg HB hg;replace HB:=bs HB hb;clear hb hbox hg;have aJ:=blkc2 ab.out;have aK:=blkf2 ab.out)|((with_reducible refine gate_callee (f:=45) rfl ?_);refine gL (some 22) Tryz.func45 #[.int .i64 ai,.int .i64 ((rd_T68 l0 aa).f0)] ?_;(with_reducible refine (plur_next.calls ai ((rd_T68 l0 aa).f0) false _ A5.out).mono ?_);rintro e w' ⟨rfl,⟨nd,rfl⟩⟩;refine ⟨_,rfl,?_⟩))
    go_ret3
    exact ⟨_,by first|rfl|(simp <;> rfl)|(simp [*] <;> rfl),by first|exact Kd.R_nil _ _ _ _ _|exact Kd.N_nil _ _ _ _ _|exact Kd.V_nil _ _ _ _ _|exact Kd.Q_nil _ _ _ _ _|exact Kd.S_nil _ _ _ _ _,bQ HB⟩
   subst c6
   rw [if_pos rfl] at H
   replace H:=Option.bind_eq_some_iff.mp H
   obtain ⟨⟨aj,av,ak⟩,A70,H⟩:=H
   try dsimp only at H
   have A7:=zS A70
   clear A70
   by_cases c8:ak=0
   rotate_left
   ·rw [if_neg c8] at H
    have aC:(ak == 0)=false:=zF c8
    have aD:(ak != 0)=true:=zI c8
    simp only [Option.some.injEq,Prod.mk.injEq] at H
    obtain ⟨rfl,rfl,rfl⟩:=H
    have ag:0≤(aa:Int):=zB (by first|(with_reducible assumption)|assumption)
    have ah:aa<(l0.length:Int):=zB (by first|(with_reducible assumption)|assumption)
    obtain ⟨ap,am,ac,ad⟩:=at_T68 HR0.out aa ag ah
    cases am
    replace ac:=(HB.out.cell (World.block_lt_of_cell? w _ ac)).trans ac
    replace ad:=(HB.out.cell (World.block_lt_of_cell? w _ ad)).trans ad
    replace ag:=eq_true ag
    replace ah:=eq_true ah
    go_wp2_with (first|((with_reducible refine gate_dst (N:=8) rfl ?_);refine box_event ?hg (N:=8) ?hd (cs:=#[.int .i64 0,.string (⟨#[]⟩:ByteArray)]) (t:=68) ?hr ?_;(case hd=>rfl);(case hg=>rfl);(case hr=>first|(go_simp;done)|(go_simp;rfl));intro af hg w25 hbox hb;replace HO_5:=rb HO_5 hb;have ab:=zS (hbox);have aq:=bg HB hg;replace HB:=bs HB hb;clear hb hbox hg;have aM:=blkc2 ab.out;have aN:=blkf2 ab.out)|((with_reducible refine gate_callee (f:=45) rfl ?_);refine gL (some 22) Tryz.func45 #[.int .i64 ai,.int .i64 ((rd_T68 l0 aa).f0)] ?_;(with_reducible refine (plur_next.calls ai ((rd_T68 l0 aa).f0) true _ A5.out).mono ?_);rintro e w' ⟨rfl,⟨nd,rfl⟩⟩;refine ⟨_,rfl,?_⟩)|((with_reducible refine gate_callee (f:=39) rfl ?_);refine gL (some 28) Tryz.func39 #[.string ((rd_T68 l0 aa).f1)] ?_;(with_reducible refine (rule_Parse.calls ((rd_T68 l0 aa).f1) aj av ak _ ?side1 A7.out).mono ?_);(case side1=>refine GL.below HG.out ?_;exact bQ HB);rintro e w27 ⟨aw,rfl,ho0,hb⟩;refine ⟨_,rfl,?_⟩;replace HO_5:=zS (Kd.R_elder' (by (with_reducible repeat (first|apply Kd.R_alloc|apply Kd.R_drewN|apply Kd.R_drew));exact (Kd.R_mono (Kd.R_far (p:=⟨af,1,none⟩) (Kd.R_far (p:=⟨af,0,none⟩) (Kd.R_types HO_5.out ab.out (by decide)) (fun _ hk=>hk.2) (.int .i64 ((rd_T68 l0 aa).f0))) (fun _ hk=>hk.2) (.string ((rd_T68 l0 aa).f1))) (fun _ h_=>h_.1))) (Kd.R_base ho0) hb);have ae:=zS (Kd.R_lower ho0 (bz HB));replace ab:=zS (blk_below (g:=af) (o:=.cells #[.int .i64 ((rd_T68 l0 aa).f0),.string ((rd_T68 l0 aa).f1)] 68 (0,0)) (kp ab rfl) hb);replace HB:=bs HB hb;(try clear hb);(try clear hk);(try clear ho0)))
    go_ret3
    exact ⟨_,by first|rfl|(simp <;> rfl)|(simp [*] <;> rfl),by first|exact Kd.R_nil _ _ _ _ _|exact Kd.N_nil _ _ _ _ _|exact Kd.V_nil _ _ _ _ _|exact Kd.Q_nil _ _ _ _ _|exact Kd.S_nil _ _ _ _ _,bQ HB⟩
   rw [if_pos c8] at H
   have aC:(ak == 0)=true:=zH c8
   have aD:(ak != 0)=false:=zG c8
   clear c8
   replace H:=Option.bind_eq_some_iff.mp H
   obtain ⟨au,A90,H⟩:=H
   try dsimp only at H
   have A9:=zS A90
   clear A90
   by_cases c10:au=true
   ·subst c10
    rw [if_pos rfl] at H
    by_cases c11:an.length<4398046511104
    rotate_left
    ·rw [if_neg c11] at H
     exact absurd H (by simp)
    rw [if_pos c11] at H
    have LMc11:=zS c11
    clear c11
    obtain ⟨ax,al⟩:∃ y_:List (S65),y_=(an ++ [(⟨(rd_T68 l0 aa).f0,aj⟩:S65)]):=⟨_,rfl⟩
    replace H:(plur_Read.l0 k1 ax ((rd_T68 l0 aa).f0) l0 (l0.length:Int) (wrap64 (aa+1)))=some (r1,r2,r3):=by first|(rw [al];with_reducible exact H)|(have H2_:=(Option.bind_some _ _).symm.trans H;rw [al];with_reducible exact H2_)|(have H2_:=(Option.bind_some _ _).symm.trans H;with_reducible exact H2_)|with_reducible exact H|(rw [al];exact H)|exact H
    have ay:=zS al
    clear al
    have H':=zS H
    clear H
    have ag:0≤(aa:Int):=zB (by first|(with_reducible assumption)|assumption)
    have ah:aa<(l0.length:Int):=zB (by first|(with_reducible assumption)|assumption)
    obtain ⟨ap,am,ac,ad⟩:=at_T68 HR0.out aa ag ah
    cases am
    replace ac:=(HB.out.cell (World.block_lt_of_cell? w _ ac)).trans ac
    replace ad:=(HB.out.cell (World.block_lt_of_cell? w _ ad)).trans ad
    replace ag:=eq_true ag
    replace ah:=eq_true ah
    go_wp2_with (first|((with_reducible refine gate_dst (N:=8) rfl ?_);refine box_event ?hg (N:=8) ?hd (cs:=#[.int .i64 0,.string (⟨#[]⟩:ByteArray)]) (t:=68) ?hr ?_;(case hd=>rfl);(case hg=>rfl);(case hr=>first|(go_simp;done)|(go_simp;rfl));intro af hg w12 hbox hb;replace HO_5:=rb HO_5 hb;have ab:=zS (hbox);have aq:=bg HB hg;replace HB:=bs HB hb;clear hb hbox hg;have aQ:=blkc2 ab.out;have aR:=blkf2 ab.out)|((with_reducible refine gate_callee (f:=45) rfl ?_);refine gL (some 22) Tryz.func45 #[.int .i64 ai,.int .i64 ((rd_T68 l0 aa).f0)] ?_;(with_reducible refine (plur_next.calls ai ((rd_T68 l0 aa).f0) true _ A5.out).mono ?_);rintro e w' ⟨rfl,⟨nd,rfl⟩⟩;refine ⟨_,rfl,?_⟩)|((with_reducible refine gate_callee (f:=39) rfl ?_);refine gL (some 28) Tryz.func39 #[.string ((rd_T68 l0 aa).f1)] ?_;(with_reducible refine (rule_Parse.calls ((rd_T68 l0 aa).f1) aj av ak _ ?side1 A7.out).mono ?_);(case side1=>refine GL.below HG.out ?_;exact bQ HB);rintro e w14 ⟨aw,rfl,ho0,hb⟩;refine ⟨_,rfl,?_⟩;replace HO_5:=zS (Kd.R_elder' (by (with_reducible repeat (first|apply Kd.R_alloc|apply Kd.R_drewN|apply Kd.R_drew));exact (Kd.R_mono (Kd.R_far (p:=⟨af,1,none⟩) (Kd.R_far (p:=⟨af,0,none⟩) (Kd.R_types HO_5.out ab.out (by decide)) (fun _ hk=>hk.2) (.int .i64 ((rd_T68 l0 aa).f0))) (fun _ hk=>hk.2) (.string ((rd_T68 l0 aa).f1))) (fun _ h_=>h_.1))) (Kd.R_base ho0) hb);have ae:=zS (Kd.R_lower ho0 (bz HB));replace ab:=zS (blk_below (g:=af) (o:=.cells #[.int .i64 ((rd_T68 l0 aa).f0),.string ((rd_T68 l0 aa).f1)] 68 (0,0)) (kp ab rfl) hb);replace HB:=bs HB hb;(try clear hb);(try clear hk);(try clear ho0);obtain ⟨aE,aG,aH⟩:=Kd.R_slice ae.out;subst aH)|(go_at_call 32;(with_reducible refine (rule_Right.calls k1 _ _ aj true _ ?side3 (rc ae) (rl ae) A9.out).mono ?_);(case side3=>refine GL.below HG.out ?_;exact bQ HB);rintro e w16 ⟨rfl,hb⟩;replace HO_5:=rb HO_5 hb;replace ae:=rb ae hb;replace ab:=kb ab hb;replace HB:=bs HB hb;(try clear hb);(try clear hb2);(try clear hk);(try clear hi);have aT:=blkc2 ab.out;have aU:=blkf2 ab.out)|((with_reducible refine gate_builtin (b:=.append) (xs:=#[.tmp 40,.tmp 45]) rfl ?_);at_builtin;refine Kd.R_append k65 (w0:=w) w.heap.size rfl (.tmp 40) (.tmp 45) 28 65 (.agg #[(.int .i64 0),(.slice none 0 0)]) 32 rfl Tryz.underlying28 info65 rfl (by decide) (by omega) u5 an (⟨(rd_T68 l0 aa).f0,aj⟩:S65) [.int .i64 ((rd_T68 l0 aa).f0),.slice aE aj.length aG] (fun _=>True) (fun k_=>((fun _=>True)) k_∧some k_≠(u5:Value).ownBlock) rfl rfl ?aP (fun _ hk=>hk) ?aF ?aO ?aB ?aS ?aL ?_;(case aP=>exact k65_mkM _ _ _ (⟨(rd_T68 l0 aa).f0,aj⟩:S65) (Kd.R_mono (Kd.R_apart' (ae.out) (Kd.R_typed HO_5.out) (by decide)) (fun k_ hk=>⟨trivial,hk.2⟩)));(case aB=>exact (bQ HB));(case aF=>exact (fun _ _=>trivial));(case aO=>exact (by (with_reducible repeat (first|apply Kd.R_alloc|apply Kd.R_drewN|apply Kd.R_drew));exact Kd.R_mono HO_5.out (fun _ hk=>trivial)));(case aS=>exact (bz HB));(case aL=>have:=LMc11.out;omega);intro a2 w18 ho hb hg hat;rw [← ay.out] at ho;replace ab:=zS (blk_grown (ko ab) hg (Kd.R_ne HO_5.out ab.out (by decide)));replace HB:=zS (hb);have az:=zS (ho);clear HO_5 ae;clear ho hb hg hat;have aV:=blkc2 ab.out;have aW:=blkf2 ab.out))
    go_roundg k1
    case measure=>have:=HK1.out;omega
    case rel=>exact ⟨(ax),((rd_T68 l0 aa).f0),(wrap64 (aa+1)),(by first|rfl|(simp;done)|(simp [*];done)),(by first|rfl|(simp;done)|(simp [*];done)),H',⟨by have:=HK1.out;omega⟩,⟨ro az⟩,⟨bQ HB⟩⟩
   replace c10:=Bool.eq_false_iff.mpr c10
   subst c10
   rw [if_neg (show ¬ (false=true) by decide)] at H
   simp only [Option.some.injEq,Prod.mk.injEq] at H
   obtain ⟨rfl,rfl,rfl⟩:=H
   have ag:0≤(aa:Int):=zB (by first|(with_reducible assumption)|assumption)
   have ah:aa<(l0.length:Int):=zB (by first|(with_reducible assumption)|assumption)
   obtain ⟨ap,am,ac,ad⟩:=at_T68 HR0.out aa ag ah
   cases am
   replace ac:=(HB.out.cell (World.block_lt_of_cell? w _ ac)).trans ac
   replace ad:=(HB.out.cell (World.block_lt_of_cell? w _ ad)).trans ad
   replace ag:=eq_true ag
   replace ah:=eq_true ah
   go_wp2_with (first|((with_reducible refine gate_dst (N:=8) rfl ?_);refine box_event ?hg (N:=8) ?hd (cs:=#[.int .i64 0,.string (⟨#[]⟩:ByteArray)]) (t:=68) ?hr ?_;(case hd=>rfl);(case hg=>rfl);(case hr=>first|(go_simp;done)|(go_simp;rfl));intro af hg w20 hbox hb;replace HO_5:=rb HO_5 hb;have ab:=zS (hbox);have aq:=bg HB hg;replace HB:=bs HB hb;clear hb hbox hg;have aX:=blkc2 ab.out;have aY:=blkf2 ab.out)|((with_reducible refine gate_callee (f:=45) rfl ?_);refine gL (some 22) Tryz.func45 #[.int .i64 ai,.int .i64 ((rd_T68 l0 aa).f0)] ?_;(with_reducible refine (plur_next.calls ai ((rd_T68 l0 aa).f0) true _ A5.out).mono ?_);rintro e w' ⟨rfl,⟨nd,rfl⟩⟩;refine ⟨_,rfl,?_⟩)|((with_reducible refine gate_callee (f:=39) rfl ?_);refine gL (some 28) Tryz.func39 #[.string ((rd_T68 l0 aa).f1)] ?_;(with_reducible refine (rule_Parse.calls ((rd_T68 l0 aa).f1) aj av ak _ ?side1 A7.out).mono ?_);(case side1=>refine GL.below HG.out ?_;exact bQ HB);rintro e w22 ⟨aw,rfl,ho0,hb⟩;refine ⟨_,rfl,?_⟩;replace HO_5:=zS (Kd.R_elder' (by (with_reducible repeat (first|apply Kd.R_alloc|apply Kd.R_drewN|apply Kd.R_drew));exact (Kd.R_mono (Kd.R_far (p:=⟨af,1,none⟩) (Kd.R_far (p:=⟨af,0,none⟩) (Kd.R_types HO_5.out ab.out (by decide)) (fun _ hk=>hk.2) (.int .i64 ((rd_T68 l0 aa).f0))) (fun _ hk=>hk.2) (.string ((rd_T68 l0 aa).f1))) (fun _ h_=>h_.1))) (Kd.R_base ho0) hb);have ae:=zS (Kd.R_lower ho0 (bz HB));replace ab:=zS (blk_below (g:=af) (o:=.cells #[.int .i64 ((rd_T68 l0 aa).f0),.string ((rd_T68 l0 aa).f1)] 68 (0,0)) (kp ab rfl) hb);replace HB:=bs HB hb;(try clear hb);(try clear hk);(try clear ho0);obtain ⟨a3,a4,aI⟩:=Kd.R_slice ae.out;subst aI)|(go_at_call 32;(with_reducible refine (rule_Right.calls k1 _ _ aj false _ ?side3 (rc ae) (rl ae) A9.out).mono ?_);(case side3=>refine GL.below HG.out ?_;exact bQ HB);rintro e w24 ⟨rfl,hb⟩;replace HO_5:=rb HO_5 hb;replace ae:=rb ae hb;replace ab:=kb ab hb;replace HB:=bs HB hb;(try clear hb);(try clear hb2);(try clear hk);(try clear hi)))
   go_ret3
   exact ⟨_,by first|rfl|(simp <;> rfl)|(simp [*] <;> rfl),by first|exact Kd.R_nil _ _ _ _ _|exact Kd.N_nil _ _ _ _ _|exact Kd.V_nil _ _ _ _ _|exact Kd.Q_nil _ _ _ _ _|exact Kd.S_nil _ _ _ _ _,bQ HB⟩
end Go.Proofs.YtgfajgkjbckkgaaGreatDoor.PZ
end
end
section
set_option maxRecDepth 100000
namespace Go.Proofs.YtgfajgkjbckkgaaGreatDoor.PZ
open Go.RowKit Go.Proofs.YtgfajgkjbckkgaaGreatDoorW.PrintWords Go.Proofs.YtgfajgkjbckkgaaGreatDoorW.PrintLast
section
theorem figures_l0 {d:List Int}(hd:Figs d)(hl:d.length≤1000)(n:Nat):∀ i:Nat,i+n=d.length→Ev (fun k=>exergueref11_figures.l0 k (d.take i) (strOfNums (d.map chr)) (i:Int)) d:=by
 have hby:Byts (d.map chr):=by
  intro c hc
  obtain ⟨x,hx,rfl⟩:=List.mem_map.1 hc
  have:=hd x hx
  unfold chr;omega
 have hsz:(strOfNums (d.map chr)).size=d.length:=by rw [strOfNums_size,List.length_map]
 induction n with
 | zero=>
  intro i hi
  have q1:¬ ((i:Nat):Int)<((strOfNums (d.map chr)).size:Int):=by rw [hsz];omega
  refine Ev_shift ?_
  simp only [exergueref11_figures.l0,if_neg q1]
  rw [List.take_of_length_le (by omega)]
  exact Ev.now _
 | succ n ih=>
  intro i hi
  have hlt:i<d.length:=by omega
  have q1:((i:Nat):Int)<((strOfNums (d.map chr)).size:Int):=by rw [hsz];omega
  have q2:(0:Int)≤(i:Int):=by omega
  have q3:(d.take i).length<140737488355328:=by rw [List.length_take];omega
  have wi:wrap64 ((i:Int)+1)=((i+1:Nat):Int):=by rw [w64 _ (by omega) (by omega)];omega
  have hb:bt (strOfNums (d.map chr)) (i:Int)=chr d[i]:=by
   rw [← rd_bytesOf,bytesOf_nums hby,rd_nat]
   simp [List.getD_eq_getElem?_getD,hlt]
  have hdi:=hd _ (List.getElem_mem hlt)
  have hc:(chr d[i] - 48) % 256=d[i]:=by unfold chr;omega
  refine Ev_shift ?_
  simp only [exergueref11_figures.l0,if_pos q1,if_pos q2,if_pos q3,wi,hb,hc]
  have:=ih (i+1) (by omega)
  rw [List.take_succ_eq_append_getElem hlt] at this
  exact this
theorem figures_ev {n:Int}(h0:0≤n)(h1:n≤9223372036854775807):Ev (fun k=>exergueref11_figures.f k n) (digsN n.toNat):=by
 unfold exergueref11_figures.f
 refine Ev.bind (refNumT ⟨by omega,h1⟩) ?_
 rw [pw_nat h0]
 exact figures_l0 (digsN_figs _) (by have:=digsN_20 (u:=n.toNat) (by omega);omega) (digsN n.toNat).length 0 (by omega)
theorem hold_l0 {l:List Int}(hf:Figs l)(hl:l.length≤1000000){x:Rl}(hx:NumX x)(h3:x.f3.length≤140737488355328)(n:Nat):∀ q:Nat,q+n=x.f3.length →
    Ev (fun k=>exergueref11_holds.l0 k l (q:Int) x.f0 x.f1 x.f2 x.f3) (((x.f3.drop q).any fun r=>inV (num l) r.f0 r.f1) != x.f2):=by
 induction n with
 | zero=>
  intro q hq
  have q1:¬ ((q:Nat):Int)<(x.f3.length:Int):=by omega
  refine Ev_shift ?_
  simp only [exergueref11_holds.l0,if_neg q1]
  rw [List.drop_of_length_le (by omega)]
  have e:(([]:List Rg).any (fun r=>inV (num l) r.f0 r.f1) != x.f2)=x.f2:=by cases x.f2 <;> rfl
  rw [e]
  exact Ev.now _
 | succ n ih=>
  intro q hq
  have hlt:q<x.f3.length:=by omega
  have q1:((q:Nat):Int)<(x.f3.length:Int):=by omega
  have q2:(0:Int)≤(q:Int):=by omega
  have wq:wrap64 ((q:Int)+1)=((q+1:Nat):Int):=by rw [w64 _ (by omega) (by omega)];omega
  obtain ⟨g1,g2,_⟩:=hx.rg _ (List.getElem_mem hlt)
  refine Ev_shift ?_
  simp only [exergueref11_holds.l0,if_pos q1,if_pos q2,rd57 hlt,wq]
  refine Ev.bind (refIn_ev hf hl _ _ g1 g2) ?_
  rw [drop_get hlt,List.any_cons]
  have e:inD l (x.f3[q]).f0 (x.f3[q]).f1=inV (num l) (x.f3[q]).f0 (x.f3[q]).f1:=rfl
  rw [e]
  cases hb:inV (num l) (x.f3[q]).f0 (x.f3[q]).f1 with
  | true=>
   simp only [if_true,Bool.true_or]
   have e:(true != x.f2) = !x.f2:=by cases x.f2 <;> rfl
   rw [e]
   exact Ev.now _
  | false=>
   simp only [Bool.false_eq_true,if_false,Bool.false_or]
   exact ih (q+1) (by omega)
section
variable {i f:List Int}{w c:Int}(h:OpOk i f w c)
include h
theorem hold_ev {x:Rl}(hx:NumX x)(h3:x.f3.length≤140737488355328):Ev (fun k=>exergueref11_holds.f k x.f0 x.f1 x.f2 x.f3 i f w c) (relX i f w c x):=by
 have hw:=h.wc
 have lf:=h.lf
 obtain ⟨hF,hL⟩:=operandR_ok h x.f0
 have hop:=refOperand_ev i f w c x.f0 (by omega) hw.1 hw.2
 unfold exergueref11_holds.f relX relV
 refine Ev.bind hop ?_
 generalize operandR i f w c x.f0=q at hF hL ⊢
 obtain ⟨l,wh⟩:=q
 simp only at hF hL ⊢
 have j0:∀ {l:List Int},Figs l→l.length≤1000000→Ev (fun k=>exergueref11_holds.j0 k l x.f0 x.f1 x.f2 x.f3) ((x.f3.any fun r=>inV (num l) r.f0 r.f1) != x.f2):=by
  intro l hf hl
  refine Ev_shift ?_
  simp only [exergueref11_holds.j0]
  have:=hold_l0 hf hl hx h3 x.f3.length 0 (by omega)
  rw [List.drop_zero] at this
  exact this
 cases wh with
 | false=>
  simp only [Bool.false_eq_true,if_false,Bool.false_and]
  have e:(false != x.f2)=x.f2:=by cases x.f2 <;> rfl
  rw [e]
  exact Ev.now _
 | true=>
  simp only [if_true,Bool.true_and]
  by_cases hm:x.f1>0
  ·simp only [if_pos hm]
   refine Ev.bind (refMod_ev hF (by omega) ⟨by omega,hx.m1⟩) ?_
   have n0:=Int.emod_nonneg (num l) (show x.f1≠0 by omega)
   have n1:=Int.emod_lt_of_pos (num l) hm
   have n2:=hx.m1
   refine Ev.bind (figures_ev n0 (by omega)) ?_
   have:=j0 (digsN_figs (num l % x.f1).toNat) (by have:=digsN_20 (u:=(num l % x.f1).toNat) (by omega);omega)
   rw [digsN_num,Int.toNat_of_nonneg n0] at this
   exact this
  simp only [if_neg hm]
  exact j0 hF (by omega)
theorem holds_l1 {l:List (List Rl)}(hl:LenOk l)(hx:∀ row ∈ l,∀ x ∈ row,NumX x){a:Nat}(ha:a<l.length){R:Bool}(hR:Ev (fun k=>exergueref11_Holds.l0 k l ((a+1:Nat):Int) i f w c) R)(n:Nat):∀ (j:Nat) (b:Bool),j+n=(l[a]).length →
    Ev (fun k=>exergueref11_Holds.l1 k l (a:Int) b (j:Int) i f w c) ((b && ((l[a]).drop j).all fun x=>relX i f w c x) || R):=by
 have hcl:=hl.lc
 have hrl:=hl.lr _ (List.getElem_mem ha)
 have hxl:=hl.lx _ (List.getElem_mem ha)
 have hxx:=hx _ (List.getElem_mem ha)
 have i1:(0:Int)≤(a:Int):=by omega
 have i2:(a:Int)<(l.length:Int):=by omega
 have wi:wrap64 ((a:Int)+1)=((a+1:Nat):Int):=by rw [w64 _ (by omega) (by omega)];omega
 have ra:=rdL ha
 generalize l[a]=r at *
 induction n with
 | zero=>
  intro j b hj
  have q1:¬ ((j:Nat):Int)<(r.length:Int):=by omega
  refine Ev_shift ?_
  simp only [exergueref11_Holds.l1,if_pos i1,if_pos i2,ra,if_neg q1,wi]
  rw [List.drop_of_length_le (by omega)]
  cases b with
  | true=>simp only [if_true,List.all_nil,Bool.and_self,Bool.true_or];exact Ev.now _
  | false=>simp only [Bool.false_eq_true,if_false,Bool.false_and,Bool.false_or];exact hR
 | succ n ih=>
  intro j b hj
  have hlt:j<r.length:=by omega
  have q1:((j:Nat):Int)<(r.length:Int):=by omega
  have q2:(0:Int)≤(j:Int):=by omega
  have wj:wrap64 ((j:Int)+1)=((j+1:Nat):Int):=by rw [w64 _ (by omega) (by omega)];omega
  refine Ev_shift ?_
  simp only [exergueref11_Holds.l1,if_pos i1,if_pos i2,ra,if_pos q1,if_pos q2,rd60 hlt,wj]
  refine Ev.bind (hold_ev h (hxx _ (List.getElem_mem hlt)) (hxl _ (List.getElem_mem hlt))) ?_
  rw [drop_get hlt,List.all_cons]
  cases b with
  | true=>
   simp only [if_true,Bool.true_and]
   exact ih (j+1) _ (by omega)
  | false=>
   simp only [Bool.false_eq_true,if_false]
   have:=ih (j+1) false (by omega)
   simpa using this
theorem holds_l0 {l:List (List Rl)}(hl:LenOk l)(hx:∀ row ∈ l,∀ x ∈ row,NumX x)(n:Nat):∀ a:Nat,a+n=l.length→Ev (fun k=>exergueref11_Holds.l0 k l (a:Int) i f w c) (condX i f w c (l.drop a)):=by
 induction n with
 | zero=>
  intro a ha
  have q1:¬ ((a:Nat):Int)<(l.length:Int):=by omega
  refine Ev_shift ?_
  simp only [exergueref11_Holds.l0,if_neg q1]
  rw [List.drop_of_length_le (by omega)]
  exact Ev.now _
 | succ n ih=>
  intro a ha
  have hlt:a<l.length:=by omega
  have q1:((a:Nat):Int)<(l.length:Int):=by omega
  have:=holds_l1 h hl hx hlt (ih (a+1) (by omega)) (l[a]).length 0 true (by omega)
  refine Ev_shift ?_
  simp only [exergueref11_Holds.l0,if_pos q1]
  rw [drop_get hlt]
  unfold condX at this ⊢
  rw [List.any_cons]
  simpa using this
theorem holds_ev11 {l:List (List Rl)}(hl:LenOk l)(hx:∀ row ∈ l,∀ x ∈ row,NumX x):Ev (fun k=>exergueref11_Holds.f k l i f w c) (condX i f w c l):=by
 unfold exergueref11_Holds.f
 have:=holds_l0 h hl hx l.length 0 (by omega)
 rw [List.drop_zero] at this
 exact this
end
theorem refRight11 {c:List (List Rl)}(hc:TxtOk c)(hl:LenOk c):Ev (fun k=>exergueref11_Right.f k c) (rightP c):=by
 unfold exergueref11_Right.f rightP
 refine Ev.bind (rtext_ev hc) ?_
 refine Ev.bind (refParse_ev _) ?_
 rw [condB_bytes hc.n]
 generalize parseP (condT [32] c)=p
 obtain ⟨d,n,e⟩:=p
 simp only
 by_cases he:e=0
 ·simp only [if_pos he,zC he,Bool.true_and]
  exact Ev.bind (same_ev11 hl) (Ev.now _)
 simp only [if_neg he,zD he,Bool.false_and]
 exact Ev.now _
theorem ruleRight11 {c:List (List Rl)}(hc:TxtOk c):Ev (fun k=>rule_Right.f k c) (rightP c):=by
 have hlen:=condT_len hc.n
 have hw:=hc.w
 unfold rule_Right.f rightP
 refine Ev.bind (text_ev hc) ?_
 unfold rule_Parse.f
 rw [condB_bytes hc.n,strOfNums_size]
 simp only [if_pos (show (condT [32] c).length≤140737488351232 by omega),Option.bind_some]
 generalize parseP (condT [32] c)=p
 obtain ⟨d,n,e⟩:=p
 simp only
 by_cases he:e=0
 ·simp only [if_pos he,zC he,Bool.true_and]
  unfold rule_Same.f
  exact Ev.now _
 simp only [if_neg he,zD he,Bool.false_and]
 exact Ev.now _
theorem mem_rows:∀ {r:List (Rl×Bool)} {l:List Rl} {row:List Rl} {x:Rl},row ∈ rowsOf l r→x ∈ row→x ∈ l∨∃ o,(x,o) ∈ r
  | [],l,row,x,h1,h2=>by
    simp only [rowsOf,List.mem_singleton] at h1
    subst h1;exact .inl h2
  | (y,true) :: r,l,row,x,h1,h2=>by
    simp only [rowsOf,List.mem_cons] at h1
    rcases h1 with rfl|h1
    · rcases List.mem_append.1 h2 with h|h
      · exact .inl h
      · rw [List.mem_singleton] at h;subst h;exact .inr ⟨true,by simp⟩
    · rcases mem_rows h1 h2 with h|⟨o,h⟩
      · cases h
      · exact .inr ⟨o,by simp [h]⟩
  | (y,false) :: r,l,row,x,h1,h2=>by
    simp only [rowsOf] at h1
    rcases mem_rows h1 h2 with h|⟨o,h⟩
    · rcases List.mem_append.1 h with h|h
      · exact .inl h
      · rw [List.mem_singleton] at h;subst h;exact .inr ⟨false,by simp⟩
    · exact .inr ⟨o,by simp [h]⟩
theorem wC_rows:∀ (r:List (Rl×Bool)) (l:List Rl),wC (rowsOf l r)≤1+r.length+(l.map wR).sum+(r.map fun x=>wR x.1).sum
  | [],l=>by simp [rowsOf,wC,wRow]
  | (y,true) :: r,l=>by
    have:=wC_rows r []
    simp only [rowsOf]
    unfold wC at this ⊢
    rw [List.map_cons,List.sum_cons]
    simp only [wRow,List.map_append,List.sum_append,List.map_cons,List.map_nil,List.sum_cons,List.sum_nil,List.length_cons] at this ⊢
    omega
  | (y,false) :: r,l=>by
    have:=wC_rows r (l ++ [y])
    simp only [rowsOf]
    simp only [List.map_append,List.sum_append,List.map_cons,List.map_nil,List.sum_cons,List.sum_nil,List.length_cons] at this ⊢
    omega
theorem wC_full {r:List (Rl×Bool)}(h:fullP r=false):wC (rowsOf [] r)≤1000:=by
 unfold fullP at h
 rw [Bool.or_eq_false_iff,decide_eq_false_iff_not,List.any_eq_false] at h
 have h1:=wC_rows r []
 have h2:=sum_le (f:=fun x:Rl×Bool=>wR x.1) (g:=fun _=>21) (l:=r) (fun x hx=>by
  have:=h.2 x hx
  simp at this
  unfold wR;omega)
 rw [sum_const] at h2
 simp only [List.map_nil,List.sum_nil] at h1
 omega
structure GoodC (c:List (List Rl)):Prop where
  gw:wC c≤1000
  gx:∀ row ∈ c,∀ x ∈ row,GoodX x
theorem goodC_nil:GoodC []:=⟨by simp [wC],by simp⟩
theorem parse_good (t:List Int):GoodC (parseP t).1:=by
 unfold parseP
 split
 · exact goodC_nil
 rcases hh:relsP t with ⟨_|r,n⟩
 · exact goodC_nil
 obtain ⟨hE,hg⟩:=rels_some _ _ _ _ hh
 by_cases hf:fullP r=true
 · simp only [if_pos hf];exact goodC_nil
 simp only [if_neg hf]
 refine ⟨wC_full (by simpa using hf),fun row hr x hx=>?_⟩
 rcases mem_rows hr hx with h|⟨o,h⟩
 · cases h
 exact hg (x,o) h
theorem right_good {c:List (List Rl)}(h:rightP c=true):GoodC c:=by
 obtain ⟨r,_,hg,hr,_,hf,_⟩:=right_runs h
 subst hr
 refine ⟨wC_full hf,fun row hrow x hx=>?_⟩
 rcases mem_rows hrow hx with h|⟨o,h⟩
 · cases h
 exact hg (x,o) h
theorem isOp_byte {c:Int}(h:isOp c=true):0≤c∧c≤255:=by
 have:=op_low h
 unfold isLo at this
 simp at this
 omega
theorem GoodC.txt {c:List (List Rl)}(h:GoodC c):TxtOk c:=by
 refine ⟨by have:=h.gw;omega,fun row hr x hx=>?_⟩
 obtain ⟨g0,g1,g2,_,g3⟩:=h.gx row hr x hx
 refine ⟨isOp_byte g0,⟨by omega,by omega⟩,fun r hrr=>?_⟩
 obtain ⟨r0,r1,r2⟩:=g3 r hrr
 exact ⟨⟨by omega,by omega⟩,⟨by omega,by omega⟩⟩
theorem GoodC.len {c:List (List Rl)}(h:GoodC c):LenOk c:=by
 have hw:=h.gw
 refine ⟨by have:=len_wC c;omega,fun row hr=>?_,fun row hr x hx=>?_⟩
 · have:=wRow_le hr;have:=len_wRow row;omega
 have:=wRow_le hr;have:=wR_le hx;unfold wR at this;omega
theorem GoodC.num {c:List (List Rl)}(h:GoodC c):∀ row ∈ c,∀ x ∈ row,NumX x:=fun row hr x hx=>(h.gx row hr x hx).numX
theorem parse_f {s:ByteArray}(h:s.size≤140737488351232):rule_Parse.f s=some (parseP (bytesOf s)):=by
 unfold rule_Parse.f;rw [if_pos h]
end
end Go.Proofs.YtgfajgkjbckkgaaGreatDoor.PZ
end
section
noncomputable section
namespace Go.Proofs.YtgfajgkjbckkgaaGreatDoor.PZ
open Go.RowKit Go.Proofs.YtgfajgkjbckkgaaGreatDoorW.PrintWords Go.Proofs.YtgfajgkjbckkgaaGreatDoorW.PrintLast Go.Proofs.YtgfajgkjbckkgaaGreatDoorW.PrintMore
attribute [local go_sem] max2_int min2_int max_two min_two max_three min_three max_four min_four   -- for this text's walks alone
def plur_Right.l0:Nat→Int→List (S65)→Int→Int→Option (Bool)
 | 0,_,_,_,_=>none
 | k+1,x3,x6,x7,x8=>if x8<x7 then (if 0≤x8 then (if x8<(x6.length:Int) then ((plur_next.f x3 ((rd_T65 x6 x8).f0)).bind fun ap=>(if ap=true then ((rule_Right.f k ((rd_T65 x6 x8).f1)).bind fun aq=>(if aq=true then (plur_Right.l0 k ((rd_T65 x6 x8).f0) x6 x7 (wrap64 (x8+1))) else (some false))) else (some false))) else (none)) else (none)) else (some true)
def plur_Right.f (k:Nat)(l0:List (S65)):Option (Bool):=plur_Right.l0 k 0 l0 (l0.length:Int) 0
theorem plur_Right.mono_l:∀ k,(∀ y0 y1 y2 y3,LeO (plur_Right.l0 k y0 y1 y2 y3) (plur_Right.l0 (k+1) y0 y1 y2 y3))
 | 0=>fun _ _ _ _ r h=>by simp [plur_Right.l0] at h
 | k+1=>by
  have ih0:=plur_Right.mono_l k
  ·intro y0 y1 y2 y3
   unfold plur_Right.l0
   repeat' first|(with_reducible first|apply ih0|apply rule_Right.mono|apply LeO.refl|apply LeO.none|refine LeO.ite ?_ ?_|refine LeO.bind ?_ (fun _=>?_))|apply ih0|apply rule_Right.mono|apply LeO.none
theorem plur_Right.mono:∀ a0 k,LeO (plur_Right.f k a0) (plur_Right.f (k+1) a0):=by
 intro a0 k
 have ih0:=plur_Right.mono_l k
 unfold plur_Right.f
 repeat' first|(with_reducible first|apply ih0|apply rule_Right.mono|apply LeO.refl|apply LeO.none|refine LeO.ite ?_ ?_|refine LeO.bind ?_ (fun _=>?_))|apply ih0|apply rule_Right.mono|apply LeO.none
set_option maxHeartbeats 8000000 in
set_option maxRecDepth 100000 in
theorem plur_Right.calls (k:Nat)(A0:Option Addr)(c0:Nat)(l0:List (S65))(r:Bool)(w:World)(hG:GL w)(hr0:Kd.C k65 w A0 l0.length l0)(hc0:l0.length≤c0)(h:plur_Right.f k l0=some r) :
  Calls Tryz.prog 22 #[.slice A0 l0.length c0] w fun e w'=>e = .returned (.bool r)∧Below w.heap.size w w':=by
 have hu65:=Tryz.underlying65
 have HR0:=zS hr0
 have HC0:=zS hc0
 clear hr0 hc0
 have HB:=zS (Below.refl w.heap.size w)
 have HG:=zS hG
 clear hG
 have H:(plur_Right.l0 k 0 l0 (l0.length:Int) 0)=some r:=h
 clear h
 have H':=zS H
 clear H
 go_enter Tryz.func22,Tryz.ntmps22
 go_wp2
 go_loopg [3,8] k (fun kq v3 v8 w'=>∃ (ai:Int) (aa:Int),v3 = .int .i64 ai∧v8 = .int .i64 aa∧Sd (plur_Right.l0 kq ai l0 (l0.length:Int) aa=some r)∧Sd (kq≤k)∧Sd (Below w.heap.size w w'))
 case atStart=>exact ⟨(0),(0),(by first|rfl|(simp;done)|(simp [*];done)),(by first|rfl|(simp;done)|(simp [*];done)),H',⟨Nat.le_refl _⟩,⟨bQ HB⟩⟩
 case round=>
  clear H'
  obtain ⟨ai,aa,rfl,rfl,HA,HK1,HB⟩:=hrel
  cases gk with
  | zero=>exact absurd HA.out (by simp [plur_Right.l0])
  | succ k1=>
   have H:=HA.out
   clear HA
   simp only [plur_Right.l0] at H
   by_cases c2:aa<(l0.length:Int)
   rotate_left
   ·rw [if_neg c2] at H
    have ar:=zD c2
    clear c2
    obtain rfl:=zE H
    go_wp2
    go_ret
    exact ⟨by first|rfl|(simp <;> rfl)|(simp [*] <;> rfl),bQ HB⟩
   rw [if_pos c2] at H
   have ar:=zC c2
   clear c2
   by_cases c3:0≤aa
   rotate_left
   ·rw [if_neg c3] at H
    exact absurd H (by simp)
   rw [if_pos c3] at H
   have aC:=zC c3
   clear c3
   by_cases c4:aa<(l0.length:Int)
   rotate_left
   ·rw [if_neg c4] at H
    exact absurd H (by simp)
   rw [if_pos c4] at H
   have aD:=zC c4
   clear c4
   replace H:=Option.bind_eq_some_iff.mp H
   obtain ⟨ap,A50,H⟩:=H
   try dsimp only at H
   have A5:=zS A50
   clear A50
   by_cases c6:ap=true
   rotate_left
   ·replace c6:=Bool.eq_false_iff.mpr c6
    subst c6
    rw [if_neg (show ¬ (false=true) by decide)] at H
    obtain rfl:=zE H
    have ag:0≤(aa:Int):=zB (by first|(with_reducible assumption)|assumption)
    have ah:aa<(l0.length:Int):=zB (by first|(with_reducible assumption)|assumption)
    obtain ⟨an,aj,ak,am,ab,ac,hl445_1,hi445_1⟩:=at_T65 HR0.out aa ag ah
    cases am
    replace ab:=(HB.out.cell (World.block_lt_of_cell? w _ ab)).trans ab
    replace ac:=(HB.out.cell (World.block_lt_of_cell? w _ ac)).trans ac
    have ae:=zS hi445_1
    have af:=zS hl445_1
    clear hi445_1 hl445_1
    replace ag:=eq_true ag
    replace ah:=eq_true ah
    go_wp2_with (first|((with_reducible refine gate_dst (N:=5) rfl ?_);refine box_event ?hg (N:=5) ?hd (cs:=#[.int .i64 0,.slice none 0 0]) (t:=65) ?hr ?_;(case hd=>rfl);(case hg=>rfl);(case hr=>first|(go_simp;done)|(go_simp;rfl));intro al hg w16 hbox hb;have ad:=zS (hbox);have ao:=bg HB hg;replace HB:=bs HB hb;clear hb hbox hg;have au:=blkc2 ad.out;have av:=blkf2 ad.out)|((with_reducible refine gate_callee (f:=45) rfl ?_);refine gL (some 15) Tryz.func45 #[.int .i64 ai,.int .i64 ((rd_T65 l0 aa).f0)] ?_;(with_reducible refine (plur_next.calls ai ((rd_T65 l0 aa).f0) false _ A5.out).mono ?_);rintro e w' ⟨rfl,⟨nd,rfl⟩⟩;refine ⟨_,rfl,?_⟩))
    go_ret
    exact ⟨by first|rfl|(simp <;> rfl)|(simp [*] <;> rfl),bQ HB⟩
   subst c6
   rw [if_pos rfl] at H
   replace H:=Option.bind_eq_some_iff.mp H
   obtain ⟨aq,A70,H⟩:=H
   try dsimp only at H
   have A7:=zS A70
   clear A70
   by_cases c8:aq=true
   ·subst c8
    rw [if_pos rfl] at H
    have H':=zS H
    clear H
    have ag:0≤(aa:Int):=zB (by first|(with_reducible assumption)|assumption)
    have ah:aa<(l0.length:Int):=zB (by first|(with_reducible assumption)|assumption)
    obtain ⟨an,aj,ak,am,ab,ac,hl445_1,hi445_1⟩:=at_T65 HR0.out aa ag ah
    cases am
    replace ab:=(HB.out.cell (World.block_lt_of_cell? w _ ab)).trans ab
    replace ac:=(HB.out.cell (World.block_lt_of_cell? w _ ac)).trans ac
    have ae:=zS hi445_1
    have af:=zS hl445_1
    clear hi445_1 hl445_1
    replace ag:=eq_true ag
    replace ah:=eq_true ah
    go_wp2_with (first|((with_reducible refine gate_dst (N:=5) rfl ?_);refine box_event ?hg (N:=5) ?hd (cs:=#[.int .i64 0,.slice none 0 0]) (t:=65) ?hr ?_;(case hd=>rfl);(case hg=>rfl);(case hr=>first|(go_simp;done)|(go_simp;rfl));intro al hg w9 hbox hb;have ad:=zS (hbox);have ao:=bg HB hg;replace HB:=bs HB hb;clear hb hbox hg;have aw:=blkc2 ad.out;have ax:=blkf2 ad.out)|((with_reducible refine gate_callee (f:=45) rfl ?_);refine gL (some 15) Tryz.func45 #[.int .i64 ai,.int .i64 ((rd_T65 l0 aa).f0)] ?_;(with_reducible refine (plur_next.calls ai ((rd_T65 l0 aa).f0) true _ A5.out).mono ?_);rintro e w' ⟨rfl,⟨nd,rfl⟩⟩;refine ⟨_,rfl,?_⟩)|(go_at_call 32;(with_reducible refine (rule_Right.calls k1 _ _ ((rd_T65 l0 aa).f1) true _ ?side3 (cb ae HB) af.out A7.out).mono ?_);(case side3=>refine GL.below HG.out ?_;exact bQ HB);rintro e w11 ⟨rfl,hb⟩;replace ad:=zS (blk_below (g:=al) (o:=.cells #[.int .i64 ((rd_T65 l0 aa).f0),.slice aj ((rd_T65 l0 aa).f1).length ak] 65 (0,0)) (kp ad rfl) hb);replace HB:=bs HB hb;(try clear hb);have ay:=blkc2 ad.out;have az:=blkf2 ad.out))
    go_roundg k1
    case measure=>have:=HK1.out;omega
    case rel=>exact ⟨((rd_T65 l0 aa).f0),(wrap64 (aa+1)),(by first|rfl|(simp;done)|(simp [*];done)),(by first|rfl|(simp;done)|(simp [*];done)),H',⟨by have:=HK1.out;omega⟩,⟨bQ HB⟩⟩
   replace c8:=Bool.eq_false_iff.mpr c8
   subst c8
   rw [if_neg (show ¬ (false=true) by decide)] at H
   obtain rfl:=zE H
   have ag:0≤(aa:Int):=zB (by first|(with_reducible assumption)|assumption)
   have ah:aa<(l0.length:Int):=zB (by first|(with_reducible assumption)|assumption)
   obtain ⟨an,aj,ak,am,ab,ac,hl445_1,hi445_1⟩:=at_T65 HR0.out aa ag ah
   cases am
   replace ab:=(HB.out.cell (World.block_lt_of_cell? w _ ab)).trans ab
   replace ac:=(HB.out.cell (World.block_lt_of_cell? w _ ac)).trans ac
   have ae:=zS hi445_1
   have af:=zS hl445_1
   clear hi445_1 hl445_1
   replace ag:=eq_true ag
   replace ah:=eq_true ah
   go_wp2_with (first|((with_reducible refine gate_dst (N:=5) rfl ?_);refine box_event ?hg (N:=5) ?hd (cs:=#[.int .i64 0,.slice none 0 0]) (t:=65) ?hr ?_;(case hd=>rfl);(case hg=>rfl);(case hr=>first|(go_simp;done)|(go_simp;rfl));intro al hg w13 hbox hb;have ad:=zS (hbox);have ao:=bg HB hg;replace HB:=bs HB hb;clear hb hbox hg;have aA:=blkc2 ad.out;have aB:=blkf2 ad.out)|((with_reducible refine gate_callee (f:=45) rfl ?_);refine gL (some 15) Tryz.func45 #[.int .i64 ai,.int .i64 ((rd_T65 l0 aa).f0)] ?_;(with_reducible refine (plur_next.calls ai ((rd_T65 l0 aa).f0) true _ A5.out).mono ?_);rintro e w' ⟨rfl,⟨nd,rfl⟩⟩;refine ⟨_,rfl,?_⟩)|(go_at_call 32;(with_reducible refine (rule_Right.calls k1 _ _ ((rd_T65 l0 aa).f1) false _ ?side3 (cb ae HB) af.out A7.out).mono ?_);(case side3=>refine GL.below HG.out ?_;exact bQ HB);rintro e w15 ⟨rfl,hb⟩;replace ad:=zS (blk_below (g:=al) (o:=.cells #[.int .i64 ((rd_T65 l0 aa).f0),.slice aj ((rd_T65 l0 aa).f1).length ak] 65 (0,0)) (kp ad rfl) hb);replace HB:=bs HB hb;(try clear hb)))
   go_ret
   exact ⟨by first|rfl|(simp <;> rfl)|(simp [*] <;> rfl),bQ HB⟩
end Go.Proofs.YtgfajgkjbckkgaaGreatDoor.PZ
end
end
section
noncomputable section
namespace Go.Proofs.YtgfajgkjbckkgaaGreatDoor.PZ
open Go.RowKit Go.Proofs.YtgfajgkjbckkgaaGreatDoorW.PrintWords Go.Proofs.YtgfajgkjbckkgaaGreatDoorW.PrintLast Go.Proofs.YtgfajgkjbckkgaaGreatDoorW.PrintMore
attribute [local go_sem] max2_int min2_int max_two min_two max_three min_three max_four min_four   -- for this text's walks alone
end Go.Proofs.YtgfajgkjbckkgaaGreatDoor.PZ
end
end
