/- Texts of this seat, joined. Conditions: none beyond each statement's own. -/
import Derived.Test.YtgfajgkjbckkgaaGreatDoorPc08
import Derived.Test.YtgfajgkjbckkgaaGreatDoorPc10
import Derived.Test.YtgfajgkjbckkgaaGreatDoorPc09
set_option linter.all false
section
noncomputable section
namespace Go.Proofs.YtgfajgkjbckkgaaGreatDoor.PZ
open Go.RowKit Go.Proofs.YtgfajgkjbckkgaaGreatDoorW.PrintWords Go.Proofs.YtgfajgkjbckkgaaGreatDoorW.PrintLast Go.Proofs.YtgfajgkjbckkgaaGreatDoorW.PrintMore
attribute [local go_sem] max2_int min2_int max_two min_two max_three min_three max_four min_four   -- for this text's walks alone
mutual
def rule_Text.l0:Nat→List ByteArray→List (List (S60))→Int→Int→Option (ByteArray)
 | 0,_,_,_,_=>none
 | k+1,x3,x9,x10,x11=>if x11<x10 then (if 0≤x11 then (if x11<(x9.length:Int) then (rule_Text.l1 k x3 ([]:List ByteArray) x9 x10 x11 (rd_L7 x9 x11) ((rd_L7 x9 x11).length:Int) 0) else (none)) else (none)) else ((strings_Join.f x3 (⟨#[32,111,114,32]⟩:ByteArray)).bind fun ay=>(some ay))
def rule_Text.l1:Nat→List ByteArray→List ByteArray→List (List (S60))→Int→Int→List (S60)→Int→Int→Option (ByteArray)
 | 0,_,_,_,_,_,_,_,_=>none
 | k+1,x3,x6,x9,x10,x11,x15,x16,x17=>if x17<x16 then (if 0≤x17 then (if x17<(x15.length:Int) then ((rule_written.f k ((rd_T60 x15 x17).f0) ((rd_T60 x15 x17).f1) ((rd_T60 x15 x17).f2) ((rd_T60 x15 x17).f3)).bind fun ap=>(if x6.length<8796093022208 then (rule_Text.l1 k x3 (x6 ++ [ap]) x9 x10 x11 x15 x16 (wrap64 (x17+1))) else (none))) else (none)) else (none)) else ((strings_Join.f x6 (⟨#[32,97,110,100,32]⟩:ByteArray)).bind fun aq=>(if x3.length<8796093022208 then (rule_Text.l0 k (x3 ++ [aq]) x9 x10 (wrap64 (x11+1))) else (none)))
end
def rule_Text.f (k:Nat)(l0:List (List (S60))):Option (ByteArray):=rule_Text.l0 k ([]:List ByteArray) l0 (l0.length:Int) 0
theorem rule_Text.mono_l:∀ k,(∀ y0 y1 y2 y3,LeO (rule_Text.l0 k y0 y1 y2 y3) (rule_Text.l0 (k+1) y0 y1 y2 y3))∧(∀ y0 y1 y2 y3 y4 y5 y6 y7,LeO (rule_Text.l1 k y0 y1 y2 y3 y4 y5 y6 y7) (rule_Text.l1 (k+1) y0 y1 y2 y3 y4 y5 y6 y7))
 | 0=>⟨fun _ _ _ _ r h=>by simp [rule_Text.l0] at h,fun _ _ _ _ _ _ _ _ r h=>by simp [rule_Text.l1] at h⟩
 | k+1=>by
  obtain ⟨ih0,ih1⟩:=rule_Text.mono_l k
  refine ⟨?_,?_⟩
  ·intro y0 y1 y2 y3
   unfold rule_Text.l0
   repeat' first|(with_reducible first|apply ih0|apply ih1|apply rule_written.mono|apply LeO.refl|apply LeO.none|refine LeO.ite ?_ ?_|refine LeO.bind ?_ (fun _=>?_))|apply ih0|apply ih1|apply rule_written.mono|apply LeO.none
  ·intro y0 y1 y2 y3 y4 y5 y6 y7
   unfold rule_Text.l1
   repeat' first|(with_reducible first|apply ih0|apply ih1|apply rule_written.mono|apply LeO.refl|apply LeO.none|refine LeO.ite ?_ ?_|refine LeO.bind ?_ (fun _=>?_))|apply ih0|apply ih1|apply rule_written.mono|apply LeO.none
theorem rule_Text.mono:∀ a0 k,LeO (rule_Text.f k a0) (rule_Text.f (k+1) a0):=by
 intro a0 k
 obtain ⟨ih0,ih1⟩:=rule_Text.mono_l k
 unfold rule_Text.f
 repeat' first|(with_reducible first|apply ih0|apply ih1|apply rule_written.mono|apply LeO.refl|apply LeO.none|refine LeO.ite ?_ ?_|refine LeO.bind ?_ (fun _=>?_))|apply ih0|apply ih1|apply rule_written.mono|apply LeO.none
set_option maxHeartbeats 8000000 in
set_option maxRecDepth 100000 in
theorem rule_Text.calls (k:Nat)(A0:Option Addr)(c0:Nat)(l0:List (List (S60)))(r:ByteArray)(w:World)(hG:GL w)(hr0:Kd.C (Kd.slice 60 k60) w A0 l0.length l0)(hc0:l0.length≤c0)(h:rule_Text.f k l0=some r) :
  Calls Tryz.prog 35 #[.slice A0 l0.length c0] w fun e w'=>e = .returned (.string r)∧Below w.heap.size w w':=by
 have hu60:=Tryz.underlying60
 have HR0:=zS hr0
 have HC0:=zS hc0
 clear hr0 hc0
 have HB:=zS (Below.refl w.heap.size w)
 have HG:=zS hG
 clear hG
 have H:(rule_Text.l0 k ([]:List ByteArray) l0 (l0.length:Int) 0)=some r:=h
 clear h
 have H':=zS H
 clear H
 go_enter Tryz.func35,Tryz.ntmps35
 go_wp2
 go_loopg [3,11] k (fun kq v3 v11 w'=>∃ (af:List ByteArray) (aa:Int),v11 = .int .i64 aa∧Sd (rule_Text.l0 kq af l0 (l0.length:Int) aa=some r)∧Sd (kq≤k)∧Sd (Kd.R Kd.string 9 w' w.heap.size (fun _=>True) v3 af)∧Sd (Below w.heap.size w w'))
 case atStart=>exact ⟨(([]:List ByteArray)),(0),(by first|rfl|(simp;done)|(simp [*];done)),H',⟨Nat.le_refl _⟩,⟨by first|exact Kd.R_nil _ _ _ _ _|exact Kd.N_nil _ _ _ _ _|exact Kd.V_nil _ _ _ _ _|exact Kd.Q_nil _ _ _ _ _|exact Kd.S_nil _ _ _ _ _⟩,⟨bQ HB⟩⟩
 case round=>
  clear H'
  obtain ⟨af,aa,rfl,HA,HK1,HO_3,HB⟩:=hrel
  cases gk with
  | zero=>exact absurd HA.out (by simp [rule_Text.l0])
  | succ k1=>
   have H:=HA.out
   clear HA
   simp only [rule_Text.l0] at H
   by_cases c2:aa<(l0.length:Int)
   rotate_left
   ·rw [if_neg c2] at H
    have aC:=zD c2
    clear c2
    replace H:=Option.bind_eq_some_iff.mp H
    obtain ⟨ay,aD,H⟩:=H
    try dsimp only at H
    have A19:=zS aD
    clear aD
    obtain rfl:=zE H
    obtain ⟨aT,aU,aV⟩:=Kd.R_slice HO_3.out
    subst aV
    go_wp2_with (first|((with_reducible refine gate_callee (f:=57) rfl ?_);refine gL (some 34) Tryz.func57 #[.slice aT af.length aU,.string (⟨#[32,111,114,32]⟩:ByteArray)] ?_;(with_reducible refine (strings_Join.calls _ _ af (⟨#[32,111,114,32]⟩:ByteArray) ay _ (rc HO_3) (rl HO_3) A19.out).mono ?_);rintro e w21 ⟨rfl,hb⟩;refine ⟨_,rfl,?_⟩;replace HO_3:=rb HO_3 hb;replace HB:=bs HB hb;(try clear hb)))
    go_ret
    exact ⟨by first|rfl|(simp <;> rfl)|(simp [*] <;> rfl),bQ HB⟩
   rw [if_pos c2] at H
   have aC:=zC c2
   clear c2
   by_cases c3:0≤aa
   rotate_left
   ·rw [if_neg c3] at H
    exact absurd H (by simp)
   rw [if_pos c3] at H
   have aW:=zC c3
   clear c3
   by_cases c4:aa<(l0.length:Int)
   rotate_left
   ·rw [if_neg c4] at H
    exact absurd H (by simp)
   rw [if_pos c4] at H
   have aX:=zC c4
   clear c4
   have H':=zS H
   clear H
   have ar:0≤(aa:Int):=zB (by first|(with_reducible assumption)|assumption)
   have au:aa<(l0.length:Int):=zB (by first|(with_reducible assumption)|assumption)
   obtain ⟨a5,aY,aZ,a1,ae,hl120_0,hi120_0⟩:=at_L7 HR0.out aa ar au
   cases a1
   replace ae:=(HB.out.cell (World.block_lt_of_cell? w _ ae)).trans ae
   have av:=zS hi120_0
   have aR:=zS hl120_0
   clear hi120_0 hl120_0
   replace ar:=eq_true ar
   replace au:=eq_true au
   go_wp2
   go_loopg [6,17] k1 (fun kq v6 v17 w'=>∃ (ag:List ByteArray) (ab:Int),v17 = .int .i64 ab∧Sd (rule_Text.l1 kq af ag l0 (l0.length:Int) aa (rd_L7 l0 aa) ((rd_L7 l0 aa).length:Int) ab=some r)∧Sd (kq≤k1)∧Sd (Kd.R Kd.string 9 w' w.heap.size (fun k_=>some k_≠(v6:Value).ownBlock) u3 af)∧Sd (Kd.R Kd.string 9 w' w.heap.size (fun k_=>some k_≠(u3:Value).ownBlock) v6 ag)∧Sd (Below w.heap.size w w'))
   case atStart=>exact ⟨(([]:List ByteArray)),(0),(by first|rfl|(simp;done)|(simp [*];done)),H',⟨Nat.le_refl _⟩,⟨by (with_reducible repeat (first|apply Kd.R_alloc|apply Kd.R_drewN|apply Kd.R_drew));exact Kd.R_mono HO_3.out (fun _ hk=>(by simp [Value.ownBlock]))⟩,⟨by first|exact Kd.R_nil _ _ _ _ _|exact Kd.N_nil _ _ _ _ _|exact Kd.V_nil _ _ _ _ _|exact Kd.Q_nil _ _ _ _ _|exact Kd.S_nil _ _ _ _ _⟩,⟨bQ HB⟩⟩
   case round=>
    clear H'
    try clear c1
    try clear p1
    try clear q1
    try clear hx1
    try clear c2
    try clear aC
    try clear p2
    try clear c3
    try clear aW
    try clear c4
    try clear aX
    try clear ae
    try clear ar
    try clear au
    obtain ⟨ag,ab,rfl,HA,HK2,HO_3,HO_6,HB⟩:=hrel
    cases gk with
    | zero=>exact absurd HA.out (by simp [rule_Text.l1])
    | succ k2=>
     have H:=HA.out
     clear HA
     simp only [rule_Text.l1] at H
     by_cases c5:ab<((rd_L7 l0 aa).length:Int)
     rotate_left
     ·rw [if_neg c5] at H
      have a2:=zD c5
      clear c5
      replace H:=Option.bind_eq_some_iff.mp H
      obtain ⟨aq,aE,H⟩:=H
      try dsimp only at H
      have A14:=zS aE
      clear aE
      by_cases c15:af.length<8796093022208
      rotate_left
      ·rw [if_neg c15] at H
       exact absurd H (by simp)
      rw [if_pos c15] at H
      have LMc15:=zS c15
      clear c15
      obtain ⟨aG,an⟩:∃ y_:List ByteArray,y_=(af ++ [aq]):=⟨_,rfl⟩
      replace H:(rule_Text.l0 k2 aG l0 (l0.length:Int) (wrap64 (aa+1)))=some r:=by first|(rw [an];with_reducible exact H)|(have H2_:=(Option.bind_some _ _).symm.trans H;rw [an];with_reducible exact H2_)|(have H2_:=(Option.bind_some _ _).symm.trans H;with_reducible exact H2_)|with_reducible exact H|(rw [an];exact H)|exact H
      have aH:=zS an
      clear an
      have H':=zS H
      clear H
      obtain ⟨aI,aJ,a3⟩:=Kd.R_slice HO_6.out
      subst a3
      go_wp2_with (first|((with_reducible refine gate_callee (f:=57) rfl ?_);refine gL (some 29) Tryz.func57 #[.slice aI ag.length aJ,.string (⟨#[32,97,110,100,32]⟩:ByteArray)] ?_;(with_reducible refine (strings_Join.calls _ _ ag (⟨#[32,97,110,100,32]⟩:ByteArray) aq _ (rc HO_6) (rl HO_6) A14.out).mono ?_);rintro e w17 ⟨rfl,hb⟩;refine ⟨_,rfl,?_⟩;replace HO_3:=rb HO_3 hb;replace HO_6:=rb HO_6 hb;replace HB:=bs HB hb;(try clear hb))|((with_reducible refine gate_builtin (b:=.append) (xs:=#[.tmp 27,.tmp 30]) rfl ?_);at_builtin;refine Kd.R_append Kd.string (w0:=w) w.heap.size rfl (.tmp 27) (.tmp 30) 76 9 (.string ⟨#[]⟩) 16 rfl Tryz.underlying76 info9 rfl (by decide) (by omega) u3 af aq [.string aq] (fun k_=>some k_≠(.slice aI ag.length aJ:Value).ownBlock) (fun _=>False) rfl rfl ?aP (fun _ hk=>hk.elim) ?aF ?aO ?aB ?aS ?aL ?_;(case aP=>exact rfl);(case aB=>exact (bQ HB));(case aF=>exact (fun k_ hk=>Kd.fresh' (Kd.R_lt (ro HO_6)) k_ hk));(case aO=>exact (ro HO_3));(case aS=>exact (bz HB));(case aL=>have:=LMc15.out;omega);intro ba w18 ho hb hg hat;rw [← aH.out] at ho;replace HO_6:=zS (Kd.R_after (ok:=(fun _=>True)) (by (with_reducible repeat (first|apply Kd.R_alloc|apply Kd.R_drewN|apply Kd.R_drew));exact Kd.R_mono HO_6.out (fun _ hk=>⟨trivial,hk⟩)) hg hat);replace HB:=zS (hb);have aK:=zS (ho);clear HO_3;clear ho hb hg hat))
      go_roundg k2
      case measure=>have:=HK1.out;have:=HK2.out;omega
      case rel=>exact ⟨(aG),(wrap64 (aa+1)),(by first|rfl|(simp;done)|(simp [*];done)),H',⟨by have:=HK1.out;have:=HK2.out;omega⟩,⟨by (with_reducible repeat (first|apply Kd.R_alloc|apply Kd.R_drewN|apply Kd.R_drew));exact Kd.R_mono aK.out (fun _ hk=>trivial)⟩,⟨bQ HB⟩⟩
     rw [if_pos c5] at H
     have a2:=zC c5
     clear c5
     by_cases c6:0≤ab
     rotate_left
     ·rw [if_neg c6] at H
      exact absurd H (by simp)
     rw [if_pos c6] at H
     have bb:=zC c6
     clear c6
     by_cases c7:ab<((rd_L7 l0 aa).length:Int)
     rotate_left
     ·rw [if_neg c7] at H
      exact absurd H (by simp)
     rw [if_pos c7] at H
     have bc:=zC c7
     clear c7
     replace H:=Option.bind_eq_some_iff.mp H
     obtain ⟨ap,A80,H⟩:=H
     try dsimp only at H
     have A8:=zS A80
     clear A80
     by_cases c9:ag.length<8796093022208
     rotate_left
     ·rw [if_neg c9] at H
      exact absurd H (by simp)
     rw [if_pos c9] at H
     have LMc9:=zS c9
     clear c9
     obtain ⟨aM,ao⟩:∃ y_:List ByteArray,y_=(ag ++ [ap]):=⟨_,rfl⟩
     replace H:(rule_Text.l1 k2 af aM l0 (l0.length:Int) aa (rd_L7 l0 aa) ((rd_L7 l0 aa).length:Int) (wrap64 (ab+1)))=some r:=by first|(rw [ao];with_reducible exact H)|(have H2_:=(Option.bind_some _ _).symm.trans H;rw [ao];with_reducible exact H2_)|(have H2_:=(Option.bind_some _ _).symm.trans H;with_reducible exact H2_)|with_reducible exact H|(rw [ao];exact H)|exact H
     have aN:=zS ao
     clear ao
     have H':=zS H
     clear H
     have az:0≤(ab:Int):=zB (by first|(with_reducible assumption)|assumption)
     have aA:ab<((rd_L7 l0 aa).length:Int):=zB (by first|(with_reducible assumption)|assumption)
     obtain ⟨a6,ah,ai,a4,aj,ak,al,am,hl121_3,hi121_3⟩:=at_T60 av.out ab az aA
     cases a4
     replace aj:=(HB.out.cell (World.block_lt_of_cell? w _ aj)).trans aj
     replace ak:=(HB.out.cell (World.block_lt_of_cell? w _ ak)).trans ak
     replace al:=(HB.out.cell (World.block_lt_of_cell? w _ al)).trans al
     replace am:=(HB.out.cell (World.block_lt_of_cell? w _ am)).trans am
     have aw:=zS hi121_3
     have ax:=zS hl121_3
     clear hi121_3 hl121_3
     replace az:=eq_true az
     replace aA:=eq_true aA
     go_wp2_with (first|((with_reducible refine gate_dst (N:=8) rfl ?_);refine box_event ?hg (N:=8) ?hd (cs:=#[.int .u8 0,.int .i64 0,.bool false,.slice none 0 0]) (t:=60) ?hr ?_;(case hd=>rfl);(case hg=>rfl);(case hr=>first|(go_simp;done)|(go_simp;rfl));intro ac hg w10 hbox hb;replace HO_3:=rb HO_3 hb;replace HO_6:=rb HO_6 hb;have ad:=zS (hbox);have a7:=bg HB hg;replace HB:=bs HB hb;clear hb hbox hg;have a8:=blkc4 ad.out;have a9:=blkf4 ad.out)|((with_reducible refine gate_callee (f:=56) rfl ?_);refine gL (some 23) Tryz.func56 #[.agg #[.int .u8 ((rd_T60 (rd_L7 l0 aa) ab).f0),.int .i64 ((rd_T60 (rd_L7 l0 aa) ab).f1),.bool ((rd_T60 (rd_L7 l0 aa) ab).f2),.slice ah ((rd_T60 (rd_L7 l0 aa) ab).f3).length ai]] ?_;(with_reducible refine (rule_written.calls k2 ((rd_T60 (rd_L7 l0 aa) ab).f0) ((rd_T60 (rd_L7 l0 aa) ab).f1) ((rd_T60 (rd_L7 l0 aa) ab).f2) _ _ ((rd_T60 (rd_L7 l0 aa) ab).f3) ap _ ?side3 (cb aw HB) ax.out A8.out).mono ?_);(case side3=>refine GL.below HG.out ?_;exact bQ HB);rintro e w12 ⟨rfl,hb⟩;refine ⟨_,rfl,?_⟩;replace HO_3:=zS (Kd.R_below (by (with_reducible repeat (first|apply Kd.R_alloc|apply Kd.R_drewN|apply Kd.R_drew));exact (Kd.R_mono (Kd.R_far (p:=⟨ac,3,none⟩) (Kd.R_far (p:=⟨ac,2,none⟩) (Kd.R_far (p:=⟨ac,1,none⟩) (Kd.R_far (p:=⟨ac,0,none⟩) (Kd.R_types HO_3.out ad.out (by decide)) (fun _ hk=>hk.2) (.int .u8 ((rd_T60 (rd_L7 l0 aa) ab).f0))) (fun _ hk=>hk.2) (.int .i64 ((rd_T60 (rd_L7 l0 aa) ab).f1))) (fun _ hk=>hk.2) (.bool ((rd_T60 (rd_L7 l0 aa) ab).f2))) (fun _ hk=>hk.2) (.slice ah ((rd_T60 (rd_L7 l0 aa) ab).f3).length ai)) (fun _ h_=>h_.1))) hb);replace HO_6:=zS (Kd.R_below (by (with_reducible repeat (first|apply Kd.R_alloc|apply Kd.R_drewN|apply Kd.R_drew));exact (Kd.R_mono (Kd.R_far (p:=⟨ac,3,none⟩) (Kd.R_far (p:=⟨ac,2,none⟩) (Kd.R_far (p:=⟨ac,1,none⟩) (Kd.R_far (p:=⟨ac,0,none⟩) (Kd.R_types HO_6.out ad.out (by decide)) (fun _ hk=>hk.2) (.int .u8 ((rd_T60 (rd_L7 l0 aa) ab).f0))) (fun _ hk=>hk.2) (.int .i64 ((rd_T60 (rd_L7 l0 aa) ab).f1))) (fun _ hk=>hk.2) (.bool ((rd_T60 (rd_L7 l0 aa) ab).f2))) (fun _ hk=>hk.2) (.slice ah ((rd_T60 (rd_L7 l0 aa) ab).f3).length ai)) (fun _ h_=>h_.1))) hb);replace ad:=zS (blk_below (g:=ac) (o:=.cells #[.int .u8 ((rd_T60 (rd_L7 l0 aa) ab).f0),.int .i64 ((rd_T60 (rd_L7 l0 aa) ab).f1),.bool ((rd_T60 (rd_L7 l0 aa) ab).f2),.slice ah ((rd_T60 (rd_L7 l0 aa) ab).f3).length ai] 60 (0,0)) (kp ad rfl) hb);replace HB:=bs HB hb;(try clear hb);(try clear hk))|((with_reducible refine gate_builtin (b:=.append) (xs:=#[.tmp 21,.tmp 24]) rfl ?_);at_builtin;refine Kd.R_append Kd.string (w0:=w) w.heap.size rfl (.tmp 21) (.tmp 24) 76 9 (.string ⟨#[]⟩) 16 rfl Tryz.underlying76 info9 rfl (by decide) (by omega) u6 ag ap [.string ap] (fun k_=>some k_≠(u3:Value).ownBlock) (fun _=>False) rfl rfl ?aP (fun _ hk=>hk.elim) ?aF ?aO ?aB ?aS ?aL ?_;(case aP=>exact rfl);(case aB=>exact (bQ HB));(case aF=>exact (fun k_ hk=>Kd.fresh' (Kd.R_lt (ro HO_3)) k_ hk));(case aO=>exact (ro HO_6));(case aS=>exact (bz HB));(case aL=>have:=LMc9.out;omega);intro bd w13 ho hb hg hat;rw [← aN.out] at ho;replace HO_3:=zS (Kd.R_after (ok:=(fun _=>True)) (by (with_reducible repeat (first|apply Kd.R_alloc|apply Kd.R_drewN|apply Kd.R_drew));exact Kd.R_mono HO_3.out (fun _ hk=>⟨trivial,hk⟩)) hg hat);replace ad:=zS (blk_grown (ko ad) hg (Kd.R_ne HO_6.out ad.out (by decide)));replace HB:=zS (hb);have aQ:=zS (ho);clear HO_6;clear ho hb hg hat))
     go_roundg k2
     case measure=>have:=HK1.out;have:=HK2.out;omega
     case rel=>exact ⟨(aM),(wrap64 (ab+1)),(by first|rfl|(simp;done)|(simp [*];done)),H',⟨by have:=HK1.out;have:=HK2.out;omega⟩,⟨by (with_reducible repeat (first|apply Kd.R_alloc|apply Kd.R_drewN|apply Kd.R_drew));exact Kd.R_mono HO_3.out (fun _ hk=>hk.2)⟩,⟨ro aQ⟩,⟨bQ HB⟩⟩
end Go.Proofs.YtgfajgkjbckkgaaGreatDoor.PZ
end
end
section
set_option maxRecDepth 100000
namespace Go.Proofs.YtgfajgkjbckkgaaGreatDoor.PZ
open Go.RowKit Go.Proofs.YtgfajgkjbckkgaaGreatDoorW.PrintWords Go.Proofs.YtgfajgkjbckkgaaGreatDoorW.PrintLast
theorem any_more {α:Type}{l:List α}{p:α→Bool}{k:Nat}(z:α)(hk:k<l.length)(h:(l.take k).any p=false)(he:p (l.getD k z)=false):(l.take (k+1)).any p=false:=by
 rw [List.take_succ_eq_append_getElem hk,List.any_append,h]
 simpa [List.getD_eq_getElem?_getD,List.getElem?_eq_getElem hk] using he
theorem any_end {α:Type}{l:List α}{p:α→Bool}{k:Nat}(hk:l.length≤k)(h:(l.take k).any p=false):l.any p=false:=by
 rwa [List.take_of_length_le hk] at h
theorem getD_mem {α:Type}{l:List α}{k:Nat}(z:α)(hk:k<l.length):l.getD k z ∈ l:=by
 rw [List.getD_eq_getElem?_getD,List.getElem?_eq_getElem hk];exact List.getElem_mem hk
theorem any_hit {α:Type}{l:List α}{p:α→Bool}{k:Nat}(z:α)(hk:k<l.length)(he:p (l.getD k z)=true):l.any p=true:=List.any_eq_true.mpr ⟨_,getD_mem z hk,he⟩
set_option maxHeartbeats 2000000 in
set_option maxRecDepth 100000 in
theorem ixf_rg1 (fv:Nat)(ef:∀ args w,(callFunc fv args).run Tryz.prog w = .ok (.enter fv args) w)(v1:Value)(p:Rg→Bool)(A0:Option Addr)(c0:Nat)(l0:List Rg)(w:World)
    (hr0:Kd.C k57 w A0 l0.length l0) (hc0:l0.length≤c0) (hP:∀ x ∈ l0,∀ W,Below w.heap.size w W→Calls Tryz.prog fv #[.agg #[.int .i64 x.f0,.int .i64 x.f1],v1] W fun e w'=>e = .returned (.bool (p x))∧Below W.heap.size W w') :
    Calls Tryz.prog 79 #[.slice A0 l0.length c0,.func (.func fv) #[] #[v1]] w fun e w'=>∃ i:Int,e = .returned (.int .i64 i)∧decide (i≥0)=l0.any p∧Below w.heap.size w w':=by
 have hn:=hr0.2.1
 have L0:=zA (fun W (hb:Below w.heap.size w W)=>Kd.C_below hr0 hb)
 have HP:=zA hP
 clear hr0 hP
 go_enter Tryz.func79,Tryz.ntmps79
 go_wp2
 go_loopg [8] l0.length (fun gg s8 wr=>∃ k:Nat,k≤l0.length∧l0.length - k≤gg∧s8 = .int .i64 k∧Aside0 (Below w.heap.size w wr)∧Aside0 ((l0.take k).any p=false))
 case atStart=>exact ⟨0,by omega,by omega,rfl,⟨Below.refl _ _⟩,⟨by simp⟩⟩
 case round=>
  obtain ⟨k,hk,hg,rfl,HB,HT⟩:=hrel
  by_cases hlt:k<l0.length
  rotate_left
  ·have j1:decide ((k:Int)<(l0.length:Int))=false:=zD (by omega)
   have HQ:=zA (any_end (p:=p) (by omega) HT.out)
   go_wp2
   go_ret
   exact ⟨-1,rfl,by rw [HQ.out];rfl,HB.out⟩
  have j1:decide ((k:Int)<(l0.length:Int))=true:=zC (by omega)
  obtain ⟨ad,rfl,x0,x1⟩:=rg_at (L0.out wr HB.out) k hlt
  have p0:(0≤(k:Int))=True:=eq_true (by omega)
  have m2:decide (k<l0.length)=true:=zC hlt
  have m3:((k:Int)<(l0.length:Int))=True:=eq_true (by omega)
  have m4:(k<l0.length)=True:=eq_true hlt
  have HM:=zA (fun he=>any_more (p:=p) (⟨0,0⟩:Rg) hlt HT.out he)
  have HH:=zA (fun he=>any_hit (p:=p) (⟨0,0⟩:Rg) hlt he)
  have HF:=HP.out _ (getD_mem (⟨0,0⟩:Rg) hlt) wr HB.out
  generalize l0.getD k ⟨0,0⟩=X at *
  cases hq:p X with
  | false=>
   rw [hq] at HF
   have HF:=zA HF
   have HQ:=zA (HM.out hq)
   clear hq
   go_wp2_with (go_at_fn fv;refine (HF.out).mono ?_;rintro e w5 ⟨rfl,hb5⟩;have hB:=zA (below_step HB.out hb5);clear hb5)
   go_roundg (l0.length - (k+1))
   case measure=>omega
   case rel=>exact ⟨k+1,by omega,by omega,by go_num,hB,HQ⟩
  | true=>
   rw [hq] at HF
   have HF:=zA HF
   have HQ:=zA (HH.out hq)
   clear hq
   go_wp2_with (go_at_fn fv;refine (HF.out).mono ?_;rintro e w5 ⟨rfl,hb5⟩;have hB:=zA (below_step HB.out hb5);clear hb5)
   go_ret
   exact ⟨(k:Int),rfl,by rw [HQ.out];simp,hB.out⟩
set_option maxHeartbeats 2000000 in
theorem cf_rg1 (fv:Nat)(ef:∀ args w,(callFunc fv args).run Tryz.prog w = .ok (.enter fv args) w)(v1:Value)(p:Rg→Bool)(A0:Option Addr)(c0:Nat)(l0:List Rg)(w:World)
    (hr0:Kd.C k57 w A0 l0.length l0) (hc0:l0.length≤c0) (hP:∀ x ∈ l0,∀ W,Below w.heap.size w W→Calls Tryz.prog fv #[.agg #[.int .i64 x.f0,.int .i64 x.f1],v1] W fun e w'=>e = .returned (.bool (p x))∧Below W.heap.size W w') :
    Calls Tryz.prog 60 #[.slice A0 l0.length c0,.func (.func fv) #[] #[v1]] w fun e w'=>e = .returned (.bool (l0.any p))∧Below w.heap.size w w':=by
 have HE:=ixf_rg1 fv ef v1 p A0 c0 l0 w hr0 hc0 hP
 clear hr0 hP
 generalize l0.any p=B at *
 go_enter Tryz.func60,Tryz.ntmps60
 go_wp2_with (go_at_call 79;refine HE.mono ?_;rintro e w5 ⟨i,rfl,hi,hb5⟩;have HI:=zA hi;have HB:=zA hb5;clear hi hb5)
 go_ret
 exact ⟨by rw [← HI.out];rfl,HB.out⟩
set_option maxHeartbeats 2000000 in
set_option maxRecDepth 100000 in
theorem ixf_rg2 (fv:Nat)(ef:∀ args w,(callFunc fv args).run Tryz.prog w = .ok (.enter fv args) w)(v1:Value)(v2:Value)(p:Rg→Bool)(A0:Option Addr)(c0:Nat)(l0:List Rg)(w:World)
    (hr0:Kd.C k57 w A0 l0.length l0) (hc0:l0.length≤c0) (hP:∀ x ∈ l0,∀ W,Below w.heap.size w W→Calls Tryz.prog fv #[.agg #[.int .i64 x.f0,.int .i64 x.f1],v1,v2] W fun e w'=>e = .returned (.bool (p x))∧Below W.heap.size W w') :
    Calls Tryz.prog 79 #[.slice A0 l0.length c0,.func (.func fv) #[] #[v1,v2]] w fun e w'=>∃ i:Int,e = .returned (.int .i64 i)∧decide (i≥0)=l0.any p∧Below w.heap.size w w':=by
 have hn:=hr0.2.1
 have L0:=zA (fun W (hb:Below w.heap.size w W)=>Kd.C_below hr0 hb)
 have HP:=zA hP
 clear hr0 hP
 go_enter Tryz.func79,Tryz.ntmps79
 go_wp2
 go_loopg [8] l0.length (fun gg s8 wr=>∃ k:Nat,k≤l0.length∧l0.length - k≤gg∧s8 = .int .i64 k∧Aside0 (Below w.heap.size w wr)∧Aside0 ((l0.take k).any p=false))
 case atStart=>exact ⟨0,by omega,by omega,rfl,⟨Below.refl _ _⟩,⟨by simp⟩⟩
 case round=>
  obtain ⟨k,hk,hg,rfl,HB,HT⟩:=hrel
  by_cases hlt:k<l0.length
  rotate_left
  ·have j1:decide ((k:Int)<(l0.length:Int))=false:=zD (by omega)
   have HQ:=zA (any_end (p:=p) (by omega) HT.out)
   go_wp2
   go_ret
   exact ⟨-1,rfl,by rw [HQ.out];rfl,HB.out⟩
  have j1:decide ((k:Int)<(l0.length:Int))=true:=zC (by omega)
  obtain ⟨ad,rfl,x0,x1⟩:=rg_at (L0.out wr HB.out) k hlt
  have p0:(0≤(k:Int))=True:=eq_true (by omega)
  have m2:decide (k<l0.length)=true:=zC hlt
  have m3:((k:Int)<(l0.length:Int))=True:=eq_true (by omega)
  have m4:(k<l0.length)=True:=eq_true hlt
  have HM:=zA (fun he=>any_more (p:=p) (⟨0,0⟩:Rg) hlt HT.out he)
  have HH:=zA (fun he=>any_hit (p:=p) (⟨0,0⟩:Rg) hlt he)
  have HF:=HP.out _ (getD_mem (⟨0,0⟩:Rg) hlt) wr HB.out
  generalize l0.getD k ⟨0,0⟩=X at *
  cases hq:p X with
  | false=>
   rw [hq] at HF
   have HF:=zA HF
   have HQ:=zA (HM.out hq)
   clear hq
   go_wp2_with (go_at_fn fv;refine (HF.out).mono ?_;rintro e w5 ⟨rfl,hb5⟩;have hB:=zA (below_step HB.out hb5);clear hb5)
   go_roundg (l0.length - (k+1))
   case measure=>omega
   case rel=>exact ⟨k+1,by omega,by omega,by go_num,hB,HQ⟩
  | true=>
   rw [hq] at HF
   have HF:=zA HF
   have HQ:=zA (HH.out hq)
   clear hq
   go_wp2_with (go_at_fn fv;refine (HF.out).mono ?_;rintro e w5 ⟨rfl,hb5⟩;have hB:=zA (below_step HB.out hb5);clear hb5)
   go_ret
   exact ⟨(k:Int),rfl,by rw [HQ.out];simp,hB.out⟩
set_option maxHeartbeats 2000000 in
theorem cf_rg2 (fv:Nat)(ef:∀ args w,(callFunc fv args).run Tryz.prog w = .ok (.enter fv args) w)(v1:Value)(v2:Value)(p:Rg→Bool)(A0:Option Addr)(c0:Nat)(l0:List Rg)(w:World)
    (hr0:Kd.C k57 w A0 l0.length l0) (hc0:l0.length≤c0) (hP:∀ x ∈ l0,∀ W,Below w.heap.size w W→Calls Tryz.prog fv #[.agg #[.int .i64 x.f0,.int .i64 x.f1],v1,v2] W fun e w'=>e = .returned (.bool (p x))∧Below W.heap.size W w') :
    Calls Tryz.prog 60 #[.slice A0 l0.length c0,.func (.func fv) #[] #[v1,v2]] w fun e w'=>e = .returned (.bool (l0.any p))∧Below w.heap.size w w':=by
 have HE:=ixf_rg2 fv ef v1 v2 p A0 c0 l0 w hr0 hc0 hP
 clear hr0 hP
 generalize l0.any p=B at *
 go_enter Tryz.func60,Tryz.ntmps60
 go_wp2_with (go_at_call 79;refine HE.mono ?_;rintro e w5 ⟨i,rfl,hi,hb5⟩;have HI:=zA hi;have HB:=zA hb5;clear hi hb5)
 go_ret
 exact ⟨by rw [← HI.out];rfl,HB.out⟩
set_option maxHeartbeats 2000000 in
set_option maxRecDepth 100000 in
theorem ixf_rl1 (fv:Nat)(ef:∀ args w,(callFunc fv args).run Tryz.prog w = .ok (.enter fv args) w)(v1:Value)(p:Rl→Bool)(A0:Option Addr)(c0:Nat)(l0:List Rl)(w:World)
    (hr0:Kd.C k60 w A0 l0.length l0) (hc0:l0.length≤c0) (hP:∀ x ∈ l0,∀ W A3 c3,Below w.heap.size w W→Kd.C k57 W A3 x.f3.length x.f3→x.f3.length≤c3→Calls Tryz.prog fv #[.agg #[.int .u8 x.f0,.int .i64 x.f1,.bool x.f2,.slice A3 x.f3.length c3],v1] W fun e w'=>e = .returned (.bool (p x))∧Below W.heap.size W w') :
    Calls Tryz.prog 86 #[.slice A0 l0.length c0,.func (.func fv) #[] #[v1]] w fun e w'=>∃ i:Int,e = .returned (.int .i64 i)∧decide (i≥0)=l0.any p∧Below w.heap.size w w':=by
 have hn:=hr0.2.1
 have L0:=zA (fun W (hb:Below w.heap.size w W)=>Kd.C_below hr0 hb)
 have HP:=zA hP
 clear hr0 hP
 go_enter Tryz.func86,Tryz.ntmps86
 go_wp2
 go_loopg [8] l0.length (fun gg s8 wr=>∃ k:Nat,k≤l0.length∧l0.length - k≤gg∧s8 = .int .i64 k∧Aside0 (Below w.heap.size w wr)∧Aside0 ((l0.take k).any p=false))
 case atStart=>exact ⟨0,by omega,by omega,rfl,⟨Below.refl _ _⟩,⟨by simp⟩⟩
 case round=>
  obtain ⟨k,hk,hg,rfl,HB,HT⟩:=hrel
  by_cases hlt:k<l0.length
  rotate_left
  ·have j1:decide ((k:Int)<(l0.length:Int))=false:=zD (by omega)
   have HQ:=zA (any_end (p:=p) (by omega) HT.out)
   go_wp2
   go_ret
   exact ⟨-1,rfl,by rw [HQ.out];rfl,HB.out⟩
  have j1:decide ((k:Int)<(l0.length:Int))=true:=zC (by omega)
  obtain ⟨ad,A3,c3,rfl,x0,x1,x2,x3,hx3,HX⟩:=rel_at (L0.out wr HB.out) k hlt
  have p0:(0≤(k:Int))=True:=eq_true (by omega)
  have m2:decide (k<l0.length)=true:=zC hlt
  have m3:((k:Int)<(l0.length:Int))=True:=eq_true (by omega)
  have m4:(k<l0.length)=True:=eq_true hlt
  have HM:=zA (fun he=>any_more (p:=p) (⟨0,0,false,[]⟩:Rl) hlt HT.out he)
  have HH:=zA (fun he=>any_hit (p:=p) (⟨0,0,false,[]⟩:Rl) hlt he)
  have HF:=HP.out _ (getD_mem (⟨0,0,false,[]⟩:Rl) hlt) wr A3 c3 HB.out HX hx3
  generalize l0.getD k ⟨0,0,false,[]⟩=X at *
  cases hq:p X with
  | false=>
   rw [hq] at HF
   have HF:=zA HF
   have HQ:=zA (HM.out hq)
   clear hq
   go_wp2_with (go_at_fn fv;refine (HF.out).mono ?_;rintro e w5 ⟨rfl,hb5⟩;have hB:=zA (below_step HB.out hb5);clear hb5)
   go_roundg (l0.length - (k+1))
   case measure=>omega
   case rel=>exact ⟨k+1,by omega,by omega,by go_num,hB,HQ⟩
  | true=>
   rw [hq] at HF
   have HF:=zA HF
   have HQ:=zA (HH.out hq)
   clear hq
   go_wp2_with (go_at_fn fv;refine (HF.out).mono ?_;rintro e w5 ⟨rfl,hb5⟩;have hB:=zA (below_step HB.out hb5);clear hb5)
   go_ret
   exact ⟨(k:Int),rfl,by rw [HQ.out];simp,hB.out⟩
set_option maxHeartbeats 2000000 in
theorem cf_rl1 (fv:Nat)(ef:∀ args w,(callFunc fv args).run Tryz.prog w = .ok (.enter fv args) w)(v1:Value)(p:Rl→Bool)(A0:Option Addr)(c0:Nat)(l0:List Rl)(w:World)
    (hr0:Kd.C k60 w A0 l0.length l0) (hc0:l0.length≤c0) (hP:∀ x ∈ l0,∀ W A3 c3,Below w.heap.size w W→Kd.C k57 W A3 x.f3.length x.f3→x.f3.length≤c3→Calls Tryz.prog fv #[.agg #[.int .u8 x.f0,.int .i64 x.f1,.bool x.f2,.slice A3 x.f3.length c3],v1] W fun e w'=>e = .returned (.bool (p x))∧Below W.heap.size W w') :
    Calls Tryz.prog 64 #[.slice A0 l0.length c0,.func (.func fv) #[] #[v1]] w fun e w'=>e = .returned (.bool (l0.any p))∧Below w.heap.size w w':=by
 have HE:=ixf_rl1 fv ef v1 p A0 c0 l0 w hr0 hc0 hP
 clear hr0 hP
 generalize l0.any p=B at *
 go_enter Tryz.func64,Tryz.ntmps64
 go_wp2_with (go_at_call 86;refine HE.mono ?_;rintro e w5 ⟨i,rfl,hi,hb5⟩;have HI:=zA hi;have HB:=zA hb5;clear hi hb5)
 go_ret
 exact ⟨by rw [← HI.out];rfl,HB.out⟩
set_option maxHeartbeats 2000000 in
set_option maxRecDepth 100000 in
theorem ixf_rw1 (fv:Nat)(ef:∀ args w,(callFunc fv args).run Tryz.prog w = .ok (.enter fv args) w)(v1:Value)(p:List Rl→Bool)(A0:Option Addr)(c0:Nat)(l0:List (List Rl))(w:World)
    (hr0:Kd.C (Kd.slice 60 k60) w A0 l0.length l0) (hc0:l0.length≤c0) (hP:∀ x ∈ l0,∀ W A3 c3,Below w.heap.size w W→Kd.C k60 W A3 x.length x→x.length≤c3→Calls Tryz.prog fv #[.slice A3 x.length c3,v1] W fun e w'=>e = .returned (.bool (p x))∧Below W.heap.size W w') :
    Calls Tryz.prog 85 #[.slice A0 l0.length c0,.func (.func fv) #[] #[v1]] w fun e w'=>∃ i:Int,e = .returned (.int .i64 i)∧decide (i≥0)=l0.any p∧Below w.heap.size w w':=by
 have hn:=hr0.2.1
 have L0:=zA (fun W (hb:Below w.heap.size w W)=>Kd.C_below hr0 hb)
 have HP:=zA hP
 clear hr0 hP
 go_enter Tryz.func85,Tryz.ntmps85
 go_wp2
 go_loopg [8] l0.length (fun gg s8 wr=>∃ k:Nat,k≤l0.length∧l0.length - k≤gg∧s8 = .int .i64 k∧Aside0 (Below w.heap.size w wr)∧Aside0 ((l0.take k).any p=false))
 case atStart=>exact ⟨0,by omega,by omega,rfl,⟨Below.refl _ _⟩,⟨by simp⟩⟩
 case round=>
  obtain ⟨k,hk,hg,rfl,HB,HT⟩:=hrel
  by_cases hlt:k<l0.length
  rotate_left
  ·have j1:decide ((k:Int)<(l0.length:Int))=false:=zD (by omega)
   have HQ:=zA (any_end (p:=p) (by omega) HT.out)
   go_wp2
   go_ret
   exact ⟨-1,rfl,by rw [HQ.out];rfl,HB.out⟩
  have j1:decide ((k:Int)<(l0.length:Int))=true:=zC (by omega)
  obtain ⟨ad,A3,c3,rfl,x0,hx3,HX⟩:=row_at (L0.out wr HB.out) k hlt
  have p0:(0≤(k:Int))=True:=eq_true (by omega)
  have m2:decide (k<l0.length)=true:=zC hlt
  have m3:((k:Int)<(l0.length:Int))=True:=eq_true (by omega)
  have m4:(k<l0.length)=True:=eq_true hlt
  have HM:=zA (fun he=>any_more (p:=p) ([]:List Rl) hlt HT.out he)
  have HH:=zA (fun he=>any_hit (p:=p) ([]:List Rl) hlt he)
  have HF:=HP.out _ (getD_mem ([]:List Rl) hlt) wr A3 c3 HB.out HX hx3
  generalize l0.getD k []=X at *
  cases hq:p X with
  | false=>
   rw [hq] at HF
   have HF:=zA HF
   have HQ:=zA (HM.out hq)
   clear hq
   go_wp2_with (go_at_fn fv;refine (HF.out).mono ?_;rintro e w5 ⟨rfl,hb5⟩;have hB:=zA (below_step HB.out hb5);clear hb5)
   go_roundg (l0.length - (k+1))
   case measure=>omega
   case rel=>exact ⟨k+1,by omega,by omega,by go_num,hB,HQ⟩
  | true=>
   rw [hq] at HF
   have HF:=zA HF
   have HQ:=zA (HH.out hq)
   clear hq
   go_wp2_with (go_at_fn fv;refine (HF.out).mono ?_;rintro e w5 ⟨rfl,hb5⟩;have hB:=zA (below_step HB.out hb5);clear hb5)
   go_ret
   exact ⟨(k:Int),rfl,by rw [HQ.out];simp,hB.out⟩
set_option maxHeartbeats 2000000 in
theorem cf_rw1 (fv:Nat)(ef:∀ args w,(callFunc fv args).run Tryz.prog w = .ok (.enter fv args) w)(v1:Value)(p:List Rl→Bool)(A0:Option Addr)(c0:Nat)(l0:List (List Rl))(w:World)
    (hr0:Kd.C (Kd.slice 60 k60) w A0 l0.length l0) (hc0:l0.length≤c0) (hP:∀ x ∈ l0,∀ W A3 c3,Below w.heap.size w W→Kd.C k60 W A3 x.length x→x.length≤c3→Calls Tryz.prog fv #[.slice A3 x.length c3,v1] W fun e w'=>e = .returned (.bool (p x))∧Below W.heap.size W w') :
    Calls Tryz.prog 62 #[.slice A0 l0.length c0,.func (.func fv) #[] #[v1]] w fun e w'=>e = .returned (.bool (l0.any p))∧Below w.heap.size w w':=by
 have HE:=ixf_rw1 fv ef v1 p A0 c0 l0 w hr0 hc0 hP
 clear hr0 hP
 generalize l0.any p=B at *
 go_enter Tryz.func62,Tryz.ntmps62
 go_wp2_with (go_at_call 85;refine HE.mono ?_;rintro e w5 ⟨i,rfl,hi,hb5⟩;have HI:=zA hi;have HB:=zA hb5;clear hi hb5)
 go_ret
 exact ⟨by rw [← HI.out];rfl,HB.out⟩
end Go.Proofs.YtgfajgkjbckkgaaGreatDoor.PZ
end
section
noncomputable section
namespace Go.Proofs.YtgfajgkjbckkgaaGreatDoor.PZ
open Go.RowKit Go.Proofs.YtgfajgkjbckkgaaGreatDoorW.PrintWords Go.Proofs.YtgfajgkjbckkgaaGreatDoorW.PrintLast Go.Proofs.YtgfajgkjbckkgaaGreatDoorW.PrintMore
attribute [local go_sem] max2_int min2_int max_two min_two max_three min_three max_four min_four   -- for this text's walks alone
mutual
def exergueref11_ranges.l0:Nat→ByteArray→Int→List (S57)→Option ((List (S57))×Int×Bool)
 | 0,_,_,_=>none
 | k+1,x0,x1,x7=>(exergueref11_number.f k x0 x1 0).bind fun ad=>(if ad.1<0 then (some (([]:List (S57)),ad.2,false)) else ((exergueref11_over.f k x0 ad.2).bind fun ae=>((exergueref11_sign.f x0 ae (⟨#[46,46]⟩:ByteArray)).bind fun ap=>(if ap=true then ((exergueref11_number.f k x0 (wrap64 (ae+2)) (wrap64 (ad.1+1))).bind fun ak=>(if ak.1<0 then (some (([]:List (S57)),ak.2,false)) else (exergueref11_ranges.j1 k x0 x7 ad.1 ak.2 ak.1))) else (exergueref11_ranges.j1 k x0 x7 ad.1 ad.2 ad.1)))))
def exergueref11_ranges.j1:Nat→ByteArray→List (S57)→Int→Int→Int→Option ((List (S57))×Int×Bool)
 | 0,_,_,_,_,_=>none
 | k+1,x0,x7,x8,x9,x10=>if x7.length<8796093022208 then ((some (x7 ++ [(⟨x8,x10⟩:S57)]:List (S57))).bind fun al=>((exergueref11_over.f k x0 x9).bind fun ac=>((exergueref11_sign.f x0 ac (⟨#[44]⟩:ByteArray)).bind fun am=>(if am=true then (exergueref11_ranges.l0 k x0 (wrap64 (ac+1)) al) else (some (al,x9,true)))))) else (none)
end
def exergueref11_ranges.f (k:Nat)(a0:ByteArray)(a1:Int):Option ((List (S57))×Int×Bool):=exergueref11_ranges.l0 k a0 a1 ([]:List (S57))
theorem exergueref11_ranges.mono_l:∀ k,(∀ y0 y1 y2,LeO (exergueref11_ranges.l0 k y0 y1 y2) (exergueref11_ranges.l0 (k+1) y0 y1 y2))∧(∀ y0 y1 y2 y3 y4,LeO (exergueref11_ranges.j1 k y0 y1 y2 y3 y4) (exergueref11_ranges.j1 (k+1) y0 y1 y2 y3 y4))
 | 0=>⟨fun _ _ _ r h=>by simp [exergueref11_ranges.l0] at h,fun _ _ _ _ _ r h=>by simp [exergueref11_ranges.j1] at h⟩
 | k+1=>by
  obtain ⟨ih0,ih1⟩:=exergueref11_ranges.mono_l k
  refine ⟨?_,?_⟩
  ·intro y0 y1 y2
   unfold exergueref11_ranges.l0
   repeat' first|(with_reducible first|apply ih0|apply ih1|apply exergueref11_number.mono|apply exergueref11_over.mono|apply LeO.refl|apply LeO.none|refine LeO.ite ?_ ?_|refine LeO.bind ?_ (fun _=>?_))|apply ih0|apply ih1|apply exergueref11_number.mono|apply exergueref11_over.mono|apply LeO.none
  ·intro y0 y1 y2 y3 y4
   unfold exergueref11_ranges.j1
   repeat' first|(with_reducible first|apply ih0|apply ih1|apply exergueref11_number.mono|apply exergueref11_over.mono|apply LeO.refl|apply LeO.none|refine LeO.ite ?_ ?_|refine LeO.bind ?_ (fun _=>?_))|apply ih0|apply ih1|apply exergueref11_number.mono|apply exergueref11_over.mono|apply LeO.none
theorem exergueref11_ranges.mono:∀ a0 a1 k,LeO (exergueref11_ranges.f k a0 a1) (exergueref11_ranges.f (k+1) a0 a1):=by
 intro a0 a1 k
 obtain ⟨ih0,ih1⟩:=exergueref11_ranges.mono_l k
 unfold exergueref11_ranges.f
 repeat' first|(with_reducible first|apply ih0|apply ih1|apply exergueref11_number.mono|apply exergueref11_over.mono|apply LeO.refl|apply LeO.none|refine LeO.ite ?_ ?_|refine LeO.bind ?_ (fun _=>?_))|apply ih0|apply ih1|apply exergueref11_number.mono|apply exergueref11_over.mono|apply LeO.none
set_option maxHeartbeats 8000000 in
set_option maxRecDepth 100000 in
theorem exergueref11_ranges.calls (k:Nat)(a0:ByteArray)(a1:Int)(r1:List (S57))(r2:Int)(r3:Bool)(w:World)(h:exergueref11_ranges.f k a0 a1=some (r1,r2,r3)) :
  Calls Tryz.prog 97 #[.string a0,.int .i64 a1] w fun e w'=>∃ v0_:Value,e = .returned (.tuple #[v0_,.int .i64 r2,.bool r3])∧Kd.R k57 57 w' w.heap.size (fun _=>True) v0_ r1∧Below w.heap.size w w':=by
 have hu57:=Tryz.underlying57
 have HB:=zS (Below.refl w.heap.size w)
 have H:(exergueref11_ranges.l0 k a0 a1 ([]:List (S57)))=some (r1,r2,r3):=h
 clear h
 have H':=zS H
 clear H
 go_enter Tryz.func97,Tryz.ntmps97
 go_wp2
 go_loopg [1,7] k (fun kq v1 v7 w'=>∃ (aj:Int) (ag:List (S57)),v1 = .int .i64 aj∧Sd (exergueref11_ranges.l0 kq a0 aj ag=some (r1,r2,r3))∧Sd (kq≤k)∧Sd (Kd.R k57 57 w' w.heap.size (fun _=>True) v7 ag)∧Sd (Below w.heap.size w w'))
 case atStart=>exact ⟨(a1),(([]:List (S57))),(by first|rfl|(simp;done)|(simp [*];done)),H',⟨Nat.le_refl _⟩,⟨by first|exact Kd.R_nil _ _ _ _ _|exact Kd.N_nil _ _ _ _ _|exact Kd.V_nil _ _ _ _ _|exact Kd.Q_nil _ _ _ _ _|exact Kd.S_nil _ _ _ _ _⟩,⟨bQ HB⟩⟩
 case round=>
  clear H'
  try clear p2
  obtain ⟨aj,ag,rfl,HA,HK1,HO_7,HB⟩:=hrel
  cases gk with
  | zero=>exact absurd HA.out (by simp [exergueref11_ranges.l0])
  | succ k1=>
   have H:=HA.out
   clear HA
   simp only [exergueref11_ranges.l0] at H
   replace H:=Option.bind_eq_some_iff.mp H
   obtain ⟨⟨aa,an⟩,A30,H⟩:=H
   try dsimp only at H
   have A3:=zS A30
   clear A30
   by_cases c4:aa<0
   ·rw [if_pos c4] at H
    have av:=zC c4
    clear c4
    simp only [Option.some.injEq,Prod.mk.injEq] at H
    obtain ⟨rfl,rfl,rfl⟩:=H
    go_wp2_with (first|((with_reducible refine gate_callee (f:=96) rfl ?_);refine gL (some 18) Tryz.func96 #[.string a0,.int .i64 aj,.int .i64 0] ?_;(with_reducible refine (exergueref11_number.calls k1 a0 aj 0 aa an _ A3.out).mono ?_);rintro e w' ⟨rfl,⟨nd,rfl⟩⟩;refine ⟨_,rfl,?_⟩))
    go_ret3
    exact ⟨_,by first|rfl|(simp <;> rfl)|(simp [*] <;> rfl),by first|exact Kd.R_nil _ _ _ _ _|exact Kd.N_nil _ _ _ _ _|exact Kd.V_nil _ _ _ _ _|exact Kd.Q_nil _ _ _ _ _|exact Kd.S_nil _ _ _ _ _,bQ HB⟩
   rw [if_neg c4] at H
   have av:=zD c4
   clear c4
   replace H:=Option.bind_eq_some_iff.mp H
   obtain ⟨ae,A50,H⟩:=H
   try dsimp only at H
   have A5:=zS A50
   clear A50
   replace H:=Option.bind_eq_some_iff.mp H
   obtain ⟨ap,A60,H⟩:=H
   try dsimp only at H
   have A6:=zS A60
   clear A60
   have HC7:=zS H
   clear H
   go_upto_if 30 with (first|((with_reducible refine gate_callee (f:=96) rfl ?_);refine gL (some 18) Tryz.func96 #[.string a0,.int .i64 aj,.int .i64 0] ?_;(with_reducible refine (exergueref11_number.calls k1 a0 aj 0 aa an _ A3.out).mono ?_);rintro e w' ⟨rfl,⟨nd,rfl⟩⟩;refine ⟨_,rfl,?_⟩)|((with_reducible refine gate_callee (f:=72) rfl ?_);refine gL (some 27) Tryz.func72 #[.string a0,.int .i64 an] ?_;(with_reducible refine (exergueref11_over.calls k1 a0 an ae _ A5.out).mono ?_);rintro e w' ⟨rfl,⟨nd,rfl⟩⟩;refine ⟨_,rfl,?_⟩)|((with_reducible refine gate_callee (f:=95) rfl ?_);refine gL (some 30) Tryz.func95 #[.string a0,.int .i64 ae,.string (⟨#[46,46]⟩:ByteArray)] ?_;(with_reducible refine (exergueref11_sign.calls a0 ae (⟨#[46,46]⟩:ByteArray) ap _ A6.out).mono ?_);rintro e w' ⟨rfl,⟨nd,rfl⟩⟩;refine ⟨_,rfl,?_⟩))
   (try simp only [Act.put,sA,sB,sC])
   go_cut [9,10] (fun v9 v10 wc=>∃ (kq:Nat) (ah:Int) (ab:Int),v9 = .int .i64 ah∧v10 = .int .i64 ab∧Sd (exergueref11_ranges.j1 kq a0 ag aa ah ab=some (r1,r2,r3))∧Sd (kq≤k1)∧Sd (Kd.R k57 57 wc w.heap.size (fun _=>True) u7 ag)∧Sd (Below w.heap.size w wc))
   case first=>
    have H:=HC7.out
    clear HC7
    by_cases c8:ap=true
    rotate_left
    ·replace c8:=Bool.eq_false_iff.mpr c8
     subst c8
     rw [if_neg (show ¬ (false=true) by decide)] at H
     have H':=zS H
     clear H
     go_wp2
     go_meet
     case rel=>exact ⟨_,(an),(aa),(by first|rfl|(simp;done)|(simp [*];done)),(by first|rfl|(simp;done)|(simp [*];done)),H',⟨by have:=HK1.out;first|omega|exact Nat.le_refl _⟩,⟨ro HO_7⟩,⟨bQ HB⟩⟩
    subst c8
    rw [if_pos rfl] at H
    replace H:=Option.bind_eq_some_iff.mp H
    obtain ⟨⟨aq,au⟩,A90,H⟩:=H
    try dsimp only at H
    have A9:=zS A90
    clear A90
    by_cases c10:aq<0
    ·rw [if_pos c10] at H
     have af:=zC c10
     clear c10
     (first|rw [af]|(simp only [i64_w,i32_w];rw [af])|rw [aw]|skip)
     simp only [Option.some.injEq,Prod.mk.injEq] at H
     obtain ⟨rfl,rfl,rfl⟩:=H
     go_wp2_with (first|((with_reducible refine gate_callee (f:=96) rfl ?_);refine gL (some 37) Tryz.func96 #[.string a0,.int .i64 (wrap64 (ae+2)),.int .i64 (wrap64 (aa+1))] ?_;(with_reducible refine (exergueref11_number.calls k1 a0 (wrap64 (ae+2)) (wrap64 (aa+1)) aq au _ A9.out).mono ?_);rintro e w' ⟨rfl,⟨nd,rfl⟩⟩;refine ⟨_,rfl,?_⟩))
     go_ret3
     exact ⟨_,by first|rfl|(simp <;> rfl)|(simp [*] <;> rfl),by first|exact Kd.R_nil _ _ _ _ _|exact Kd.N_nil _ _ _ _ _|exact Kd.V_nil _ _ _ _ _|exact Kd.Q_nil _ _ _ _ _|exact Kd.S_nil _ _ _ _ _,bQ HB⟩
    rw [if_neg c10] at H
    have af:=zD c10
    clear c10
    (first|rw [af]|(simp only [i64_w,i32_w];rw [af])|rw [aw]|skip)
    have H':=zS H
    clear H
    go_wp2_with (first|((with_reducible refine gate_callee (f:=96) rfl ?_);refine gL (some 37) Tryz.func96 #[.string a0,.int .i64 (wrap64 (ae+2)),.int .i64 (wrap64 (aa+1))] ?_;(with_reducible refine (exergueref11_number.calls k1 a0 (wrap64 (ae+2)) (wrap64 (aa+1)) aq au _ A9.out).mono ?_);rintro e w' ⟨rfl,⟨nd,rfl⟩⟩;refine ⟨_,rfl,?_⟩))
    go_meet
    case rel=>exact ⟨_,(au),(aq),(by first|rfl|(simp;done)|(simp [*];done)),(by first|rfl|(simp;done)|(simp [*];done)),H',⟨by have:=HK1.out;first|omega|exact Nat.le_refl _⟩,⟨ro HO_7⟩,⟨bQ HB⟩⟩
   case rest=>
    clear HC7
    try clear c1
    try clear p2
    try clear c4
    try clear av
    try clear p6
    try clear c7
    try clear c8
    try clear c9
    try clear c10
    try clear af
    try clear p2
    obtain ⟨kq,ah,ab,rfl,rfl,HA,HJ6,HO_7,HB⟩:=hcut
    cases kq with
    | zero=>exact absurd HA.out (by simp [exergueref11_ranges.j1])
    | succ kj6=>
     have H:=HA.out
     clear HA
     simp only [exergueref11_ranges.j1] at H
     by_cases c11:ag.length<8796093022208
     rotate_left
     ·rw [if_neg c11] at H
      exact absurd H (by simp)
     rw [if_pos c11] at H
     have LMc11:=zS c11
     clear c11
     obtain ⟨al,ai⟩:∃ y_:List (S57),y_=(ag ++ [(⟨aa,ab⟩:S57)]):=⟨_,rfl⟩
     replace H:((exergueref11_over.f kj6 a0 ah).bind fun ac=>((exergueref11_sign.f a0 ac (⟨#[44]⟩:ByteArray)).bind fun am=>(if am=true then (exergueref11_ranges.l0 kj6 a0 (wrap64 (ac+1)) al) else (some (al,ah,true)))))=some (r1,r2,r3):=by first|(rw [ai];with_reducible exact H)|(have H2_:=(Option.bind_some _ _).symm.trans H;rw [ai];with_reducible exact H2_)|(have H2_:=(Option.bind_some _ _).symm.trans H;with_reducible exact H2_)|with_reducible exact H|(rw [ai];exact H)|exact H
     have ar:=zS ai
     clear ai
     replace H:=Option.bind_eq_some_iff.mp H
     obtain ⟨ac,ax,H⟩:=H
     try dsimp only at H
     have A12:=zS ax
     clear ax
     replace H:=Option.bind_eq_some_iff.mp H
     obtain ⟨am,ay,H⟩:=H
     try dsimp only at H
     have A13:=zS ay
     clear ay
     by_cases c14:am=true
     ·subst c14
      rw [if_pos rfl] at H
      have H':=zS H
      clear H
      go_wp2_with (first|((with_reducible refine gate_builtin (b:=.append) (xs:=#[.tmp 45,.tmp 49]) rfl ?_);at_builtin;refine Kd.R_append k57 (w0:=w) w.heap.size rfl (.tmp 45) (.tmp 49) 58 57 (.agg #[(.int .i64 0),(.int .i64 0)]) 16 rfl Tryz.underlying58 info57 rfl (by decide) (by omega) u7 ag (⟨aa,ab⟩:S57) [.int .i64 aa,.int .i64 ab] (fun _=>True) (fun _=>False) rfl rfl ?aP (fun _ hk=>hk.elim) ?aF ?aO ?aB ?aS ?aL ?_;(case aP=>exact k57_mkM _ _ _ (⟨aa,ab⟩:S57));(case aB=>exact (bQ HB));(case aF=>exact (fun _ _=>trivial));(case aO=>exact (ro HO_7));(case aS=>exact (bz HB));(case aL=>have:=LMc11.out;omega);intro az w15 ho hb hg hat;rw [← ar.out] at ho;replace HB:=zS (hb);have ao:=zS (ho);clear HO_7;clear ho hb hg hat)|((with_reducible refine gate_callee (f:=72) rfl ?_);refine gL (some 53) Tryz.func72 #[.string a0,.int .i64 ah] ?_;(with_reducible refine (exergueref11_over.calls kj6 a0 ah ac _ A12.out).mono ?_);rintro e w' ⟨rfl,⟨nd,rfl⟩⟩;refine ⟨_,rfl,?_⟩)|((with_reducible refine gate_callee (f:=95) rfl ?_);refine gL (some 56) Tryz.func95 #[.string a0,.int .i64 ac,.string (⟨#[44]⟩:ByteArray)] ?_;(with_reducible refine (exergueref11_sign.calls a0 ac (⟨#[44]⟩:ByteArray) true _ A13.out).mono ?_);rintro e w' ⟨rfl,⟨nd,rfl⟩⟩;refine ⟨_,rfl,?_⟩))
      go_roundg kj6
      case measure=>have:=HK1.out;have:=HJ6.out;omega
      case rel=>exact ⟨(wrap64 (ac+1)),(al),(by first|rfl|(simp;done)|(simp [*];done)),H',⟨by have:=HK1.out;have:=HJ6.out;omega⟩,⟨ro ao⟩,⟨bQ HB⟩⟩
     replace c14:=Bool.eq_false_iff.mpr c14
     subst c14
     rw [if_neg (show ¬ (false=true) by decide)] at H
     simp only [Option.some.injEq,Prod.mk.injEq] at H
     obtain ⟨rfl,rfl,rfl⟩:=H
     go_wp2_with (first|((with_reducible refine gate_builtin (b:=.append) (xs:=#[.tmp 45,.tmp 49]) rfl ?_);at_builtin;refine Kd.R_append k57 (w0:=w) w.heap.size rfl (.tmp 45) (.tmp 49) 58 57 (.agg #[(.int .i64 0),(.int .i64 0)]) 16 rfl Tryz.underlying58 info57 rfl (by decide) (by omega) u7 ag (⟨aa,ab⟩:S57) [.int .i64 aa,.int .i64 ab] (fun _=>True) (fun _=>False) rfl rfl ?aP (fun _ hk=>hk.elim) ?aF ?aO ?aB ?aS ?aL ?_;(case aP=>exact k57_mkM _ _ _ (⟨aa,ab⟩:S57));(case aB=>exact (bQ HB));(case aF=>exact (fun _ _=>trivial));(case aO=>exact (ro HO_7));(case aS=>exact (bz HB));(case aL=>have:=LMc11.out;omega);intro az w16 ho hb hg hat;rw [← ar.out] at ho;replace HB:=zS (hb);have ao:=zS (ho);clear HO_7;clear ho hb hg hat)|((with_reducible refine gate_callee (f:=72) rfl ?_);refine gL (some 53) Tryz.func72 #[.string a0,.int .i64 ah] ?_;(with_reducible refine (exergueref11_over.calls kj6 a0 ah ac _ A12.out).mono ?_);rintro e w' ⟨rfl,⟨nd,rfl⟩⟩;refine ⟨_,rfl,?_⟩)|((with_reducible refine gate_callee (f:=95) rfl ?_);refine gL (some 56) Tryz.func95 #[.string a0,.int .i64 ac,.string (⟨#[44]⟩:ByteArray)] ?_;(with_reducible refine (exergueref11_sign.calls a0 ac (⟨#[44]⟩:ByteArray) false _ A13.out).mono ?_);rintro e w' ⟨rfl,⟨nd,rfl⟩⟩;refine ⟨_,rfl,?_⟩))
     go_ret3
     exact ⟨_,by first|rfl|(simp <;> rfl)|(simp [*] <;> rfl),by (with_reducible repeat (first|apply Kd.R_alloc|apply Kd.R_drewN|apply Kd.R_drew));exact ao.out,bQ HB⟩
end Go.Proofs.YtgfajgkjbckkgaaGreatDoor.PZ
end
end
section
set_option maxRecDepth 100000
namespace Go.Proofs.YtgfajgkjbckkgaaGreatDoor.PZ
open Go.RowKit Go.Proofs.YtgfajgkjbckkgaaGreatDoorW.PrintWords Go.Proofs.YtgfajgkjbckkgaaGreatDoorW.PrintLast
theorem take_run (p:Int→Bool)(t:List Int):t.take (runL p t)=t.takeWhile p:=by
 induction t with
 | nil=>rfl
 | cons c t ih=>
  rw [runL_cons,List.takeWhile_cons]
  split
  · rw [List.take_succ_cons,ih]
  rfl
theorem take_all (p:Int→Bool):∀ (t:List Int),∀ c ∈ t.takeWhile p,p c=true
  | [],_,h=>by simp at h
  | x :: t,c,h=>by
    rw [List.takeWhile_cons] at h
    split at h
    · rename_i hx
      rcases List.mem_cons.1 h with rfl|h
      · exact hx
      · exact take_all p t c h
    · simp at h
theorem decv_lt {l:List Int}(h:∀ c ∈ l,isDi c=true):0≤decv l∧decv l<T10 l.length:=by
 have e:l=(l.map fun c=>c - 48).map chr:=by
  rw [List.map_map]
  conv=>lhs;rw [← List.map_id l]
  apply List.map_congr_left
  intro c _
  simp only [Function.comp_apply,id,chr]
  omega
 have hf:Figs (l.map fun c=>c - 48):=by
  intro d hd
  obtain ⟨c,hc,rfl⟩:=List.mem_map.1 hd
  have:=h c hc
  unfold isDi at this
  simp at this
  omega
 have:=num_lt hf
 rw [e,decv_chr]
 simpa using this
theorem num_some {least:Int}{t:List Int}{v:Int}{n:Nat}(h:numP least t=(some v,n)):0≤v∧least≤v∧v≤999999999:=by
 unfold numP at h
 simp only at h
 split at h
 · cases h
 rename_i hn
 simp only [not_or,Nat.not_lt,Int.not_lt] at hn
 obtain ⟨h1,h2,h3,h4⟩:=hn
 have hv:=congrArg Prod.fst h
 simp only [Option.some.injEq] at hv
 have hd:=decv_lt (l:=(t.drop (bl t)).take (runL isDi (t.drop (bl t)))) (by
  intro c hc
  rw [take_run] at hc
  exact take_all _ _ c hc)
 have hl:((t.drop (bl t)).take (runL isDi (t.drop (bl t)))).length≤9:=by rw [List.length_take];omega
 have ht:=T10_le hl
 have e9:T10 9=1000000000:=by decide
 rw [hv] at hd h4
 omega
theorem one_some {t:List Int}{r:Rg}{n:Nat}(h:oneP t=(some r,n)):GoodG r:=by
 unfold oneP at h
 rcases h1:numP 0 t with ⟨_|a,m⟩
 · rw [h1] at h;cases h
 rw [h1] at h
 have ha:=num_some h1
 simp only at h
 split at h
 ·rcases h2:numP (a+1) (t.drop (m+(bl (t.drop m)+2))) with ⟨_|b,j⟩
  · rw [h2] at h;cases h
  rw [h2] at h
  have hb:=num_some h2
  simp only [Prod.mk.injEq,Option.some.injEq] at h
  rw [← h.1]
  exact ⟨by simp;omega,by simp;omega,by simp;omega⟩
 simp only [Prod.mk.injEq,Option.some.injEq] at h
 rw [← h.1]
 exact ⟨by simp;omega,by simp,by simp;omega⟩
theorem rng_some:∀ (k:Nat) (t:List Int) (l:List Rg) (n:Nat),rngF k t=(some l,n)→l≠[]∧∀ r ∈ l,GoodG r
  | 0,_,_,_,h=>by cases h
  | k+1,t,l,n,h=>by
    rw [rngF] at h
    rcases h1:oneP t with ⟨_|a,m⟩
    · rw [h1] at h;cases h
    rw [h1] at h
    have ha:=one_some h1
    simp only at h
    split at h
    · rcases h2:rngF k (t.drop (m+(bl (t.drop m)+1))) with ⟨_|b,j⟩
      · rw [h2] at h;cases h
      rw [h2] at h
      have hb:=rng_some k _ _ _ h2
      simp only [Prod.mk.injEq,Option.some.injEq] at h
      rw [← h.1]
      exact ⟨by simp,fun r hr=>by
        rcases List.mem_cons.1 hr with rfl|hr
        · exact ha
        · exact hb.2 r hr⟩
    · simp only [Prod.mk.injEq,Option.some.injEq] at h
      rw [← h.1]
      exact ⟨by simp,fun r hr=>by rw [List.mem_singleton.1 hr];exact ha⟩
theorem mod_some {t:List Int}{v:Int}{n:Nat}(h:modP t=(some v,n)):0≤v∧v≤999999999:=by
 unfold modP at h
 split at h
 ·rcases h2:numP 1 (t.drop (bl t+1)) with ⟨_|b,j⟩
  · rw [h2] at h;cases h
  rw [h2] at h
  have hb:=num_some h2
  simp only [Prod.mk.injEq,Option.some.injEq] at h
  omega
 simp only [Prod.mk.injEq,Option.some.injEq] at h
 omega
theorem op_some {t:List Int}{v:Int}{n:Nat}(h:opP t=(some v,n)):isOp v=true:=by
 unfold opP at h
 split at h
 ·rename_i hc
  simp only [Prod.mk.injEq,Option.some.injEq] at h
  rw [← h.1]
  exact hc.2
 cases h
theorem rel_some {t:List Int}{x:Rl}{n:Nat}(h:relP t=(some x,n)):GoodX x:=by
 unfold relP at h
 rcases h1:opP t with ⟨_|c,m⟩
 · rw [h1] at h;cases h
 rw [h1] at h
 simp only at h
 rcases h2:modP (t.drop m) with ⟨_|v,j⟩
 · rw [h2] at h;cases h
 rw [h2] at h
 simp only at h
 rcases h3:notP (t.drop (m+j)) with ⟨_|b,i⟩
 · rw [h3] at h;cases h
 rw [h3] at h
 simp only at h
 rcases h4:rngP (t.drop (m+j+i)) with ⟨_|l,q⟩
 · rw [h4] at h;cases h
 rw [h4] at h
 simp only [Prod.mk.injEq,Option.some.injEq] at h
 rw [← h.1]
 have a1:=op_some h1
 have a2:=mod_some h2
 have a3:=rng_some _ _ _ _ h4
 exact ⟨a1,a2.1,a2.2,a3.1,a3.2⟩
theorem rels_some:∀ (k:Nat) (t:List Int) (r:List (Rl×Bool)) (n:Nat),relsF k t=(some r,n)→Ends r∧∀ x ∈ r,GoodX x.1
  | 0,_,_,_,h=>by cases h
  | k+1,t,l,n,h=>by
    rw [relsF] at h
    rcases h1:relP t with ⟨_|a,m⟩
    · rw [h1] at h;cases h
    rw [h1] at h
    have ha:=rel_some h1
    simp only at h
    have more:∀ (o:Bool) (q:Nat) (j:Nat) (b:List (Rl×Bool)),relsF k (t.drop q)=(some b,j)→Ends ((a,o) :: b)∧∀ x ∈ (a,o) :: b,GoodX x.1:=by
     intro o q j b hb
     obtain ⟨⟨u,y,hy⟩,hg⟩:=rels_some k _ _ _ hb
     exact ⟨⟨(a,o) :: u,y,by rw [hy];rfl⟩,fun r hr=>by
      rcases List.mem_cons.1 hr with rfl|hr
      · exact ha
      exact hg r hr⟩
    split at h
    · simp only [Prod.mk.injEq,Option.some.injEq] at h
      rw [← h.1]
      exact ⟨⟨[],a,rfl⟩,fun r hr=>by rw [List.mem_singleton.1 hr];exact ha⟩
    · split at h
      · rcases h2:relsF k (t.drop (m+bl (t.drop m)+2)) with ⟨_|b,j⟩
        · rw [h2] at h;cases h
        rw [h2] at h
        simp only [Prod.mk.injEq,Option.some.injEq] at h
        rw [← h.1]
        exact more _ _ _ _ h2
      · split at h
        · rcases h2:relsF k (t.drop (m+bl (t.drop m)+3)) with ⟨_|b,j⟩
          · rw [h2] at h;cases h
          rw [h2] at h
          simp only [Prod.mk.injEq,Option.some.injEq] at h
          rw [← h.1]
          exact more _ _ _ _ h2
        · cases h
theorem join_cons (sep x:List Int){l:List (List Int)}(h:l≠[]):joinT sep (x :: l)=x ++ (sep ++ joinT sep l):=by
 cases l with
 | nil=>exact absurd rfl h
 | cons y l=>simp [joinT]
theorem join_snoc (sep x:List Int){l:List (List Int)}(h:l≠[]):joinT sep (l ++ [x])=joinT sep l ++ (sep ++ x):=by
 cases l with
 | nil=>exact absurd rfl h
 | cons y l=>simp [joinT]
theorem rowsOf_ne (l:List Rl)(r:List (Rl×Bool)):rowsOf l r≠[]:=by
 induction r generalizing l with
 | nil=>simp [rowsOf]
 | cons x r ih=>obtain ⟨x,_|_⟩:=x <;> simp [rowsOf,ih]
theorem ends_tail {x y:Rl×Bool}{r:List (Rl×Bool)}(h:Ends (x :: y :: r)):Ends (y :: r):=by
 obtain ⟨a,z,hz⟩:=h
 cases a with
 | nil=>simp at hz
 | cons w a=>exact ⟨a,z,by simp at hz;exact hz.2⟩
theorem ends_one {x:Rl}{o:Bool}(h:Ends [(x,o)]):o=false:=by
 obtain ⟨a,y,hy⟩:=h
 have:=congrArg List.getLast? hy
 simp at this
 exact this.2
def ahead (sp:List Int)(l:List Rl):List Int:=if l=[] then [] else rowT sp l ++ (sp ++ wordAnd ++ sp)
theorem row_snoc (sp:List Int)(l:List Rl)(x:Rl):rowT sp (l ++ [x])=ahead sp l ++ relT sp x:=by
 unfold ahead
 by_cases h:l=[]
 · subst h;simp [rowT,joinT]
 rw [if_neg h]
 unfold rowT
 rw [List.map_append,List.map_cons,List.map_nil,join_snoc _ _ (by simpa using h)]
 simp only [List.append_assoc]
theorem cond_rows (sp:List Int):∀ (r:List (Rl×Bool)) (l:List Rl),Ends r→condT sp (rowsOf l r)=ahead sp l ++ runT sp r
  | [],_,⟨a,x,h⟩=>by simp at h
  | [(x,o)],l,h=>by
    obtain rfl:=ends_one h
    simp only [rowsOf,condT,List.map_cons,List.map_nil,joinT,List.flatMap_nil,List.append_nil,runT]
    exact row_snoc sp l x
  | (x,true) :: y :: r,l,h=>by
    have ih:=cond_rows sp (y :: r) [] (ends_tail h)
    simp only [rowsOf] at ih ⊢
    have hne:(rowsOf [] (y :: r)).map (rowT sp)≠[]:=by simpa using rowsOf_ne [] (y :: r)
    rw [runT_cons sp x true (by simp)]
    unfold condT at ih ⊢
    rw [List.map_cons,join_cons _ _ hne,ih,row_snoc]
    simp [ahead,wrd]
  | (x,false) :: y :: r,l,h=>by
    have ih:=cond_rows sp (y :: r) (l ++ [x]) (ends_tail h)
    simp only [rowsOf] at ih ⊢
    rw [ih,runT_cons sp x false (by simp)]
    unfold ahead
    rw [if_neg (by simp)]
    rw [row_snoc]
    unfold ahead
    simp [wrd]
theorem right_runs {c:List (List Rl)}(h:rightP c=true):∃ r,Ends r∧(∀ x ∈ r,GoodX x.1)∧rowsOf [] r=c∧(∀ sp,condT sp c=runT sp r)∧fullP r=false∧(runT [32] r).length≤400:=by
 unfold rightP at h
 rw [Bool.and_eq_true,decide_eq_true_eq,decide_eq_true_eq] at h
 obtain ⟨h1,h2⟩:=h
 unfold parseP at h1 h2
 by_cases hl:400<(condT [32] c).length
 · rw [if_pos hl] at h1;simp at h1
 rw [if_neg hl] at h1 h2
 rcases hh:relsP (condT [32] c) with ⟨_|r,n⟩
 · rw [hh] at h1;simp at h1
 rw [hh] at h1 h2
 simp only at h1 h2
 by_cases hf:fullP r=true
 · rw [if_pos hf] at h1;simp at h1
 rw [if_neg hf] at h2
 simp only at h2
 obtain ⟨hE,hg⟩:=rels_some _ _ _ _ hh
 have ht:∀ sp,condT sp c=runT sp r:=fun sp=>by
  rw [h2,cond_rows sp r [] hE]
  rfl
 exact ⟨r,hE,hg,h2.symm,ht,by simpa using hf,by rw [← ht];omega⟩
theorem sp_one:Sp [32]:=⟨fun c hc=>by simpa using hc,by simp⟩
theorem sp_two:Sp [32,32]:=⟨fun c hc=>by simpa using hc,by simp⟩
theorem bls_nil:Bls []:=fun c hc=>by simp at hc
theorem rowsOf_or (a:List (Rl×Bool))(x:Rl)(r:List (Rl×Bool))(l:List Rl):rowsOf l (a ++ (x,true) :: r)=rowsOf l (a ++ [(x,false)]) ++ rowsOf [] r:=by
 induction a generalizing l with
 | nil=>simp [rowsOf]
 | cons y a ih=>obtain ⟨y,_|_⟩:=y <;> simp [rowsOf,ih]
theorem runT_join (sp:List Int)(a:List (Rl×Bool))(x:Rl)(o:Bool){r:List (Rl×Bool)}(h:r≠[]):runT sp (a ++ (x,o) :: r)=runT sp (a ++ [(x,false)]) ++ (sp ++ (wrd o ++ (sp ++ runT sp r))):=by
 induction a with
 | nil=>simp only [List.nil_append];rw [runT_cons sp x o h];simp [runT]
 | cons y a ih=>
  obtain ⟨y,b⟩:=y
  rw [List.cons_append,List.cons_append,runT_cons _ _ _ (by simp),runT_cons _ _ _ (by simp),ih]
  simp
theorem rowsOf_one:∀ (a:List (Rl×Bool)) (l m:List Rl) (x:Rl),rowsOf l (a ++ [(x,false)])=[m]→(∀ y ∈ a,y.2=false)∧m=l ++ a.map (·.1) ++ [x]
  | [],l,m,x,h=>by
    simp only [List.nil_append,rowsOf,List.cons.injEq,and_true] at h
    exact ⟨by simp,by simp [h]⟩
  | (y,true) :: a,l,m,x,h=>by
    simp only [List.cons_append,rowsOf,List.cons.injEq] at h
    exact absurd h.2 (rowsOf_ne _ _)
  | (y,false) :: a,l,m,x,h=>by
    simp only [List.cons_append,rowsOf] at h
    obtain ⟨h1,h2⟩:=rowsOf_one a (l ++ [y]) m x h
    exact ⟨fun z hz=>by
      rcases List.mem_cons.1 hz with rfl|hz
      · rfl
      · exact h1 z hz,by simp [h2]⟩
theorem rowsOf_ands:∀ (a:List (Rl×Bool)) (l:List Rl),(∀ y ∈ a,y.2=false)→rowsOf l a=[l ++ a.map (·.1)]
  | [],l,_=>by simp [rowsOf]
  | (y,o) :: a,l,h=>by
    obtain rfl:o=false:=h (y,o) (by simp)
    rw [rowsOf,rowsOf_ands a (l ++ [y]) (fun z hz=>h z (by simp [hz]))]
    simp
end Go.Proofs.YtgfajgkjbckkgaaGreatDoor.PZ
end
section
noncomputable section
namespace Go.Proofs.YtgfajgkjbckkgaaGreatDoor.PZ
open Go.RowKit Go.Proofs.YtgfajgkjbckkgaaGreatDoorW.PrintWords Go.Proofs.YtgfajgkjbckkgaaGreatDoorW.PrintLast Go.Proofs.YtgfajgkjbckkgaaGreatDoorW.PrintMore
attribute [local go_sem] max2_int min2_int max_two min_two max_three min_three max_four min_four   -- for this text's walks alone
def oper_told_v.f (ac:List Int)(aa:List Int)(ae:Int)(af:Int):Option (List Int):=(oper_number.f (aa.length:Int)).bind fun ad=>(some ad)
set_option maxHeartbeats 8000000 in
set_option maxRecDepth 100000 in
theorem oper_told_v.calls (ak:Option Addr)(al:Nat)(ac:List Int)(am:Option Addr)(an:Nat)(aa:List Int)(ae:Int)(af:Int)(r:List Int)(w:World)(hG:GL w)(ag:Kd.C (Kd.int .u8) w ak ac.length ac)(ah:ac.length≤al)(ai:Kd.C (Kd.int .u8) w am aa.length aa)(aj:aa.length≤an)(h:oper_told_v.f ac aa ae af=some r) :
  Calls Tryz.prog 102 #[.agg #[.slice ak ac.length al,.slice am aa.length an,.int .i64 ae,.int .i64 af]] w fun e w'=>∃ v0_:Value,e = .returned (v0_)∧Kd.V (Kd.int .u8) 5 w' w.heap.size (fun k_=>(w.heap.size≤k_)) v0_ r∧Below w.heap.size w w':=by
 have hu136:=Tryz.underlying136
 have aq:=zS ag
 have ar:=zS ah
 clear ag ah
 have au:=zS ai
 have av:=zS aj
 clear ai aj
 have HB:=zS (Below.refl w.heap.size w)
 have HG:=zS hG
 clear hG
 have H:((oper_number.f (aa.length:Int)).bind fun ad=>(some ad))=some r:=h
 clear h
 replace H:=Option.bind_eq_some_iff.mp H
 obtain ⟨ad,A20,H⟩:=H
 try dsimp only at H
 have A2:=zS A20
 clear A20
 obtain rfl:=zE H
 go_enter Tryz.func102,Tryz.ntmps102
 go_wp2_with (first|((with_reducible refine gate_dst (N:=1) rfl ?_);refine box_event ?hg (N:=1) ?hd (cs:=#[.slice ak ac.length al,.slice am aa.length an,.int .i64 ae,.int .i64 af]) (t:=136) ?hr ?_;(case hd=>rfl);(case hg=>rfl);(case hr=>first|(go_simp;done)|(go_simp;rfl));intro ao hg w3 hbox hb;have ab:=zS (hbox);have aw:=bg HB hg;replace HB:=bs HB hb;clear hb hbox hg;have ax:=blkc4 ab.out;have ay:=blkf4 ab.out)|((with_reducible refine gate_callee (f:=109) rfl ?_);refine gL (some 6) Tryz.func109 #[.int .i64 (aa.length:Int)] ?_;(with_reducible refine (oper_number.calls (aa.length:Int) ad _ ?side1 A2.out).mono ?_);(case side1=>refine GL.below HG.out ?_;exact bQ HB);rintro e w5 ⟨az,rfl,ho0,hb⟩;refine ⟨_,rfl,?_⟩;have ap:=zS (Kd.V_lower (Kd.V_mono (ok':=fun k_=>(w.heap.size≤k_)∧k_≠ao) ho0 (fun k_ hk_=>⟨(Nat.le_trans (bz HB) hk_),(Kd.freshB (ko ab) k_ hk_)⟩)) (bz HB));replace ab:=kb ab hb;replace HB:=bs HB hb;(try clear hb);(try clear ho0)))
 go_ret
 exact ⟨_,by first|rfl|(simp <;> rfl)|(simp [*] <;> rfl),by (with_reducible repeat (first|apply Kd.V_alloc|apply Kd.V_drewN|apply Kd.V_drew));exact Kd.V_mono ap.out (fun _ hk=>hk.1),bQ HB⟩
end Go.Proofs.YtgfajgkjbckkgaaGreatDoor.PZ
end
end
